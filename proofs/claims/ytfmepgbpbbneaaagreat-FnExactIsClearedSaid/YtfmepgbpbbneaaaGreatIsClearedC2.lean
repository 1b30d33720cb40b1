/- Is Cleared: what each call returns, part 2. -/
import Derived.Test.YtfmepgbpbbneaaaGreatIsClearedC1
set_option linter.unusedVariables false
set_option linter.unusedSimpArgs false
namespace Go.Proofs.YtfmepgbpbbneaaaGreat
open Go.RowKit Go.X
set_option maxRecDepth 100000 in
set_option maxHeartbeats 2000000 in
theorem c_s_l24Set {A1 : Option Addr} {c1 : Nat} {A2 : Option Addr} {c2 : Nat} {w : World} (p_t : DTable) (p_name : Str) (p_stage : Int) (h1 : RdS w (Iv 0 w.heap.size) (RF e_Str) 1 A1 p_t.Cols.length c1 p_t.Cols) (h2 : RdS w (Iv 0 w.heap.size) (RF e_Idx) 3 A2 p_t.Idxs.length c2 p_t.Idxs) (o3 : ok_Table p_t) (o4 : okS p_name) (pre0 : (0 ≤ s_l24Idx p_t p_name ∧ s_l24Idx p_t p_name < (p_t.Idxs.length : Int))) : Cal Tryz.prog 123 #[.agg #[.string (bs (p_t.Name)), .slice A1 p_t.Cols.length c1, .slice A2 p_t.Idxs.length c2], .string (bs (p_name)), .int .i64 (p_stage)] w fun v w' => ∃ A_1 c_1 lo_1 hi_1 A_2 c_2 lo_2 hi_2, v = .agg #[.string (bs ((s_l24Set p_t p_name p_stage).Name)), .slice A_1 (((s_l24Set p_t p_name p_stage).Cols).length) c_1, .slice A_2 (((s_l24Set p_t p_name p_stage).Idxs).length) c_2] ∧ OwnL w' lo_1 hi_1 9 1 (RF e_Str) A_1 (((s_l24Set p_t p_name p_stage).Cols).length) c_1 ((s_l24Set p_t p_name p_stage).Cols) ∧ OwnL w' lo_2 hi_2 137 3 (RF e_Idx) A_2 (((s_l24Set p_t p_name p_stage).Idxs).length) c_2 ((s_l24Set p_t p_name p_stage).Idxs) ∧ ok_Table (s_l24Set p_t p_name p_stage) ∧ (w.heap.size ≤ lo_1 ∧ lo_1 ≤ hi_1 ∧ hi_1 ≤ w'.heap.size) ∧ (w.heap.size ≤ lo_2 ∧ lo_2 ≤ hi_2 ∧ hi_2 ≤ w'.heap.size) ∧ (hi_1 ≤ lo_2 ∨ hi_2 ≤ lo_1) ∧ Ex w w' := by
 have hol5 : p_t.Name.length ≤ 1073741824 := o3.1
 have hol6 := o3.2.1.1
 have hol7 := o3.2.2.1
 have hol8 : p_name.length ≤ 1073741824 := o4
 refine Cal.of (vs := [.agg #[.string (bs (p_t.Name)), .slice A1 p_t.Cols.length c1, .slice A2 p_t.Idxs.length c2], .string (bs (p_name)), .int .i64 (p_stage)]) Tryz.func123 rfl Tryz.ntmps123 rfl (CW.seq (CW.region (sd rfl (yl_box (cs := [.string (bs (p_t.Name)), .slice A1 p_t.Cols.length c1, .slice A2 p_t.Idxs.length c2]) rfl rfl rfl ?_))))
 intro b9 w10 hs11 hz12 hB13 hE14
 refine sd rfl (yl_alloc Tryz.ty95 (cs := [.string (bs (([] : Str))), .slice none 0 0, .slice none 0 0]) rfl rfl ?_)
 intro b15 w16 hs17 hz18 hB19 hE20
 refine SeqR.done (tn (CW.seq (CW.region ?_)))
 have q21 := Box.ex hB13 hE20
 refine sd rfl (yl_loadN (cs := [.string (bs (p_t.Name)), .slice A1 p_t.Cols.length c1, .slice A2 p_t.Idxs.length c2]) Tryz.ty95 rfl rfl (q21.cells (n := 3) rfl) rfl ?_)
 have q23 := RdS.ex good_Str (RdS.ex good_Str h1 hE14) hE20
 have q25 := RdS.ex good_Idx (RdS.ex good_Idx h2 hE14) hE20
 refine sd rfl (yl_call Tryz.en122 rfl (opvs_cons rfl opvs_nil) (Cal.mono (c_s_l24Own p_t (RdS.up q23 good_Str) (RdS.up q25 good_Idx) o3) ?_))
 rintro v30 w26 ⟨A27, c27, lo27, hi27, A28, c28, lo28, hi28, rfl, h27, h28, ho29, hrn32, hrn33, hrn34, hE31⟩
 have hE31z := Ex.size hE31
 have hrf35 := rf_l24Own p_t
 refine sd rfl (yl_alloc Tryz.ty95 (cs := [.string (bs (([] : Str))), .slice none 0 0, .slice none 0 0]) rfl rfl ?_)
 intro b36 w37 hs38 hz39 hB40 hE41
 refine SeqR.u rfl rfl (yl_store (vs := [.string (bs ((s_l24Own p_t).Name)), .slice A27 (((s_l24Own p_t).Cols).length) c27, .slice A28 (((s_l24Own p_t).Idxs).length) c28]) Tryz.ty95 rfl rfl rfl rfl rfl rfl hB40 (Nat.le_of_ble_eq_true rfl) ?_)
 intro w42 hB43 hO44
 have hB43 : Box w42 b36 95 [.string (bs ((s_l24Own p_t).Name)), .slice A27 (((s_l24Own p_t).Cols).length) c27, .slice A28 (((s_l24Own p_t).Idxs).length) c28] := hB43
 have hO44z := hO44.size
 refine SeqR.done (tn (CW.seq ?_))
 have hrf55 := rf_s_l24Idx p_t p_name
 refine CW.drawsI 6 (vgetI [DetI (.pointer (some ⟨b36, 0 + 2, none⟩)), DetI (.slice A28 (((s_l24Own p_t).Idxs).length) c28), DetI (.agg #[.string (bs (p_t.Name)), .slice A1 p_t.Cols.length c1, .slice A2 p_t.Idxs.length c2]), DetI (.string (bs (p_name))), DetI (.int .i64 ((s_l24Idx p_t p_name))), DetI (.int .i64 (p_stage))]) Tryz.follows rfl rfl rfl rfl rfl rfl (vgetI_stable ⟨StableI.det _, StableI.det _, StableI.det _, StableI.det _, StableI.det _, StableI.det _, trivial⟩) ⟨?_, ?_, ?_, ?_, ?_, ?_, trivial⟩ ?_
 ·exact fun _ _ h => os rfl ((yl_fieldAddr Tryz.fd95_2 rfl (h.old 7 _ rfl rfl) kI))
 ·exact fun _ _ h => os rfl ((yl_load1 Tryz.ty93 rfl (h.dt 0 10 rfl rfl rfl) (((Box.ex hB43 h.ex).cell 2).trans rfl) kI))
 ·intro L67 w68 hi69
  have hE70 := hi69.ex
  have hE70z := Ex.size hE70
  exact os rfl ((yl_loadN (cs := [.string (bs (p_t.Name)), .slice A1 p_t.Cols.length c1, .slice A2 p_t.Idxs.length c2]) Tryz.ty95 rfl (hi69.old 3 _ rfl rfl) ((Box.ex (Box.only (Box.ex (Box.ex q21 hE31) hE41) hO44 (by omega)) hE70).cells (n := 3) rfl) rfl kI))
 ·exact fun _ _ h => os rfl ((yl_move rfl (h.old 1 _ rfl rfl) kI))
 ·intro L78 w79 hi80
  have hE81 := hi80.ex
  have hE81z := Ex.size hE81
  refine OpR.op' rfl (yl_call Tryz.en89 rfl (opvs_cons (hi80.dt 2 12 rfl rfl rfl) (opvs_cons (hi80.dt 3 13 rfl rfl rfl) opvs_nil)) (Cal.mono (c_s_l24Idx p_t p_name (RdS.up (RdS.ex good_Str (RdS.only good_Str (RdS.ex good_Str (RdS.ex good_Str q23 hE31) hE41) hO44 (by simp only [Iv]; omega)) hE81) good_Str) (RdS.up (RdS.ex good_Idx (RdS.only good_Idx (RdS.ex good_Idx (RdS.ex good_Idx q25 hE31) hE41) hO44 (by simp only [Iv]; omega)) hE81) good_Idx) o3 o4) ?_))
  rintro v87 w86 ⟨rfl, hE88⟩
  exact ⟨rfl, hE88⟩
 ·exact fun _ _ h => os rfl ((yl_move rfl (h.old 2 _ rfl rfl) kI))
 ·intro fl97 fh98 L94 w95 hp96
  have hE99 := hp96.ex
  have hE99z := Ex.size hE99
  have q108 := OwnL.ex good_Idx (OwnL.only good_Idx (OwnL.ex good_Idx h28 hE41) hO44 (by omega)) hE99
  obtain ⟨eb109, eo109, ec109, eA109, eS109, ebl109, el109, eR109, eC109⟩ := RdS.atD (OwnL.rd good_Idx q108) d_Idx (i := ((s_l24Idx p_t p_name)).toNat) (by first | omega | assumption | (simp only [IntKind.wrap_i64] at *; omega))
  obtain rfl := eR109
  have eC109 : Cells w95 eb109 (eo109 + (((s_l24Idx p_t p_name)).toNat) * 3) [.string (bs ((((s_l24Own p_t).Idxs).getD (((s_l24Idx p_t p_name)).toNat) d_Idx).Name)), .int .i64 ((((s_l24Own p_t).Idxs).getD (((s_l24Idx p_t p_name)).toNat) d_Idx).Col), .int .i64 ((((s_l24Own p_t).Idxs).getD (((s_l24Idx p_t p_name)).toNat) d_Idx).Stage)] := eC109
  refine sd rfl (yl_indexAddr Tryz.un93 Tryz.ty137 rfl (hp96.nt 1 11 rfl rfl rfl) (hp96.nt 4 14 rfl rfl rfl) eA109 (by first | omega | assumption | (simp only [IntKind.wrap_i64] at *; omega)) (by first | omega | assumption | (simp only [IntKind.wrap_i64] at *; omega)) (sd rfl (yl_fieldAddr Tryz.fd137_2 rfl rfl ?_)))
  have hrg110 := OwnL.rng q108 (i := ((s_l24Idx p_t p_name)).toNat) (by first | omega | assumption | (simp only [IntKind.wrap_i64] at *; omega)) eb109 (by rw [eA109]; rfl)
  refine SeqR.u rfl rfl (yl_storeF (off := eo109) (i := ((s_l24Idx p_t p_name)).toNat) (d := 2) (dx := d_Idx) (x' := (⟨(((s_l24Own p_t).Idxs).getD (((s_l24Idx p_t p_name)).toNat) d_Idx).Name, (((s_l24Own p_t).Idxs).getD (((s_l24Idx p_t p_name)).toNat) d_Idx).Col, p_stage⟩ : DIdx)) (vs := [.int .i64 (p_stage)]) Tryz.ty3 rfl q108 eA109 rfl (hp96.nt 5 15 rfl rfl rfl) rfl rfl rfl (by first | omega | assumption | (simp only [IntKind.wrap_i64] at *; omega)) (Nat.le_of_ble_eq_true rfl) rfl rfl ?_)
  intro w111 hB112 hO113
  have hO113z := hO113.size
  refine SeqR.done (tn (CW.sub (Sub.cons (d := 6) (hp96.old 6 _ rfl rfl) (Sub.cons (d := 7) (hp96.old 7 _ rfl rfl) (Sub.nil _))) (CW.seq (CW.region (sd rfl (yl_loadN (cs := [.string (bs ((s_l24Own p_t).Name)), .slice A27 (((s_l24Own p_t).Cols).length) c27, .slice A28 (((s_l24Own p_t).Idxs).length) c28]) Tryz.ty95 rfl rfl ((Box.only (Box.ex hB43 hE99) hO113 (by omega)).cells (n := 3) rfl) rfl (SeqR.u rfl rfl (yl_store (vs := [.string (bs ((s_l24Own p_t).Name)), .slice A27 (((s_l24Own p_t).Cols).length) c27, .slice A28 (((s_l24Own p_t).Idxs).length) c28]) Tryz.ty95 rfl rfl rfl rfl rfl rfl (Box.only (Box.ex (Box.only (Box.ex (Box.ex hB19 hE31) hE41) hO44 (by omega)) hE99) hO113 (by omega)) (Nat.le_of_ble_eq_true rfl) ?_))))))))
  intro w121 hB122 hO123
  have hB122 : Box w121 b15 95 [.string (bs ((s_l24Own p_t).Name)), .slice A27 (((s_l24Own p_t).Cols).length) c27, .slice A28 (((s_l24Own p_t).Idxs).length) c28] := hB122
  have hO123z := hO123.size
  refine SeqR.done (tn (CW.ret (rr rfl (.cons ⟨_, rfl, run_loadN Tryz.ty95 (cs := [.string (bs ((s_l24Own p_t).Name)), .slice A27 (((s_l24Own p_t).Cols).length) c27, .slice A28 (((s_l24Own p_t).Idxs).length) c28]) rfl (hB122.cells (n := 3) rfl)⟩ .nil) ?_)))
  have hM124 : (s_l24Set p_t p_name p_stage) = ((⟨(s_l24Own p_t).Name, (s_l24Own p_t).Cols, (((s_l24Own p_t).Idxs).set (((s_l24Idx p_t p_name)).toNat) (⟨(((s_l24Own p_t).Idxs).getD (((s_l24Idx p_t p_name)).toNat) d_Idx).Name, (((s_l24Own p_t).Idxs).getD (((s_l24Idx p_t p_name)).toNat) d_Idx).Col, p_stage⟩ : DIdx))⟩ : DTable)) := by simp only [s_l24Set, cond_true, cond_false, loopE_done, loopE_ret]
  have q130 := OwnL.only good_Idx hB112 hO123 (by omega)
  have hfx131 := (q130).1
  have hol132 : ((s_l24Own p_t).Idxs).length ≤ 1073741824 := ho29.2.2.1
  rw [hM124]
  exact ⟨A27, c27, lo27, hi27, A28, c28, lo28, hi28, (by first | rfl | (simp only [List.length_replicate, List.length_set]; done) | (simp only [List.length_replicate, List.length_set]; rfl) | rw [hfx131]), (OwnL.only good_Str (OwnL.only good_Str (OwnL.ex good_Str (OwnL.only good_Str (OwnL.ex good_Str h27 hE41) hO44 (by omega)) hE99) hO113 (by omega)) hO123 (by omega)), (OwnL.fix q130), ⟨ho29.1, ho29.2.1, (okL.mk (xs := (((s_l24Own p_t).Idxs).set (((s_l24Idx p_t p_name)).toNat) (⟨(((s_l24Own p_t).Idxs).getD (((s_l24Idx p_t p_name)).toNat) d_Idx).Name, (((s_l24Own p_t).Idxs).getD (((s_l24Idx p_t p_name)).toNat) d_Idx).Col, p_stage⟩ : DIdx))) (by first | omega | (simp only [List.length_append, List.length_cons, List.length_nil, List.length_take, List.length_drop, List.length_replicate, List.length_set, toS_length]; omega)) (okE.set (ho29.2.2).2 (okL.getD ho29.2.2 ok_d_Idx _)))⟩, (by omega), (by omega), (by omega), (Below.only (Below.only (Ex.trans (Below.only (Ex.trans (Ex.trans (Ex.trans (Ex.trans (Ex.refl w) hE14) hE20) hE31) hE41) hO44 (by omega)) hE99) hO113 (by omega)) hO123 (by omega))⟩
set_option maxRecDepth 100000 in
set_option maxHeartbeats 2000000 in
theorem c_s_l24Way {A1 : Option Addr} {c1 : Nat} {A2 : Option Addr} {c2 : Nat} {w : World} (p_t : DTable) (p_name : Str) (p_stage : Int) (h1 : RdS w (Iv 0 w.heap.size) (RF e_Str) 1 A1 p_t.Cols.length c1 p_t.Cols) (h2 : RdS w (Iv 0 w.heap.size) (RF e_Idx) 3 A2 p_t.Idxs.length c2 p_t.Idxs) (o3 : ok_Table p_t) (o4 : okS p_name) (pre0 : (0 ≤ s_l24Idx p_t p_name ∧ s_l24Idx p_t p_name < (p_t.Idxs.length : Int))) (pre1 : (0 ≤ (p_t.Idxs.getD (s_l24Idx p_t p_name).toNat d_Idx).Stage ∧ (p_t.Idxs.getD (s_l24Idx p_t p_name).toNat d_Idx).Stage ≤ 3)) (pre2 : (0 ≤ p_stage ∧ p_stage ≤ 3)) : Cal Tryz.prog 90 #[.agg #[.string (bs (p_t.Name)), .slice A1 p_t.Cols.length c1, .slice A2 p_t.Idxs.length c2], .string (bs (p_name)), .int .i64 (p_stage)] w fun v w' => ∃ A_1 c_1 lo_1 hi_1, v = .slice A_1 ((s_l24Way p_t p_name p_stage).length) c_1 ∧ OwnL w' lo_1 hi_1 95 3 R_Table A_1 ((s_l24Way p_t p_name p_stage).length) c_1 (s_l24Way p_t p_name p_stage) ∧ (okL ok_Table) (s_l24Way p_t p_name p_stage) ∧ (w.heap.size ≤ lo_1 ∧ lo_1 ≤ hi_1 ∧ hi_1 ≤ w'.heap.size) ∧ Ex w w' := by
 have hol5 : p_t.Name.length ≤ 1073741824 := o3.1
 have hol6 := o3.2.1.1
 have hol7 := o3.2.2.1
 have hol8 : p_name.length ≤ 1073741824 := o4
 refine Cal.of (vs := [.agg #[.string (bs (p_t.Name)), .slice A1 p_t.Cols.length c1, .slice A2 p_t.Idxs.length c2], .string (bs (p_name)), .int .i64 (p_stage)]) Tryz.func90 rfl Tryz.ntmps90 rfl (CW.seq (CW.region (sd rfl (yl_box (cs := [.string (bs (p_t.Name)), .slice A1 p_t.Cols.length c1, .slice A2 p_t.Idxs.length c2]) rfl rfl rfl ?_))))
 intro b9 w10 hs11 hz12 hB13 hE14
 refine sd rfl (yl_assign rfl rfl (SeqR.done (tn (CW.seq (CW.region (sd rfl (yl_loadN (cs := [.string (bs (p_t.Name)), .slice A1 p_t.Cols.length c1, .slice A2 p_t.Idxs.length c2]) Tryz.ty95 rfl rfl (hB13.cells (n := 3) rfl) rfl ?_)))))))
 have q15 := RdS.ex good_Str h1 hE14
 have q16 := RdS.ex good_Idx h2 hE14
 refine sd rfl (yl_call Tryz.en122 rfl (opvs_cons rfl opvs_nil) (Cal.mono (c_s_l24Own p_t (RdS.up q15 good_Str) (RdS.up q16 good_Idx) o3) ?_))
 rintro v21 w17 ⟨A18, c18, lo18, hi18, A19, c19, lo19, hi19, rfl, h18, h19, ho20, hrn23, hrn24, hrn25, hE22⟩
 have hE22z := Ex.size hE22
 have hrf26 := rf_l24Own p_t
 refine sd rfl (yl_buildSlice (cs := [.string (bs ((s_l24Own p_t).Name)), .slice A18 (((s_l24Own p_t).Cols).length) c18, .slice A19 (((s_l24Own p_t).Idxs).length) c19]) Tryz.un37 Tryz.ty95 (by decide) rfl (opvs_cons rfl opvs_nil) (by kernel_rfl) ?_)
 intro b27 w28 hs29 hz30 hB31 hE32
 have hO33 : OwnL w28 w10.heap.size (b27 + 1) 95 3 R_Table (some ⟨b27, 0, none⟩) 1 1 ([(s_l24Own p_t)] : List DTable) := OwnL.of_box (S := Iv w10.heap.size b27) hB31 (by omega) (Nat.lt_succ_self _) (EncL.cons (c := [.string (bs ((s_l24Own p_t).Name)), .slice A18 (((s_l24Own p_t).Cols).length) c18, .slice A19 (((s_l24Own p_t).Idxs).length) c19]) rfl ⟨A18, c18, A19, c19, rfl, (RdS.ex good_Str (RdS.wide good_Str (OwnL.rd good_Str h18) (fun b hh hl => ⟨by first | exact Nat.zero_le _ | (have := hh.1; omega), by omega⟩)) hE32), (RdS.ex good_Idx (RdS.wide good_Idx (OwnL.rd good_Idx h19) (fun b hh hl => ⟨by first | exact Nat.zero_le _ | (have := hh.1; omega), by omega⟩)) hE32)⟩ EncL.nil) (Nat.le_of_ble_eq_true rfl) (fun h => Nat.lt_irrefl _ h.2) (fun _ h => ⟨h.1, Nat.lt_succ_of_lt h.2⟩)
 refine sd rfl (yl_assign rfl rfl (SeqR.done (tn (CW.seq ?_))))
 have q37 := Box.ex (Box.ex hB13 hE22) hE32
 have q39 := RdS.ex good_Str (RdS.ex good_Str q15 hE22) hE32
 have q41 := RdS.ex good_Idx (RdS.ex good_Idx q16 hE22) hE32
 have hrf43 := rf_s_l24Idx p_t p_name
 refine CW.drawsI 5 (vgetI [DetI (.pointer (some ⟨b9, 0 + 2, none⟩)), DetI (.slice A2 p_t.Idxs.length c2), DetI (.agg #[.string (bs (p_t.Name)), .slice A1 p_t.Cols.length c1, .slice A2 p_t.Idxs.length c2]), DetI (.string (bs (p_name))), DetI (.int .i64 ((s_l24Idx p_t p_name)))]) Tryz.follows rfl rfl rfl rfl rfl rfl (vgetI_stable ⟨StableI.det _, StableI.det _, StableI.det _, StableI.det _, StableI.det _, trivial⟩) ⟨?_, ?_, ?_, ?_, ?_, trivial⟩ ?_
 ·exact fun _ _ h => os rfl ((yl_fieldAddr Tryz.fd95_2 rfl (h.old 3 _ rfl rfl) kI))
 ·exact fun _ _ h => os rfl ((yl_load1 Tryz.ty93 rfl (h.dt 0 12 rfl rfl rfl) (((Box.ex q37 h.ex).cell 2).trans rfl) kI))
 ·exact fun _ _ h => os rfl ((yl_loadN (cs := [.string (bs (p_t.Name)), .slice A1 p_t.Cols.length c1, .slice A2 p_t.Idxs.length c2]) Tryz.ty95 rfl (h.old 3 _ rfl rfl) ((Box.ex q37 h.ex).cells (n := 3) rfl) rfl kI))
 ·exact fun _ _ h => os rfl ((yl_move rfl (h.old 1 _ rfl rfl) kI))
 ·intro L66 w67 hi68
  have hE69 := hi68.ex
  refine OpR.op' rfl (yl_call Tryz.en89 rfl (opvs_cons (hi68.dt 2 14 rfl rfl rfl) (opvs_cons (hi68.dt 3 15 rfl rfl rfl) opvs_nil)) (Cal.mono (c_s_l24Idx p_t p_name (RdS.up (RdS.ex good_Str q39 hE69) good_Str) (RdS.up (RdS.ex good_Idx q41 hE69) good_Idx) o3 o4) ?_))
  rintro v75 w74 ⟨rfl, hE76⟩
  exact ⟨rfl, hE76⟩
 ·intro fl80 fh81 L77 w78 hp79
  have hE82 := hp79.ex
  have hE82z := Ex.size hE82
  have q89 := RdS.ex good_Idx q41 hE82
  obtain ⟨eb90, eo90, ec90, eA90, eS90, ebl90, el90, eR90, eC90⟩ := RdS.atD q89 d_Idx (i := ((s_l24Idx p_t p_name)).toNat) (by first | omega | assumption | (simp only [IntKind.wrap_i64] at *; omega))
  obtain rfl := eR90
  have eC90 : Cells w78 eb90 (eo90 + (((s_l24Idx p_t p_name)).toNat) * 3) [.string (bs ((p_t.Idxs.getD (((s_l24Idx p_t p_name)).toNat) d_Idx).Name)), .int .i64 ((p_t.Idxs.getD (((s_l24Idx p_t p_name)).toNat) d_Idx).Col), .int .i64 ((p_t.Idxs.getD (((s_l24Idx p_t p_name)).toNat) d_Idx).Stage)] := eC90
  refine sd rfl (yl_indexAddr Tryz.un93 Tryz.ty137 rfl (hp79.nt 1 13 rfl rfl rfl) (hp79.nt 4 16 rfl rfl rfl) eA90 (by first | omega | assumption | (simp only [IntKind.wrap_i64] at *; omega)) (by first | omega | assumption | (simp only [IntKind.wrap_i64] at *; omega)) (sd rfl (yl_fieldAddr Tryz.fd137_2 rfl rfl (sd rfl (yl_load1 Tryz.ty3 rfl rfl (eC90 2 _ rfl) (sd rfl (yl_assign rfl rfl (SeqR.done (tn (CW.sub (Sub.cons (d := 1) (hp79.old 1 _ rfl rfl) (Sub.cons (d := 2) (hp79.old 2 _ rfl rfl) (Sub.cons (d := 3) (hp79.old 3 _ rfl rfl) (Sub.cons (d := 7) (hp79.old 7 _ rfl rfl) (Sub.cons (d := 8) rfl (Sub.nil _)))))) (CW.seq (CW.block ?_))))))))))))
  refine CW.loop (fun m155 L156 w157 => ∃ (x150 : List DTable) (x154 : Int) (A151 : Option Addr) (c152 : Nat) (u153 : Nat), ((p_stage - x154).toNat + (x154 - p_stage).toNat) < m155 ∧ w78.heap.size ≤ w157.heap.size ∧ lkp L156 1 = some (.string (bs (p_name))) ∧ lkp L156 2 = some (.int .i64 (p_stage)) ∧ lkp L156 3 = some (.pointer (some ⟨b9, 0, none⟩)) ∧ lkp L156 7 = some (.slice A151 x150.length c152) ∧ lkp L156 8 = some (.int .i64 (x154)) ∧ Box w157 b9 95 [.string (bs (p_t.Name)), .slice A1 p_t.Cols.length c1, .slice A2 p_t.Idxs.length c2] ∧ RdS w157 (Iv 0 w.heap.size) (RF e_Str) 1 A1 p_t.Cols.length c1 p_t.Cols ∧ RdS w157 (Iv 0 w.heap.size) (RF e_Idx) 3 A2 p_t.Idxs.length c2 p_t.Idxs ∧ OwnL w157 w10.heap.size u153 95 3 R_Table A151 x150.length c152 x150 ∧ Ex w w157 ∧ (w10.heap.size ≤ u153 ∧ u153 ≤ w157.heap.size) ∧ x150.length + 1 * ((p_stage - x154).toNat + (x154 - p_stage).toNat) ≤ 1 + 1 * ((p_stage - (p_t.Idxs.getD (((s_l24Idx p_t p_name)).toNat) d_Idx).Stage).toNat + ((p_t.Idxs.getD (((s_l24Idx p_t p_name)).toNat) d_Idx).Stage - p_stage).toNat) ∧ (∀ y ∈ x150, ok_Table y) ∧ 0 ≤ x154 ∧ x154 ≤ 3 ∧ loopW (B_s_l24Way_0 p_t p_name p_stage) m155 (x150, x154) = loopW (B_s_l24Way_0 p_t p_name p_stage) (((p_stage - (p_t.Idxs.getD (((s_l24Idx p_t p_name)).toNat) d_Idx).Stage).toNat + ((p_t.Idxs.getD (((s_l24Idx p_t p_name)).toNat) d_Idx).Stage - p_stage).toNat) + 1) (([(s_l24Own p_t)] : List DTable), (p_t.Idxs.getD (((s_l24Idx p_t p_name)).toNat) d_Idx).Stage)) (((p_stage - (p_t.Idxs.getD (((s_l24Idx p_t p_name)).toNat) d_Idx).Stage).toNat + ((p_t.Idxs.getD (((s_l24Idx p_t p_name)).toNat) d_Idx).Stage - p_stage).toNat) + 1) ?_ ?_
  ·exact ⟨([(s_l24Own p_t)] : List DTable), (p_t.Idxs.getD (((s_l24Idx p_t p_name)).toNat) d_Idx).Stage, (some ⟨b27, 0, none⟩), 1, (b27 + 1), Nat.lt_succ_self _, Nat.le_refl _, rfl, rfl, rfl, rfl, rfl, (Box.ex q37 hE82), (RdS.ex good_Str q39 hE82), q89, (OwnL.ex good_Table hO33 hE82), (Ex.trans (Ex.trans (Ex.trans (Ex.trans (Ex.refl w) hE14) hE22) hE32) hE82), (by omega), (by first | (simp; done) | (first | omega | (simp only [List.length_append, List.length_cons, List.length_nil, List.length_set, toS_length]; omega))), ((okL.mk (Nat.le_of_ble_eq_true rfl) (okE.cons ho20 okE.nil))).2, (by first | omega | assumption | (simp only [IntKind.wrap_i64] at *; omega)), (by first | omega | assumption | (simp only [IntKind.wrap_i64] at *; omega)), rfl⟩
  ·rintro m165 L166 w167 ⟨x150, x154, A151, c152, u153, hk168, hsz170, hl171, hl172, hl173, hl174, hl175, hf176, hf177, hf178, hf179, hf180, hu181, hln182, hok183, hv184, hv185, hI169⟩
   refine CW.sub (Sub.cons hl171 (Sub.cons hl172 (Sub.cons hl173 (Sub.cons hl174 (Sub.cons hl175 (Sub.nil _)))))) ?_
   have hf176z := Box.lt hf176
   have hf180z := Ex.size hf180
   refine CW.seq (CW.seq (CW.region (sd rfl (yl_move rfl rfl (sd rfl (yl_move rfl rfl (sd rfl (yl_neq rfl rfl rfl (SeqR.done (tn (bcase (decide (x154 = p_stage)) (fun hb186 => ?_) (fun hb186 => ?_))))))))))))
   ·have hb186p := dec_t hb186
    refine CW.cond_f rfl (not_t hb186) (CW.exit (tx (tx ?_)))
    have hB188 : B_s_l24Way_0 p_t p_name p_stage (x150, x154) = .brk (x150, x154) := by simp only [B_s_l24Way_0, hb186, cond_true, cond_false, loopE_done, loopE_ret]
    have hL187 : loopW (B_s_l24Way_0 p_t p_name p_stage) (((p_stage - (p_t.Idxs.getD (((s_l24Idx p_t p_name)).toNat) d_Idx).Stage).toNat + ((p_t.Idxs.getD (((s_l24Idx p_t p_name)).toNat) d_Idx).Stage - p_stage).toNat) + 1) (([(s_l24Own p_t)] : List DTable), (p_t.Idxs.getD (((s_l24Idx p_t p_name)).toNat) d_Idx).Stage) = .done (x150, x154) := hI169.symm.trans (loopW.brk hk168 hB188)
    refine bx (tn (CW.seq (CW.region (sd rfl (yl_move rfl rfl (sd rfl (yl_assign rfl rfl (SeqR.done (tn (CW.ret ?_))))))))))
    refine rr rfl (.cons rfl .nil) ?_
    have hM189 : (s_l24Way p_t p_name p_stage) = (x150) := by simp only [s_l24Way, hb186, hL187, cond_true, cond_false, loopE_done, loopE_ret]
    rw [hM189]
    exact ⟨A151, c152, w10.heap.size, u153, rfl, hf179, (okL.mk (xs := x150) (by first | omega | (simp only [List.length_append, List.length_cons, List.length_nil, List.length_take, List.length_drop, List.length_replicate, List.length_set, toS_length]; omega)) hok183), (by omega), hf180⟩
   ·have hb186p := dec_f hb186
    refine CW.cond_t rfl (not_f hb186) (CW.skip (tn (CW.block (CW.seq (CW.seq (CW.region (sd rfl (yl_move rfl rfl (sd rfl (yl_move rfl rfl ?_))))))))))
    refine sd rfl (yl_lss rfl rfl rfl (SeqR.done (tn (bcase (decide (x154 < p_stage)) (fun hb190 => ?_) (fun hb190 => ?_)))))
    ·have hb190p := dec_t hb190
     refine CW.cond_t rfl hb190 (CW.region (sd rfl (yl_move rfl rfl (sd rfl (yl_add rfl rfl rfl (sd rfl (yl_assign rfl rfl (SeqR.done (tn (CW.region (sd rfl (yl_move rfl rfl ?_))))))))))))
     refine sd rfl (yl_loadN (cs := [.string (bs (p_t.Name)), .slice A1 p_t.Cols.length c1, .slice A2 p_t.Idxs.length c2]) Tryz.ty95 rfl rfl (hf176.cells (n := 3) rfl) rfl (sd rfl (yl_move rfl rfl (sd rfl (yl_move rfl rfl (sd rfl (yl_call Tryz.en123 rfl (opvs_cons rfl (opvs_cons rfl (opvs_cons rfl opvs_nil))) (Cal.mono (c_s_l24Set p_t p_name (IntKind.wrap .i64 (x154 + 1)) (RdS.up hf177 good_Str) (RdS.up hf178 good_Idx) o3 o4 (by first | omega | assumption | (simp only [IntKind.wrap_i64] at *; omega))) ?_))))))))
     rintro v195 w191 ⟨A192, c192, lo192, hi192, A193, c193, lo193, hi193, rfl, h192, h193, ho194, hrn197, hrn198, hrn199, hE196⟩
     have hE196z := Ex.size hE196
     refine sd rfl (yl_buildSlice (cs := [.string (bs ((s_l24Set p_t p_name (IntKind.wrap .i64 (x154 + 1))).Name)), .slice A192 (((s_l24Set p_t p_name (IntKind.wrap .i64 (x154 + 1))).Cols).length) c192, .slice A193 (((s_l24Set p_t p_name (IntKind.wrap .i64 (x154 + 1))).Idxs).length) c193]) Tryz.un37 Tryz.ty95 (by decide) rfl (opvs_cons rfl opvs_nil) (by kernel_rfl) ?_)
     intro b200 w201 hs202 hz203 hB204 hE205
     have hO206 : OwnL w201 w167.heap.size (b200 + 1) 95 3 R_Table (some ⟨b200, 0, none⟩) 1 1 ([(s_l24Set p_t p_name (IntKind.wrap .i64 (x154 + 1)))] : List DTable) := OwnL.of_box (S := Iv w167.heap.size b200) hB204 (by omega) (Nat.lt_succ_self _) (EncL.cons (c := [.string (bs ((s_l24Set p_t p_name (IntKind.wrap .i64 (x154 + 1))).Name)), .slice A192 (((s_l24Set p_t p_name (IntKind.wrap .i64 (x154 + 1))).Cols).length) c192, .slice A193 (((s_l24Set p_t p_name (IntKind.wrap .i64 (x154 + 1))).Idxs).length) c193]) rfl ⟨A192, c192, A193, c193, rfl, (RdS.ex good_Str (RdS.wide good_Str (OwnL.rd good_Str h192) (fun b hh hl => ⟨by first | exact Nat.zero_le _ | (have := hh.1; omega), by omega⟩)) hE205), (RdS.ex good_Idx (RdS.wide good_Idx (OwnL.rd good_Idx h193) (fun b hh hl => ⟨by first | exact Nat.zero_le _ | (have := hh.1; omega), by omega⟩)) hE205)⟩ EncL.nil) (Nat.le_of_ble_eq_true rfl) (fun h => Nat.lt_irrefl _ h.2) (fun _ h => ⟨h.1, Nat.lt_succ_of_lt h.2⟩)
     refine sd rfl (yl_appendL (S := (Iv u153 w201.heap.size)) (lo := w10.heap.size) (hi := u153) (xs := x150) (ys := ([(s_l24Set p_t p_name (IntKind.wrap .i64 (x154 + 1)))] : List DTable)) good_Table Tryz.un37 Tryz.ty95 rfl (Nat.le_of_ble_eq_true rfl) rfl rfl rfl (OwnL.ex good_Table (OwnL.ex good_Table hf179 hE196) hE205) (EncL.cons (c := [.string (bs ((s_l24Set p_t p_name (IntKind.wrap .i64 (x154 + 1))).Name)), .slice A192 (((s_l24Set p_t p_name (IntKind.wrap .i64 (x154 + 1))).Cols).length) c192, .slice A193 (((s_l24Set p_t p_name (IntKind.wrap .i64 (x154 + 1))).Idxs).length) c193]) rfl ⟨A192, c192, A193, c193, rfl, (RdS.wide good_Str (OwnL.rd good_Str (OwnL.ex good_Str h192 hE205)) (fun b hh hl => ⟨by have := hh.1; omega, hl⟩)), (RdS.wide good_Idx (OwnL.rd good_Idx (OwnL.ex good_Idx h193 hE205)) (fun b hh hl => ⟨by have := hh.1; omega, hl⟩))⟩ EncL.nil) (Or.inr ⟨_, _, rfl, rfl, hB204.cells (o := 0) (n := 3) rfl⟩) rfl (by first | omega | (simp only [List.length_append, List.length_cons, List.length_nil, List.length_take, List.length_drop, List.length_replicate, List.length_set, toS_length]; omega)) (by first | omega | (simp only [List.length_append, List.length_cons, List.length_nil, List.length_take, List.length_drop, List.length_replicate, List.length_set, toS_length]; omega)) (by omega) (by omega) (fun _ h _ => h.1) (by omega) ?_)
     intro A215 c216 w217 row218 hO219 hG220 hrg221
     have hG220z := hG220.size
     refine sd rfl (yl_assign rfl rfl (SeqR.done (bn (tn ?_))))
     have hB222 : B_s_l24Way_0 p_t p_name p_stage (x150, x154) = .cont ((x150 ++ ([(s_l24Set p_t p_name (IntKind.wrap .i64 (x154 + 1)))] : List DTable)), IntKind.wrap .i64 (x154 + 1)) := by simp only [B_s_l24Way_0, hb186, hb190, cond_true, cond_false, loopE_done, loopE_ret]
     have hmu235 : ((p_stage - IntKind.wrap .i64 (x154 + 1)).toNat + (IntKind.wrap .i64 (x154 + 1) - p_stage).toNat) < ((p_stage - x154).toNat + (x154 - p_stage).toNat) := by first | omega | assumption | (simp only [IntKind.wrap_i64] at *; omega)
     exact ⟨m165 - 1, by omega, (x150 ++ ([(s_l24Set p_t p_name (IntKind.wrap .i64 (x154 + 1)))] : List DTable)), IntKind.wrap .i64 (x154 + 1), A215, c216, w217.heap.size, (by omega), (by omega), rfl, rfl, rfl, rfl, rfl, (Box.grown (Box.ex (Box.ex hf176 hE196) hE205) hG220 (fun k hk => by have := hrg221 k hk; omega)), (RdS.grown good_Str (RdS.ex good_Str (RdS.ex good_Str hf177 hE196) hE205) hG220 (fun k hk => by have := hrg221 k hk; simp only [Iv]; omega)), (RdS.grown good_Idx (RdS.ex good_Idx (RdS.ex good_Idx hf178 hE196) hE205) hG220 (fun k hk => by have := hrg221 k hk; simp only [Iv]; omega)), hO219, (Below.grown (Ex.trans (Ex.trans hf180 hE196) hE205) hG220 (by omega) (fun k hk => by have := hrg221 k hk; omega)), (by omega), (by first | omega | (simp only [List.length_append, List.length_cons, List.length_nil, List.length_set, toS_length]; omega)), (okE.append hok183 ((okL.mk (Nat.le_of_ble_eq_true rfl) (okE.cons ho194 okE.nil))).2), (by first | omega | assumption | (simp only [IntKind.wrap_i64] at *; omega)), (by first | omega | assumption | (simp only [IntKind.wrap_i64] at *; omega)), (loopW.cont hk168 hB222).symm.trans hI169⟩
    ·have hb190p := dec_f hb190
     refine CW.cond_f rfl hb190 (CW.region (sd rfl (yl_move rfl rfl (sd rfl (yl_sub rfl rfl rfl (sd rfl (yl_assign rfl rfl (SeqR.done (tn (CW.region (sd rfl (yl_move rfl rfl ?_))))))))))))
     refine sd rfl (yl_loadN (cs := [.string (bs (p_t.Name)), .slice A1 p_t.Cols.length c1, .slice A2 p_t.Idxs.length c2]) Tryz.ty95 rfl rfl (hf176.cells (n := 3) rfl) rfl (sd rfl (yl_move rfl rfl (sd rfl (yl_move rfl rfl (sd rfl (yl_call Tryz.en123 rfl (opvs_cons rfl (opvs_cons rfl (opvs_cons rfl opvs_nil))) (Cal.mono (c_s_l24Set p_t p_name (IntKind.wrap .i64 (x154 - 1)) (RdS.up hf177 good_Str) (RdS.up hf178 good_Idx) o3 o4 (by first | omega | assumption | (simp only [IntKind.wrap_i64] at *; omega))) ?_))))))))
     rintro v240 w236 ⟨A237, c237, lo237, hi237, A238, c238, lo238, hi238, rfl, h237, h238, ho239, hrn242, hrn243, hrn244, hE241⟩
     have hE241z := Ex.size hE241
     refine sd rfl (yl_buildSlice (cs := [.string (bs ((s_l24Set p_t p_name (IntKind.wrap .i64 (x154 - 1))).Name)), .slice A237 (((s_l24Set p_t p_name (IntKind.wrap .i64 (x154 - 1))).Cols).length) c237, .slice A238 (((s_l24Set p_t p_name (IntKind.wrap .i64 (x154 - 1))).Idxs).length) c238]) Tryz.un37 Tryz.ty95 (by decide) rfl (opvs_cons rfl opvs_nil) (by kernel_rfl) ?_)
     intro b245 w246 hs247 hz248 hB249 hE250
     have hO251 : OwnL w246 w167.heap.size (b245 + 1) 95 3 R_Table (some ⟨b245, 0, none⟩) 1 1 ([(s_l24Set p_t p_name (IntKind.wrap .i64 (x154 - 1)))] : List DTable) := OwnL.of_box (S := Iv w167.heap.size b245) hB249 (by omega) (Nat.lt_succ_self _) (EncL.cons (c := [.string (bs ((s_l24Set p_t p_name (IntKind.wrap .i64 (x154 - 1))).Name)), .slice A237 (((s_l24Set p_t p_name (IntKind.wrap .i64 (x154 - 1))).Cols).length) c237, .slice A238 (((s_l24Set p_t p_name (IntKind.wrap .i64 (x154 - 1))).Idxs).length) c238]) rfl ⟨A237, c237, A238, c238, rfl, (RdS.ex good_Str (RdS.wide good_Str (OwnL.rd good_Str h237) (fun b hh hl => ⟨by first | exact Nat.zero_le _ | (have := hh.1; omega), by omega⟩)) hE250), (RdS.ex good_Idx (RdS.wide good_Idx (OwnL.rd good_Idx h238) (fun b hh hl => ⟨by first | exact Nat.zero_le _ | (have := hh.1; omega), by omega⟩)) hE250)⟩ EncL.nil) (Nat.le_of_ble_eq_true rfl) (fun h => Nat.lt_irrefl _ h.2) (fun _ h => ⟨h.1, Nat.lt_succ_of_lt h.2⟩)
     refine sd rfl (yl_appendL (S := (Iv u153 w246.heap.size)) (lo := w10.heap.size) (hi := u153) (xs := x150) (ys := ([(s_l24Set p_t p_name (IntKind.wrap .i64 (x154 - 1)))] : List DTable)) good_Table Tryz.un37 Tryz.ty95 rfl (Nat.le_of_ble_eq_true rfl) rfl rfl rfl (OwnL.ex good_Table (OwnL.ex good_Table hf179 hE241) hE250) (EncL.cons (c := [.string (bs ((s_l24Set p_t p_name (IntKind.wrap .i64 (x154 - 1))).Name)), .slice A237 (((s_l24Set p_t p_name (IntKind.wrap .i64 (x154 - 1))).Cols).length) c237, .slice A238 (((s_l24Set p_t p_name (IntKind.wrap .i64 (x154 - 1))).Idxs).length) c238]) rfl ⟨A237, c237, A238, c238, rfl, (RdS.wide good_Str (OwnL.rd good_Str (OwnL.ex good_Str h237 hE250)) (fun b hh hl => ⟨by have := hh.1; omega, hl⟩)), (RdS.wide good_Idx (OwnL.rd good_Idx (OwnL.ex good_Idx h238 hE250)) (fun b hh hl => ⟨by have := hh.1; omega, hl⟩))⟩ EncL.nil) (Or.inr ⟨_, _, rfl, rfl, hB249.cells (o := 0) (n := 3) rfl⟩) rfl (by first | omega | (simp only [List.length_append, List.length_cons, List.length_nil, List.length_take, List.length_drop, List.length_replicate, List.length_set, toS_length]; omega)) (by first | omega | (simp only [List.length_append, List.length_cons, List.length_nil, List.length_take, List.length_drop, List.length_replicate, List.length_set, toS_length]; omega)) (by omega) (by omega) (fun _ h _ => h.1) (by omega) ?_)
     intro A260 c261 w262 row263 hO264 hG265 hrg266
     have hG265z := hG265.size
     refine sd rfl (yl_assign rfl rfl (SeqR.done (bn (tn ?_))))
     have hB267 : B_s_l24Way_0 p_t p_name p_stage (x150, x154) = .cont ((x150 ++ ([(s_l24Set p_t p_name (IntKind.wrap .i64 (x154 - 1)))] : List DTable)), IntKind.wrap .i64 (x154 - 1)) := by simp only [B_s_l24Way_0, hb186, hb190, cond_true, cond_false, loopE_done, loopE_ret]
     have hmu280 : ((p_stage - IntKind.wrap .i64 (x154 - 1)).toNat + (IntKind.wrap .i64 (x154 - 1) - p_stage).toNat) < ((p_stage - x154).toNat + (x154 - p_stage).toNat) := by first | omega | assumption | (simp only [IntKind.wrap_i64] at *; omega)
     exact ⟨m165 - 1, by omega, (x150 ++ ([(s_l24Set p_t p_name (IntKind.wrap .i64 (x154 - 1)))] : List DTable)), IntKind.wrap .i64 (x154 - 1), A260, c261, w262.heap.size, (by omega), (by omega), rfl, rfl, rfl, rfl, rfl, (Box.grown (Box.ex (Box.ex hf176 hE241) hE250) hG265 (fun k hk => by have := hrg266 k hk; omega)), (RdS.grown good_Str (RdS.ex good_Str (RdS.ex good_Str hf177 hE241) hE250) hG265 (fun k hk => by have := hrg266 k hk; simp only [Iv]; omega)), (RdS.grown good_Idx (RdS.ex good_Idx (RdS.ex good_Idx hf178 hE241) hE250) hG265 (fun k hk => by have := hrg266 k hk; simp only [Iv]; omega)), hO264, (Below.grown (Ex.trans (Ex.trans hf180 hE241) hE250) hG265 (by omega) (fun k hk => by have := hrg266 k hk; omega)), (by omega), (by first | omega | (simp only [List.length_append, List.length_cons, List.length_nil, List.length_set, toS_length]; omega)), (okE.append hok183 ((okL.mk (Nat.le_of_ble_eq_true rfl) (okE.cons ho239 okE.nil))).2), (by first | omega | assumption | (simp only [IntKind.wrap_i64] at *; omega)), (by first | omega | assumption | (simp only [IntKind.wrap_i64] at *; omega)), (loopW.cont hk168 hB267).symm.trans hI169⟩
set_option maxRecDepth 100000 in
set_option maxHeartbeats 2000000 in
theorem c_s_l24SameCols {A1 : Option Addr} {c1 : Nat} {A2 : Option Addr} {c2 : Nat} {A4 : Option Addr} {c4 : Nat} {A5 : Option Addr} {c5 : Nat} {w : World} (p_0 : DTable) (p_1 : DTable) (h1 : RdS w (Iv 0 w.heap.size) (RF e_Str) 1 A1 p_0.Cols.length c1 p_0.Cols) (h2 : RdS w (Iv 0 w.heap.size) (RF e_Idx) 3 A2 p_0.Idxs.length c2 p_0.Idxs) (h4 : RdS w (Iv 0 w.heap.size) (RF e_Str) 1 A4 p_1.Cols.length c4 p_1.Cols) (h5 : RdS w (Iv 0 w.heap.size) (RF e_Idx) 3 A5 p_1.Idxs.length c5 p_1.Idxs) (o3 : ok_Table p_0) (o6 : ok_Table p_1) : Cal Tryz.prog 91 #[.agg #[.string (bs (p_0.Name)), .slice A1 p_0.Cols.length c1, .slice A2 p_0.Idxs.length c2], .agg #[.string (bs (p_1.Name)), .slice A4 p_1.Cols.length c4, .slice A5 p_1.Idxs.length c5]] w fun v w' => v = .bool ((s_l24SameCols p_0 p_1)) ∧ Ex w w' := by
 have hol7 : p_0.Name.length ≤ 1073741824 := o3.1
 have hol8 := o3.2.1.1
 have hol9 := o3.2.2.1
 have hol10 : p_1.Name.length ≤ 1073741824 := o6.1
 have hol11 := o6.2.1.1
 have hol12 := o6.2.2.1
 refine Cal.of (vs := [.agg #[.string (bs (p_0.Name)), .slice A1 p_0.Cols.length c1, .slice A2 p_0.Idxs.length c2], .agg #[.string (bs (p_1.Name)), .slice A4 p_1.Cols.length c4, .slice A5 p_1.Idxs.length c5]]) Tryz.func91 rfl Tryz.ntmps91 rfl (CW.seq (CW.region (sd rfl (yl_box (cs := [.string (bs (p_0.Name)), .slice A1 p_0.Cols.length c1, .slice A2 p_0.Idxs.length c2]) rfl rfl rfl ?_))))
 intro b13 w14 hs15 hz16 hB17 hE18
 refine sd rfl (yl_box (cs := [.string (bs (p_1.Name)), .slice A4 p_1.Cols.length c4, .slice A5 p_1.Idxs.length c5]) rfl rfl rfl ?_)
 intro b19 w20 hs21 hz22 hB23 hE24
 refine sd rfl (yl_assign rfl rfl (SeqR.done (tn (CW.seq (CW.seq (CW.region (sd rfl (yl_fieldAddr Tryz.fd95_0 rfl rfl ?_))))))))
 have q25 := Box.ex hB17 hE24
 refine sd rfl (yl_load1 Tryz.ty9 rfl rfl ((q25.cell 0).trans rfl) (sd rfl (yl_fieldAddr Tryz.fd95_0 rfl rfl (sd rfl (yl_load1 Tryz.ty9 rfl rfl ((hB23.cell 0).trans rfl) (sd rfl (yl_sneq (a := p_0.Name) (b := p_1.Name) rfl rfl rfl (sd rfl (yl_move rfl rfl (bcase (p_0.Name == p_1.Name) (fun hb26 => ?_) (fun hb26 => ?_)))))))))))
 ·refine sy rfl rfl (not_t hb26) (yl_fieldAddr Tryz.fd95_1 rfl rfl (sy rfl rfl (not_t hb26) (yl_load1 Tryz.ty27 rfl rfl ((q25.cell 1).trans rfl) (sy rfl rfl (not_t hb26) (yl_len Tryz.un27 rfl rfl (sy rfl rfl (not_t hb26) (yl_fieldAddr Tryz.fd95_1 rfl rfl (sy rfl rfl (not_t hb26) (yl_load1 Tryz.ty27 rfl rfl ((hB23.cell 1).trans rfl) (sy rfl rfl (not_t hb26) (yl_len Tryz.un27 rfl rfl (sy rfl rfl (not_t hb26) (yl_neq rfl rfl rfl (sd rfl (yl_pick_f rfl rfl (not_t hb26) rfl (sd rfl (yl_move rfl rfl ?_)))))))))))))))))
  refine bcase (decide ((p_0.Cols.length : Int) = (p_1.Cols.length : Int))) (fun hb27 => ?_) (fun hb27 => ?_)
  ·have hb27p := dec_t hb27
   refine sy rfl rfl (not_t hb27) (yl_fieldAddr Tryz.fd95_2 rfl rfl (sy rfl rfl (not_t hb27) (yl_load1 Tryz.ty93 rfl rfl ((q25.cell 2).trans rfl) (sy rfl rfl (not_t hb27) (yl_len Tryz.un93 rfl rfl (sy rfl rfl (not_t hb27) (yl_fieldAddr Tryz.fd95_2 rfl rfl (sy rfl rfl (not_t hb27) (yl_load1 Tryz.ty93 rfl rfl ((hB23.cell 2).trans rfl) (sy rfl rfl (not_t hb27) (yl_len Tryz.un93 rfl rfl (sy rfl rfl (not_t hb27) (yl_neq rfl rfl rfl (sd rfl (yl_pick_f rfl rfl (not_t hb27) rfl (SeqR.done ?_))))))))))))))))
   refine tn (bcase (decide ((p_0.Idxs.length : Int) = (p_1.Idxs.length : Int))) (fun hb28 => ?_) (fun hb28 => ?_))
   ·have hb28p := dec_t hb28
    refine CW.cond_f rfl (not_t hb28) (CW.skip (tn (CW.seq (CW.seq (CW.region (sd rfl (yl_fieldAddr Tryz.fd95_1 rfl rfl (sd rfl (yl_load1 Tryz.ty27 rfl rfl ((q25.cell 1).trans rfl) (sd rfl (yl_len Tryz.un27 rfl rfl ?_)))))))))))
    refine sd rfl (yl_move rfl rfl (SeqR.done (tn (CW.block (CW.loop (fun m30 L31 w32 => ∃ (k29 : Nat), m30 = p_0.Cols.length - k29 ∧ k29 ≤ p_0.Cols.length ∧ w20.heap.size ≤ w32.heap.size ∧ lkp L31 2 = some (.pointer (some ⟨b13, 0, none⟩)) ∧ lkp L31 3 = some (.pointer (some ⟨b19, 0, none⟩)) ∧ lkp L31 32 = some (.int .i64 ((p_0.Cols.length : Int))) ∧ lkp L31 33 = some (.int .i64 ((k29 : Int))) ∧ Box w32 b13 95 [.string (bs (p_0.Name)), .slice A1 p_0.Cols.length c1, .slice A2 p_0.Idxs.length c2] ∧ RdS w32 (Iv 0 w.heap.size) (RF e_Str) 1 A1 p_0.Cols.length c1 p_0.Cols ∧ RdS w32 (Iv 0 w.heap.size) (RF e_Idx) 3 A2 p_0.Idxs.length c2 p_0.Idxs ∧ Box w32 b19 95 [.string (bs (p_1.Name)), .slice A4 p_1.Cols.length c4, .slice A5 p_1.Idxs.length c5] ∧ RdS w32 (Iv 0 w.heap.size) (RF e_Str) 1 A4 p_1.Cols.length c4 p_1.Cols ∧ RdS w32 (Iv 0 w.heap.size) (RF e_Idx) 3 A5 p_1.Idxs.length c5 p_1.Idxs ∧ Ex w w32 ∧ loopM (B_s_l24SameCols_0 p_0 p_1) (p_0.Cols.length - k29) k29 () = loopM (B_s_l24SameCols_0 p_0 p_1) (p_0.Cols.length - 0) 0 ()) (p_0.Cols.length - 0) ?_ ?_)))))
    ·exact ⟨0, rfl, (by omega), Nat.le_refl _, rfl, rfl, rfl, rfl, q25, (RdS.ex good_Str (RdS.ex good_Str h1 hE18) hE24), (RdS.ex good_Idx (RdS.ex good_Idx h2 hE18) hE24), hB23, (RdS.ex good_Str (RdS.ex good_Str h4 hE18) hE24), (RdS.ex good_Idx (RdS.ex good_Idx h5 hE18) hE24), (Ex.trans (Ex.trans (Ex.refl w) hE18) hE24), rfl⟩
    ·rintro m43 L44 w45 ⟨k29, rfl, hk46, hsz48, hl49, hl50, hl51, hl52, hf53, hf54, hf55, hf56, hf57, hf58, hf59, hI47⟩
     refine CW.sub (Sub.cons hl49 (Sub.cons hl50 (Sub.cons hl51 (Sub.cons hl52 (Sub.nil _))))) ?_
     have hf53z := Box.lt hf53
     have hf56z := Box.lt hf56
     have hf59z := Ex.size hf59
     have hbg60 := RdS.big hf54
     rcases Nat.lt_or_ge k29 p_0.Cols.length with hlt61 | hlt61
     ·refine CW.seq (CW.region (sd rfl (yl_lss rfl rfl rfl (SeqR.done (tn (CW.seq (CW.cond_t rfl (lt_t hlt61) (CW.skip (tn ?_)))))))))
      refine CW.seq (CW.block (CW.seq (CW.region (sd rfl (yl_move rfl rfl (sd rfl (yl_assign rfl rfl (SeqR.done (tn (CW.seq ?_))))))))))
      obtain ⟨eb62, eo62, ec62, eA62, eS62, ebl62, el62, eR62, eC62⟩ := RdS.atD hf54 d_Str (i := k29) (by first | omega | assumption)
      obtain rfl := eR62
      have eC62 : Cells w45 eb62 (eo62 + k29 * 1) [.string (bs ((p_0.Cols.getD k29 d_Str)))] := eC62
      obtain ⟨eb63, eo63, ec63, eA63, eS63, ebl63, el63, eR63, eC63⟩ := RdS.atD hf57 d_Str (i := k29) (by first | omega | assumption)
      obtain rfl := eR63
      have eC63 : Cells w45 eb63 (eo63 + k29 * 1) [.string (bs ((p_1.Cols.getD k29 d_Str)))] := eC63
      refine CW.drawsI 11 (vgetI [DetI (.pointer (some ⟨b13, 0 + 1, none⟩)), DetI (.slice A1 p_0.Cols.length c1), DetI (.int .i64 ((k29 : Int))), DetI (.pointer (some ⟨eb62, eo62 + k29 * 1, none⟩)), DetI (.string (bs ((p_0.Cols.getD k29 d_Str)))), DetI (.pointer (some ⟨b19, 0 + 1, none⟩)), DetI (.slice A4 p_1.Cols.length c4), DetI (.int .i64 ((k29 : Int))), DetI (.pointer (some ⟨eb63, eo63 + k29 * 1, none⟩)), DetI (.string (bs ((p_1.Cols.getD k29 d_Str)))), DetI (.bool (!((p_0.Cols.getD k29 d_Str) == (p_1.Cols.getD k29 d_Str))))]) Tryz.follows rfl rfl rfl rfl rfl rfl (vgetI_stable ⟨StableI.det _, StableI.det _, StableI.det _, StableI.det _, StableI.det _, StableI.det _, StableI.det _, StableI.det _, StableI.det _, StableI.det _, StableI.det _, trivial⟩) ⟨?_, ?_, ?_, ?_, ?_, ?_, ?_, ?_, ?_, ?_, ?_, trivial⟩ ?_
      ·exact fun _ _ h => os rfl ((yl_fieldAddr Tryz.fd95_1 rfl (h.old 2 _ rfl rfl) kI))
      ·exact fun _ _ h => os rfl ((yl_load1 Tryz.ty27 rfl (h.dt 0 36 rfl rfl rfl) (((Box.ex hf53 h.ex).cell 1).trans rfl) kI))
      ·exact fun _ _ h => os rfl ((yl_move rfl (h.old 5 _ rfl rfl) kI))
      ·intro L80 w81 hi82
       have hE83 := hi82.ex
       have hE83z := Ex.size hE83
       exact os rfl ((yl_indexAddrN Tryz.un27 Tryz.ty9 rfl (hi82.dt 1 37 rfl rfl rfl) (hi82.dt 2 38 rfl rfl rfl) eA62 (by first | omega | assumption | (simp only [IntKind.wrap_i64] at *; omega)) kI))
      ·exact fun _ _ h => os rfl ((yl_load1 Tryz.ty9 rfl (h.dt 3 39 rfl rfl rfl) ((Cells.ex eC62 h.ex) 0 _ rfl) kI))
      ·exact fun _ _ h => os rfl ((yl_fieldAddr Tryz.fd95_1 rfl (h.old 3 _ rfl rfl) kI))
      ·exact fun _ _ h => os rfl ((yl_load1 Tryz.ty27 rfl (h.dt 5 41 rfl rfl rfl) (((Box.ex hf56 h.ex).cell 1).trans rfl) kI))
      ·exact fun _ _ h => os rfl ((yl_move rfl (h.old 5 _ rfl rfl) kI))
      ·intro L108 w109 hi110
       have hE111 := hi110.ex
       have hE111z := Ex.size hE111
       exact os rfl ((yl_indexAddrN Tryz.un27 Tryz.ty9 rfl (hi110.dt 6 42 rfl rfl rfl) (hi110.dt 7 43 rfl rfl rfl) eA63 (by first | omega | assumption | (simp only [IntKind.wrap_i64] at *; omega)) kI))
      ·exact fun _ _ h => os rfl ((yl_load1 Tryz.ty9 rfl (h.dt 8 44 rfl rfl rfl) ((Cells.ex eC63 h.ex) 0 _ rfl) kI))
      ·exact fun _ _ h => os rfl ((yl_sneq (a := (p_0.Cols.getD k29 d_Str)) (b := (p_1.Cols.getD k29 d_Str)) rfl (h.dt 4 40 rfl rfl rfl) (h.dt 9 45 rfl rfl rfl) kI))
      ·intro fl129 fh130 L126 w127 hp128
       have hE131 := hp128.ex
       have hE131z := Ex.size hE131
       refine SeqR.done (tn (CW.sub (Sub.cons (d := 2) (hp128.old 2 _ rfl rfl) (Sub.cons (d := 3) (hp128.old 3 _ rfl rfl) (Sub.cons (d := 32) (hp128.old 32 _ rfl rfl) (Sub.cons (d := 33) (hp128.old 33 _ rfl rfl) (Sub.cons (d := 46) (hp128.nt 10 46 rfl rfl rfl) (Sub.nil _)))))) (bcase ((p_0.Cols.getD k29 d_Str) == (p_1.Cols.getD k29 d_Str)) (fun hb137 => ?_) (fun hb137 => ?_))))
       ·refine CW.cond_f rfl (not_t hb137) (CW.skip (bn (tn (CW.region (sd rfl (yl_inc rfl rfl rfl (by omega) (sd rfl (yl_move rfl rfl (SeqR.done (tn ?_))))))))))
        have hB138 : B_s_l24SameCols_0 p_0 p_1 k29 () = .cont () := by simp only [B_s_l24SameCols_0, hb26, hb27, hb28, hb137, cond_true, cond_false, loopE_done, loopE_ret]
        exact ⟨p_0.Cols.length - (k29 + 1), by omega, k29 + 1, rfl, hlt61, (by omega), rfl, rfl, rfl, rfl, (Box.ex hf53 hE131), (RdS.ex good_Str hf54 hE131), (RdS.ex good_Idx hf55 hE131), (Box.ex hf56 hE131), (RdS.ex good_Str hf57 hE131), (RdS.ex good_Idx hf58 hE131), (Ex.trans hf59 hE131), (loopM.cont hlt61 hB138).symm.trans hI47⟩
       ·refine CW.cond_t rfl (not_f hb137) (CW.seq (CW.region (sd rfl (yl_assign rfl rfl (SeqR.done (tn (CW.ret (br (tr ?_)))))))))
        refine tr ?_
        have hB147 : B_s_l24SameCols_0 p_0 p_1 k29 () = .ret false := by simp only [B_s_l24SameCols_0, hb26, hb27, hb28, hb137, cond_true, cond_false, loopE_done, loopE_ret]
        have hL146 : loopM (B_s_l24SameCols_0 p_0 p_1) (p_0.Cols.length - 0) 0 () = .ret false := hI47.symm.trans (loopM.ret hlt61 hB147)
        refine br (tr (rr rfl (.cons rfl .nil) ?_))
        have hM148 : (s_l24SameCols p_0 p_1) = (false) := by simp only [s_l24SameCols, hb26, hb27, hb28, hb137, hL146, cond_true, cond_false, loopE_done, loopE_ret]
        rw [hM148]
        exact ⟨rfl, (Ex.trans hf59 hE131)⟩
     ·refine CW.seq (CW.region (sd rfl (yl_lss rfl rfl rfl (SeqR.done (tn (CW.seq (CW.cond_f rfl (lt_f hlt61) (CW.exit (tx ?_)))))))))
      refine tx ?_
      have hL150 : loopM (B_s_l24SameCols_0 p_0 p_1) (p_0.Cols.length - 0) 0 () = .done () := hI47.symm.trans (loopM.stop hlt61)
      refine bx (tn (CW.seq (CW.seq (CW.region (sd rfl (yl_fieldAddr Tryz.fd95_2 rfl rfl (sd rfl (yl_load1 Tryz.ty93 rfl rfl ((hf53.cell 2).trans rfl) (sd rfl (yl_len Tryz.un93 rfl rfl (sd rfl (yl_move rfl rfl ?_))))))))))))
      refine SeqR.done (tn (CW.block (CW.loop (fun m152 L153 w154 => ∃ (k151 : Nat), m152 = p_0.Idxs.length - k151 ∧ k151 ≤ p_0.Idxs.length ∧ w45.heap.size ≤ w154.heap.size ∧ lkp L153 2 = some (.pointer (some ⟨b13, 0, none⟩)) ∧ lkp L153 3 = some (.pointer (some ⟨b19, 0, none⟩)) ∧ lkp L153 50 = some (.int .i64 ((p_0.Idxs.length : Int))) ∧ lkp L153 51 = some (.int .i64 ((k151 : Int))) ∧ Box w154 b13 95 [.string (bs (p_0.Name)), .slice A1 p_0.Cols.length c1, .slice A2 p_0.Idxs.length c2] ∧ RdS w154 (Iv 0 w.heap.size) (RF e_Str) 1 A1 p_0.Cols.length c1 p_0.Cols ∧ RdS w154 (Iv 0 w.heap.size) (RF e_Idx) 3 A2 p_0.Idxs.length c2 p_0.Idxs ∧ Box w154 b19 95 [.string (bs (p_1.Name)), .slice A4 p_1.Cols.length c4, .slice A5 p_1.Idxs.length c5] ∧ RdS w154 (Iv 0 w.heap.size) (RF e_Str) 1 A4 p_1.Cols.length c4 p_1.Cols ∧ RdS w154 (Iv 0 w.heap.size) (RF e_Idx) 3 A5 p_1.Idxs.length c5 p_1.Idxs ∧ Ex w w154 ∧ loopM (B_s_l24SameCols_1 p_0 p_1) (p_0.Idxs.length - k151) k151 () = loopM (B_s_l24SameCols_1 p_0 p_1) (p_0.Idxs.length - 0) 0 ()) (p_0.Idxs.length - 0) ?_ ?_)))
      ·exact ⟨0, rfl, (by omega), Nat.le_refl _, rfl, rfl, rfl, rfl, hf53, hf54, hf55, hf56, hf57, hf58, hf59, rfl⟩
      ·rintro m155 L156 w157 ⟨k151, rfl, hk158, hsz160, hl161, hl162, hl163, hl164, hf165, hf166, hf167, hf168, hf169, hf170, hf171, hI159⟩
       refine CW.sub (Sub.cons hl161 (Sub.cons hl162 (Sub.cons hl163 (Sub.cons hl164 (Sub.nil _))))) ?_
       have hf165z := Box.lt hf165
       have hf168z := Box.lt hf168
       have hf171z := Ex.size hf171
       have hbg172 := RdS.big hf167
       rcases Nat.lt_or_ge k151 p_0.Idxs.length with hlt173 | hlt173
       ·refine CW.seq (CW.region (sd rfl (yl_lss rfl rfl rfl (SeqR.done (tn (CW.seq (CW.cond_t rfl (lt_t hlt173) (CW.skip (tn ?_)))))))))
        refine CW.seq (CW.block (CW.seq (CW.region (sd rfl (yl_move rfl rfl (sd rfl (yl_assign rfl rfl (SeqR.done (tn (CW.seq ?_))))))))))
        obtain ⟨eb174, eo174, ec174, eA174, eS174, ebl174, el174, eR174, eC174⟩ := RdS.atD hf167 d_Idx (i := k151) (by first | omega | assumption)
        obtain rfl := eR174
        have eC174 : Cells w157 eb174 (eo174 + k151 * 3) [.string (bs ((p_0.Idxs.getD k151 d_Idx).Name)), .int .i64 ((p_0.Idxs.getD k151 d_Idx).Col), .int .i64 ((p_0.Idxs.getD k151 d_Idx).Stage)] := eC174
        obtain ⟨eb175, eo175, ec175, eA175, eS175, ebl175, el175, eR175, eC175⟩ := RdS.atD hf170 d_Idx (i := k151) (by first | omega | assumption)
        obtain rfl := eR175
        have eC175 : Cells w157 eb175 (eo175 + k151 * 3) [.string (bs ((p_1.Idxs.getD k151 d_Idx).Name)), .int .i64 ((p_1.Idxs.getD k151 d_Idx).Col), .int .i64 ((p_1.Idxs.getD k151 d_Idx).Stage)] := eC175
        refine bcase (((p_0.Idxs.getD k151 d_Idx).Name) == ((p_1.Idxs.getD k151 d_Idx).Name)) (fun hb176 => ?_) (fun hb176 => ?_)
        ·obtain ⟨eb177, eo177, ec177, eA177, eS177, ebl177, el177, eR177, eC177⟩ := RdS.atD hf167 d_Idx (i := k151) (by first | omega | assumption)
         obtain rfl := eR177
         have eC177 : Cells w157 eb177 (eo177 + k151 * 3) [.string (bs ((p_0.Idxs.getD k151 d_Idx).Name)), .int .i64 ((p_0.Idxs.getD k151 d_Idx).Col), .int .i64 ((p_0.Idxs.getD k151 d_Idx).Stage)] := eC177
         obtain ⟨eb178, eo178, ec178, eA178, eS178, ebl178, el178, eR178, eC178⟩ := RdS.atD hf170 d_Idx (i := k151) (by first | omega | assumption)
         obtain rfl := eR178
         have eC178 : Cells w157 eb178 (eo178 + k151 * 3) [.string (bs ((p_1.Idxs.getD k151 d_Idx).Name)), .int .i64 ((p_1.Idxs.getD k151 d_Idx).Col), .int .i64 ((p_1.Idxs.getD k151 d_Idx).Stage)] := eC178
         refine CW.drawsI 28 (vgetI [DetI (.pointer (some ⟨b13, 0 + 2, none⟩)), DetI (.slice A2 p_0.Idxs.length c2), DetI (.int .i64 ((k151 : Int))), DetI (.pointer (some ⟨eb177, eo177 + k151 * 3, none⟩)), DetI (.pointer (some ⟨eb177, eo177 + k151 * 3 + 0, none⟩)), DetI (.string (bs ((p_0.Idxs.getD k151 d_Idx).Name))), DetI (.pointer (some ⟨b19, 0 + 2, none⟩)), DetI (.slice A5 p_1.Idxs.length c5), DetI (.int .i64 ((k151 : Int))), DetI (.pointer (some ⟨eb178, eo178 + k151 * 3, none⟩)), DetI (.pointer (some ⟨eb178, eo178 + k151 * 3 + 0, none⟩)), DetI (.string (bs ((p_1.Idxs.getD k151 d_Idx).Name))), DetI (.bool (!(((p_0.Idxs.getD k151 d_Idx).Name) == ((p_1.Idxs.getD k151 d_Idx).Name)))), DetI (.bool (!(((p_0.Idxs.getD k151 d_Idx).Name) == ((p_1.Idxs.getD k151 d_Idx).Name)))), DetI (.pointer (some ⟨b13, 0 + 2, none⟩)), DetI (.slice A2 p_0.Idxs.length c2), DetI (.int .i64 ((k151 : Int))), DetI (.pointer (some ⟨eb177, eo177 + k151 * 3, none⟩)), DetI (.pointer (some ⟨eb177, eo177 + k151 * 3 + 1, none⟩)), DetI (.int .i64 ((p_0.Idxs.getD k151 d_Idx).Col)), DetI (.pointer (some ⟨b19, 0 + 2, none⟩)), DetI (.slice A5 p_1.Idxs.length c5), DetI (.int .i64 ((k151 : Int))), DetI (.pointer (some ⟨eb178, eo178 + k151 * 3, none⟩)), DetI (.pointer (some ⟨eb178, eo178 + k151 * 3 + 1, none⟩)), DetI (.int .i64 ((p_1.Idxs.getD k151 d_Idx).Col)), DetI (.bool (!(decide (((p_0.Idxs.getD k151 d_Idx).Col) = ((p_1.Idxs.getD k151 d_Idx).Col))))), DetI (.bool (!(decide (((p_0.Idxs.getD k151 d_Idx).Col) = ((p_1.Idxs.getD k151 d_Idx).Col)))))]) Tryz.follows rfl rfl rfl rfl rfl rfl (vgetI_stable ⟨StableI.det _, StableI.det _, StableI.det _, StableI.det _, StableI.det _, StableI.det _, StableI.det _, StableI.det _, StableI.det _, StableI.det _, StableI.det _, StableI.det _, StableI.det _, StableI.det _, StableI.det _, StableI.det _, StableI.det _, StableI.det _, StableI.det _, StableI.det _, StableI.det _, StableI.det _, StableI.det _, StableI.det _, StableI.det _, StableI.det _, StableI.det _, StableI.det _, trivial⟩) ⟨?_, ?_, ?_, ?_, ?_, ?_, ?_, ?_, ?_, ?_, ?_, ?_, ?_, ?_, ?_, ?_, ?_, ?_, ?_, ?_, ?_, ?_, ?_, ?_, ?_, ?_, ?_, ?_, trivial⟩ ?_
         ·exact fun _ _ h => os rfl ((yl_fieldAddr Tryz.fd95_2 rfl (h.old 2 _ rfl rfl) kI))
         ·exact fun _ _ h => os rfl ((yl_load1 Tryz.ty93 rfl (h.dt 0 54 rfl rfl rfl) (((Box.ex hf165 h.ex).cell 2).trans rfl) kI))
         ·exact fun _ _ h => os rfl ((yl_move rfl (h.old 6 _ rfl rfl) kI))
         ·intro L195 w196 hi197
          have hE198 := hi197.ex
          have hE198z := Ex.size hE198
          exact os rfl ((yl_indexAddrN Tryz.un93 Tryz.ty137 rfl (hi197.dt 1 55 rfl rfl rfl) (hi197.dt 2 56 rfl rfl rfl) eA177 (by first | omega | assumption | (simp only [IntKind.wrap_i64] at *; omega)) kI))
         ·exact fun _ _ h => os rfl ((yl_fieldAddr Tryz.fd137_0 rfl (h.dt 3 57 rfl rfl rfl) kI))
         ·exact fun _ _ h => os rfl ((yl_load1 Tryz.ty9 rfl (h.dt 4 58 rfl rfl rfl) ((Cells.ex eC177 h.ex) 0 _ rfl) kI))
         ·exact fun _ _ h => os rfl ((yl_fieldAddr Tryz.fd95_2 rfl (h.old 3 _ rfl rfl) kI))
         ·exact fun _ _ h => os rfl ((yl_load1 Tryz.ty93 rfl (h.dt 6 60 rfl rfl rfl) (((Box.ex hf168 h.ex).cell 2).trans rfl) kI))
         ·exact fun _ _ h => os rfl ((yl_move rfl (h.old 6 _ rfl rfl) kI))
         ·intro L228 w229 hi230
          have hE231 := hi230.ex
          have hE231z := Ex.size hE231
          exact os rfl ((yl_indexAddrN Tryz.un93 Tryz.ty137 rfl (hi230.dt 7 61 rfl rfl rfl) (hi230.dt 8 62 rfl rfl rfl) eA178 (by first | omega | assumption | (simp only [IntKind.wrap_i64] at *; omega)) kI))
         ·exact fun _ _ h => os rfl ((yl_fieldAddr Tryz.fd137_0 rfl (h.dt 9 63 rfl rfl rfl) kI))
         ·exact fun _ _ h => os rfl ((yl_load1 Tryz.ty9 rfl (h.dt 10 64 rfl rfl rfl) ((Cells.ex eC178 h.ex) 0 _ rfl) kI))
         ·exact fun _ _ h => os rfl ((yl_sneq (a := ((p_0.Idxs.getD k151 d_Idx).Name)) (b := ((p_1.Idxs.getD k151 d_Idx).Name)) rfl (h.dt 5 59 rfl rfl rfl) (h.dt 11 65 rfl rfl rfl) kI))
         ·exact fun _ _ h => os rfl ((yl_move rfl (h.dt 12 66 rfl rfl rfl) kI))
         ·exact fun _ _ h => OpR.want rfl rfl (h.dt 13 67 rfl rfl rfl) (not_t hb176) (Yl.sameI (yl_fieldAddr Tryz.fd95_2 rfl (h.old 2 _ rfl rfl) kI))
         ·exact fun _ _ h => OpR.want rfl rfl (h.dt 13 67 rfl rfl rfl) (not_t hb176) (Yl.sameI (yl_load1 Tryz.ty93 rfl (h.dt 14 68 rfl rfl rfl) (((Box.ex hf165 h.ex).cell 2).trans rfl) kI))
         ·exact fun _ _ h => OpR.want rfl rfl (h.dt 13 67 rfl rfl rfl) (not_t hb176) (Yl.sameI (yl_move rfl (h.old 6 _ rfl rfl) kI))
         ·intro L275 w276 hi277
          have hE278 := hi277.ex
          have hE278z := Ex.size hE278
          exact OpR.want rfl rfl (hi277.dt 13 67 rfl rfl rfl) (not_t hb176) (Yl.sameI (yl_indexAddrN Tryz.un93 Tryz.ty137 rfl (hi277.dt 15 69 rfl rfl rfl) (hi277.dt 16 70 rfl rfl rfl) eA177 (by first | omega | assumption | (simp only [IntKind.wrap_i64] at *; omega)) kI))
         ·exact fun _ _ h => OpR.want rfl rfl (h.dt 13 67 rfl rfl rfl) (not_t hb176) (Yl.sameI (yl_fieldAddr Tryz.fd137_1 rfl (h.dt 17 71 rfl rfl rfl) kI))
         ·exact fun _ _ h => OpR.want rfl rfl (h.dt 13 67 rfl rfl rfl) (not_t hb176) (Yl.sameI (yl_load1 Tryz.ty3 rfl (h.dt 18 72 rfl rfl rfl) ((Cells.ex eC177 h.ex) 1 _ rfl) kI))
         ·exact fun _ _ h => OpR.want rfl rfl (h.dt 13 67 rfl rfl rfl) (not_t hb176) (Yl.sameI (yl_fieldAddr Tryz.fd95_2 rfl (h.old 3 _ rfl rfl) kI))
         ·exact fun _ _ h => OpR.want rfl rfl (h.dt 13 67 rfl rfl rfl) (not_t hb176) (Yl.sameI (yl_load1 Tryz.ty93 rfl (h.dt 20 74 rfl rfl rfl) (((Box.ex hf168 h.ex).cell 2).trans rfl) kI))
         ·exact fun _ _ h => OpR.want rfl rfl (h.dt 13 67 rfl rfl rfl) (not_t hb176) (Yl.sameI (yl_move rfl (h.old 6 _ rfl rfl) kI))
         ·intro L314 w315 hi316
          have hE317 := hi316.ex
          have hE317z := Ex.size hE317
          exact OpR.want rfl rfl (hi316.dt 13 67 rfl rfl rfl) (not_t hb176) (Yl.sameI (yl_indexAddrN Tryz.un93 Tryz.ty137 rfl (hi316.dt 21 75 rfl rfl rfl) (hi316.dt 22 76 rfl rfl rfl) eA178 (by first | omega | assumption | (simp only [IntKind.wrap_i64] at *; omega)) kI))
         ·exact fun _ _ h => OpR.want rfl rfl (h.dt 13 67 rfl rfl rfl) (not_t hb176) (Yl.sameI (yl_fieldAddr Tryz.fd137_1 rfl (h.dt 23 77 rfl rfl rfl) kI))
         ·exact fun _ _ h => OpR.want rfl rfl (h.dt 13 67 rfl rfl rfl) (not_t hb176) (Yl.sameI (yl_load1 Tryz.ty3 rfl (h.dt 24 78 rfl rfl rfl) ((Cells.ex eC178 h.ex) 1 _ rfl) kI))
         ·exact fun _ _ h => OpR.want rfl rfl (h.dt 13 67 rfl rfl rfl) (not_t hb176) (Yl.sameI (yl_neq rfl (h.dt 19 73 rfl rfl rfl) (h.dt 25 79 rfl rfl rfl) kI))
         ·exact fun _ _ h => os rfl ((yl_pick_f rfl (h.dt 13 67 rfl rfl rfl) (not_t hb176) (h.dt 26 80 rfl rfl rfl) kI))
         ·intro fl350 fh351 L347 w348 hp349
          have hE352 := hp349.ex
          have hE352z := Ex.size hE352
          refine SeqR.done (tn (CW.sub (Sub.cons (d := 2) (hp349.old 2 _ rfl rfl) (Sub.cons (d := 3) (hp349.old 3 _ rfl rfl) (Sub.cons (d := 50) (hp349.old 50 _ rfl rfl) (Sub.cons (d := 51) (hp349.old 51 _ rfl rfl) (Sub.cons (d := 68) (hp349.nt 14 68 rfl rfl rfl) (Sub.cons (d := 69) (hp349.nt 15 69 rfl rfl rfl) (Sub.cons (d := 70) (hp349.nt 16 70 rfl rfl rfl) (Sub.cons (d := 71) (hp349.nt 17 71 rfl rfl rfl) (Sub.cons (d := 72) (hp349.nt 18 72 rfl rfl rfl) (Sub.cons (d := 73) (hp349.nt 19 73 rfl rfl rfl) (Sub.cons (d := 74) (hp349.nt 20 74 rfl rfl rfl) (Sub.cons (d := 75) (hp349.nt 21 75 rfl rfl rfl) (Sub.cons (d := 76) (hp349.nt 22 76 rfl rfl rfl) (Sub.cons (d := 77) (hp349.nt 23 77 rfl rfl rfl) (Sub.cons (d := 78) (hp349.nt 24 78 rfl rfl rfl) (Sub.cons (d := 79) (hp349.nt 25 79 rfl rfl rfl) (Sub.cons (d := 80) (hp349.nt 26 80 rfl rfl rfl) (Sub.cons (d := 81) (hp349.nt 27 81 rfl rfl rfl) (Sub.nil _))))))))))))))))))) (bcase (decide (((p_0.Idxs.getD k151 d_Idx).Col) = ((p_1.Idxs.getD k151 d_Idx).Col))) (fun hb371 => ?_) (fun hb371 => ?_))))
          ·have hb371p := dec_t hb371
           refine CW.cond_f rfl (not_t hb371) (CW.skip (bn (tn (CW.region (sd rfl (yl_inc rfl rfl rfl (by omega) (sd rfl (yl_move rfl rfl (SeqR.done (tn ?_))))))))))
           have hB372 : B_s_l24SameCols_1 p_0 p_1 k151 () = .cont () := by simp only [B_s_l24SameCols_1, hb26, hb27, hb28, hb176, hb371, hL150, cond_true, cond_false, loopE_done, loopE_ret]
           exact ⟨p_0.Idxs.length - (k151 + 1), by omega, k151 + 1, rfl, hlt173, (by omega), rfl, rfl, rfl, rfl, (Box.ex hf165 hE352), (RdS.ex good_Str hf166 hE352), (RdS.ex good_Idx hf167 hE352), (Box.ex hf168 hE352), (RdS.ex good_Str hf169 hE352), (RdS.ex good_Idx hf170 hE352), (Ex.trans hf171 hE352), (loopM.cont hlt173 hB372).symm.trans hI159⟩
          ·have hb371p := dec_f hb371
           refine CW.cond_t rfl (not_f hb371) (CW.seq (CW.region (sd rfl (yl_assign rfl rfl (SeqR.done (tn (CW.ret (br (tr ?_)))))))))
           refine tr ?_
           have hB381 : B_s_l24SameCols_1 p_0 p_1 k151 () = .ret false := by simp only [B_s_l24SameCols_1, hb26, hb27, hb28, hb176, hb371, hL150, cond_true, cond_false, loopE_done, loopE_ret]
           have hL380 : loopM (B_s_l24SameCols_1 p_0 p_1) (p_0.Idxs.length - 0) 0 () = .ret false := hI159.symm.trans (loopM.ret hlt173 hB381)
           refine br (tr (rr rfl (.cons rfl .nil) ?_))
           have hM382 : (s_l24SameCols p_0 p_1) = (false) := by simp only [s_l24SameCols, hb26, hb27, hb28, hb176, hb371, hL150, hL380, cond_true, cond_false, loopE_done, loopE_ret]
           rw [hM382]
           exact ⟨rfl, (Ex.trans hf171 hE352)⟩
        ·obtain ⟨eb384, eo384, ec384, eA384, eS384, ebl384, el384, eR384, eC384⟩ := RdS.atD hf167 d_Idx (i := k151) (by first | omega | assumption)
         obtain rfl := eR384
         have eC384 : Cells w157 eb384 (eo384 + k151 * 3) [.string (bs ((p_0.Idxs.getD k151 d_Idx).Name)), .int .i64 ((p_0.Idxs.getD k151 d_Idx).Col), .int .i64 ((p_0.Idxs.getD k151 d_Idx).Stage)] := eC384
         obtain ⟨eb385, eo385, ec385, eA385, eS385, ebl385, el385, eR385, eC385⟩ := RdS.atD hf170 d_Idx (i := k151) (by first | omega | assumption)
         obtain rfl := eR385
         have eC385 : Cells w157 eb385 (eo385 + k151 * 3) [.string (bs ((p_1.Idxs.getD k151 d_Idx).Name)), .int .i64 ((p_1.Idxs.getD k151 d_Idx).Col), .int .i64 ((p_1.Idxs.getD k151 d_Idx).Stage)] := eC385
         refine CW.drawsI 28 (vgetI [DetI (.pointer (some ⟨b13, 0 + 2, none⟩)), DetI (.slice A2 p_0.Idxs.length c2), DetI (.int .i64 ((k151 : Int))), DetI (.pointer (some ⟨eb384, eo384 + k151 * 3, none⟩)), DetI (.pointer (some ⟨eb384, eo384 + k151 * 3 + 0, none⟩)), DetI (.string (bs ((p_0.Idxs.getD k151 d_Idx).Name))), DetI (.pointer (some ⟨b19, 0 + 2, none⟩)), DetI (.slice A5 p_1.Idxs.length c5), DetI (.int .i64 ((k151 : Int))), DetI (.pointer (some ⟨eb385, eo385 + k151 * 3, none⟩)), DetI (.pointer (some ⟨eb385, eo385 + k151 * 3 + 0, none⟩)), DetI (.string (bs ((p_1.Idxs.getD k151 d_Idx).Name))), DetI (.bool (!(((p_0.Idxs.getD k151 d_Idx).Name) == ((p_1.Idxs.getD k151 d_Idx).Name)))), DetI (.bool (!(((p_0.Idxs.getD k151 d_Idx).Name) == ((p_1.Idxs.getD k151 d_Idx).Name)))), DetI (undef), DetI (undef), DetI (undef), DetI (undef), DetI (undef), DetI (undef), DetI (undef), DetI (undef), DetI (undef), DetI (undef), DetI (undef), DetI (undef), DetI (undef), DetI (.bool (true))]) Tryz.follows rfl rfl rfl rfl rfl rfl (vgetI_stable ⟨StableI.det _, StableI.det _, StableI.det _, StableI.det _, StableI.det _, StableI.det _, StableI.det _, StableI.det _, StableI.det _, StableI.det _, StableI.det _, StableI.det _, StableI.det _, StableI.det _, StableI.det _, StableI.det _, StableI.det _, StableI.det _, StableI.det _, StableI.det _, StableI.det _, StableI.det _, StableI.det _, StableI.det _, StableI.det _, StableI.det _, StableI.det _, StableI.det _, trivial⟩) ⟨?_, ?_, ?_, ?_, ?_, ?_, ?_, ?_, ?_, ?_, ?_, ?_, ?_, ?_, ?_, ?_, ?_, ?_, ?_, ?_, ?_, ?_, ?_, ?_, ?_, ?_, ?_, ?_, trivial⟩ ?_
         ·exact fun _ _ h => os rfl ((yl_fieldAddr Tryz.fd95_2 rfl (h.old 2 _ rfl rfl) kI))
         ·exact fun _ _ h => os rfl ((yl_load1 Tryz.ty93 rfl (h.dt 0 54 rfl rfl rfl) (((Box.ex hf165 h.ex).cell 2).trans rfl) kI))
         ·exact fun _ _ h => os rfl ((yl_move rfl (h.old 6 _ rfl rfl) kI))
         ·intro L402 w403 hi404
          have hE405 := hi404.ex
          have hE405z := Ex.size hE405
          exact os rfl ((yl_indexAddrN Tryz.un93 Tryz.ty137 rfl (hi404.dt 1 55 rfl rfl rfl) (hi404.dt 2 56 rfl rfl rfl) eA384 (by first | omega | assumption | (simp only [IntKind.wrap_i64] at *; omega)) kI))
         ·exact fun _ _ h => os rfl ((yl_fieldAddr Tryz.fd137_0 rfl (h.dt 3 57 rfl rfl rfl) kI))
         ·exact fun _ _ h => os rfl ((yl_load1 Tryz.ty9 rfl (h.dt 4 58 rfl rfl rfl) ((Cells.ex eC384 h.ex) 0 _ rfl) kI))
         ·exact fun _ _ h => os rfl ((yl_fieldAddr Tryz.fd95_2 rfl (h.old 3 _ rfl rfl) kI))
         ·exact fun _ _ h => os rfl ((yl_load1 Tryz.ty93 rfl (h.dt 6 60 rfl rfl rfl) (((Box.ex hf168 h.ex).cell 2).trans rfl) kI))
         ·exact fun _ _ h => os rfl ((yl_move rfl (h.old 6 _ rfl rfl) kI))
         ·intro L435 w436 hi437
          have hE438 := hi437.ex
          have hE438z := Ex.size hE438
          exact os rfl ((yl_indexAddrN Tryz.un93 Tryz.ty137 rfl (hi437.dt 7 61 rfl rfl rfl) (hi437.dt 8 62 rfl rfl rfl) eA385 (by first | omega | assumption | (simp only [IntKind.wrap_i64] at *; omega)) kI))
         ·exact fun _ _ h => os rfl ((yl_fieldAddr Tryz.fd137_0 rfl (h.dt 9 63 rfl rfl rfl) kI))
         ·exact fun _ _ h => os rfl ((yl_load1 Tryz.ty9 rfl (h.dt 10 64 rfl rfl rfl) ((Cells.ex eC385 h.ex) 0 _ rfl) kI))
         ·exact fun _ _ h => os rfl ((yl_sneq (a := ((p_0.Idxs.getD k151 d_Idx).Name)) (b := ((p_1.Idxs.getD k151 d_Idx).Name)) rfl (h.dt 5 59 rfl rfl rfl) (h.dt 11 65 rfl rfl rfl) kI))
         ·exact fun _ _ h => os rfl ((yl_move rfl (h.dt 12 66 rfl rfl rfl) kI))
         ·exact fun _ _ h => OpR.skip rfl rfl (h.dt 13 67 rfl rfl rfl) (not_f hb176) ⟨rfl, Ex.refl _⟩
         ·exact fun _ _ h => OpR.skip rfl rfl (h.dt 13 67 rfl rfl rfl) (not_f hb176) ⟨rfl, Ex.refl _⟩
         ·exact fun _ _ h => OpR.skip rfl rfl (h.dt 13 67 rfl rfl rfl) (not_f hb176) ⟨rfl, Ex.refl _⟩
         ·exact fun _ _ h => OpR.skip rfl rfl (h.dt 13 67 rfl rfl rfl) (not_f hb176) ⟨rfl, Ex.refl _⟩
         ·exact fun _ _ h => OpR.skip rfl rfl (h.dt 13 67 rfl rfl rfl) (not_f hb176) ⟨rfl, Ex.refl _⟩
         ·exact fun _ _ h => OpR.skip rfl rfl (h.dt 13 67 rfl rfl rfl) (not_f hb176) ⟨rfl, Ex.refl _⟩
         ·exact fun _ _ h => OpR.skip rfl rfl (h.dt 13 67 rfl rfl rfl) (not_f hb176) ⟨rfl, Ex.refl _⟩
         ·exact fun _ _ h => OpR.skip rfl rfl (h.dt 13 67 rfl rfl rfl) (not_f hb176) ⟨rfl, Ex.refl _⟩
         ·exact fun _ _ h => OpR.skip rfl rfl (h.dt 13 67 rfl rfl rfl) (not_f hb176) ⟨rfl, Ex.refl _⟩
         ·exact fun _ _ h => OpR.skip rfl rfl (h.dt 13 67 rfl rfl rfl) (not_f hb176) ⟨rfl, Ex.refl _⟩
         ·exact fun _ _ h => OpR.skip rfl rfl (h.dt 13 67 rfl rfl rfl) (not_f hb176) ⟨rfl, Ex.refl _⟩
         ·exact fun _ _ h => OpR.skip rfl rfl (h.dt 13 67 rfl rfl rfl) (not_f hb176) ⟨rfl, Ex.refl _⟩
         ·exact fun _ _ h => OpR.skip rfl rfl (h.dt 13 67 rfl rfl rfl) (not_f hb176) ⟨rfl, Ex.refl _⟩
         ·exact fun _ _ h => os rfl ((yl_pick_t rfl (h.dt 13 67 rfl rfl rfl) (not_f hb176) rfl kI))
         ·intro fl537 fh538 L534 w535 hp536
          have hE539 := hp536.ex
          have hE539z := Ex.size hE539
          refine SeqR.done (tn (CW.sub (Sub.cons (d := 2) (hp536.old 2 _ rfl rfl) (Sub.cons (d := 3) (hp536.old 3 _ rfl rfl) (Sub.cons (d := 50) (hp536.old 50 _ rfl rfl) (Sub.cons (d := 51) (hp536.old 51 _ rfl rfl) (Sub.cons (d := 68) (hp536.nt 14 68 rfl rfl rfl) (Sub.cons (d := 69) (hp536.nt 15 69 rfl rfl rfl) (Sub.cons (d := 70) (hp536.nt 16 70 rfl rfl rfl) (Sub.cons (d := 71) (hp536.nt 17 71 rfl rfl rfl) (Sub.cons (d := 72) (hp536.nt 18 72 rfl rfl rfl) (Sub.cons (d := 73) (hp536.nt 19 73 rfl rfl rfl) (Sub.cons (d := 74) (hp536.nt 20 74 rfl rfl rfl) (Sub.cons (d := 75) (hp536.nt 21 75 rfl rfl rfl) (Sub.cons (d := 76) (hp536.nt 22 76 rfl rfl rfl) (Sub.cons (d := 77) (hp536.nt 23 77 rfl rfl rfl) (Sub.cons (d := 78) (hp536.nt 24 78 rfl rfl rfl) (Sub.cons (d := 79) (hp536.nt 25 79 rfl rfl rfl) (Sub.cons (d := 80) (hp536.nt 26 80 rfl rfl rfl) (Sub.cons (d := 81) (hp536.nt 27 81 rfl rfl rfl) (Sub.nil _))))))))))))))))))) (CW.cond_t rfl rfl (CW.seq (CW.region (sd rfl (yl_assign rfl rfl (SeqR.done (tn ?_)))))))))
          refine CW.ret (br (tr (tr ?_)))
          have hB559 : B_s_l24SameCols_1 p_0 p_1 k151 () = .ret false := by simp only [B_s_l24SameCols_1, hb26, hb27, hb28, hb176, hL150, cond_true, cond_false, loopE_done, loopE_ret]
          have hL558 : loopM (B_s_l24SameCols_1 p_0 p_1) (p_0.Idxs.length - 0) 0 () = .ret false := hI159.symm.trans (loopM.ret hlt173 hB559)
          refine br (tr (rr rfl (.cons rfl .nil) ?_))
          have hM560 : (s_l24SameCols p_0 p_1) = (false) := by simp only [s_l24SameCols, hb26, hb27, hb28, hb176, hL150, hL558, cond_true, cond_false, loopE_done, loopE_ret]
          rw [hM560]
          exact ⟨rfl, (Ex.trans hf171 hE539)⟩
       ·refine CW.seq (CW.region (sd rfl (yl_lss rfl rfl rfl (SeqR.done (tn (CW.seq (CW.cond_f rfl (lt_f hlt173) (CW.exit (tx ?_)))))))))
        refine tx ?_
        have hL562 : loopM (B_s_l24SameCols_1 p_0 p_1) (p_0.Idxs.length - 0) 0 () = .done () := hI159.symm.trans (loopM.stop hlt173)
        refine bx (tn (CW.seq (CW.region (sd rfl (yl_assign rfl rfl (SeqR.done (tn (CW.ret (rr rfl (.cons rfl .nil) ?_)))))))))
        have hM563 : (s_l24SameCols p_0 p_1) = (true) := by simp only [s_l24SameCols, hb26, hb27, hb28, hL150, hL562, cond_true, cond_false, loopE_done, loopE_ret]
        rw [hM563]
        exact ⟨rfl, hf171⟩
   ·have hb28p := dec_f hb28
    refine CW.cond_t rfl (not_f hb28) (CW.seq (CW.region (sd rfl (yl_assign rfl rfl (SeqR.done (tn (CW.ret (tr (rr rfl (.cons rfl .nil) ?_)))))))))
    have hM564 : (s_l24SameCols p_0 p_1) = (false) := by simp only [s_l24SameCols, hb26, hb27, hb28, cond_true, cond_false, loopE_done, loopE_ret]
    rw [hM564]
    exact ⟨rfl, (Ex.trans (Ex.trans (Ex.refl w) hE18) hE24)⟩
  ·have hb27p := dec_f hb27
   refine sz rfl rfl (not_f hb27) (sz rfl rfl (not_f hb27) (sz rfl rfl (not_f hb27) (sz rfl rfl (not_f hb27) (sz rfl rfl (not_f hb27) (sz rfl rfl (not_f hb27) (sz rfl rfl (not_f hb27) (sd rfl (yl_pick_t rfl rfl (not_f hb27) rfl (SeqR.done ?_)))))))))
   refine tn (CW.cond_t rfl rfl (CW.seq (CW.region (sd rfl (yl_assign rfl rfl (SeqR.done (tn (CW.ret (tr ?_)))))))))
   refine rr rfl (.cons rfl .nil) ?_
   have hM567 : (s_l24SameCols p_0 p_1) = (false) := by simp only [s_l24SameCols, hb26, hb27, cond_true, cond_false, loopE_done, loopE_ret]
   rw [hM567]
   exact ⟨rfl, (Ex.trans (Ex.trans (Ex.refl w) hE18) hE24)⟩
 ·refine sz rfl rfl (not_f hb26) (sz rfl rfl (not_f hb26) (sz rfl rfl (not_f hb26) (sz rfl rfl (not_f hb26) (sz rfl rfl (not_f hb26) (sz rfl rfl (not_f hb26) (sz rfl rfl (not_f hb26) (sd rfl (yl_pick_t rfl rfl (not_f hb26) rfl (sd rfl (yl_move rfl rfl ?_))))))))))
  refine sz rfl rfl rfl (sz rfl rfl rfl (sz rfl rfl rfl (sz rfl rfl rfl (sz rfl rfl rfl (sz rfl rfl rfl (sz rfl rfl rfl (sd rfl (yl_pick_t rfl rfl rfl rfl (SeqR.done ?_)))))))))
  refine tn (CW.cond_t rfl rfl (CW.seq (CW.region (sd rfl (yl_assign rfl rfl (SeqR.done (tn (CW.ret (tr ?_)))))))))
  refine rr rfl (.cons rfl .nil) ?_
  have hM570 : (s_l24SameCols p_0 p_1) = (false) := by simp only [s_l24SameCols, hb26, cond_true, cond_false, loopE_done, loopE_ret]
  rw [hM570]
  exact ⟨rfl, (Ex.trans (Ex.trans (Ex.refl w) hE18) hE24)⟩
set_option maxRecDepth 100000 in
set_option maxHeartbeats 2000000 in
theorem c_s_l1Most {w : World} (p_a : Int) (p_b : Int) : Cal Tryz.prog 124 #[.int .i64 (p_a), .int .i64 (p_b)] w fun v w' => v = .int .i64 ((s_l1Most p_a p_b)) ∧ Ex w w' := by
 refine Cal.of (vs := [.int .i64 (p_a), .int .i64 (p_b)]) Tryz.func124 rfl Tryz.ntmps124 rfl (CW.seq (CW.region (sd rfl (yl_assign rfl rfl (SeqR.done (tn (CW.seq (CW.seq (CW.region ?_)))))))))
 refine sd rfl (yl_move rfl rfl (sd rfl (yl_move rfl rfl (sd rfl (yl_gtr rfl rfl rfl (SeqR.done (tn (bcase (decide (p_b < p_a)) (fun hb1 => ?_) (fun hb1 => ?_)))))))))
 ·have hb1p := dec_t hb1
  refine CW.cond_t rfl hb1 (CW.seq (CW.region (sd rfl (yl_move rfl rfl (sd rfl (yl_assign rfl rfl (SeqR.done (tn (CW.ret (tr ?_))))))))))
  refine rr rfl (.cons rfl .nil) ?_
  have hM2 : (s_l1Most p_a p_b) = (p_a) := by simp only [s_l1Most, hb1, cond_true, cond_false, loopE_done, loopE_ret]
  rw [hM2]
  exact ⟨rfl, (Ex.refl w)⟩
 ·have hb1p := dec_f hb1
  refine CW.cond_f rfl hb1 (CW.skip (tn (CW.seq (CW.region (sd rfl (yl_move rfl rfl (sd rfl (yl_assign rfl rfl (SeqR.done (tn ?_))))))))))
  refine CW.ret (rr rfl (.cons rfl .nil) ?_)
  have hM3 : (s_l1Most p_a p_b) = (p_b) := by simp only [s_l1Most, hb1, cond_true, cond_false, loopE_done, loopE_ret]
  rw [hM3]
  exact ⟨rfl, (Ex.refl w)⟩
set_option maxRecDepth 100000 in
set_option maxHeartbeats 2000000 in
theorem c_s_l24Far {A1 : Option Addr} {c1 : Nat} {A2 : Option Addr} {c2 : Nat} {A4 : Option Addr} {c4 : Nat} {A5 : Option Addr} {c5 : Nat} {w : World} (p_a : DTable) (p_b : DTable) (h1 : RdS w (Iv 0 w.heap.size) (RF e_Str) 1 A1 p_a.Cols.length c1 p_a.Cols) (h2 : RdS w (Iv 0 w.heap.size) (RF e_Idx) 3 A2 p_a.Idxs.length c2 p_a.Idxs) (h4 : RdS w (Iv 0 w.heap.size) (RF e_Str) 1 A4 p_b.Cols.length c4 p_b.Cols) (h5 : RdS w (Iv 0 w.heap.size) (RF e_Idx) 3 A5 p_b.Idxs.length c5 p_b.Idxs) (o3 : ok_Table p_a) (o6 : ok_Table p_b) (pre0 : p_a.Idxs.length = p_b.Idxs.length) : Cal Tryz.prog 92 #[.agg #[.string (bs (p_a.Name)), .slice A1 p_a.Cols.length c1, .slice A2 p_a.Idxs.length c2], .agg #[.string (bs (p_b.Name)), .slice A4 p_b.Cols.length c4, .slice A5 p_b.Idxs.length c5]] w fun v w' => v = .int .i64 ((s_l24Far p_a p_b)) ∧ Ex w w' := by
 have hol7 : p_a.Name.length ≤ 1073741824 := o3.1
 have hol8 := o3.2.1.1
 have hol9 := o3.2.2.1
 have hol10 : p_b.Name.length ≤ 1073741824 := o6.1
 have hol11 := o6.2.1.1
 have hol12 := o6.2.2.1
 refine Cal.of (vs := [.agg #[.string (bs (p_a.Name)), .slice A1 p_a.Cols.length c1, .slice A2 p_a.Idxs.length c2], .agg #[.string (bs (p_b.Name)), .slice A4 p_b.Cols.length c4, .slice A5 p_b.Idxs.length c5]]) Tryz.func92 rfl Tryz.ntmps92 rfl (CW.seq (CW.region (sd rfl (yl_box (cs := [.string (bs (p_a.Name)), .slice A1 p_a.Cols.length c1, .slice A2 p_a.Idxs.length c2]) rfl rfl rfl ?_))))
 intro b13 w14 hs15 hz16 hB17 hE18
 refine sd rfl (yl_box (cs := [.string (bs (p_b.Name)), .slice A4 p_b.Cols.length c4, .slice A5 p_b.Idxs.length c5]) rfl rfl rfl ?_)
 intro b19 w20 hs21 hz22 hB23 hE24
 refine sd rfl (yl_assign rfl rfl (SeqR.done (tn (CW.seq (CW.region (sd rfl (yl_assign rfl rfl (SeqR.done (tn (CW.seq ?_))))))))))
 refine CW.seq (CW.region (sd rfl (yl_fieldAddr Tryz.fd95_2 rfl rfl ?_)))
 have q25 := Box.ex hB17 hE24
 refine sd rfl (yl_load1 Tryz.ty93 rfl rfl ((q25.cell 2).trans rfl) (sd rfl (yl_len Tryz.un93 rfl rfl (sd rfl (yl_move rfl rfl (SeqR.done (tn (CW.block (CW.loop (fun m28 L29 w30 => ∃ (k26 : Nat) (x27 : Int), m28 = p_a.Idxs.length - k26 ∧ k26 ≤ p_a.Idxs.length ∧ w20.heap.size ≤ w30.heap.size ∧ lkp L29 2 = some (.pointer (some ⟨b13, 0, none⟩)) ∧ lkp L29 3 = some (.pointer (some ⟨b19, 0, none⟩)) ∧ lkp L29 5 = some (.int .i64 (x27)) ∧ lkp L29 10 = some (.int .i64 ((p_a.Idxs.length : Int))) ∧ lkp L29 11 = some (.int .i64 ((k26 : Int))) ∧ Box w30 b13 95 [.string (bs (p_a.Name)), .slice A1 p_a.Cols.length c1, .slice A2 p_a.Idxs.length c2] ∧ RdS w30 (Iv 0 w.heap.size) (RF e_Str) 1 A1 p_a.Cols.length c1 p_a.Cols ∧ RdS w30 (Iv 0 w.heap.size) (RF e_Idx) 3 A2 p_a.Idxs.length c2 p_a.Idxs ∧ Box w30 b19 95 [.string (bs (p_b.Name)), .slice A4 p_b.Cols.length c4, .slice A5 p_b.Idxs.length c5] ∧ RdS w30 (Iv 0 w.heap.size) (RF e_Str) 1 A4 p_b.Cols.length c4 p_b.Cols ∧ RdS w30 (Iv 0 w.heap.size) (RF e_Idx) 3 A5 p_b.Idxs.length c5 p_b.Idxs ∧ Ex w w30 ∧ loopM (B_s_l24Far_0 p_a p_b) (p_a.Idxs.length - k26) k26 (x27) = loopM (B_s_l24Far_0 p_a p_b) (p_a.Idxs.length - 0) 0 (0)) (p_a.Idxs.length - 0) ?_ ?_)))))))))
 ·exact ⟨0, 0, rfl, (by omega), Nat.le_refl _, rfl, rfl, rfl, rfl, rfl, q25, (RdS.ex good_Str (RdS.ex good_Str h1 hE18) hE24), (RdS.ex good_Idx (RdS.ex good_Idx h2 hE18) hE24), hB23, (RdS.ex good_Str (RdS.ex good_Str h4 hE18) hE24), (RdS.ex good_Idx (RdS.ex good_Idx h5 hE18) hE24), (Ex.trans (Ex.trans (Ex.refl w) hE18) hE24), rfl⟩
 ·rintro m41 L42 w43 ⟨k26, x27, rfl, hk44, hsz46, hl47, hl48, hl49, hl50, hl51, hf52, hf53, hf54, hf55, hf56, hf57, hf58, hI45⟩
  refine CW.sub (Sub.cons hl47 (Sub.cons hl48 (Sub.cons hl49 (Sub.cons hl50 (Sub.cons hl51 (Sub.nil _)))))) ?_
  have hf52z := Box.lt hf52
  have hf55z := Box.lt hf55
  have hf58z := Ex.size hf58
  have hbg59 := RdS.big hf54
  rcases Nat.lt_or_ge k26 p_a.Idxs.length with hlt60 | hlt60
  ·refine CW.seq (CW.region (sd rfl (yl_lss rfl rfl rfl (SeqR.done (tn (CW.seq (CW.cond_t rfl (lt_t hlt60) (CW.skip (tn ?_)))))))))
   refine CW.seq (CW.block (CW.seq (CW.region (sd rfl (yl_move rfl rfl (sd rfl (yl_assign rfl rfl (SeqR.done (tn (CW.seq ?_))))))))))
   obtain ⟨eb61, eo61, ec61, eA61, eS61, ebl61, el61, eR61, eC61⟩ := RdS.atD hf54 d_Idx (i := k26) (by first | omega | assumption)
   obtain rfl := eR61
   have eC61 : Cells w43 eb61 (eo61 + k26 * 3) [.string (bs ((p_a.Idxs.getD k26 d_Idx).Name)), .int .i64 ((p_a.Idxs.getD k26 d_Idx).Col), .int .i64 ((p_a.Idxs.getD k26 d_Idx).Stage)] := eC61
   obtain ⟨eb62, eo62, ec62, eA62, eS62, ebl62, el62, eR62, eC62⟩ := RdS.atD hf57 d_Idx (i := k26) (by first | omega | assumption)
   obtain rfl := eR62
   have eC62 : Cells w43 eb62 (eo62 + k26 * 3) [.string (bs ((p_b.Idxs.getD k26 d_Idx).Name)), .int .i64 ((p_b.Idxs.getD k26 d_Idx).Col), .int .i64 ((p_b.Idxs.getD k26 d_Idx).Stage)] := eC62
   refine CW.drawsI 14 (vgetI [DetI (.pointer (some ⟨b13, 0 + 2, none⟩)), DetI (.slice A2 p_a.Idxs.length c2), DetI (.int .i64 ((k26 : Int))), DetI (.pointer (some ⟨eb61, eo61 + k26 * 3, none⟩)), DetI (.pointer (some ⟨eb61, eo61 + k26 * 3 + 2, none⟩)), DetI (.int .i64 ((p_a.Idxs.getD k26 d_Idx).Stage)), DetI (.pointer (some ⟨b19, 0 + 2, none⟩)), DetI (.slice A5 p_b.Idxs.length c5), DetI (.int .i64 ((k26 : Int))), DetI (.pointer (some ⟨eb62, eo62 + k26 * 3, none⟩)), DetI (.pointer (some ⟨eb62, eo62 + k26 * 3 + 2, none⟩)), DetI (.int .i64 ((p_b.Idxs.getD k26 d_Idx).Stage)), DetI (.int .i64 (IntKind.wrap .i64 (((p_a.Idxs.getD k26 d_Idx).Stage) - ((p_b.Idxs.getD k26 d_Idx).Stage)))), DetI (.int .i64 (IntKind.wrap .i64 (((p_a.Idxs.getD k26 d_Idx).Stage) - ((p_b.Idxs.getD k26 d_Idx).Stage))))]) Tryz.follows rfl rfl rfl rfl rfl rfl (vgetI_stable ⟨StableI.det _, StableI.det _, StableI.det _, StableI.det _, StableI.det _, StableI.det _, StableI.det _, StableI.det _, StableI.det _, StableI.det _, StableI.det _, StableI.det _, StableI.det _, StableI.det _, trivial⟩) ⟨?_, ?_, ?_, ?_, ?_, ?_, ?_, ?_, ?_, ?_, ?_, ?_, ?_, ?_, trivial⟩ ?_
   ·exact fun _ _ h => os rfl ((yl_fieldAddr Tryz.fd95_2 rfl (h.old 2 _ rfl rfl) kI))
   ·exact fun _ _ h => os rfl ((yl_load1 Tryz.ty93 rfl (h.dt 0 14 rfl rfl rfl) (((Box.ex hf52 h.ex).cell 2).trans rfl) kI))
   ·exact fun _ _ h => os rfl ((yl_move rfl (h.old 6 _ rfl rfl) kI))
   ·intro L79 w80 hi81
    have hE82 := hi81.ex
    have hE82z := Ex.size hE82
    exact os rfl ((yl_indexAddrN Tryz.un93 Tryz.ty137 rfl (hi81.dt 1 15 rfl rfl rfl) (hi81.dt 2 16 rfl rfl rfl) eA61 (by first | omega | assumption | (simp only [IntKind.wrap_i64] at *; omega)) kI))
   ·exact fun _ _ h => os rfl ((yl_fieldAddr Tryz.fd137_2 rfl (h.dt 3 17 rfl rfl rfl) kI))
   ·exact fun _ _ h => os rfl ((yl_load1 Tryz.ty3 rfl (h.dt 4 18 rfl rfl rfl) ((Cells.ex eC61 h.ex) 2 _ rfl) kI))
   ·exact fun _ _ h => os rfl ((yl_fieldAddr Tryz.fd95_2 rfl (h.old 3 _ rfl rfl) kI))
   ·exact fun _ _ h => os rfl ((yl_load1 Tryz.ty93 rfl (h.dt 6 20 rfl rfl rfl) (((Box.ex hf55 h.ex).cell 2).trans rfl) kI))
   ·exact fun _ _ h => os rfl ((yl_move rfl (h.old 6 _ rfl rfl) kI))
   ·intro L112 w113 hi114
    have hE115 := hi114.ex
    have hE115z := Ex.size hE115
    exact os rfl ((yl_indexAddrN Tryz.un93 Tryz.ty137 rfl (hi114.dt 7 21 rfl rfl rfl) (hi114.dt 8 22 rfl rfl rfl) eA62 (by first | omega | assumption | (simp only [IntKind.wrap_i64] at *; omega)) kI))
   ·exact fun _ _ h => os rfl ((yl_fieldAddr Tryz.fd137_2 rfl (h.dt 9 23 rfl rfl rfl) kI))
   ·exact fun _ _ h => os rfl ((yl_load1 Tryz.ty3 rfl (h.dt 10 24 rfl rfl rfl) ((Cells.ex eC62 h.ex) 2 _ rfl) kI))
   ·exact fun _ _ h => os rfl ((yl_sub rfl (h.dt 5 19 rfl rfl rfl) (h.dt 11 25 rfl rfl rfl) kI))
   ·exact fun _ _ h => os rfl ((yl_assign rfl (h.dt 12 26 rfl rfl rfl) kI))
   ·intro fl143 fh144 L140 w141 hp142
    have hE145 := hp142.ex
    have hE145z := Ex.size hE145
    refine SeqR.done (tn (CW.sub (Sub.cons (d := 2) (hp142.old 2 _ rfl rfl) (Sub.cons (d := 3) (hp142.old 3 _ rfl rfl) (Sub.cons (d := 5) (hp142.old 5 _ rfl rfl) (Sub.cons (d := 7) (hp142.nt 13 7 rfl rfl rfl) (Sub.cons (d := 10) (hp142.old 10 _ rfl rfl) (Sub.cons (d := 11) (hp142.old 11 _ rfl rfl) (Sub.nil _))))))) (CW.region (sd rfl (yl_move rfl rfl (sd rfl (yl_move rfl rfl (sd rfl (yl_move rfl rfl (sd rfl (yl_neg rfl rfl (sd rfl (yl_call Tryz.en124 rfl (opvs_cons rfl (opvs_cons rfl opvs_nil)) (Cal.mono (c_s_l1Most (IntKind.wrap .i64 (((p_a.Idxs.getD k26 d_Idx).Stage) - ((p_b.Idxs.getD k26 d_Idx).Stage))) (IntKind.wrap .i64 (0 - (IntKind.wrap .i64 (((p_a.Idxs.getD k26 d_Idx).Stage) - ((p_b.Idxs.getD k26 d_Idx).Stage)))))) ?_))))))))))))))
    rintro v153 w152 ⟨rfl, hE154⟩
    have hE154z := Ex.size hE154
    refine sd rfl (yl_add rfl rfl rfl (sd rfl (yl_assign rfl rfl (SeqR.done (bn (tn (CW.region (sd rfl (yl_inc rfl rfl rfl (by omega) (sd rfl (yl_move rfl rfl (SeqR.done ?_))))))))))))
    refine tn ?_
    have hB155 : B_s_l24Far_0 p_a p_b k26 (x27) = .cont (IntKind.wrap .i64 (x27 + (s_l1Most (IntKind.wrap .i64 (((p_a.Idxs.getD k26 d_Idx).Stage) - ((p_b.Idxs.getD k26 d_Idx).Stage))) (IntKind.wrap .i64 (0 - (IntKind.wrap .i64 (((p_a.Idxs.getD k26 d_Idx).Stage) - ((p_b.Idxs.getD k26 d_Idx).Stage)))))))) := by simp only [B_s_l24Far_0, cond_true, cond_false, loopE_done, loopE_ret]
    exact ⟨p_a.Idxs.length - (k26 + 1), by omega, k26 + 1, IntKind.wrap .i64 (x27 + (s_l1Most (IntKind.wrap .i64 (((p_a.Idxs.getD k26 d_Idx).Stage) - ((p_b.Idxs.getD k26 d_Idx).Stage))) (IntKind.wrap .i64 (0 - (IntKind.wrap .i64 (((p_a.Idxs.getD k26 d_Idx).Stage) - ((p_b.Idxs.getD k26 d_Idx).Stage))))))), rfl, hlt60, (by omega), rfl, rfl, rfl, rfl, rfl, (Box.ex (Box.ex hf52 hE145) hE154), (RdS.ex good_Str (RdS.ex good_Str hf53 hE145) hE154), (RdS.ex good_Idx (RdS.ex good_Idx hf54 hE145) hE154), (Box.ex (Box.ex hf55 hE145) hE154), (RdS.ex good_Str (RdS.ex good_Str hf56 hE145) hE154), (RdS.ex good_Idx (RdS.ex good_Idx hf57 hE145) hE154), (Ex.trans (Ex.trans hf58 hE145) hE154), (loopM.cont hlt60 hB155).symm.trans hI45⟩
  ·refine CW.seq (CW.region (sd rfl (yl_lss rfl rfl rfl (SeqR.done (tn (CW.seq (CW.cond_f rfl (lt_f hlt60) (CW.exit (tx ?_)))))))))
   refine tx ?_
   have hL170 : loopM (B_s_l24Far_0 p_a p_b) (p_a.Idxs.length - 0) 0 (0) = .done (x27) := hI45.symm.trans (loopM.stop hlt60)
   refine bx (tn (CW.seq (CW.region (sd rfl (yl_move rfl rfl (sd rfl (yl_assign rfl rfl (SeqR.done (tn (CW.ret ?_))))))))))
   refine rr rfl (.cons rfl .nil) ?_
   have hM171 : (s_l24Far p_a p_b) = (x27) := by simp only [s_l24Far, hL170, cond_true, cond_false, loopE_done, loopE_ret]
   rw [hM171]
   exact ⟨rfl, hf58⟩
set_option maxRecDepth 100000 in
set_option maxHeartbeats 2000000 in
theorem c_s_l27Ways {A1 : Option Addr} {c1 : Nat} {A2 : Option Addr} {c2 : Nat} {A3 : Option Addr} {c3 : Nat} {w : World} (p_0 : DShift) (h1 : RdS w (Iv 0 w.heap.size) R_Table 3 A1 p_0.Ways.length c1 p_0.Ways) (h2 : RdS w (Iv 0 w.heap.size) (RF e_Int) 1 A2 p_0.At.length c2 p_0.At) (h3 : RdS w (Iv 0 w.heap.size) (RF e_Write) 3 A3 p_0.Store.length c3 p_0.Store) (o4 : ok_Shift p_0) : Cal Tryz.prog 54 #[.agg #[.string (bs (p_0.Name)), .slice A1 p_0.Ways.length c1, .slice A2 p_0.At.length c2, .slice A3 p_0.Store.length c3]] w fun v w' => v = .bool ((s_l27Ways p_0)) ∧ Ex w w' := by
 have hol5 : p_0.Name.length ≤ 1073741824 := o4.1
 have hol6 := o4.2.1.1
 have hol7 := o4.2.2.1.1
 have hol8 := o4.2.2.2.1
 refine Cal.of (vs := [.agg #[.string (bs (p_0.Name)), .slice A1 p_0.Ways.length c1, .slice A2 p_0.At.length c2, .slice A3 p_0.Store.length c3]]) Tryz.func54 rfl Tryz.ntmps54 rfl (CW.seq (CW.region (sd rfl (yl_box (cs := [.string (bs (p_0.Name)), .slice A1 p_0.Ways.length c1, .slice A2 p_0.At.length c2, .slice A3 p_0.Store.length c3]) rfl rfl rfl ?_))))
 intro b9 w10 hs11 hz12 hB13 hE14
 refine sd rfl (yl_assign rfl rfl (SeqR.done (tn (CW.seq (CW.seq (bcase (s_l1In (p_0.Ways.length : Int) 1 4) (fun hb16 => ?_) (fun hb16 => ?_)))))))
 ·have hb16p := f_l1In hb16
  obtain ⟨eb19, eo19, ec19, eA19, eS19, ebl19, el19, eR19, eC19⟩ := RdS.atD (RdS.ex good_Table h1 hE14) d_Table (i := 0) (by first | omega | assumption)
  obtain ⟨A20, c20, A21, c21, rfl, h20, h21⟩ := eR19
  have eC19 : Cells w10 eb19 (eo19 + 0 * 3) [.string (bs ((p_0.Ways.getD 0 d_Table).Name)), .slice A20 (((p_0.Ways.getD 0 d_Table).Cols).length) c20, .slice A21 (((p_0.Ways.getD 0 d_Table).Idxs).length) c21] := eC19
  refine bcase (s_GoodTable (p_0.Ways.getD 0 d_Table)) (fun hb23 => ?_) (fun hb23 => ?_)
  ·have hb23p := f_s_GoodTable hb23
   have q25 := RdS.ex good_Table h1 hE14
   obtain ⟨eb26, eo26, ec26, eA26, eS26, ebl26, el26, eR26, eC26⟩ := RdS.atD q25 d_Table (i := 0) (by first | omega | assumption)
   obtain ⟨A27, c27, A28, c28, rfl, h27, h28⟩ := eR26
   have eC26 : Cells w10 eb26 (eo26 + 0 * 3) [.string (bs ((p_0.Ways.getD 0 d_Table).Name)), .slice A27 (((p_0.Ways.getD 0 d_Table).Cols).length) c27, .slice A28 (((p_0.Ways.getD 0 d_Table).Idxs).length) c28] := eC26
   have hrf31 := rf_s_l24Idx (p_0.Ways.getD 0 d_Table) p_0.Name
   refine CW.drawsI 23 (vgetI [DetI (.pointer (some ⟨b9, 0 + 1, none⟩)), DetI (.slice A1 p_0.Ways.length c1), DetI (.int .i64 ((p_0.Ways.length : Int))), DetI (.bool ((s_l1In (p_0.Ways.length : Int) 1 4))), DetI (.bool (!(s_l1In (p_0.Ways.length : Int) 1 4))), DetI (.bool (!(s_l1In (p_0.Ways.length : Int) 1 4))), DetI (.pointer (some ⟨b9, 0 + 1, none⟩)), DetI (.slice A1 p_0.Ways.length c1), DetI (.pointer (some ⟨eb26, eo26 + 0 * 3, none⟩)), DetI (.agg #[.string (bs ((p_0.Ways.getD 0 d_Table).Name)), .slice A27 (((p_0.Ways.getD 0 d_Table).Cols).length) c27, .slice A28 (((p_0.Ways.getD 0 d_Table).Idxs).length) c28]), DetI (.bool ((s_GoodTable (p_0.Ways.getD 0 d_Table)))), DetI (.bool (!(s_GoodTable (p_0.Ways.getD 0 d_Table)))), DetI (.bool (!(s_GoodTable (p_0.Ways.getD 0 d_Table)))), DetI (.bool (!(s_GoodTable (p_0.Ways.getD 0 d_Table)))), DetI (.pointer (some ⟨b9, 0 + 1, none⟩)), DetI (.slice A1 p_0.Ways.length c1), DetI (.pointer (some ⟨eb26, eo26 + 0 * 3, none⟩)), DetI (.agg #[.string (bs ((p_0.Ways.getD 0 d_Table).Name)), .slice A27 (((p_0.Ways.getD 0 d_Table).Cols).length) c27, .slice A28 (((p_0.Ways.getD 0 d_Table).Idxs).length) c28]), DetI (.pointer (some ⟨b9, 0 + 0, none⟩)), DetI (.string (bs (p_0.Name))), DetI (.int .i64 ((s_l24Idx (p_0.Ways.getD 0 d_Table) p_0.Name))), DetI (.bool (decide ((s_l24Idx (p_0.Ways.getD 0 d_Table) p_0.Name) < 0))), DetI (.bool (decide ((s_l24Idx (p_0.Ways.getD 0 d_Table) p_0.Name) < 0)))]) Tryz.follows rfl rfl rfl rfl rfl rfl (vgetI_stable ⟨StableI.det _, StableI.det _, StableI.det _, StableI.det _, StableI.det _, StableI.det _, StableI.det _, StableI.det _, StableI.det _, StableI.det _, StableI.det _, StableI.det _, StableI.det _, StableI.det _, StableI.det _, StableI.det _, StableI.det _, StableI.det _, StableI.det _, StableI.det _, StableI.det _, StableI.det _, StableI.det _, trivial⟩) ⟨?_, ?_, ?_, ?_, ?_, ?_, ?_, ?_, ?_, ?_, ?_, ?_, ?_, ?_, ?_, ?_, ?_, ?_, ?_, ?_, ?_, ?_, ?_, trivial⟩ ?_
   ·exact fun _ _ h => os rfl ((yl_fieldAddr Tryz.fd40_1 rfl (h.old 1 _ rfl rfl) kI))
   ·exact fun _ _ h => os rfl ((yl_load1 Tryz.ty37 rfl (h.dt 0 6 rfl rfl rfl) (((Box.ex hB13 h.ex).cell 1).trans rfl) kI))
   ·exact fun _ _ h => os rfl ((yl_len Tryz.un37 rfl (h.dt 1 7 rfl rfl rfl) kI))
   ·intro L48 w49 hi50
    refine OpR.op' rfl (yl_call Tryz.en55 rfl (opvs_cons (hi50.dt 2 8 rfl rfl rfl) (opvs_cons rfl (opvs_cons rfl opvs_nil))) (Cal.mono (c_s_l1In (p_0.Ways.length : Int) 1 4) ?_))
    rintro v54 w53 ⟨rfl, hE55⟩
    exact ⟨rfl, hE55⟩
   ·exact fun _ _ h => os rfl ((yl_not rfl (h.dt 3 9 rfl rfl rfl) kI))
   ·exact fun _ _ h => os rfl ((yl_move rfl (h.dt 4 10 rfl rfl rfl) kI))
   ·exact fun _ _ h => OpR.want rfl rfl (h.dt 5 11 rfl rfl rfl) (not_t hb16) (Yl.sameI (yl_fieldAddr Tryz.fd40_1 rfl (h.old 1 _ rfl rfl) kI))
   ·exact fun _ _ h => OpR.want rfl rfl (h.dt 5 11 rfl rfl rfl) (not_t hb16) (Yl.sameI (yl_load1 Tryz.ty37 rfl (h.dt 6 12 rfl rfl rfl) (((Box.ex hB13 h.ex).cell 1).trans rfl) kI))
   ·intro L79 w80 hi81
    have hE82 := hi81.ex
    have hE82z := Ex.size hE82
    exact OpR.want rfl rfl (hi81.dt 5 11 rfl rfl rfl) (not_t hb16) (Yl.sameI (yl_indexAddrN Tryz.un37 Tryz.ty95 rfl (hi81.dt 7 13 rfl rfl rfl) rfl eA26 (by first | omega | assumption | (simp only [IntKind.wrap_i64] at *; omega)) kI))
   ·exact fun _ _ h => OpR.want rfl rfl (h.dt 5 11 rfl rfl rfl) (not_t hb16) (Yl.sameI (yl_loadN (cs := [.string (bs ((p_0.Ways.getD 0 d_Table).Name)), .slice A27 (((p_0.Ways.getD 0 d_Table).Cols).length) c27, .slice A28 (((p_0.Ways.getD 0 d_Table).Idxs).length) c28]) Tryz.ty95 rfl (h.dt 8 14 rfl rfl rfl) (Cells.ex eC26 h.ex) rfl kI))
   ·intro L92 w93 hi94
    have hE95 := hi94.ex
    refine OpR.want rfl rfl (hi94.dt 5 11 rfl rfl rfl) (not_t hb16) (yl_call Tryz.en88 rfl (opvs_cons (hi94.dt 9 15 rfl rfl rfl) opvs_nil) (Cal.mono (c_s_GoodTable (p_0.Ways.getD 0 d_Table) (RdS.up (RdS.ex good_Str h27 hE95) good_Str) (RdS.up (RdS.ex good_Idx h28 hE95) good_Idx) (okL.getD o4.2.1 ok_d_Table _)) ?_))
    rintro v101 w100 ⟨rfl, hE102⟩
    exact ⟨rfl, hE102⟩
   ·exact fun _ _ h => OpR.want rfl rfl (h.dt 5 11 rfl rfl rfl) (not_t hb16) (Yl.sameI (yl_not rfl (h.dt 10 16 rfl rfl rfl) kI))
   ·exact fun _ _ h => os rfl ((yl_pick_f rfl (h.dt 5 11 rfl rfl rfl) (not_t hb16) (h.dt 11 17 rfl rfl rfl) kI))
   ·exact fun _ _ h => os rfl ((yl_move rfl (h.dt 12 18 rfl rfl rfl) kI))
   ·exact fun _ _ h => OpR.want rfl rfl (h.dt 13 19 rfl rfl rfl) (not_t hb23) (Yl.sameI (yl_fieldAddr Tryz.fd40_1 rfl (h.old 1 _ rfl rfl) kI))
   ·exact fun _ _ h => OpR.want rfl rfl (h.dt 13 19 rfl rfl rfl) (not_t hb23) (Yl.sameI (yl_load1 Tryz.ty37 rfl (h.dt 14 20 rfl rfl rfl) (((Box.ex hB13 h.ex).cell 1).trans rfl) kI))
   ·intro L133 w134 hi135
    have hE136 := hi135.ex
    have hE136z := Ex.size hE136
    exact OpR.want rfl rfl (hi135.dt 13 19 rfl rfl rfl) (not_t hb23) (Yl.sameI (yl_indexAddrN Tryz.un37 Tryz.ty95 rfl (hi135.dt 15 21 rfl rfl rfl) rfl eA26 (by first | omega | assumption | (simp only [IntKind.wrap_i64] at *; omega)) kI))
   ·exact fun _ _ h => OpR.want rfl rfl (h.dt 13 19 rfl rfl rfl) (not_t hb23) (Yl.sameI (yl_loadN (cs := [.string (bs ((p_0.Ways.getD 0 d_Table).Name)), .slice A27 (((p_0.Ways.getD 0 d_Table).Cols).length) c27, .slice A28 (((p_0.Ways.getD 0 d_Table).Idxs).length) c28]) Tryz.ty95 rfl (h.dt 16 22 rfl rfl rfl) (Cells.ex eC26 h.ex) rfl kI))
   ·exact fun _ _ h => OpR.want rfl rfl (h.dt 13 19 rfl rfl rfl) (not_t hb23) (Yl.sameI (yl_fieldAddr Tryz.fd40_0 rfl (h.old 1 _ rfl rfl) kI))
   ·exact fun _ _ h => OpR.want rfl rfl (h.dt 13 19 rfl rfl rfl) (not_t hb23) (Yl.sameI (yl_load1 Tryz.ty9 rfl (h.dt 18 24 rfl rfl rfl) (((Box.ex hB13 h.ex).cell 0).trans rfl) kI))
   ·intro L159 w160 hi161
    have hE162 := hi161.ex
    refine OpR.want rfl rfl (hi161.dt 13 19 rfl rfl rfl) (not_t hb23) (yl_call Tryz.en89 rfl (opvs_cons (hi161.dt 17 23 rfl rfl rfl) (opvs_cons (hi161.dt 19 25 rfl rfl rfl) opvs_nil)) (Cal.mono (c_s_l24Idx (p_0.Ways.getD 0 d_Table) p_0.Name (RdS.up (RdS.ex good_Str h27 hE162) good_Str) (RdS.up (RdS.ex good_Idx h28 hE162) good_Idx) (okL.getD o4.2.1 ok_d_Table _) o4.1) ?_))
    rintro v169 w168 ⟨rfl, hE170⟩
    exact ⟨rfl, hE170⟩
   ·exact fun _ _ h => OpR.want rfl rfl (h.dt 13 19 rfl rfl rfl) (not_t hb23) (Yl.sameI (yl_lss rfl (h.dt 20 26 rfl rfl rfl) rfl kI))
   ·exact fun _ _ h => os rfl ((yl_pick_f rfl (h.dt 13 19 rfl rfl rfl) (not_t hb23) (h.dt 21 27 rfl rfl rfl) kI))
   ·intro fl186 fh187 L183 w184 hp185
    have hE188 := hp185.ex
    have hE188z := Ex.size hE188
    refine SeqR.done (tn (CW.sub (Sub.cons (d := 1) (hp185.old 1 _ rfl rfl) (Sub.cons (d := 28) (hp185.nt 22 28 rfl rfl rfl) (Sub.nil _))) (bcase (decide ((s_l24Idx (p_0.Ways.getD 0 d_Table) p_0.Name) < 0)) (fun hb191 => ?_) (fun hb191 => ?_))))
    ·have hb191p := dec_t hb191
     refine CW.cond_t rfl hb191 (CW.seq (CW.region (sd rfl (yl_assign rfl rfl (SeqR.done (tn (CW.ret (tr (rr rfl (.cons rfl .nil) ?_)))))))))
     have hM192 : (s_l27Ways p_0) = (false) := by simp only [s_l27Ways, hb16, hb23, hb191, cond_true, cond_false, loopE_done, loopE_ret]
     rw [hM192]
     exact ⟨rfl, (Ex.trans (Ex.trans (Ex.refl w) hE14) hE188)⟩
    ·have hb191p := dec_f hb191
     refine CW.cond_f rfl hb191 (CW.skip (tn (CW.seq (CW.region (sd rfl (yl_fieldAddr Tryz.fd40_1 rfl rfl ?_))))))
     have q195 := Box.ex hB13 hE188
     refine sd rfl (yl_load1 Tryz.ty37 rfl rfl ((q195.cell 1).trans rfl) (sd rfl (yl_fieldAddr Tryz.fd40_1 rfl rfl (sd rfl (yl_load1 Tryz.ty37 rfl rfl ((q195.cell 1).trans rfl) (sd rfl (yl_len Tryz.un37 rfl rfl (sd rfl (yl_sub rfl rfl rfl ?_)))))))))
     have q196 := RdS.ex good_Table q25 hE188
     obtain ⟨eb197, eo197, ec197, eA197, eS197, ebl197, el197, eR197, eC197⟩ := RdS.atD q196 d_Table (i := (IntKind.wrap .i64 ((p_0.Ways.length : Int) - 1)).toNat) (by first | omega | assumption | (simp only [IntKind.wrap_i64] at *; omega))
     obtain ⟨A198, c198, A199, c199, rfl, h198, h199⟩ := eR197
     have eC197 : Cells w184 eb197 (eo197 + ((IntKind.wrap .i64 ((p_0.Ways.length : Int) - 1)).toNat) * 3) [.string (bs ((p_0.Ways.getD ((IntKind.wrap .i64 ((p_0.Ways.length : Int) - 1)).toNat) d_Table).Name)), .slice A198 (((p_0.Ways.getD ((IntKind.wrap .i64 ((p_0.Ways.length : Int) - 1)).toNat) d_Table).Cols).length) c198, .slice A199 (((p_0.Ways.getD ((IntKind.wrap .i64 ((p_0.Ways.length : Int) - 1)).toNat) d_Table).Idxs).length) c199] := eC197
     refine sd rfl (yl_indexAddr Tryz.un37 Tryz.ty95 rfl rfl rfl eA197 (by first | omega | assumption | (simp only [IntKind.wrap_i64] at *; omega)) (by first | omega | assumption | (simp only [IntKind.wrap_i64] at *; omega)) (sd rfl (yl_loadN (cs := [.string (bs ((p_0.Ways.getD ((IntKind.wrap .i64 ((p_0.Ways.length : Int) - 1)).toNat) d_Table).Name)), .slice A198 (((p_0.Ways.getD ((IntKind.wrap .i64 ((p_0.Ways.length : Int) - 1)).toNat) d_Table).Cols).length) c198, .slice A199 (((p_0.Ways.getD ((IntKind.wrap .i64 ((p_0.Ways.length : Int) - 1)).toNat) d_Table).Idxs).length) c199]) Tryz.ty95 rfl rfl eC197 rfl (sd rfl (yl_alloc Tryz.ty95 (cs := [.string (bs (([] : Str))), .slice none 0 0, .slice none 0 0]) rfl rfl ?_)))))
     intro b200 w201 hs202 hz203 hB204 hE205
     refine SeqR.u rfl rfl (yl_store (vs := [.string (bs ((p_0.Ways.getD ((IntKind.wrap .i64 ((p_0.Ways.length : Int) - 1)).toNat) d_Table).Name)), .slice A198 (((p_0.Ways.getD ((IntKind.wrap .i64 ((p_0.Ways.length : Int) - 1)).toNat) d_Table).Cols).length) c198, .slice A199 (((p_0.Ways.getD ((IntKind.wrap .i64 ((p_0.Ways.length : Int) - 1)).toNat) d_Table).Idxs).length) c199]) Tryz.ty95 rfl rfl rfl rfl rfl rfl hB204 (Nat.le_of_ble_eq_true rfl) ?_)
     intro w206 hB207 hO208
     have hB207 : Box w206 b200 95 [.string (bs ((p_0.Ways.getD ((IntKind.wrap .i64 ((p_0.Ways.length : Int) - 1)).toNat) d_Table).Name)), .slice A198 (((p_0.Ways.getD ((IntKind.wrap .i64 ((p_0.Ways.length : Int) - 1)).toNat) d_Table).Cols).length) c198, .slice A199 (((p_0.Ways.getD ((IntKind.wrap .i64 ((p_0.Ways.length : Int) - 1)).toNat) d_Table).Idxs).length) c199] := hB207
     have hO208z := hO208.size
     refine SeqR.done (tn (CW.seq (CW.seq (CW.region (sd rfl (yl_loadN (cs := [.string (bs ((p_0.Ways.getD ((IntKind.wrap .i64 ((p_0.Ways.length : Int) - 1)).toNat) d_Table).Name)), .slice A198 (((p_0.Ways.getD ((IntKind.wrap .i64 ((p_0.Ways.length : Int) - 1)).toNat) d_Table).Cols).length) c198, .slice A199 (((p_0.Ways.getD ((IntKind.wrap .i64 ((p_0.Ways.length : Int) - 1)).toNat) d_Table).Idxs).length) c199]) Tryz.ty95 rfl rfl (hB207.cells (n := 3) rfl) rfl ?_))))))
     have q210 := RdS.only good_Str (RdS.ex good_Str h198 hE205) hO208 (by simp only [Iv]; omega)
     have q212 := RdS.only good_Idx (RdS.ex good_Idx h199 hE205) hO208 (by simp only [Iv]; omega)
     refine sd rfl (yl_call Tryz.en88 rfl (opvs_cons rfl opvs_nil) (Cal.mono (c_s_GoodTable (p_0.Ways.getD ((IntKind.wrap .i64 ((p_0.Ways.length : Int) - 1)).toNat) d_Table) (RdS.up q210 good_Str) (RdS.up q212 good_Idx) (okL.getD o4.2.1 ok_d_Table _)) ?_))
     rintro v214 w213 ⟨rfl, hE215⟩
     have hE215z := Ex.size hE215
     refine sd rfl (yl_not rfl rfl (sd rfl (yl_move rfl rfl (bcase (s_GoodTable (p_0.Ways.getD ((IntKind.wrap .i64 ((p_0.Ways.length : Int) - 1)).toNat) d_Table)) (fun hb216 => ?_) (fun hb216 => ?_)))))
     ·have hb216p := f_s_GoodTable hb216
      have q217 := Box.ex hB207 hE215
      refine sy rfl rfl (not_t hb216) (yl_loadN (cs := [.string (bs ((p_0.Ways.getD ((IntKind.wrap .i64 ((p_0.Ways.length : Int) - 1)).toNat) d_Table).Name)), .slice A198 (((p_0.Ways.getD ((IntKind.wrap .i64 ((p_0.Ways.length : Int) - 1)).toNat) d_Table).Cols).length) c198, .slice A199 (((p_0.Ways.getD ((IntKind.wrap .i64 ((p_0.Ways.length : Int) - 1)).toNat) d_Table).Idxs).length) c199]) Tryz.ty95 rfl rfl (q217.cells (n := 3) rfl) rfl (sy rfl rfl (not_t hb216) (yl_fieldAddr Tryz.fd40_0 rfl rfl ?_)))
      have q220 := Box.ex (Box.only (Box.ex q195 hE205) hO208 (by omega)) hE215
      refine sy rfl rfl (not_t hb216) (yl_load1 Tryz.ty9 rfl rfl ((q220.cell 0).trans rfl) ?_)
      have q221 := RdS.ex good_Str q210 hE215
      have q222 := RdS.ex good_Idx q212 hE215
      refine sy rfl rfl (not_t hb216) (yl_call Tryz.en89 rfl (opvs_cons rfl (opvs_cons rfl opvs_nil)) (Cal.mono (c_s_l24Idx (p_0.Ways.getD ((IntKind.wrap .i64 ((p_0.Ways.length : Int) - 1)).toNat) d_Table) p_0.Name (RdS.up q221 good_Str) (RdS.up q222 good_Idx) (okL.getD o4.2.1 ok_d_Table _) o4.1) ?_))
      rintro v224 w223 ⟨rfl, hE225⟩
      have hE225z := Ex.size hE225
      have hrf226 := rf_s_l24Idx (p_0.Ways.getD ((IntKind.wrap .i64 ((p_0.Ways.length : Int) - 1)).toNat) d_Table) p_0.Name
      refine sy rfl rfl (not_t hb216) (yl_lss rfl rfl rfl (sd rfl (yl_pick_f rfl rfl (not_t hb216) rfl (SeqR.done (tn (bcase (decide ((s_l24Idx (p_0.Ways.getD ((IntKind.wrap .i64 ((p_0.Ways.length : Int) - 1)).toNat) d_Table) p_0.Name) < 0)) (fun hb227 => ?_) (fun hb227 => ?_)))))))
      ·have hb227p := dec_t hb227
       refine CW.cond_t rfl hb227 (CW.seq (CW.region (sd rfl (yl_assign rfl rfl (SeqR.done (tn (CW.ret (tr (rr rfl (.cons rfl .nil) ?_)))))))))
       have hM228 : (s_l27Ways p_0) = (false) := by simp only [s_l27Ways, hb16, hb23, hb191, hb216, hb227, cond_true, cond_false, loopE_done, loopE_ret]
       rw [hM228]
       exact ⟨rfl, (Ex.trans (Ex.trans (Below.only (Ex.trans (Ex.trans (Ex.trans (Ex.refl w) hE14) hE188) hE205) hO208 (by omega)) hE215) hE225)⟩
      ·have hb227p := dec_f hb227
       refine CW.cond_f rfl hb227 (CW.skip (tn (CW.seq ?_)))
       have q235 := Box.ex q220 hE225
       have q241 := Box.ex q217 hE225
       have q243 := RdS.ex good_Idx q222 hE225
       obtain ⟨eb245, eo245, ec245, eA245, eS245, ebl245, el245, eR245, eC245⟩ := RdS.atD q243 d_Idx (i := ((s_l24Idx (p_0.Ways.getD ((IntKind.wrap .i64 ((p_0.Ways.length : Int) - 1)).toNat) d_Table) p_0.Name)).toNat) (by first | omega | assumption | (simp only [IntKind.wrap_i64] at *; omega))
       obtain rfl := eR245
       have eC245 : Cells w223 eb245 (eo245 + (((s_l24Idx (p_0.Ways.getD ((IntKind.wrap .i64 ((p_0.Ways.length : Int) - 1)).toNat) d_Table) p_0.Name)).toNat) * 3) [.string (bs ((((p_0.Ways.getD ((IntKind.wrap .i64 ((p_0.Ways.length : Int) - 1)).toNat) d_Table).Idxs).getD (((s_l24Idx (p_0.Ways.getD ((IntKind.wrap .i64 ((p_0.Ways.length : Int) - 1)).toNat) d_Table) p_0.Name)).toNat) d_Idx).Name)), .int .i64 ((((p_0.Ways.getD ((IntKind.wrap .i64 ((p_0.Ways.length : Int) - 1)).toNat) d_Table).Idxs).getD (((s_l24Idx (p_0.Ways.getD ((IntKind.wrap .i64 ((p_0.Ways.length : Int) - 1)).toNat) d_Table) p_0.Name)).toNat) d_Idx).Col), .int .i64 ((((p_0.Ways.getD ((IntKind.wrap .i64 ((p_0.Ways.length : Int) - 1)).toNat) d_Table).Idxs).getD (((s_l24Idx (p_0.Ways.getD ((IntKind.wrap .i64 ((p_0.Ways.length : Int) - 1)).toNat) d_Table) p_0.Name)).toNat) d_Idx).Stage)] := eC245
       have hrf260 := rf_s_l24Idx (p_0.Ways.getD ((IntKind.wrap .i64 ((p_0.Ways.length : Int) - 1)).toNat) d_Table) p_0.Name
       refine CW.drawsI 17 (vgetI [DetI (.pointer (some ⟨b9, 0 + 1, none⟩)), DetI (.slice A1 p_0.Ways.length c1), DetI (.pointer (some ⟨eb26, eo26 + 0 * 3, none⟩)), DetI (.agg #[.string (bs ((p_0.Ways.getD 0 d_Table).Name)), .slice A27 (((p_0.Ways.getD 0 d_Table).Cols).length) c27, .slice A28 (((p_0.Ways.getD 0 d_Table).Idxs).length) c28]), DetI (.pointer (some ⟨b9, 0 + 0, none⟩)), DetI (.string (bs (p_0.Name))), DetI (.pointer (some ⟨b200, 0 + 2, none⟩)), DetI (.slice A199 (((p_0.Ways.getD ((IntKind.wrap .i64 ((p_0.Ways.length : Int) - 1)).toNat) d_Table).Idxs).length) c199), DetI (.agg #[.string (bs ((p_0.Ways.getD ((IntKind.wrap .i64 ((p_0.Ways.length : Int) - 1)).toNat) d_Table).Name)), .slice A198 (((p_0.Ways.getD ((IntKind.wrap .i64 ((p_0.Ways.length : Int) - 1)).toNat) d_Table).Cols).length) c198, .slice A199 (((p_0.Ways.getD ((IntKind.wrap .i64 ((p_0.Ways.length : Int) - 1)).toNat) d_Table).Idxs).length) c199]), DetI (.pointer (some ⟨b9, 0 + 0, none⟩)), DetI (.string (bs (p_0.Name))), DetI (.int .i64 ((s_l24Idx (p_0.Ways.getD ((IntKind.wrap .i64 ((p_0.Ways.length : Int) - 1)).toNat) d_Table) p_0.Name))), DetI (.pointer (some ⟨eb245, eo245 + (((s_l24Idx (p_0.Ways.getD ((IntKind.wrap .i64 ((p_0.Ways.length : Int) - 1)).toNat) d_Table) p_0.Name)).toNat) * 3, none⟩)), DetI (.pointer (some ⟨eb245, eo245 + (((s_l24Idx (p_0.Ways.getD ((IntKind.wrap .i64 ((p_0.Ways.length : Int) - 1)).toNat) d_Table) p_0.Name)).toNat) * 3 + 2, none⟩)), DetI (.int .i64 ((((p_0.Ways.getD ((IntKind.wrap .i64 ((p_0.Ways.length : Int) - 1)).toNat) d_Table).Idxs).getD (((s_l24Idx (p_0.Ways.getD ((IntKind.wrap .i64 ((p_0.Ways.length : Int) - 1)).toNat) d_Table) p_0.Name)).toNat) d_Idx).Stage)), fun lo hi v wq => ∃ A257 c257 lo257 hi257, v = .slice A257 ((s_l24Way (p_0.Ways.getD 0 d_Table) p_0.Name ((((p_0.Ways.getD ((IntKind.wrap .i64 ((p_0.Ways.length : Int) - 1)).toNat) d_Table).Idxs).getD (((s_l24Idx (p_0.Ways.getD ((IntKind.wrap .i64 ((p_0.Ways.length : Int) - 1)).toNat) d_Table) p_0.Name)).toNat) d_Idx).Stage)).length) c257 ∧ OwnL wq lo257 hi257 95 3 R_Table A257 ((s_l24Way (p_0.Ways.getD 0 d_Table) p_0.Name ((((p_0.Ways.getD ((IntKind.wrap .i64 ((p_0.Ways.length : Int) - 1)).toNat) d_Table).Idxs).getD (((s_l24Idx (p_0.Ways.getD ((IntKind.wrap .i64 ((p_0.Ways.length : Int) - 1)).toNat) d_Table) p_0.Name)).toNat) d_Idx).Stage)).length) c257 (s_l24Way (p_0.Ways.getD 0 d_Table) p_0.Name ((((p_0.Ways.getD ((IntKind.wrap .i64 ((p_0.Ways.length : Int) - 1)).toNat) d_Table).Idxs).getD (((s_l24Idx (p_0.Ways.getD ((IntKind.wrap .i64 ((p_0.Ways.length : Int) - 1)).toNat) d_Table) p_0.Name)).toNat) d_Idx).Stage)) ∧ (okL ok_Table) (s_l24Way (p_0.Ways.getD 0 d_Table) p_0.Name ((((p_0.Ways.getD ((IntKind.wrap .i64 ((p_0.Ways.length : Int) - 1)).toNat) d_Table).Idxs).getD (((s_l24Idx (p_0.Ways.getD ((IntKind.wrap .i64 ((p_0.Ways.length : Int) - 1)).toNat) d_Table) p_0.Name)).toNat) d_Idx).Stage)) ∧ (lo ≤ lo257 ∧ lo257 ≤ hi257 ∧ hi257 ≤ hi), fun lo hi v wq => ∃ A257 c257, v = .slice A257 ((s_l24Way (p_0.Ways.getD 0 d_Table) p_0.Name ((((p_0.Ways.getD ((IntKind.wrap .i64 ((p_0.Ways.length : Int) - 1)).toNat) d_Table).Idxs).getD (((s_l24Idx (p_0.Ways.getD ((IntKind.wrap .i64 ((p_0.Ways.length : Int) - 1)).toNat) d_Table) p_0.Name)).toNat) d_Idx).Stage)).length) c257 ∧ RdS wq (Ge w223.heap.size) R_Table 3 A257 (s_l24Way (p_0.Ways.getD 0 d_Table) p_0.Name ((((p_0.Ways.getD ((IntKind.wrap .i64 ((p_0.Ways.length : Int) - 1)).toNat) d_Table).Idxs).getD (((s_l24Idx (p_0.Ways.getD ((IntKind.wrap .i64 ((p_0.Ways.length : Int) - 1)).toNat) d_Table) p_0.Name)).toNat) d_Idx).Stage)).length c257 (s_l24Way (p_0.Ways.getD 0 d_Table) p_0.Name ((((p_0.Ways.getD ((IntKind.wrap .i64 ((p_0.Ways.length : Int) - 1)).toNat) d_Table).Idxs).getD (((s_l24Idx (p_0.Ways.getD ((IntKind.wrap .i64 ((p_0.Ways.length : Int) - 1)).toNat) d_Table) p_0.Name)).toNat) d_Idx).Stage))]) Tryz.follows rfl rfl rfl rfl rfl rfl (vgetI_stable ⟨StableI.det _, StableI.det _, StableI.det _, StableI.det _, StableI.det _, StableI.det _, StableI.det _, StableI.det _, StableI.det _, StableI.det _, StableI.det _, StableI.det _, StableI.det _, StableI.det _, StableI.det _, (fun _ _ _ _ _ ⟨A257, c257, lo257, hi257, hv, h257, ho258, hr0⟩ e => ⟨A257, c257, lo257, hi257, hv, OwnL.ex good_Table h257 e, ho258, hr0⟩), (fun _ _ _ _ _ ⟨A257, c257, hv, h259⟩ e => ⟨A257, c257, hv, RdS.ex good_Table h259 e⟩), trivial⟩) ⟨?_, ?_, ?_, ?_, ?_, ?_, ?_, ?_, ?_, ?_, ?_, ?_, ?_, ?_, ?_, ?_, ?_, trivial⟩ ?_
       ·exact fun _ _ h => os rfl ((yl_fieldAddr Tryz.fd40_1 rfl (h.old 1 _ rfl rfl) kI))
       ·exact fun _ _ h => os rfl ((yl_load1 Tryz.ty37 rfl (h.dt 0 47 rfl rfl rfl) (((Box.ex q235 h.ex).cell 1).trans rfl) kI))
       ·intro L272 w273 hi274
        have hE275 := hi274.ex
        have hE275z := Ex.size hE275
        exact os rfl ((yl_indexAddrN Tryz.un37 Tryz.ty95 rfl (hi274.dt 1 48 rfl rfl rfl) rfl eA26 (by first | omega | assumption | (simp only [IntKind.wrap_i64] at *; omega)) kI))
       ·intro L277 w278 hi279
        have hE280 := hi279.ex
        have hE280z := Ex.size hE280
        exact os rfl ((yl_loadN (cs := [.string (bs ((p_0.Ways.getD 0 d_Table).Name)), .slice A27 (((p_0.Ways.getD 0 d_Table).Cols).length) c27, .slice A28 (((p_0.Ways.getD 0 d_Table).Idxs).length) c28]) Tryz.ty95 rfl (hi279.dt 2 49 rfl rfl rfl) (Cells.ex (Cells.ex (Cells.ex (Cells.only (Cells.ex (Cells.ex eC26 hE188) hE205) hO208 (by omega)) hE215) hE225) hE280) rfl kI))
       ·exact fun _ _ h => os rfl ((yl_fieldAddr Tryz.fd40_0 rfl (h.old 1 _ rfl rfl) kI))
       ·exact fun _ _ h => os rfl ((yl_load1 Tryz.ty9 rfl (h.dt 4 51 rfl rfl rfl) (((Box.ex q235 h.ex).cell 0).trans rfl) kI))
       ·exact fun _ _ h => os rfl ((yl_fieldAddr Tryz.fd95_2 rfl (h.old 3 _ rfl rfl) kI))
       ·exact fun _ _ h => os rfl ((yl_load1 Tryz.ty93 rfl (h.dt 6 53 rfl rfl rfl) (((Box.ex q241 h.ex).cell 2).trans rfl) kI))
       ·exact fun _ _ h => os rfl ((yl_loadN (cs := [.string (bs ((p_0.Ways.getD ((IntKind.wrap .i64 ((p_0.Ways.length : Int) - 1)).toNat) d_Table).Name)), .slice A198 (((p_0.Ways.getD ((IntKind.wrap .i64 ((p_0.Ways.length : Int) - 1)).toNat) d_Table).Cols).length) c198, .slice A199 (((p_0.Ways.getD ((IntKind.wrap .i64 ((p_0.Ways.length : Int) - 1)).toNat) d_Table).Idxs).length) c199]) Tryz.ty95 rfl (h.old 3 _ rfl rfl) ((Box.ex q241 h.ex).cells (n := 3) rfl) rfl kI))
       ·exact fun _ _ h => os rfl ((yl_fieldAddr Tryz.fd40_0 rfl (h.old 1 _ rfl rfl) kI))
       ·exact fun _ _ h => os rfl ((yl_load1 Tryz.ty9 rfl (h.dt 9 56 rfl rfl rfl) (((Box.ex q235 h.ex).cell 0).trans rfl) kI))
       ·intro L322 w323 hi324
        have hE325 := hi324.ex
        refine OpR.op' rfl (yl_call Tryz.en89 rfl (opvs_cons (hi324.dt 8 55 rfl rfl rfl) (opvs_cons (hi324.dt 10 57 rfl rfl rfl) opvs_nil)) (Cal.mono (c_s_l24Idx (p_0.Ways.getD ((IntKind.wrap .i64 ((p_0.Ways.length : Int) - 1)).toNat) d_Table) p_0.Name (RdS.up (RdS.ex good_Str (RdS.ex good_Str q221 hE225) hE325) good_Str) (RdS.up (RdS.ex good_Idx q243 hE325) good_Idx) (okL.getD o4.2.1 ok_d_Table _) o4.1) ?_))
        rintro v331 w330 ⟨rfl, hE332⟩
        exact ⟨rfl, hE332⟩
       ·intro L333 w334 hi335
        have hE336 := hi335.ex
        have hE336z := Ex.size hE336
        exact os rfl ((yl_indexAddr Tryz.un93 Tryz.ty137 rfl (hi335.dt 7 54 rfl rfl rfl) (hi335.dt 11 58 rfl rfl rfl) eA245 (by first | omega | assumption | (simp only [IntKind.wrap_i64] at *; omega)) (by first | omega | assumption | (simp only [IntKind.wrap_i64] at *; omega)) kI))
       ·exact fun _ _ h => os rfl ((yl_fieldAddr Tryz.fd137_2 rfl (h.dt 12 59 rfl rfl rfl) kI))
       ·exact fun _ _ h => os rfl ((yl_load1 Tryz.ty3 rfl (h.dt 13 60 rfl rfl rfl) ((Cells.ex eC245 h.ex) 2 _ rfl) kI))
       ·intro L350 w351 hi352
        have hE353 := hi352.ex
        have hE353z := Ex.size hE353
        refine OpR.op' rfl (yl_call Tryz.en90 rfl (opvs_cons (hi352.dt 3 50 rfl rfl rfl) (opvs_cons (hi352.dt 5 52 rfl rfl rfl) (opvs_cons (hi352.dt 14 61 rfl rfl rfl) opvs_nil))) (Cal.mono (c_s_l24Way (p_0.Ways.getD 0 d_Table) p_0.Name ((((p_0.Ways.getD ((IntKind.wrap .i64 ((p_0.Ways.length : Int) - 1)).toNat) d_Table).Idxs).getD (((s_l24Idx (p_0.Ways.getD ((IntKind.wrap .i64 ((p_0.Ways.length : Int) - 1)).toNat) d_Table) p_0.Name)).toNat) d_Idx).Stage) (RdS.up (RdS.ex good_Str (RdS.ex good_Str (RdS.ex good_Str (RdS.only good_Str (RdS.ex good_Str (RdS.ex good_Str h27 hE188) hE205) hO208 (by simp only [Iv]; omega)) hE215) hE225) hE353) good_Str) (RdS.up (RdS.ex good_Idx (RdS.ex good_Idx (RdS.ex good_Idx (RdS.only good_Idx (RdS.ex good_Idx (RdS.ex good_Idx h28 hE188) hE205) hO208 (by simp only [Iv]; omega)) hE215) hE225) hE353) good_Idx) (okL.getD o4.2.1 ok_d_Table _) o4.1 (by first | omega | assumption | (simp only [IntKind.wrap_i64] at *; omega)) (stage_rng hb23 (by omega)) (stage_rng hb216 (by omega))) ?_))
        rintro v362 w359 ⟨A360, c360, lo360, hi360, rfl, h360, ho361, hrn364, hE363⟩
        exact ⟨⟨A360, c360, lo360, hi360, rfl, h360, ho361, hrn364⟩, hE363⟩
       ·intro L365 w366 hi367
        have hE368 := hi367.ex
        have hE368z := Ex.size hE368
        obtain ⟨lo370, hh371, _, hx369, hr372, hr373, hr374, A257_375, c257_376, lo257_377, hi257_378, rfl, h379, h380, hrn381⟩ := hi367.dep 15 62 rfl rfl
        exact os rfl ((yl_assign rfl hx369 ⟨fun _ _ => ⟨A257_375, c257_376, rfl, (RdS.ivG good_Table (OwnL.rd good_Table h379) (by omega))⟩, rfl⟩))
       ·intro fl385 fh386 L382 w383 hp384
        have hE387 := hp384.ex
        have hE387z := Ex.size hE387
        have hr390 := hp384.rng 15 rfl
        obtain ⟨_, hx389, A257_391, c257_392, lo257_393, hi257_394, rfl, h395, h396, hrn397⟩ := hp384.new 15 62 rfl rfl
        obtain ⟨_, hx398, A257_399, c257_400, rfl, h401⟩ := hp384.new 16 4 rfl rfl
        refine SeqR.done (tn (CW.sub (Sub.cons (d := 1) (hp384.old 1 _ rfl rfl) (Sub.cons (d := 4) hx398 (Sub.nil _))) (CW.seq (CW.seq (CW.region (sd rfl (yl_move rfl rfl (sd rfl (yl_len Tryz.un37 rfl rfl (sd rfl (yl_fieldAddr Tryz.fd40_1 rfl rfl ?_)))))))))))
        have q402 := Box.ex q235 hE387
        refine sd rfl (yl_load1 Tryz.ty37 rfl rfl ((q402.cell 1).trans rfl) (sd rfl (yl_len Tryz.un37 rfl rfl (sd rfl (yl_neq rfl rfl rfl (SeqR.done (tn (bcase (decide (((s_l24Way (p_0.Ways.getD 0 d_Table) p_0.Name ((((p_0.Ways.getD ((IntKind.wrap .i64 ((p_0.Ways.length : Int) - 1)).toNat) d_Table).Idxs).getD (((s_l24Idx (p_0.Ways.getD ((IntKind.wrap .i64 ((p_0.Ways.length : Int) - 1)).toNat) d_Table) p_0.Name)).toNat) d_Idx).Stage)).length : Int) = (p_0.Ways.length : Int))) (fun hb403 => ?_) (fun hb403 => ?_)))))))))
        ·have hb403p := dec_t hb403
         refine CW.cond_f rfl (not_t hb403) (CW.skip (tn (CW.seq (CW.seq (CW.region (sd rfl (yl_move rfl rfl (sd rfl (yl_len Tryz.un37 rfl rfl (sd rfl (yl_move rfl rfl ?_)))))))))))
         refine SeqR.done (tn (CW.block (CW.loop (fun m405 L406 w407 => ∃ (k404 : Nat), m405 = (s_l24Way (p_0.Ways.getD 0 d_Table) p_0.Name ((((p_0.Ways.getD ((IntKind.wrap .i64 ((p_0.Ways.length : Int) - 1)).toNat) d_Table).Idxs).getD (((s_l24Idx (p_0.Ways.getD ((IntKind.wrap .i64 ((p_0.Ways.length : Int) - 1)).toNat) d_Table) p_0.Name)).toNat) d_Idx).Stage)).length - k404 ∧ k404 ≤ (s_l24Way (p_0.Ways.getD 0 d_Table) p_0.Name ((((p_0.Ways.getD ((IntKind.wrap .i64 ((p_0.Ways.length : Int) - 1)).toNat) d_Table).Idxs).getD (((s_l24Idx (p_0.Ways.getD ((IntKind.wrap .i64 ((p_0.Ways.length : Int) - 1)).toNat) d_Table) p_0.Name)).toNat) d_Idx).Stage)).length ∧ w383.heap.size ≤ w407.heap.size ∧ lkp L406 1 = some (.pointer (some ⟨b9, 0, none⟩)) ∧ lkp L406 4 = some (.slice A257_399 ((s_l24Way (p_0.Ways.getD 0 d_Table) p_0.Name ((((p_0.Ways.getD ((IntKind.wrap .i64 ((p_0.Ways.length : Int) - 1)).toNat) d_Table).Idxs).getD (((s_l24Idx (p_0.Ways.getD ((IntKind.wrap .i64 ((p_0.Ways.length : Int) - 1)).toNat) d_Table) p_0.Name)).toNat) d_Idx).Stage)).length) c257_400) ∧ lkp L406 70 = some (.int .i64 (((s_l24Way (p_0.Ways.getD 0 d_Table) p_0.Name ((((p_0.Ways.getD ((IntKind.wrap .i64 ((p_0.Ways.length : Int) - 1)).toNat) d_Table).Idxs).getD (((s_l24Idx (p_0.Ways.getD ((IntKind.wrap .i64 ((p_0.Ways.length : Int) - 1)).toNat) d_Table) p_0.Name)).toNat) d_Idx).Stage)).length : Int))) ∧ lkp L406 71 = some (.int .i64 ((k404 : Int))) ∧ Box w407 b9 40 [.string (bs (p_0.Name)), .slice A1 p_0.Ways.length c1, .slice A2 p_0.At.length c2, .slice A3 p_0.Store.length c3] ∧ RdS w407 (Iv 0 w.heap.size) R_Table 3 A1 p_0.Ways.length c1 p_0.Ways ∧ RdS w407 (Iv 0 w.heap.size) (RF e_Int) 1 A2 p_0.At.length c2 p_0.At ∧ RdS w407 (Iv 0 w.heap.size) (RF e_Write) 3 A3 p_0.Store.length c3 p_0.Store ∧ RdS w407 (Ge w223.heap.size) R_Table 3 A257_399 (s_l24Way (p_0.Ways.getD 0 d_Table) p_0.Name ((((p_0.Ways.getD ((IntKind.wrap .i64 ((p_0.Ways.length : Int) - 1)).toNat) d_Table).Idxs).getD (((s_l24Idx (p_0.Ways.getD ((IntKind.wrap .i64 ((p_0.Ways.length : Int) - 1)).toNat) d_Table) p_0.Name)).toNat) d_Idx).Stage)).length c257_400 (s_l24Way (p_0.Ways.getD 0 d_Table) p_0.Name ((((p_0.Ways.getD ((IntKind.wrap .i64 ((p_0.Ways.length : Int) - 1)).toNat) d_Table).Idxs).getD (((s_l24Idx (p_0.Ways.getD ((IntKind.wrap .i64 ((p_0.Ways.length : Int) - 1)).toNat) d_Table) p_0.Name)).toNat) d_Idx).Stage)) ∧ Ex w w407 ∧ loopM (B_s_l27Ways_0 p_0) ((s_l24Way (p_0.Ways.getD 0 d_Table) p_0.Name ((((p_0.Ways.getD ((IntKind.wrap .i64 ((p_0.Ways.length : Int) - 1)).toNat) d_Table).Idxs).getD (((s_l24Idx (p_0.Ways.getD ((IntKind.wrap .i64 ((p_0.Ways.length : Int) - 1)).toNat) d_Table) p_0.Name)).toNat) d_Idx).Stage)).length - k404) k404 () = loopM (B_s_l27Ways_0 p_0) ((s_l24Way (p_0.Ways.getD 0 d_Table) p_0.Name ((((p_0.Ways.getD ((IntKind.wrap .i64 ((p_0.Ways.length : Int) - 1)).toNat) d_Table).Idxs).getD (((s_l24Idx (p_0.Ways.getD ((IntKind.wrap .i64 ((p_0.Ways.length : Int) - 1)).toNat) d_Table) p_0.Name)).toNat) d_Idx).Stage)).length - 0) 0 ()) ((s_l24Way (p_0.Ways.getD 0 d_Table) p_0.Name ((((p_0.Ways.getD ((IntKind.wrap .i64 ((p_0.Ways.length : Int) - 1)).toNat) d_Table).Idxs).getD (((s_l24Idx (p_0.Ways.getD ((IntKind.wrap .i64 ((p_0.Ways.length : Int) - 1)).toNat) d_Table) p_0.Name)).toNat) d_Idx).Stage)).length - 0) ?_ ?_)))
         ·exact ⟨0, rfl, (by omega), Nat.le_refl _, rfl, rfl, rfl, rfl, q402, (RdS.ex good_Table (RdS.ex good_Table (RdS.ex good_Table (RdS.only good_Table (RdS.ex good_Table q196 hE205) hO208 (by simp only [Iv]; omega)) hE215) hE225) hE387), (RdS.ex good_Int (RdS.ex good_Int (RdS.ex good_Int (RdS.only good_Int (RdS.ex good_Int (RdS.ex good_Int (RdS.ex good_Int h2 hE14) hE188) hE205) hO208 (by simp only [Iv]; omega)) hE215) hE225) hE387), (RdS.ex good_Write (RdS.ex good_Write (RdS.ex good_Write (RdS.only good_Write (RdS.ex good_Write (RdS.ex good_Write (RdS.ex good_Write h3 hE14) hE188) hE205) hO208 (by simp only [Iv]; omega)) hE215) hE225) hE387), h401, (Ex.trans (Ex.trans (Ex.trans (Below.only (Ex.trans (Ex.trans (Ex.trans (Ex.refl w) hE14) hE188) hE205) hO208 (by omega)) hE215) hE225) hE387), rfl⟩
         ·rintro m434 L435 w436 ⟨k404, rfl, hk437, hsz439, hl440, hl441, hl442, hl443, hf444, hf445, hf446, hf447, hf448, hf449, hI438⟩
          refine CW.sub (Sub.cons hl440 (Sub.cons hl441 (Sub.cons hl442 (Sub.cons hl443 (Sub.nil _))))) ?_
          have hf444z := Box.lt hf444
          have hf449z := Ex.size hf449
          have hbg450 := RdS.big hf448
          rcases Nat.lt_or_ge k404 ((s_l24Way (p_0.Ways.getD 0 d_Table) p_0.Name ((((p_0.Ways.getD ((IntKind.wrap .i64 ((p_0.Ways.length : Int) - 1)).toNat) d_Table).Idxs).getD (((s_l24Idx (p_0.Ways.getD ((IntKind.wrap .i64 ((p_0.Ways.length : Int) - 1)).toNat) d_Table) p_0.Name)).toNat) d_Idx).Stage)).length) with hlt451 | hlt451
          ·refine CW.seq (CW.region (sd rfl (yl_lss rfl rfl rfl (SeqR.done (tn (CW.seq (CW.cond_t rfl (lt_t hlt451) (CW.skip (tn ?_)))))))))
           refine CW.seq (CW.block (CW.seq (CW.region (sd rfl (yl_move rfl rfl (sd rfl (yl_assign rfl rfl (SeqR.done (tn (CW.seq ?_))))))))))
           obtain ⟨eb452, eo452, ec452, eA452, eS452, ebl452, el452, eR452, eC452⟩ := RdS.atD hf445 d_Table (i := k404) (by first | omega | assumption)
           obtain ⟨A453, c453, A454, c454, rfl, h453, h454⟩ := eR452
           have eC452 : Cells w436 eb452 (eo452 + k404 * 3) [.string (bs ((p_0.Ways.getD k404 d_Table).Name)), .slice A453 (((p_0.Ways.getD k404 d_Table).Cols).length) c453, .slice A454 (((p_0.Ways.getD k404 d_Table).Idxs).length) c454] := eC452
           refine bcase (s_GoodTable (p_0.Ways.getD k404 d_Table)) (fun hb456 => ?_) (fun hb456 => ?_)
           ·have hb456p := f_s_GoodTable hb456
            obtain ⟨eb457, eo457, ec457, eA457, eS457, ebl457, el457, eR457, eC457⟩ := RdS.atD hf445 d_Table (i := k404) (by first | omega | assumption)
            obtain ⟨A458, c458, A459, c459, rfl, h458, h459⟩ := eR457
            have eC457 : Cells w436 eb457 (eo457 + k404 * 3) [.string (bs ((p_0.Ways.getD k404 d_Table).Name)), .slice A458 (((p_0.Ways.getD k404 d_Table).Cols).length) c458, .slice A459 (((p_0.Ways.getD k404 d_Table).Idxs).length) c459] := eC457
            obtain ⟨eb461, eo461, ec461, eA461, eS461, ebl461, el461, eR461, eC461⟩ := RdS.atD hf448 d_Table (i := k404) (by first | omega | assumption)
            obtain ⟨A462, c462, A463, c463, rfl, h462, h463⟩ := eR461
            have eC461 : Cells w436 eb461 (eo461 + k404 * 3) [.string (bs (((s_l24Way (p_0.Ways.getD 0 d_Table) p_0.Name ((((p_0.Ways.getD ((IntKind.wrap .i64 ((p_0.Ways.length : Int) - 1)).toNat) d_Table).Idxs).getD (((s_l24Idx (p_0.Ways.getD ((IntKind.wrap .i64 ((p_0.Ways.length : Int) - 1)).toNat) d_Table) p_0.Name)).toNat) d_Idx).Stage)).getD k404 d_Table).Name)), .slice A462 ((((s_l24Way (p_0.Ways.getD 0 d_Table) p_0.Name ((((p_0.Ways.getD ((IntKind.wrap .i64 ((p_0.Ways.length : Int) - 1)).toNat) d_Table).Idxs).getD (((s_l24Idx (p_0.Ways.getD ((IntKind.wrap .i64 ((p_0.Ways.length : Int) - 1)).toNat) d_Table) p_0.Name)).toNat) d_Idx).Stage)).getD k404 d_Table).Cols).length) c462, .slice A463 ((((s_l24Way (p_0.Ways.getD 0 d_Table) p_0.Name ((((p_0.Ways.getD ((IntKind.wrap .i64 ((p_0.Ways.length : Int) - 1)).toNat) d_Table).Idxs).getD (((s_l24Idx (p_0.Ways.getD ((IntKind.wrap .i64 ((p_0.Ways.length : Int) - 1)).toNat) d_Table) p_0.Name)).toNat) d_Idx).Stage)).getD k404 d_Table).Idxs).length) c463] := eC461
            refine bcase (s_l24SameCols ((s_l24Way (p_0.Ways.getD 0 d_Table) p_0.Name ((((p_0.Ways.getD ((IntKind.wrap .i64 ((p_0.Ways.length : Int) - 1)).toNat) d_Table).Idxs).getD (((s_l24Idx (p_0.Ways.getD ((IntKind.wrap .i64 ((p_0.Ways.length : Int) - 1)).toNat) d_Table) p_0.Name)).toNat) d_Idx).Stage)).getD k404 d_Table) (p_0.Ways.getD k404 d_Table)) (fun hb465 => ?_) (fun hb465 => ?_)
            ·have hb465p := f_s_l24SameCols hb465
             obtain ⟨eb466, eo466, ec466, eA466, eS466, ebl466, el466, eR466, eC466⟩ := RdS.atD hf445 d_Table (i := k404) (by first | omega | assumption)
             obtain ⟨A467, c467, A468, c468, rfl, h467, h468⟩ := eR466
             have eC466 : Cells w436 eb466 (eo466 + k404 * 3) [.string (bs ((p_0.Ways.getD k404 d_Table).Name)), .slice A467 (((p_0.Ways.getD k404 d_Table).Cols).length) c467, .slice A468 (((p_0.Ways.getD k404 d_Table).Idxs).length) c468] := eC466
             obtain ⟨eb470, eo470, ec470, eA470, eS470, ebl470, el470, eR470, eC470⟩ := RdS.atD hf448 d_Table (i := k404) (by first | omega | assumption)
             obtain ⟨A471, c471, A472, c472, rfl, h471, h472⟩ := eR470
             have eC470 : Cells w436 eb470 (eo470 + k404 * 3) [.string (bs (((s_l24Way (p_0.Ways.getD 0 d_Table) p_0.Name ((((p_0.Ways.getD ((IntKind.wrap .i64 ((p_0.Ways.length : Int) - 1)).toNat) d_Table).Idxs).getD (((s_l24Idx (p_0.Ways.getD ((IntKind.wrap .i64 ((p_0.Ways.length : Int) - 1)).toNat) d_Table) p_0.Name)).toNat) d_Idx).Stage)).getD k404 d_Table).Name)), .slice A471 ((((s_l24Way (p_0.Ways.getD 0 d_Table) p_0.Name ((((p_0.Ways.getD ((IntKind.wrap .i64 ((p_0.Ways.length : Int) - 1)).toNat) d_Table).Idxs).getD (((s_l24Idx (p_0.Ways.getD ((IntKind.wrap .i64 ((p_0.Ways.length : Int) - 1)).toNat) d_Table) p_0.Name)).toNat) d_Idx).Stage)).getD k404 d_Table).Cols).length) c471, .slice A472 ((((s_l24Way (p_0.Ways.getD 0 d_Table) p_0.Name ((((p_0.Ways.getD ((IntKind.wrap .i64 ((p_0.Ways.length : Int) - 1)).toNat) d_Table).Idxs).getD (((s_l24Idx (p_0.Ways.getD ((IntKind.wrap .i64 ((p_0.Ways.length : Int) - 1)).toNat) d_Table) p_0.Name)).toNat) d_Idx).Stage)).getD k404 d_Table).Idxs).length) c472] := eC470
             refine CW.drawsI 33 (vgetI [DetI (.pointer (some ⟨b9, 0 + 1, none⟩)), DetI (.slice A1 p_0.Ways.length c1), DetI (.int .i64 ((k404 : Int))), DetI (.pointer (some ⟨eb466, eo466 + k404 * 3, none⟩)), DetI (.agg #[.string (bs ((p_0.Ways.getD k404 d_Table).Name)), .slice A467 (((p_0.Ways.getD k404 d_Table).Cols).length) c467, .slice A468 (((p_0.Ways.getD k404 d_Table).Idxs).length) c468]), DetI (.bool ((s_GoodTable (p_0.Ways.getD k404 d_Table)))), DetI (.bool (!(s_GoodTable (p_0.Ways.getD k404 d_Table)))), DetI (.bool (!(s_GoodTable (p_0.Ways.getD k404 d_Table)))), DetI (.slice A257_399 ((s_l24Way (p_0.Ways.getD 0 d_Table) p_0.Name ((((p_0.Ways.getD ((IntKind.wrap .i64 ((p_0.Ways.length : Int) - 1)).toNat) d_Table).Idxs).getD (((s_l24Idx (p_0.Ways.getD ((IntKind.wrap .i64 ((p_0.Ways.length : Int) - 1)).toNat) d_Table) p_0.Name)).toNat) d_Idx).Stage)).length) c257_400), DetI (.int .i64 ((k404 : Int))), DetI (.pointer (some ⟨eb470, eo470 + k404 * 3, none⟩)), DetI (.agg #[.string (bs (((s_l24Way (p_0.Ways.getD 0 d_Table) p_0.Name ((((p_0.Ways.getD ((IntKind.wrap .i64 ((p_0.Ways.length : Int) - 1)).toNat) d_Table).Idxs).getD (((s_l24Idx (p_0.Ways.getD ((IntKind.wrap .i64 ((p_0.Ways.length : Int) - 1)).toNat) d_Table) p_0.Name)).toNat) d_Idx).Stage)).getD k404 d_Table).Name)), .slice A471 ((((s_l24Way (p_0.Ways.getD 0 d_Table) p_0.Name ((((p_0.Ways.getD ((IntKind.wrap .i64 ((p_0.Ways.length : Int) - 1)).toNat) d_Table).Idxs).getD (((s_l24Idx (p_0.Ways.getD ((IntKind.wrap .i64 ((p_0.Ways.length : Int) - 1)).toNat) d_Table) p_0.Name)).toNat) d_Idx).Stage)).getD k404 d_Table).Cols).length) c471, .slice A472 ((((s_l24Way (p_0.Ways.getD 0 d_Table) p_0.Name ((((p_0.Ways.getD ((IntKind.wrap .i64 ((p_0.Ways.length : Int) - 1)).toNat) d_Table).Idxs).getD (((s_l24Idx (p_0.Ways.getD ((IntKind.wrap .i64 ((p_0.Ways.length : Int) - 1)).toNat) d_Table) p_0.Name)).toNat) d_Idx).Stage)).getD k404 d_Table).Idxs).length) c472]), DetI (.pointer (some ⟨b9, 0 + 1, none⟩)), DetI (.slice A1 p_0.Ways.length c1), DetI (.int .i64 ((k404 : Int))), DetI (.pointer (some ⟨eb466, eo466 + k404 * 3, none⟩)), DetI (.agg #[.string (bs ((p_0.Ways.getD k404 d_Table).Name)), .slice A467 (((p_0.Ways.getD k404 d_Table).Cols).length) c467, .slice A468 (((p_0.Ways.getD k404 d_Table).Idxs).length) c468]), DetI (.bool ((s_l24SameCols ((s_l24Way (p_0.Ways.getD 0 d_Table) p_0.Name ((((p_0.Ways.getD ((IntKind.wrap .i64 ((p_0.Ways.length : Int) - 1)).toNat) d_Table).Idxs).getD (((s_l24Idx (p_0.Ways.getD ((IntKind.wrap .i64 ((p_0.Ways.length : Int) - 1)).toNat) d_Table) p_0.Name)).toNat) d_Idx).Stage)).getD k404 d_Table) (p_0.Ways.getD k404 d_Table)))), DetI (.bool (!(s_l24SameCols ((s_l24Way (p_0.Ways.getD 0 d_Table) p_0.Name ((((p_0.Ways.getD ((IntKind.wrap .i64 ((p_0.Ways.length : Int) - 1)).toNat) d_Table).Idxs).getD (((s_l24Idx (p_0.Ways.getD ((IntKind.wrap .i64 ((p_0.Ways.length : Int) - 1)).toNat) d_Table) p_0.Name)).toNat) d_Idx).Stage)).getD k404 d_Table) (p_0.Ways.getD k404 d_Table)))), DetI (.bool (!(s_l24SameCols ((s_l24Way (p_0.Ways.getD 0 d_Table) p_0.Name ((((p_0.Ways.getD ((IntKind.wrap .i64 ((p_0.Ways.length : Int) - 1)).toNat) d_Table).Idxs).getD (((s_l24Idx (p_0.Ways.getD ((IntKind.wrap .i64 ((p_0.Ways.length : Int) - 1)).toNat) d_Table) p_0.Name)).toNat) d_Idx).Stage)).getD k404 d_Table) (p_0.Ways.getD k404 d_Table)))), DetI (.bool (!(s_l24SameCols ((s_l24Way (p_0.Ways.getD 0 d_Table) p_0.Name ((((p_0.Ways.getD ((IntKind.wrap .i64 ((p_0.Ways.length : Int) - 1)).toNat) d_Table).Idxs).getD (((s_l24Idx (p_0.Ways.getD ((IntKind.wrap .i64 ((p_0.Ways.length : Int) - 1)).toNat) d_Table) p_0.Name)).toNat) d_Idx).Stage)).getD k404 d_Table) (p_0.Ways.getD k404 d_Table)))), DetI (.slice A257_399 ((s_l24Way (p_0.Ways.getD 0 d_Table) p_0.Name ((((p_0.Ways.getD ((IntKind.wrap .i64 ((p_0.Ways.length : Int) - 1)).toNat) d_Table).Idxs).getD (((s_l24Idx (p_0.Ways.getD ((IntKind.wrap .i64 ((p_0.Ways.length : Int) - 1)).toNat) d_Table) p_0.Name)).toNat) d_Idx).Stage)).length) c257_400), DetI (.int .i64 ((k404 : Int))), DetI (.pointer (some ⟨eb470, eo470 + k404 * 3, none⟩)), DetI (.agg #[.string (bs (((s_l24Way (p_0.Ways.getD 0 d_Table) p_0.Name ((((p_0.Ways.getD ((IntKind.wrap .i64 ((p_0.Ways.length : Int) - 1)).toNat) d_Table).Idxs).getD (((s_l24Idx (p_0.Ways.getD ((IntKind.wrap .i64 ((p_0.Ways.length : Int) - 1)).toNat) d_Table) p_0.Name)).toNat) d_Idx).Stage)).getD k404 d_Table).Name)), .slice A471 ((((s_l24Way (p_0.Ways.getD 0 d_Table) p_0.Name ((((p_0.Ways.getD ((IntKind.wrap .i64 ((p_0.Ways.length : Int) - 1)).toNat) d_Table).Idxs).getD (((s_l24Idx (p_0.Ways.getD ((IntKind.wrap .i64 ((p_0.Ways.length : Int) - 1)).toNat) d_Table) p_0.Name)).toNat) d_Idx).Stage)).getD k404 d_Table).Cols).length) c471, .slice A472 ((((s_l24Way (p_0.Ways.getD 0 d_Table) p_0.Name ((((p_0.Ways.getD ((IntKind.wrap .i64 ((p_0.Ways.length : Int) - 1)).toNat) d_Table).Idxs).getD (((s_l24Idx (p_0.Ways.getD ((IntKind.wrap .i64 ((p_0.Ways.length : Int) - 1)).toNat) d_Table) p_0.Name)).toNat) d_Idx).Stage)).getD k404 d_Table).Idxs).length) c472]), DetI (.pointer (some ⟨b9, 0 + 1, none⟩)), DetI (.slice A1 p_0.Ways.length c1), DetI (.int .i64 ((k404 : Int))), DetI (.pointer (some ⟨eb466, eo466 + k404 * 3, none⟩)), DetI (.agg #[.string (bs ((p_0.Ways.getD k404 d_Table).Name)), .slice A467 (((p_0.Ways.getD k404 d_Table).Cols).length) c467, .slice A468 (((p_0.Ways.getD k404 d_Table).Idxs).length) c468]), DetI (.int .i64 ((s_l24Far ((s_l24Way (p_0.Ways.getD 0 d_Table) p_0.Name ((((p_0.Ways.getD ((IntKind.wrap .i64 ((p_0.Ways.length : Int) - 1)).toNat) d_Table).Idxs).getD (((s_l24Idx (p_0.Ways.getD ((IntKind.wrap .i64 ((p_0.Ways.length : Int) - 1)).toNat) d_Table) p_0.Name)).toNat) d_Idx).Stage)).getD k404 d_Table) (p_0.Ways.getD k404 d_Table)))), DetI (.bool (!(decide ((s_l24Far ((s_l24Way (p_0.Ways.getD 0 d_Table) p_0.Name ((((p_0.Ways.getD ((IntKind.wrap .i64 ((p_0.Ways.length : Int) - 1)).toNat) d_Table).Idxs).getD (((s_l24Idx (p_0.Ways.getD ((IntKind.wrap .i64 ((p_0.Ways.length : Int) - 1)).toNat) d_Table) p_0.Name)).toNat) d_Idx).Stage)).getD k404 d_Table) (p_0.Ways.getD k404 d_Table)) = 0)))), DetI (.bool (!(decide ((s_l24Far ((s_l24Way (p_0.Ways.getD 0 d_Table) p_0.Name ((((p_0.Ways.getD ((IntKind.wrap .i64 ((p_0.Ways.length : Int) - 1)).toNat) d_Table).Idxs).getD (((s_l24Idx (p_0.Ways.getD ((IntKind.wrap .i64 ((p_0.Ways.length : Int) - 1)).toNat) d_Table) p_0.Name)).toNat) d_Idx).Stage)).getD k404 d_Table) (p_0.Ways.getD k404 d_Table)) = 0))))]) Tryz.follows rfl rfl rfl rfl rfl rfl (vgetI_stable ⟨StableI.det _, StableI.det _, StableI.det _, StableI.det _, StableI.det _, StableI.det _, StableI.det _, StableI.det _, StableI.det _, StableI.det _, StableI.det _, StableI.det _, StableI.det _, StableI.det _, StableI.det _, StableI.det _, StableI.det _, StableI.det _, StableI.det _, StableI.det _, StableI.det _, StableI.det _, StableI.det _, StableI.det _, StableI.det _, StableI.det _, StableI.det _, StableI.det _, StableI.det _, StableI.det _, StableI.det _, StableI.det _, StableI.det _, trivial⟩) ⟨?_, ?_, ?_, ?_, ?_, ?_, ?_, ?_, ?_, ?_, ?_, ?_, ?_, ?_, ?_, ?_, ?_, ?_, ?_, ?_, ?_, ?_, ?_, ?_, ?_, ?_, ?_, ?_, ?_, ?_, ?_, ?_, ?_, trivial⟩ ?_
             ·exact fun _ _ h => os rfl ((yl_fieldAddr Tryz.fd40_1 rfl (h.old 1 _ rfl rfl) kI))
             ·exact fun _ _ h => os rfl ((yl_load1 Tryz.ty37 rfl (h.dt 0 74 rfl rfl rfl) (((Box.ex hf444 h.ex).cell 1).trans rfl) kI))
             ·exact fun _ _ h => os rfl ((yl_move rfl (h.old 5 _ rfl rfl) kI))
             ·intro L491 w492 hi493
              have hE494 := hi493.ex
              have hE494z := Ex.size hE494
              exact os rfl ((yl_indexAddrN Tryz.un37 Tryz.ty95 rfl (hi493.dt 1 75 rfl rfl rfl) (hi493.dt 2 76 rfl rfl rfl) eA466 (by first | omega | assumption | (simp only [IntKind.wrap_i64] at *; omega)) kI))
             ·exact fun _ _ h => os rfl ((yl_loadN (cs := [.string (bs ((p_0.Ways.getD k404 d_Table).Name)), .slice A467 (((p_0.Ways.getD k404 d_Table).Cols).length) c467, .slice A468 (((p_0.Ways.getD k404 d_Table).Idxs).length) c468]) Tryz.ty95 rfl (h.dt 3 77 rfl rfl rfl) (Cells.ex eC466 h.ex) rfl kI))
             ·intro L503 w504 hi505
              have hE506 := hi505.ex
              refine OpR.op' rfl (yl_call Tryz.en88 rfl (opvs_cons (hi505.dt 4 78 rfl rfl rfl) opvs_nil) (Cal.mono (c_s_GoodTable (p_0.Ways.getD k404 d_Table) (RdS.up (RdS.ex good_Str h467 hE506) good_Str) (RdS.up (RdS.ex good_Idx h468 hE506) good_Idx) (okL.getD o4.2.1 ok_d_Table _)) ?_))
              rintro v511 w510 ⟨rfl, hE512⟩
              exact ⟨rfl, hE512⟩
             ·exact fun _ _ h => os rfl ((yl_not rfl (h.dt 5 79 rfl rfl rfl) kI))
             ·exact fun _ _ h => os rfl ((yl_move rfl (h.dt 6 80 rfl rfl rfl) kI))
             ·exact fun _ _ h => OpR.want rfl rfl (h.dt 7 81 rfl rfl rfl) (not_t hb456) (Yl.sameI (yl_move rfl (h.old 4 _ rfl rfl) kI))
             ·exact fun _ _ h => OpR.want rfl rfl (h.dt 7 81 rfl rfl rfl) (not_t hb456) (Yl.sameI (yl_move rfl (h.old 5 _ rfl rfl) kI))
             ·intro L535 w536 hi537
              have hE538 := hi537.ex
              have hE538z := Ex.size hE538
              exact OpR.want rfl rfl (hi537.dt 7 81 rfl rfl rfl) (not_t hb456) (Yl.sameI (yl_indexAddrN Tryz.un37 Tryz.ty95 rfl (hi537.dt 8 82 rfl rfl rfl) (hi537.dt 9 83 rfl rfl rfl) eA470 (by first | omega | assumption | (simp only [IntKind.wrap_i64] at *; omega)) kI))
             ·exact fun _ _ h => OpR.want rfl rfl (h.dt 7 81 rfl rfl rfl) (not_t hb456) (Yl.sameI (yl_loadN (cs := [.string (bs (((s_l24Way (p_0.Ways.getD 0 d_Table) p_0.Name ((((p_0.Ways.getD ((IntKind.wrap .i64 ((p_0.Ways.length : Int) - 1)).toNat) d_Table).Idxs).getD (((s_l24Idx (p_0.Ways.getD ((IntKind.wrap .i64 ((p_0.Ways.length : Int) - 1)).toNat) d_Table) p_0.Name)).toNat) d_Idx).Stage)).getD k404 d_Table).Name)), .slice A471 ((((s_l24Way (p_0.Ways.getD 0 d_Table) p_0.Name ((((p_0.Ways.getD ((IntKind.wrap .i64 ((p_0.Ways.length : Int) - 1)).toNat) d_Table).Idxs).getD (((s_l24Idx (p_0.Ways.getD ((IntKind.wrap .i64 ((p_0.Ways.length : Int) - 1)).toNat) d_Table) p_0.Name)).toNat) d_Idx).Stage)).getD k404 d_Table).Cols).length) c471, .slice A472 ((((s_l24Way (p_0.Ways.getD 0 d_Table) p_0.Name ((((p_0.Ways.getD ((IntKind.wrap .i64 ((p_0.Ways.length : Int) - 1)).toNat) d_Table).Idxs).getD (((s_l24Idx (p_0.Ways.getD ((IntKind.wrap .i64 ((p_0.Ways.length : Int) - 1)).toNat) d_Table) p_0.Name)).toNat) d_Idx).Stage)).getD k404 d_Table).Idxs).length) c472]) Tryz.ty95 rfl (h.dt 10 84 rfl rfl rfl) (Cells.ex eC470 h.ex) rfl kI))
             ·exact fun _ _ h => OpR.want rfl rfl (h.dt 7 81 rfl rfl rfl) (not_t hb456) (Yl.sameI (yl_fieldAddr Tryz.fd40_1 rfl (h.old 1 _ rfl rfl) kI))
             ·exact fun _ _ h => OpR.want rfl rfl (h.dt 7 81 rfl rfl rfl) (not_t hb456) (Yl.sameI (yl_load1 Tryz.ty37 rfl (h.dt 12 86 rfl rfl rfl) (((Box.ex hf444 h.ex).cell 1).trans rfl) kI))
             ·exact fun _ _ h => OpR.want rfl rfl (h.dt 7 81 rfl rfl rfl) (not_t hb456) (Yl.sameI (yl_move rfl (h.old 5 _ rfl rfl) kI))
             ·intro L568 w569 hi570
              have hE571 := hi570.ex
              have hE571z := Ex.size hE571
              exact OpR.want rfl rfl (hi570.dt 7 81 rfl rfl rfl) (not_t hb456) (Yl.sameI (yl_indexAddrN Tryz.un37 Tryz.ty95 rfl (hi570.dt 13 87 rfl rfl rfl) (hi570.dt 14 88 rfl rfl rfl) eA466 (by first | omega | assumption | (simp only [IntKind.wrap_i64] at *; omega)) kI))
             ·exact fun _ _ h => OpR.want rfl rfl (h.dt 7 81 rfl rfl rfl) (not_t hb456) (Yl.sameI (yl_loadN (cs := [.string (bs ((p_0.Ways.getD k404 d_Table).Name)), .slice A467 (((p_0.Ways.getD k404 d_Table).Cols).length) c467, .slice A468 (((p_0.Ways.getD k404 d_Table).Idxs).length) c468]) Tryz.ty95 rfl (h.dt 15 89 rfl rfl rfl) (Cells.ex eC466 h.ex) rfl kI))
             ·intro L582 w583 hi584
              have hE585 := hi584.ex
              refine OpR.want rfl rfl (hi584.dt 7 81 rfl rfl rfl) (not_t hb456) (yl_call Tryz.en91 rfl (opvs_cons (hi584.dt 11 85 rfl rfl rfl) (opvs_cons (hi584.dt 16 90 rfl rfl rfl) opvs_nil)) (Cal.mono (c_s_l24SameCols ((s_l24Way (p_0.Ways.getD 0 d_Table) p_0.Name ((((p_0.Ways.getD ((IntKind.wrap .i64 ((p_0.Ways.length : Int) - 1)).toNat) d_Table).Idxs).getD (((s_l24Idx (p_0.Ways.getD ((IntKind.wrap .i64 ((p_0.Ways.length : Int) - 1)).toNat) d_Table) p_0.Name)).toNat) d_Idx).Stage)).getD k404 d_Table) (p_0.Ways.getD k404 d_Table) (RdS.up (RdS.ex good_Str h471 hE585) good_Str) (RdS.up (RdS.ex good_Idx h472 hE585) good_Idx) (RdS.up (RdS.ex good_Str h467 hE585) good_Str) (RdS.up (RdS.ex good_Idx h468 hE585) good_Idx) (okL.getD h396 ok_d_Table _) (okL.getD o4.2.1 ok_d_Table _)) ?_))
              rintro v594 w593 ⟨rfl, hE595⟩
              exact ⟨rfl, hE595⟩
             ·exact fun _ _ h => OpR.want rfl rfl (h.dt 7 81 rfl rfl rfl) (not_t hb456) (Yl.sameI (yl_not rfl (h.dt 17 91 rfl rfl rfl) kI))
             ·exact fun _ _ h => os rfl ((yl_pick_f rfl (h.dt 7 81 rfl rfl rfl) (not_t hb456) (h.dt 18 92 rfl rfl rfl) kI))
             ·exact fun _ _ h => os rfl ((yl_move rfl (h.dt 19 93 rfl rfl rfl) kI))
             ·exact fun _ _ h => OpR.want rfl rfl (h.dt 20 94 rfl rfl rfl) (not_t hb465) (Yl.sameI (yl_move rfl (h.old 4 _ rfl rfl) kI))
             ·exact fun _ _ h => OpR.want rfl rfl (h.dt 20 94 rfl rfl rfl) (not_t hb465) (Yl.sameI (yl_move rfl (h.old 5 _ rfl rfl) kI))
             ·intro L625 w626 hi627
              have hE628 := hi627.ex
              have hE628z := Ex.size hE628
              exact OpR.want rfl rfl (hi627.dt 20 94 rfl rfl rfl) (not_t hb465) (Yl.sameI (yl_indexAddrN Tryz.un37 Tryz.ty95 rfl (hi627.dt 21 95 rfl rfl rfl) (hi627.dt 22 96 rfl rfl rfl) eA470 (by first | omega | assumption | (simp only [IntKind.wrap_i64] at *; omega)) kI))
             ·exact fun _ _ h => OpR.want rfl rfl (h.dt 20 94 rfl rfl rfl) (not_t hb465) (Yl.sameI (yl_loadN (cs := [.string (bs (((s_l24Way (p_0.Ways.getD 0 d_Table) p_0.Name ((((p_0.Ways.getD ((IntKind.wrap .i64 ((p_0.Ways.length : Int) - 1)).toNat) d_Table).Idxs).getD (((s_l24Idx (p_0.Ways.getD ((IntKind.wrap .i64 ((p_0.Ways.length : Int) - 1)).toNat) d_Table) p_0.Name)).toNat) d_Idx).Stage)).getD k404 d_Table).Name)), .slice A471 ((((s_l24Way (p_0.Ways.getD 0 d_Table) p_0.Name ((((p_0.Ways.getD ((IntKind.wrap .i64 ((p_0.Ways.length : Int) - 1)).toNat) d_Table).Idxs).getD (((s_l24Idx (p_0.Ways.getD ((IntKind.wrap .i64 ((p_0.Ways.length : Int) - 1)).toNat) d_Table) p_0.Name)).toNat) d_Idx).Stage)).getD k404 d_Table).Cols).length) c471, .slice A472 ((((s_l24Way (p_0.Ways.getD 0 d_Table) p_0.Name ((((p_0.Ways.getD ((IntKind.wrap .i64 ((p_0.Ways.length : Int) - 1)).toNat) d_Table).Idxs).getD (((s_l24Idx (p_0.Ways.getD ((IntKind.wrap .i64 ((p_0.Ways.length : Int) - 1)).toNat) d_Table) p_0.Name)).toNat) d_Idx).Stage)).getD k404 d_Table).Idxs).length) c472]) Tryz.ty95 rfl (h.dt 23 97 rfl rfl rfl) (Cells.ex eC470 h.ex) rfl kI))
             ·exact fun _ _ h => OpR.want rfl rfl (h.dt 20 94 rfl rfl rfl) (not_t hb465) (Yl.sameI (yl_fieldAddr Tryz.fd40_1 rfl (h.old 1 _ rfl rfl) kI))
             ·exact fun _ _ h => OpR.want rfl rfl (h.dt 20 94 rfl rfl rfl) (not_t hb465) (Yl.sameI (yl_load1 Tryz.ty37 rfl (h.dt 25 99 rfl rfl rfl) (((Box.ex hf444 h.ex).cell 1).trans rfl) kI))
             ·exact fun _ _ h => OpR.want rfl rfl (h.dt 20 94 rfl rfl rfl) (not_t hb465) (Yl.sameI (yl_move rfl (h.old 5 _ rfl rfl) kI))
             ·intro L658 w659 hi660
              have hE661 := hi660.ex
              have hE661z := Ex.size hE661
              exact OpR.want rfl rfl (hi660.dt 20 94 rfl rfl rfl) (not_t hb465) (Yl.sameI (yl_indexAddrN Tryz.un37 Tryz.ty95 rfl (hi660.dt 26 100 rfl rfl rfl) (hi660.dt 27 101 rfl rfl rfl) eA466 (by first | omega | assumption | (simp only [IntKind.wrap_i64] at *; omega)) kI))
             ·exact fun _ _ h => OpR.want rfl rfl (h.dt 20 94 rfl rfl rfl) (not_t hb465) (Yl.sameI (yl_loadN (cs := [.string (bs ((p_0.Ways.getD k404 d_Table).Name)), .slice A467 (((p_0.Ways.getD k404 d_Table).Cols).length) c467, .slice A468 (((p_0.Ways.getD k404 d_Table).Idxs).length) c468]) Tryz.ty95 rfl (h.dt 28 102 rfl rfl rfl) (Cells.ex eC466 h.ex) rfl kI))
             ·intro L672 w673 hi674
              have hE675 := hi674.ex
              have hE675z := Ex.size hE675
              refine OpR.want rfl rfl (hi674.dt 20 94 rfl rfl rfl) (not_t hb465) (yl_call Tryz.en92 rfl (opvs_cons (hi674.dt 24 98 rfl rfl rfl) (opvs_cons (hi674.dt 29 103 rfl rfl rfl) opvs_nil)) (Cal.mono (c_s_l24Far ((s_l24Way (p_0.Ways.getD 0 d_Table) p_0.Name ((((p_0.Ways.getD ((IntKind.wrap .i64 ((p_0.Ways.length : Int) - 1)).toNat) d_Table).Idxs).getD (((s_l24Idx (p_0.Ways.getD ((IntKind.wrap .i64 ((p_0.Ways.length : Int) - 1)).toNat) d_Table) p_0.Name)).toNat) d_Idx).Stage)).getD k404 d_Table) (p_0.Ways.getD k404 d_Table) (RdS.up (RdS.ex good_Str h471 hE675) good_Str) (RdS.up (RdS.ex good_Idx h472 hE675) good_Idx) (RdS.up (RdS.ex good_Str h467 hE675) good_Str) (RdS.up (RdS.ex good_Idx h468 hE675) good_Idx) (okL.getD h396 ok_d_Table _) (okL.getD o4.2.1 ok_d_Table _) (by first | omega | assumption | (simp only [IntKind.wrap_i64] at *; omega))) ?_))
              rintro v684 w683 ⟨rfl, hE685⟩
              exact ⟨rfl, hE685⟩
             ·exact fun _ _ h => OpR.want rfl rfl (h.dt 20 94 rfl rfl rfl) (not_t hb465) (Yl.sameI (yl_neq rfl (h.dt 30 104 rfl rfl rfl) rfl kI))
             ·exact fun _ _ h => os rfl ((yl_pick_f rfl (h.dt 20 94 rfl rfl rfl) (not_t hb465) (h.dt 31 105 rfl rfl rfl) kI))
             ·intro fl701 fh702 L698 w699 hp700
              have hE703 := hp700.ex
              have hE703z := Ex.size hE703
              refine SeqR.done (tn (CW.sub (Sub.cons (d := 1) (hp700.old 1 _ rfl rfl) (Sub.cons (d := 4) (hp700.old 4 _ rfl rfl) (Sub.cons (d := 70) (hp700.old 70 _ rfl rfl) (Sub.cons (d := 71) (hp700.old 71 _ rfl rfl) (Sub.cons (d := 82) (hp700.nt 8 82 rfl rfl rfl) (Sub.cons (d := 83) (hp700.nt 9 83 rfl rfl rfl) (Sub.cons (d := 84) (hp700.nt 10 84 rfl rfl rfl) (Sub.cons (d := 85) (hp700.nt 11 85 rfl rfl rfl) (Sub.cons (d := 86) (hp700.nt 12 86 rfl rfl rfl) (Sub.cons (d := 87) (hp700.nt 13 87 rfl rfl rfl) (Sub.cons (d := 88) (hp700.nt 14 88 rfl rfl rfl) (Sub.cons (d := 89) (hp700.nt 15 89 rfl rfl rfl) (Sub.cons (d := 90) (hp700.nt 16 90 rfl rfl rfl) (Sub.cons (d := 91) (hp700.nt 17 91 rfl rfl rfl) (Sub.cons (d := 92) (hp700.nt 18 92 rfl rfl rfl) (Sub.cons (d := 95) (hp700.nt 21 95 rfl rfl rfl) (Sub.cons (d := 96) (hp700.nt 22 96 rfl rfl rfl) (Sub.cons (d := 97) (hp700.nt 23 97 rfl rfl rfl) (Sub.cons (d := 98) (hp700.nt 24 98 rfl rfl rfl) (Sub.cons (d := 99) (hp700.nt 25 99 rfl rfl rfl) (Sub.cons (d := 100) (hp700.nt 26 100 rfl rfl rfl) (Sub.cons (d := 101) (hp700.nt 27 101 rfl rfl rfl) (Sub.cons (d := 102) (hp700.nt 28 102 rfl rfl rfl) (Sub.cons (d := 103) (hp700.nt 29 103 rfl rfl rfl) (Sub.cons (d := 104) (hp700.nt 30 104 rfl rfl rfl) (Sub.cons (d := 105) (hp700.nt 31 105 rfl rfl rfl) (Sub.cons (d := 106) (hp700.nt 32 106 rfl rfl rfl) (Sub.nil _)))))))))))))))))))))))))))) (bcase (decide ((s_l24Far ((s_l24Way (p_0.Ways.getD 0 d_Table) p_0.Name ((((p_0.Ways.getD ((IntKind.wrap .i64 ((p_0.Ways.length : Int) - 1)).toNat) d_Table).Idxs).getD (((s_l24Idx (p_0.Ways.getD ((IntKind.wrap .i64 ((p_0.Ways.length : Int) - 1)).toNat) d_Table) p_0.Name)).toNat) d_Idx).Stage)).getD k404 d_Table) (p_0.Ways.getD k404 d_Table)) = 0)) (fun hb731 => ?_) (fun hb731 => ?_))))
              ·have hb731p := dec_t hb731
               refine CW.cond_f rfl (not_t hb731) (CW.skip (bn (tn (CW.region (sd rfl (yl_inc rfl rfl rfl (by omega) (sd rfl (yl_move rfl rfl (SeqR.done (tn ?_))))))))))
               have hB732 : B_s_l27Ways_0 p_0 k404 () = .cont () := by simp only [B_s_l27Ways_0, hb16, hb23, hb191, hb216, hb227, hb403, hb456, hb465, hb731, cond_true, cond_false, loopE_done, loopE_ret]
               exact ⟨(s_l24Way (p_0.Ways.getD 0 d_Table) p_0.Name ((((p_0.Ways.getD ((IntKind.wrap .i64 ((p_0.Ways.length : Int) - 1)).toNat) d_Table).Idxs).getD (((s_l24Idx (p_0.Ways.getD ((IntKind.wrap .i64 ((p_0.Ways.length : Int) - 1)).toNat) d_Table) p_0.Name)).toNat) d_Idx).Stage)).length - (k404 + 1), by omega, k404 + 1, rfl, hlt451, (by omega), rfl, rfl, rfl, rfl, (Box.ex hf444 hE703), (RdS.ex good_Table hf445 hE703), (RdS.ex good_Int hf446 hE703), (RdS.ex good_Write hf447 hE703), (RdS.ex good_Table hf448 hE703), (Ex.trans hf449 hE703), (loopM.cont hlt451 hB732).symm.trans hI438⟩
              ·have hb731p := dec_f hb731
               refine CW.cond_t rfl (not_f hb731) (CW.seq (CW.region (sd rfl (yl_assign rfl rfl (SeqR.done (tn (CW.ret (br (tr ?_)))))))))
               refine tr ?_
               have hB740 : B_s_l27Ways_0 p_0 k404 () = .ret false := by simp only [B_s_l27Ways_0, hb16, hb23, hb191, hb216, hb227, hb403, hb456, hb465, hb731, cond_true, cond_false, loopE_done, loopE_ret]
               have hL739 : loopM (B_s_l27Ways_0 p_0) ((s_l24Way (p_0.Ways.getD 0 d_Table) p_0.Name ((((p_0.Ways.getD ((IntKind.wrap .i64 ((p_0.Ways.length : Int) - 1)).toNat) d_Table).Idxs).getD (((s_l24Idx (p_0.Ways.getD ((IntKind.wrap .i64 ((p_0.Ways.length : Int) - 1)).toNat) d_Table) p_0.Name)).toNat) d_Idx).Stage)).length - 0) 0 () = .ret false := hI438.symm.trans (loopM.ret hlt451 hB740)
               refine br (tr (rr rfl (.cons rfl .nil) ?_))
               have hM741 : (s_l27Ways p_0) = (false) := by simp only [s_l27Ways, hb16, hb23, hb191, hb216, hb227, hb403, hb456, hb465, hb731, hL739, cond_true, cond_false, loopE_done, loopE_ret]
               rw [hM741]
               exact ⟨rfl, (Ex.trans hf449 hE703)⟩
            ·obtain ⟨eb743, eo743, ec743, eA743, eS743, ebl743, el743, eR743, eC743⟩ := RdS.atD hf445 d_Table (i := k404) (by first | omega | assumption)
             obtain ⟨A744, c744, A745, c745, rfl, h744, h745⟩ := eR743
             have eC743 : Cells w436 eb743 (eo743 + k404 * 3) [.string (bs ((p_0.Ways.getD k404 d_Table).Name)), .slice A744 (((p_0.Ways.getD k404 d_Table).Cols).length) c744, .slice A745 (((p_0.Ways.getD k404 d_Table).Idxs).length) c745] := eC743
             obtain ⟨eb747, eo747, ec747, eA747, eS747, ebl747, el747, eR747, eC747⟩ := RdS.atD hf448 d_Table (i := k404) (by first | omega | assumption)
             obtain ⟨A748, c748, A749, c749, rfl, h748, h749⟩ := eR747
             have eC747 : Cells w436 eb747 (eo747 + k404 * 3) [.string (bs (((s_l24Way (p_0.Ways.getD 0 d_Table) p_0.Name ((((p_0.Ways.getD ((IntKind.wrap .i64 ((p_0.Ways.length : Int) - 1)).toNat) d_Table).Idxs).getD (((s_l24Idx (p_0.Ways.getD ((IntKind.wrap .i64 ((p_0.Ways.length : Int) - 1)).toNat) d_Table) p_0.Name)).toNat) d_Idx).Stage)).getD k404 d_Table).Name)), .slice A748 ((((s_l24Way (p_0.Ways.getD 0 d_Table) p_0.Name ((((p_0.Ways.getD ((IntKind.wrap .i64 ((p_0.Ways.length : Int) - 1)).toNat) d_Table).Idxs).getD (((s_l24Idx (p_0.Ways.getD ((IntKind.wrap .i64 ((p_0.Ways.length : Int) - 1)).toNat) d_Table) p_0.Name)).toNat) d_Idx).Stage)).getD k404 d_Table).Cols).length) c748, .slice A749 ((((s_l24Way (p_0.Ways.getD 0 d_Table) p_0.Name ((((p_0.Ways.getD ((IntKind.wrap .i64 ((p_0.Ways.length : Int) - 1)).toNat) d_Table).Idxs).getD (((s_l24Idx (p_0.Ways.getD ((IntKind.wrap .i64 ((p_0.Ways.length : Int) - 1)).toNat) d_Table) p_0.Name)).toNat) d_Idx).Stage)).getD k404 d_Table).Idxs).length) c749] := eC747
             refine CW.drawsI 33 (vgetI [DetI (.pointer (some ⟨b9, 0 + 1, none⟩)), DetI (.slice A1 p_0.Ways.length c1), DetI (.int .i64 ((k404 : Int))), DetI (.pointer (some ⟨eb743, eo743 + k404 * 3, none⟩)), DetI (.agg #[.string (bs ((p_0.Ways.getD k404 d_Table).Name)), .slice A744 (((p_0.Ways.getD k404 d_Table).Cols).length) c744, .slice A745 (((p_0.Ways.getD k404 d_Table).Idxs).length) c745]), DetI (.bool ((s_GoodTable (p_0.Ways.getD k404 d_Table)))), DetI (.bool (!(s_GoodTable (p_0.Ways.getD k404 d_Table)))), DetI (.bool (!(s_GoodTable (p_0.Ways.getD k404 d_Table)))), DetI (.slice A257_399 ((s_l24Way (p_0.Ways.getD 0 d_Table) p_0.Name ((((p_0.Ways.getD ((IntKind.wrap .i64 ((p_0.Ways.length : Int) - 1)).toNat) d_Table).Idxs).getD (((s_l24Idx (p_0.Ways.getD ((IntKind.wrap .i64 ((p_0.Ways.length : Int) - 1)).toNat) d_Table) p_0.Name)).toNat) d_Idx).Stage)).length) c257_400), DetI (.int .i64 ((k404 : Int))), DetI (.pointer (some ⟨eb747, eo747 + k404 * 3, none⟩)), DetI (.agg #[.string (bs (((s_l24Way (p_0.Ways.getD 0 d_Table) p_0.Name ((((p_0.Ways.getD ((IntKind.wrap .i64 ((p_0.Ways.length : Int) - 1)).toNat) d_Table).Idxs).getD (((s_l24Idx (p_0.Ways.getD ((IntKind.wrap .i64 ((p_0.Ways.length : Int) - 1)).toNat) d_Table) p_0.Name)).toNat) d_Idx).Stage)).getD k404 d_Table).Name)), .slice A748 ((((s_l24Way (p_0.Ways.getD 0 d_Table) p_0.Name ((((p_0.Ways.getD ((IntKind.wrap .i64 ((p_0.Ways.length : Int) - 1)).toNat) d_Table).Idxs).getD (((s_l24Idx (p_0.Ways.getD ((IntKind.wrap .i64 ((p_0.Ways.length : Int) - 1)).toNat) d_Table) p_0.Name)).toNat) d_Idx).Stage)).getD k404 d_Table).Cols).length) c748, .slice A749 ((((s_l24Way (p_0.Ways.getD 0 d_Table) p_0.Name ((((p_0.Ways.getD ((IntKind.wrap .i64 ((p_0.Ways.length : Int) - 1)).toNat) d_Table).Idxs).getD (((s_l24Idx (p_0.Ways.getD ((IntKind.wrap .i64 ((p_0.Ways.length : Int) - 1)).toNat) d_Table) p_0.Name)).toNat) d_Idx).Stage)).getD k404 d_Table).Idxs).length) c749]), DetI (.pointer (some ⟨b9, 0 + 1, none⟩)), DetI (.slice A1 p_0.Ways.length c1), DetI (.int .i64 ((k404 : Int))), DetI (.pointer (some ⟨eb743, eo743 + k404 * 3, none⟩)), DetI (.agg #[.string (bs ((p_0.Ways.getD k404 d_Table).Name)), .slice A744 (((p_0.Ways.getD k404 d_Table).Cols).length) c744, .slice A745 (((p_0.Ways.getD k404 d_Table).Idxs).length) c745]), DetI (.bool ((s_l24SameCols ((s_l24Way (p_0.Ways.getD 0 d_Table) p_0.Name ((((p_0.Ways.getD ((IntKind.wrap .i64 ((p_0.Ways.length : Int) - 1)).toNat) d_Table).Idxs).getD (((s_l24Idx (p_0.Ways.getD ((IntKind.wrap .i64 ((p_0.Ways.length : Int) - 1)).toNat) d_Table) p_0.Name)).toNat) d_Idx).Stage)).getD k404 d_Table) (p_0.Ways.getD k404 d_Table)))), DetI (.bool (!(s_l24SameCols ((s_l24Way (p_0.Ways.getD 0 d_Table) p_0.Name ((((p_0.Ways.getD ((IntKind.wrap .i64 ((p_0.Ways.length : Int) - 1)).toNat) d_Table).Idxs).getD (((s_l24Idx (p_0.Ways.getD ((IntKind.wrap .i64 ((p_0.Ways.length : Int) - 1)).toNat) d_Table) p_0.Name)).toNat) d_Idx).Stage)).getD k404 d_Table) (p_0.Ways.getD k404 d_Table)))), DetI (.bool (!(s_l24SameCols ((s_l24Way (p_0.Ways.getD 0 d_Table) p_0.Name ((((p_0.Ways.getD ((IntKind.wrap .i64 ((p_0.Ways.length : Int) - 1)).toNat) d_Table).Idxs).getD (((s_l24Idx (p_0.Ways.getD ((IntKind.wrap .i64 ((p_0.Ways.length : Int) - 1)).toNat) d_Table) p_0.Name)).toNat) d_Idx).Stage)).getD k404 d_Table) (p_0.Ways.getD k404 d_Table)))), DetI (.bool (!(s_l24SameCols ((s_l24Way (p_0.Ways.getD 0 d_Table) p_0.Name ((((p_0.Ways.getD ((IntKind.wrap .i64 ((p_0.Ways.length : Int) - 1)).toNat) d_Table).Idxs).getD (((s_l24Idx (p_0.Ways.getD ((IntKind.wrap .i64 ((p_0.Ways.length : Int) - 1)).toNat) d_Table) p_0.Name)).toNat) d_Idx).Stage)).getD k404 d_Table) (p_0.Ways.getD k404 d_Table)))), DetI (undef), DetI (undef), DetI (undef), DetI (undef), DetI (undef), DetI (undef), DetI (undef), DetI (undef), DetI (undef), DetI (undef), DetI (undef), DetI (.bool (true))]) Tryz.follows rfl rfl rfl rfl rfl rfl (vgetI_stable ⟨StableI.det _, StableI.det _, StableI.det _, StableI.det _, StableI.det _, StableI.det _, StableI.det _, StableI.det _, StableI.det _, StableI.det _, StableI.det _, StableI.det _, StableI.det _, StableI.det _, StableI.det _, StableI.det _, StableI.det _, StableI.det _, StableI.det _, StableI.det _, StableI.det _, StableI.det _, StableI.det _, StableI.det _, StableI.det _, StableI.det _, StableI.det _, StableI.det _, StableI.det _, StableI.det _, StableI.det _, StableI.det _, StableI.det _, trivial⟩) ⟨?_, ?_, ?_, ?_, ?_, ?_, ?_, ?_, ?_, ?_, ?_, ?_, ?_, ?_, ?_, ?_, ?_, ?_, ?_, ?_, ?_, ?_, ?_, ?_, ?_, ?_, ?_, ?_, ?_, ?_, ?_, ?_, ?_, trivial⟩ ?_
             ·exact fun _ _ h => os rfl ((yl_fieldAddr Tryz.fd40_1 rfl (h.old 1 _ rfl rfl) kI))
             ·exact fun _ _ h => os rfl ((yl_load1 Tryz.ty37 rfl (h.dt 0 74 rfl rfl rfl) (((Box.ex hf444 h.ex).cell 1).trans rfl) kI))
             ·exact fun _ _ h => os rfl ((yl_move rfl (h.old 5 _ rfl rfl) kI))
             ·intro L767 w768 hi769
              have hE770 := hi769.ex
              have hE770z := Ex.size hE770
              exact os rfl ((yl_indexAddrN Tryz.un37 Tryz.ty95 rfl (hi769.dt 1 75 rfl rfl rfl) (hi769.dt 2 76 rfl rfl rfl) eA743 (by first | omega | assumption | (simp only [IntKind.wrap_i64] at *; omega)) kI))
             ·exact fun _ _ h => os rfl ((yl_loadN (cs := [.string (bs ((p_0.Ways.getD k404 d_Table).Name)), .slice A744 (((p_0.Ways.getD k404 d_Table).Cols).length) c744, .slice A745 (((p_0.Ways.getD k404 d_Table).Idxs).length) c745]) Tryz.ty95 rfl (h.dt 3 77 rfl rfl rfl) (Cells.ex eC743 h.ex) rfl kI))
             ·intro L779 w780 hi781
              have hE782 := hi781.ex
              refine OpR.op' rfl (yl_call Tryz.en88 rfl (opvs_cons (hi781.dt 4 78 rfl rfl rfl) opvs_nil) (Cal.mono (c_s_GoodTable (p_0.Ways.getD k404 d_Table) (RdS.up (RdS.ex good_Str h744 hE782) good_Str) (RdS.up (RdS.ex good_Idx h745 hE782) good_Idx) (okL.getD o4.2.1 ok_d_Table _)) ?_))
              rintro v787 w786 ⟨rfl, hE788⟩
              exact ⟨rfl, hE788⟩
             ·exact fun _ _ h => os rfl ((yl_not rfl (h.dt 5 79 rfl rfl rfl) kI))
             ·exact fun _ _ h => os rfl ((yl_move rfl (h.dt 6 80 rfl rfl rfl) kI))
             ·exact fun _ _ h => OpR.want rfl rfl (h.dt 7 81 rfl rfl rfl) (not_t hb456) (Yl.sameI (yl_move rfl (h.old 4 _ rfl rfl) kI))
             ·exact fun _ _ h => OpR.want rfl rfl (h.dt 7 81 rfl rfl rfl) (not_t hb456) (Yl.sameI (yl_move rfl (h.old 5 _ rfl rfl) kI))
             ·intro L811 w812 hi813
              have hE814 := hi813.ex
              have hE814z := Ex.size hE814
              exact OpR.want rfl rfl (hi813.dt 7 81 rfl rfl rfl) (not_t hb456) (Yl.sameI (yl_indexAddrN Tryz.un37 Tryz.ty95 rfl (hi813.dt 8 82 rfl rfl rfl) (hi813.dt 9 83 rfl rfl rfl) eA747 (by first | omega | assumption | (simp only [IntKind.wrap_i64] at *; omega)) kI))
             ·exact fun _ _ h => OpR.want rfl rfl (h.dt 7 81 rfl rfl rfl) (not_t hb456) (Yl.sameI (yl_loadN (cs := [.string (bs (((s_l24Way (p_0.Ways.getD 0 d_Table) p_0.Name ((((p_0.Ways.getD ((IntKind.wrap .i64 ((p_0.Ways.length : Int) - 1)).toNat) d_Table).Idxs).getD (((s_l24Idx (p_0.Ways.getD ((IntKind.wrap .i64 ((p_0.Ways.length : Int) - 1)).toNat) d_Table) p_0.Name)).toNat) d_Idx).Stage)).getD k404 d_Table).Name)), .slice A748 ((((s_l24Way (p_0.Ways.getD 0 d_Table) p_0.Name ((((p_0.Ways.getD ((IntKind.wrap .i64 ((p_0.Ways.length : Int) - 1)).toNat) d_Table).Idxs).getD (((s_l24Idx (p_0.Ways.getD ((IntKind.wrap .i64 ((p_0.Ways.length : Int) - 1)).toNat) d_Table) p_0.Name)).toNat) d_Idx).Stage)).getD k404 d_Table).Cols).length) c748, .slice A749 ((((s_l24Way (p_0.Ways.getD 0 d_Table) p_0.Name ((((p_0.Ways.getD ((IntKind.wrap .i64 ((p_0.Ways.length : Int) - 1)).toNat) d_Table).Idxs).getD (((s_l24Idx (p_0.Ways.getD ((IntKind.wrap .i64 ((p_0.Ways.length : Int) - 1)).toNat) d_Table) p_0.Name)).toNat) d_Idx).Stage)).getD k404 d_Table).Idxs).length) c749]) Tryz.ty95 rfl (h.dt 10 84 rfl rfl rfl) (Cells.ex eC747 h.ex) rfl kI))
             ·exact fun _ _ h => OpR.want rfl rfl (h.dt 7 81 rfl rfl rfl) (not_t hb456) (Yl.sameI (yl_fieldAddr Tryz.fd40_1 rfl (h.old 1 _ rfl rfl) kI))
             ·exact fun _ _ h => OpR.want rfl rfl (h.dt 7 81 rfl rfl rfl) (not_t hb456) (Yl.sameI (yl_load1 Tryz.ty37 rfl (h.dt 12 86 rfl rfl rfl) (((Box.ex hf444 h.ex).cell 1).trans rfl) kI))
             ·exact fun _ _ h => OpR.want rfl rfl (h.dt 7 81 rfl rfl rfl) (not_t hb456) (Yl.sameI (yl_move rfl (h.old 5 _ rfl rfl) kI))
             ·intro L844 w845 hi846
              have hE847 := hi846.ex
              have hE847z := Ex.size hE847
              exact OpR.want rfl rfl (hi846.dt 7 81 rfl rfl rfl) (not_t hb456) (Yl.sameI (yl_indexAddrN Tryz.un37 Tryz.ty95 rfl (hi846.dt 13 87 rfl rfl rfl) (hi846.dt 14 88 rfl rfl rfl) eA743 (by first | omega | assumption | (simp only [IntKind.wrap_i64] at *; omega)) kI))
             ·exact fun _ _ h => OpR.want rfl rfl (h.dt 7 81 rfl rfl rfl) (not_t hb456) (Yl.sameI (yl_loadN (cs := [.string (bs ((p_0.Ways.getD k404 d_Table).Name)), .slice A744 (((p_0.Ways.getD k404 d_Table).Cols).length) c744, .slice A745 (((p_0.Ways.getD k404 d_Table).Idxs).length) c745]) Tryz.ty95 rfl (h.dt 15 89 rfl rfl rfl) (Cells.ex eC743 h.ex) rfl kI))
             ·intro L858 w859 hi860
              have hE861 := hi860.ex
              refine OpR.want rfl rfl (hi860.dt 7 81 rfl rfl rfl) (not_t hb456) (yl_call Tryz.en91 rfl (opvs_cons (hi860.dt 11 85 rfl rfl rfl) (opvs_cons (hi860.dt 16 90 rfl rfl rfl) opvs_nil)) (Cal.mono (c_s_l24SameCols ((s_l24Way (p_0.Ways.getD 0 d_Table) p_0.Name ((((p_0.Ways.getD ((IntKind.wrap .i64 ((p_0.Ways.length : Int) - 1)).toNat) d_Table).Idxs).getD (((s_l24Idx (p_0.Ways.getD ((IntKind.wrap .i64 ((p_0.Ways.length : Int) - 1)).toNat) d_Table) p_0.Name)).toNat) d_Idx).Stage)).getD k404 d_Table) (p_0.Ways.getD k404 d_Table) (RdS.up (RdS.ex good_Str h748 hE861) good_Str) (RdS.up (RdS.ex good_Idx h749 hE861) good_Idx) (RdS.up (RdS.ex good_Str h744 hE861) good_Str) (RdS.up (RdS.ex good_Idx h745 hE861) good_Idx) (okL.getD h396 ok_d_Table _) (okL.getD o4.2.1 ok_d_Table _)) ?_))
              rintro v870 w869 ⟨rfl, hE871⟩
              exact ⟨rfl, hE871⟩
             ·exact fun _ _ h => OpR.want rfl rfl (h.dt 7 81 rfl rfl rfl) (not_t hb456) (Yl.sameI (yl_not rfl (h.dt 17 91 rfl rfl rfl) kI))
             ·exact fun _ _ h => os rfl ((yl_pick_f rfl (h.dt 7 81 rfl rfl rfl) (not_t hb456) (h.dt 18 92 rfl rfl rfl) kI))
             ·exact fun _ _ h => os rfl ((yl_move rfl (h.dt 19 93 rfl rfl rfl) kI))
             ·exact fun _ _ h => OpR.skip rfl rfl (h.dt 20 94 rfl rfl rfl) (not_f hb465) ⟨rfl, Ex.refl _⟩
             ·exact fun _ _ h => OpR.skip rfl rfl (h.dt 20 94 rfl rfl rfl) (not_f hb465) ⟨rfl, Ex.refl _⟩
             ·exact fun _ _ h => OpR.skip rfl rfl (h.dt 20 94 rfl rfl rfl) (not_f hb465) ⟨rfl, Ex.refl _⟩
             ·exact fun _ _ h => OpR.skip rfl rfl (h.dt 20 94 rfl rfl rfl) (not_f hb465) ⟨rfl, Ex.refl _⟩
             ·exact fun _ _ h => OpR.skip rfl rfl (h.dt 20 94 rfl rfl rfl) (not_f hb465) ⟨rfl, Ex.refl _⟩
             ·exact fun _ _ h => OpR.skip rfl rfl (h.dt 20 94 rfl rfl rfl) (not_f hb465) ⟨rfl, Ex.refl _⟩
             ·exact fun _ _ h => OpR.skip rfl rfl (h.dt 20 94 rfl rfl rfl) (not_f hb465) ⟨rfl, Ex.refl _⟩
             ·exact fun _ _ h => OpR.skip rfl rfl (h.dt 20 94 rfl rfl rfl) (not_f hb465) ⟨rfl, Ex.refl _⟩
             ·exact fun _ _ h => OpR.skip rfl rfl (h.dt 20 94 rfl rfl rfl) (not_f hb465) ⟨rfl, Ex.refl _⟩
             ·exact fun _ _ h => OpR.skip rfl rfl (h.dt 20 94 rfl rfl rfl) (not_f hb465) ⟨rfl, Ex.refl _⟩
             ·exact fun _ _ h => OpR.skip rfl rfl (h.dt 20 94 rfl rfl rfl) (not_f hb465) ⟨rfl, Ex.refl _⟩
             ·exact fun _ _ h => os rfl ((yl_pick_t rfl (h.dt 20 94 rfl rfl rfl) (not_f hb465) rfl kI))
             ·intro fl953 fh954 L950 w951 hp952
              have hE955 := hp952.ex
              have hE955z := Ex.size hE955
              refine SeqR.done (tn (CW.sub (Sub.cons (d := 1) (hp952.old 1 _ rfl rfl) (Sub.cons (d := 4) (hp952.old 4 _ rfl rfl) (Sub.cons (d := 70) (hp952.old 70 _ rfl rfl) (Sub.cons (d := 71) (hp952.old 71 _ rfl rfl) (Sub.cons (d := 82) (hp952.nt 8 82 rfl rfl rfl) (Sub.cons (d := 83) (hp952.nt 9 83 rfl rfl rfl) (Sub.cons (d := 84) (hp952.nt 10 84 rfl rfl rfl) (Sub.cons (d := 85) (hp952.nt 11 85 rfl rfl rfl) (Sub.cons (d := 86) (hp952.nt 12 86 rfl rfl rfl) (Sub.cons (d := 87) (hp952.nt 13 87 rfl rfl rfl) (Sub.cons (d := 88) (hp952.nt 14 88 rfl rfl rfl) (Sub.cons (d := 89) (hp952.nt 15 89 rfl rfl rfl) (Sub.cons (d := 90) (hp952.nt 16 90 rfl rfl rfl) (Sub.cons (d := 91) (hp952.nt 17 91 rfl rfl rfl) (Sub.cons (d := 92) (hp952.nt 18 92 rfl rfl rfl) (Sub.cons (d := 95) (hp952.nt 21 95 rfl rfl rfl) (Sub.cons (d := 96) (hp952.nt 22 96 rfl rfl rfl) (Sub.cons (d := 97) (hp952.nt 23 97 rfl rfl rfl) (Sub.cons (d := 98) (hp952.nt 24 98 rfl rfl rfl) (Sub.cons (d := 99) (hp952.nt 25 99 rfl rfl rfl) (Sub.cons (d := 100) (hp952.nt 26 100 rfl rfl rfl) (Sub.cons (d := 101) (hp952.nt 27 101 rfl rfl rfl) (Sub.cons (d := 102) (hp952.nt 28 102 rfl rfl rfl) (Sub.cons (d := 103) (hp952.nt 29 103 rfl rfl rfl) (Sub.cons (d := 104) (hp952.nt 30 104 rfl rfl rfl) (Sub.cons (d := 105) (hp952.nt 31 105 rfl rfl rfl) (Sub.cons (d := 106) (hp952.nt 32 106 rfl rfl rfl) (Sub.nil _)))))))))))))))))))))))))))) (CW.cond_t rfl rfl (CW.seq (CW.region (sd rfl (yl_assign rfl rfl (SeqR.done (tn ?_)))))))))
              refine CW.ret (br (tr (tr ?_)))
              have hB984 : B_s_l27Ways_0 p_0 k404 () = .ret false := by simp only [B_s_l27Ways_0, hb16, hb23, hb191, hb216, hb227, hb403, hb456, hb465, cond_true, cond_false, loopE_done, loopE_ret]
              have hL983 : loopM (B_s_l27Ways_0 p_0) ((s_l24Way (p_0.Ways.getD 0 d_Table) p_0.Name ((((p_0.Ways.getD ((IntKind.wrap .i64 ((p_0.Ways.length : Int) - 1)).toNat) d_Table).Idxs).getD (((s_l24Idx (p_0.Ways.getD ((IntKind.wrap .i64 ((p_0.Ways.length : Int) - 1)).toNat) d_Table) p_0.Name)).toNat) d_Idx).Stage)).length - 0) 0 () = .ret false := hI438.symm.trans (loopM.ret hlt451 hB984)
              refine br (tr (rr rfl (.cons rfl .nil) ?_))
              have hM985 : (s_l27Ways p_0) = (false) := by simp only [s_l27Ways, hb16, hb23, hb191, hb216, hb227, hb403, hb456, hb465, hL983, cond_true, cond_false, loopE_done, loopE_ret]
              rw [hM985]
              exact ⟨rfl, (Ex.trans hf449 hE955)⟩
           ·obtain ⟨eb987, eo987, ec987, eA987, eS987, ebl987, el987, eR987, eC987⟩ := RdS.atD hf445 d_Table (i := k404) (by first | omega | assumption)
            obtain ⟨A988, c988, A989, c989, rfl, h988, h989⟩ := eR987
            have eC987 : Cells w436 eb987 (eo987 + k404 * 3) [.string (bs ((p_0.Ways.getD k404 d_Table).Name)), .slice A988 (((p_0.Ways.getD k404 d_Table).Cols).length) c988, .slice A989 (((p_0.Ways.getD k404 d_Table).Idxs).length) c989] := eC987
            refine CW.drawsI 33 (vgetI [DetI (.pointer (some ⟨b9, 0 + 1, none⟩)), DetI (.slice A1 p_0.Ways.length c1), DetI (.int .i64 ((k404 : Int))), DetI (.pointer (some ⟨eb987, eo987 + k404 * 3, none⟩)), DetI (.agg #[.string (bs ((p_0.Ways.getD k404 d_Table).Name)), .slice A988 (((p_0.Ways.getD k404 d_Table).Cols).length) c988, .slice A989 (((p_0.Ways.getD k404 d_Table).Idxs).length) c989]), DetI (.bool ((s_GoodTable (p_0.Ways.getD k404 d_Table)))), DetI (.bool (!(s_GoodTable (p_0.Ways.getD k404 d_Table)))), DetI (.bool (!(s_GoodTable (p_0.Ways.getD k404 d_Table)))), DetI (undef), DetI (undef), DetI (undef), DetI (undef), DetI (undef), DetI (undef), DetI (undef), DetI (undef), DetI (undef), DetI (undef), DetI (undef), DetI (.bool (true)), DetI (.bool (true)), DetI (undef), DetI (undef), DetI (undef), DetI (undef), DetI (undef), DetI (undef), DetI (undef), DetI (undef), DetI (undef), DetI (undef), DetI (undef), DetI (.bool (true))]) Tryz.follows rfl rfl rfl rfl rfl rfl (vgetI_stable ⟨StableI.det _, StableI.det _, StableI.det _, StableI.det _, StableI.det _, StableI.det _, StableI.det _, StableI.det _, StableI.det _, StableI.det _, StableI.det _, StableI.det _, StableI.det _, StableI.det _, StableI.det _, StableI.det _, StableI.det _, StableI.det _, StableI.det _, StableI.det _, StableI.det _, StableI.det _, StableI.det _, StableI.det _, StableI.det _, StableI.det _, StableI.det _, StableI.det _, StableI.det _, StableI.det _, StableI.det _, StableI.det _, StableI.det _, trivial⟩) ⟨?_, ?_, ?_, ?_, ?_, ?_, ?_, ?_, ?_, ?_, ?_, ?_, ?_, ?_, ?_, ?_, ?_, ?_, ?_, ?_, ?_, ?_, ?_, ?_, ?_, ?_, ?_, ?_, ?_, ?_, ?_, ?_, ?_, trivial⟩ ?_
            ·exact fun _ _ h => os rfl ((yl_fieldAddr Tryz.fd40_1 rfl (h.old 1 _ rfl rfl) kI))
            ·exact fun _ _ h => os rfl ((yl_load1 Tryz.ty37 rfl (h.dt 0 74 rfl rfl rfl) (((Box.ex hf444 h.ex).cell 1).trans rfl) kI))
            ·exact fun _ _ h => os rfl ((yl_move rfl (h.old 5 _ rfl rfl) kI))
            ·intro L1007 w1008 hi1009
             have hE1010 := hi1009.ex
             have hE1010z := Ex.size hE1010
             exact os rfl ((yl_indexAddrN Tryz.un37 Tryz.ty95 rfl (hi1009.dt 1 75 rfl rfl rfl) (hi1009.dt 2 76 rfl rfl rfl) eA987 (by first | omega | assumption | (simp only [IntKind.wrap_i64] at *; omega)) kI))
            ·exact fun _ _ h => os rfl ((yl_loadN (cs := [.string (bs ((p_0.Ways.getD k404 d_Table).Name)), .slice A988 (((p_0.Ways.getD k404 d_Table).Cols).length) c988, .slice A989 (((p_0.Ways.getD k404 d_Table).Idxs).length) c989]) Tryz.ty95 rfl (h.dt 3 77 rfl rfl rfl) (Cells.ex eC987 h.ex) rfl kI))
            ·intro L1019 w1020 hi1021
             have hE1022 := hi1021.ex
             refine OpR.op' rfl (yl_call Tryz.en88 rfl (opvs_cons (hi1021.dt 4 78 rfl rfl rfl) opvs_nil) (Cal.mono (c_s_GoodTable (p_0.Ways.getD k404 d_Table) (RdS.up (RdS.ex good_Str h988 hE1022) good_Str) (RdS.up (RdS.ex good_Idx h989 hE1022) good_Idx) (okL.getD o4.2.1 ok_d_Table _)) ?_))
             rintro v1027 w1026 ⟨rfl, hE1028⟩
             exact ⟨rfl, hE1028⟩
            ·exact fun _ _ h => os rfl ((yl_not rfl (h.dt 5 79 rfl rfl rfl) kI))
            ·exact fun _ _ h => os rfl ((yl_move rfl (h.dt 6 80 rfl rfl rfl) kI))
            ·exact fun _ _ h => OpR.skip rfl rfl (h.dt 7 81 rfl rfl rfl) (not_f hb456) ⟨rfl, Ex.refl _⟩
            ·exact fun _ _ h => OpR.skip rfl rfl (h.dt 7 81 rfl rfl rfl) (not_f hb456) ⟨rfl, Ex.refl _⟩
            ·exact fun _ _ h => OpR.skip rfl rfl (h.dt 7 81 rfl rfl rfl) (not_f hb456) ⟨rfl, Ex.refl _⟩
            ·exact fun _ _ h => OpR.skip rfl rfl (h.dt 7 81 rfl rfl rfl) (not_f hb456) ⟨rfl, Ex.refl _⟩
            ·exact fun _ _ h => OpR.skip rfl rfl (h.dt 7 81 rfl rfl rfl) (not_f hb456) ⟨rfl, Ex.refl _⟩
            ·exact fun _ _ h => OpR.skip rfl rfl (h.dt 7 81 rfl rfl rfl) (not_f hb456) ⟨rfl, Ex.refl _⟩
            ·exact fun _ _ h => OpR.skip rfl rfl (h.dt 7 81 rfl rfl rfl) (not_f hb456) ⟨rfl, Ex.refl _⟩
            ·exact fun _ _ h => OpR.skip rfl rfl (h.dt 7 81 rfl rfl rfl) (not_f hb456) ⟨rfl, Ex.refl _⟩
            ·exact fun _ _ h => OpR.skip rfl rfl (h.dt 7 81 rfl rfl rfl) (not_f hb456) ⟨rfl, Ex.refl _⟩
            ·exact fun _ _ h => OpR.skip rfl rfl (h.dt 7 81 rfl rfl rfl) (not_f hb456) ⟨rfl, Ex.refl _⟩
            ·exact fun _ _ h => OpR.skip rfl rfl (h.dt 7 81 rfl rfl rfl) (not_f hb456) ⟨rfl, Ex.refl _⟩
            ·exact fun _ _ h => os rfl ((yl_pick_t rfl (h.dt 7 81 rfl rfl rfl) (not_f hb456) rfl kI))
            ·exact fun _ _ h => os rfl ((yl_move rfl (h.dt 19 93 rfl rfl rfl) kI))
            ·exact fun _ _ h => OpR.skip rfl rfl (h.dt 20 94 rfl rfl rfl) rfl ⟨rfl, Ex.refl _⟩
            ·exact fun _ _ h => OpR.skip rfl rfl (h.dt 20 94 rfl rfl rfl) rfl ⟨rfl, Ex.refl _⟩
            ·exact fun _ _ h => OpR.skip rfl rfl (h.dt 20 94 rfl rfl rfl) rfl ⟨rfl, Ex.refl _⟩
            ·exact fun _ _ h => OpR.skip rfl rfl (h.dt 20 94 rfl rfl rfl) rfl ⟨rfl, Ex.refl _⟩
            ·exact fun _ _ h => OpR.skip rfl rfl (h.dt 20 94 rfl rfl rfl) rfl ⟨rfl, Ex.refl _⟩
            ·exact fun _ _ h => OpR.skip rfl rfl (h.dt 20 94 rfl rfl rfl) rfl ⟨rfl, Ex.refl _⟩
            ·exact fun _ _ h => OpR.skip rfl rfl (h.dt 20 94 rfl rfl rfl) rfl ⟨rfl, Ex.refl _⟩
            ·exact fun _ _ h => OpR.skip rfl rfl (h.dt 20 94 rfl rfl rfl) rfl ⟨rfl, Ex.refl _⟩
            ·exact fun _ _ h => OpR.skip rfl rfl (h.dt 20 94 rfl rfl rfl) rfl ⟨rfl, Ex.refl _⟩
            ·exact fun _ _ h => OpR.skip rfl rfl (h.dt 20 94 rfl rfl rfl) rfl ⟨rfl, Ex.refl _⟩
            ·exact fun _ _ h => OpR.skip rfl rfl (h.dt 20 94 rfl rfl rfl) rfl ⟨rfl, Ex.refl _⟩
            ·exact fun _ _ h => os rfl ((yl_pick_t rfl (h.dt 20 94 rfl rfl rfl) rfl rfl kI))
            ·intro fl1169 fh1170 L1166 w1167 hp1168
             have hE1171 := hp1168.ex
             have hE1171z := Ex.size hE1171
             refine SeqR.done (tn (CW.sub (Sub.cons (d := 1) (hp1168.old 1 _ rfl rfl) (Sub.cons (d := 4) (hp1168.old 4 _ rfl rfl) (Sub.cons (d := 70) (hp1168.old 70 _ rfl rfl) (Sub.cons (d := 71) (hp1168.old 71 _ rfl rfl) (Sub.cons (d := 82) (hp1168.nt 8 82 rfl rfl rfl) (Sub.cons (d := 83) (hp1168.nt 9 83 rfl rfl rfl) (Sub.cons (d := 84) (hp1168.nt 10 84 rfl rfl rfl) (Sub.cons (d := 85) (hp1168.nt 11 85 rfl rfl rfl) (Sub.cons (d := 86) (hp1168.nt 12 86 rfl rfl rfl) (Sub.cons (d := 87) (hp1168.nt 13 87 rfl rfl rfl) (Sub.cons (d := 88) (hp1168.nt 14 88 rfl rfl rfl) (Sub.cons (d := 89) (hp1168.nt 15 89 rfl rfl rfl) (Sub.cons (d := 90) (hp1168.nt 16 90 rfl rfl rfl) (Sub.cons (d := 91) (hp1168.nt 17 91 rfl rfl rfl) (Sub.cons (d := 92) (hp1168.nt 18 92 rfl rfl rfl) (Sub.cons (d := 95) (hp1168.nt 21 95 rfl rfl rfl) (Sub.cons (d := 96) (hp1168.nt 22 96 rfl rfl rfl) (Sub.cons (d := 97) (hp1168.nt 23 97 rfl rfl rfl) (Sub.cons (d := 98) (hp1168.nt 24 98 rfl rfl rfl) (Sub.cons (d := 99) (hp1168.nt 25 99 rfl rfl rfl) (Sub.cons (d := 100) (hp1168.nt 26 100 rfl rfl rfl) (Sub.cons (d := 101) (hp1168.nt 27 101 rfl rfl rfl) (Sub.cons (d := 102) (hp1168.nt 28 102 rfl rfl rfl) (Sub.cons (d := 103) (hp1168.nt 29 103 rfl rfl rfl) (Sub.cons (d := 104) (hp1168.nt 30 104 rfl rfl rfl) (Sub.cons (d := 105) (hp1168.nt 31 105 rfl rfl rfl) (Sub.cons (d := 106) (hp1168.nt 32 106 rfl rfl rfl) (Sub.nil _)))))))))))))))))))))))))))) (CW.cond_t rfl rfl (CW.seq (CW.region (sd rfl (yl_assign rfl rfl (SeqR.done (tn ?_)))))))))
             refine CW.ret (br (tr (tr ?_)))
             have hB1200 : B_s_l27Ways_0 p_0 k404 () = .ret false := by simp only [B_s_l27Ways_0, hb16, hb23, hb191, hb216, hb227, hb403, hb456, cond_true, cond_false, loopE_done, loopE_ret]
             have hL1199 : loopM (B_s_l27Ways_0 p_0) ((s_l24Way (p_0.Ways.getD 0 d_Table) p_0.Name ((((p_0.Ways.getD ((IntKind.wrap .i64 ((p_0.Ways.length : Int) - 1)).toNat) d_Table).Idxs).getD (((s_l24Idx (p_0.Ways.getD ((IntKind.wrap .i64 ((p_0.Ways.length : Int) - 1)).toNat) d_Table) p_0.Name)).toNat) d_Idx).Stage)).length - 0) 0 () = .ret false := hI438.symm.trans (loopM.ret hlt451 hB1200)
             refine br (tr (rr rfl (.cons rfl .nil) ?_))
             have hM1201 : (s_l27Ways p_0) = (false) := by simp only [s_l27Ways, hb16, hb23, hb191, hb216, hb227, hb403, hb456, hL1199, cond_true, cond_false, loopE_done, loopE_ret]
             rw [hM1201]
             exact ⟨rfl, (Ex.trans hf449 hE1171)⟩
          ·refine CW.seq (CW.region (sd rfl (yl_lss rfl rfl rfl (SeqR.done (tn (CW.seq (CW.cond_f rfl (lt_f hlt451) (CW.exit (tx ?_)))))))))
           refine tx ?_
           have hL1203 : loopM (B_s_l27Ways_0 p_0) ((s_l24Way (p_0.Ways.getD 0 d_Table) p_0.Name ((((p_0.Ways.getD ((IntKind.wrap .i64 ((p_0.Ways.length : Int) - 1)).toNat) d_Table).Idxs).getD (((s_l24Idx (p_0.Ways.getD ((IntKind.wrap .i64 ((p_0.Ways.length : Int) - 1)).toNat) d_Table) p_0.Name)).toNat) d_Idx).Stage)).length - 0) 0 () = .done () := hI438.symm.trans (loopM.stop hlt451)
           refine bx (tn (CW.seq (CW.region (sd rfl (yl_assign rfl rfl (SeqR.done (tn (CW.ret (rr rfl (.cons rfl .nil) ?_)))))))))
           have hM1204 : (s_l27Ways p_0) = (true) := by simp only [s_l27Ways, hb16, hb23, hb191, hb216, hb227, hb403, hL1203, cond_true, cond_false, loopE_done, loopE_ret]
           rw [hM1204]
           exact ⟨rfl, hf449⟩
        ·have hb403p := dec_f hb403
         refine CW.cond_t rfl (not_f hb403) (CW.seq (CW.region (sd rfl (yl_assign rfl rfl (SeqR.done (tn (CW.ret (tr (rr rfl (.cons rfl .nil) ?_)))))))))
         have hM1205 : (s_l27Ways p_0) = (false) := by simp only [s_l27Ways, hb16, hb23, hb191, hb216, hb227, hb403, cond_true, cond_false, loopE_done, loopE_ret]
         rw [hM1205]
         exact ⟨rfl, (Ex.trans (Ex.trans (Ex.trans (Below.only (Ex.trans (Ex.trans (Ex.trans (Ex.refl w) hE14) hE188) hE205) hO208 (by omega)) hE215) hE225) hE387)⟩
     ·refine sz rfl rfl (not_f hb216) (sz rfl rfl (not_f hb216) (sz rfl rfl (not_f hb216) (sz rfl rfl (not_f hb216) (sz rfl rfl (not_f hb216) (sd rfl (yl_pick_t rfl rfl (not_f hb216) rfl (SeqR.done (tn (CW.cond_t rfl rfl ?_)))))))))
      refine CW.seq (CW.region (sd rfl (yl_assign rfl rfl (SeqR.done (tn (CW.ret (tr (rr rfl (.cons rfl .nil) ?_))))))))
      have hM1213 : (s_l27Ways p_0) = (false) := by simp only [s_l27Ways, hb16, hb23, hb191, hb216, cond_true, cond_false, loopE_done, loopE_ret]
      rw [hM1213]
      exact ⟨rfl, (Ex.trans (Below.only (Ex.trans (Ex.trans (Ex.trans (Ex.refl w) hE14) hE188) hE205) hO208 (by omega)) hE215)⟩
  ·obtain ⟨eb1221, eo1221, ec1221, eA1221, eS1221, ebl1221, el1221, eR1221, eC1221⟩ := RdS.atD (RdS.ex good_Table h1 hE14) d_Table (i := 0) (by first | omega | assumption)
   obtain ⟨A1222, c1222, A1223, c1223, rfl, h1222, h1223⟩ := eR1221
   have eC1221 : Cells w10 eb1221 (eo1221 + 0 * 3) [.string (bs ((p_0.Ways.getD 0 d_Table).Name)), .slice A1222 (((p_0.Ways.getD 0 d_Table).Cols).length) c1222, .slice A1223 (((p_0.Ways.getD 0 d_Table).Idxs).length) c1223] := eC1221
   refine CW.drawsI 23 (vgetI [DetI (.pointer (some ⟨b9, 0 + 1, none⟩)), DetI (.slice A1 p_0.Ways.length c1), DetI (.int .i64 ((p_0.Ways.length : Int))), DetI (.bool ((s_l1In (p_0.Ways.length : Int) 1 4))), DetI (.bool (!(s_l1In (p_0.Ways.length : Int) 1 4))), DetI (.bool (!(s_l1In (p_0.Ways.length : Int) 1 4))), DetI (.pointer (some ⟨b9, 0 + 1, none⟩)), DetI (.slice A1 p_0.Ways.length c1), DetI (.pointer (some ⟨eb1221, eo1221 + 0 * 3, none⟩)), DetI (.agg #[.string (bs ((p_0.Ways.getD 0 d_Table).Name)), .slice A1222 (((p_0.Ways.getD 0 d_Table).Cols).length) c1222, .slice A1223 (((p_0.Ways.getD 0 d_Table).Idxs).length) c1223]), DetI (.bool ((s_GoodTable (p_0.Ways.getD 0 d_Table)))), DetI (.bool (!(s_GoodTable (p_0.Ways.getD 0 d_Table)))), DetI (.bool (!(s_GoodTable (p_0.Ways.getD 0 d_Table)))), DetI (.bool (!(s_GoodTable (p_0.Ways.getD 0 d_Table)))), DetI (undef), DetI (undef), DetI (undef), DetI (undef), DetI (undef), DetI (undef), DetI (undef), DetI (undef), DetI (.bool (true))]) Tryz.follows rfl rfl rfl rfl rfl rfl (vgetI_stable ⟨StableI.det _, StableI.det _, StableI.det _, StableI.det _, StableI.det _, StableI.det _, StableI.det _, StableI.det _, StableI.det _, StableI.det _, StableI.det _, StableI.det _, StableI.det _, StableI.det _, StableI.det _, StableI.det _, StableI.det _, StableI.det _, StableI.det _, StableI.det _, StableI.det _, StableI.det _, StableI.det _, trivial⟩) ⟨?_, ?_, ?_, ?_, ?_, ?_, ?_, ?_, ?_, ?_, ?_, ?_, ?_, ?_, ?_, ?_, ?_, ?_, ?_, ?_, ?_, ?_, ?_, trivial⟩ ?_
   ·exact fun _ _ h => os rfl ((yl_fieldAddr Tryz.fd40_1 rfl (h.old 1 _ rfl rfl) kI))
   ·exact fun _ _ h => os rfl ((yl_load1 Tryz.ty37 rfl (h.dt 0 6 rfl rfl rfl) (((Box.ex hB13 h.ex).cell 1).trans rfl) kI))
   ·exact fun _ _ h => os rfl ((yl_len Tryz.un37 rfl (h.dt 1 7 rfl rfl rfl) kI))
   ·intro L1241 w1242 hi1243
    refine OpR.op' rfl (yl_call Tryz.en55 rfl (opvs_cons (hi1243.dt 2 8 rfl rfl rfl) (opvs_cons rfl (opvs_cons rfl opvs_nil))) (Cal.mono (c_s_l1In (p_0.Ways.length : Int) 1 4) ?_))
    rintro v1247 w1246 ⟨rfl, hE1248⟩
    exact ⟨rfl, hE1248⟩
   ·exact fun _ _ h => os rfl ((yl_not rfl (h.dt 3 9 rfl rfl rfl) kI))
   ·exact fun _ _ h => os rfl ((yl_move rfl (h.dt 4 10 rfl rfl rfl) kI))
   ·exact fun _ _ h => OpR.want rfl rfl (h.dt 5 11 rfl rfl rfl) (not_t hb16) (Yl.sameI (yl_fieldAddr Tryz.fd40_1 rfl (h.old 1 _ rfl rfl) kI))
   ·exact fun _ _ h => OpR.want rfl rfl (h.dt 5 11 rfl rfl rfl) (not_t hb16) (Yl.sameI (yl_load1 Tryz.ty37 rfl (h.dt 6 12 rfl rfl rfl) (((Box.ex hB13 h.ex).cell 1).trans rfl) kI))
   ·intro L1272 w1273 hi1274
    have hE1275 := hi1274.ex
    have hE1275z := Ex.size hE1275
    exact OpR.want rfl rfl (hi1274.dt 5 11 rfl rfl rfl) (not_t hb16) (Yl.sameI (yl_indexAddrN Tryz.un37 Tryz.ty95 rfl (hi1274.dt 7 13 rfl rfl rfl) rfl eA1221 (by first | omega | assumption | (simp only [IntKind.wrap_i64] at *; omega)) kI))
   ·exact fun _ _ h => OpR.want rfl rfl (h.dt 5 11 rfl rfl rfl) (not_t hb16) (Yl.sameI (yl_loadN (cs := [.string (bs ((p_0.Ways.getD 0 d_Table).Name)), .slice A1222 (((p_0.Ways.getD 0 d_Table).Cols).length) c1222, .slice A1223 (((p_0.Ways.getD 0 d_Table).Idxs).length) c1223]) Tryz.ty95 rfl (h.dt 8 14 rfl rfl rfl) (Cells.ex eC1221 h.ex) rfl kI))
   ·intro L1285 w1286 hi1287
    have hE1288 := hi1287.ex
    refine OpR.want rfl rfl (hi1287.dt 5 11 rfl rfl rfl) (not_t hb16) (yl_call Tryz.en88 rfl (opvs_cons (hi1287.dt 9 15 rfl rfl rfl) opvs_nil) (Cal.mono (c_s_GoodTable (p_0.Ways.getD 0 d_Table) (RdS.up (RdS.ex good_Str h1222 hE1288) good_Str) (RdS.up (RdS.ex good_Idx h1223 hE1288) good_Idx) (okL.getD o4.2.1 ok_d_Table _)) ?_))
    rintro v1294 w1293 ⟨rfl, hE1295⟩
    exact ⟨rfl, hE1295⟩
   ·exact fun _ _ h => OpR.want rfl rfl (h.dt 5 11 rfl rfl rfl) (not_t hb16) (Yl.sameI (yl_not rfl (h.dt 10 16 rfl rfl rfl) kI))
   ·exact fun _ _ h => os rfl ((yl_pick_f rfl (h.dt 5 11 rfl rfl rfl) (not_t hb16) (h.dt 11 17 rfl rfl rfl) kI))
   ·exact fun _ _ h => os rfl ((yl_move rfl (h.dt 12 18 rfl rfl rfl) kI))
   ·exact fun _ _ h => OpR.skip rfl rfl (h.dt 13 19 rfl rfl rfl) (not_f hb23) ⟨rfl, Ex.refl _⟩
   ·exact fun _ _ h => OpR.skip rfl rfl (h.dt 13 19 rfl rfl rfl) (not_f hb23) ⟨rfl, Ex.refl _⟩
   ·exact fun _ _ h => OpR.skip rfl rfl (h.dt 13 19 rfl rfl rfl) (not_f hb23) ⟨rfl, Ex.refl _⟩
   ·exact fun _ _ h => OpR.skip rfl rfl (h.dt 13 19 rfl rfl rfl) (not_f hb23) ⟨rfl, Ex.refl _⟩
   ·exact fun _ _ h => OpR.skip rfl rfl (h.dt 13 19 rfl rfl rfl) (not_f hb23) ⟨rfl, Ex.refl _⟩
   ·exact fun _ _ h => OpR.skip rfl rfl (h.dt 13 19 rfl rfl rfl) (not_f hb23) ⟨rfl, Ex.refl _⟩
   ·exact fun _ _ h => OpR.skip rfl rfl (h.dt 13 19 rfl rfl rfl) (not_f hb23) ⟨rfl, Ex.refl _⟩
   ·exact fun _ _ h => OpR.skip rfl rfl (h.dt 13 19 rfl rfl rfl) (not_f hb23) ⟨rfl, Ex.refl _⟩
   ·exact fun _ _ h => os rfl ((yl_pick_t rfl (h.dt 13 19 rfl rfl rfl) (not_f hb23) rfl kI))
   ·intro fl1362 fh1363 L1359 w1360 hp1361
    have hE1364 := hp1361.ex
    have hE1364z := Ex.size hE1364
    refine SeqR.done (tn (CW.sub (Sub.cons (d := 1) (hp1361.old 1 _ rfl rfl) (Sub.cons (d := 28) (hp1361.nt 22 28 rfl rfl rfl) (Sub.nil _))) (CW.cond_t rfl rfl (CW.seq (CW.region (sd rfl (yl_assign rfl rfl (SeqR.done (tn ?_)))))))))
    refine CW.ret (tr (rr rfl (.cons rfl .nil) ?_))
    have hM1367 : (s_l27Ways p_0) = (false) := by simp only [s_l27Ways, hb16, hb23, cond_true, cond_false, loopE_done, loopE_ret]
    rw [hM1367]
    exact ⟨rfl, (Ex.trans (Ex.trans (Ex.refl w) hE14) hE1364)⟩
 ·refine CW.drawsI 23 (vgetI [DetI (.pointer (some ⟨b9, 0 + 1, none⟩)), DetI (.slice A1 p_0.Ways.length c1), DetI (.int .i64 ((p_0.Ways.length : Int))), DetI (.bool ((s_l1In (p_0.Ways.length : Int) 1 4))), DetI (.bool (!(s_l1In (p_0.Ways.length : Int) 1 4))), DetI (.bool (!(s_l1In (p_0.Ways.length : Int) 1 4))), DetI (undef), DetI (undef), DetI (undef), DetI (undef), DetI (undef), DetI (undef), DetI (.bool (true)), DetI (.bool (true)), DetI (undef), DetI (undef), DetI (undef), DetI (undef), DetI (undef), DetI (undef), DetI (undef), DetI (undef), DetI (.bool (true))]) Tryz.follows rfl rfl rfl rfl rfl rfl (vgetI_stable ⟨StableI.det _, StableI.det _, StableI.det _, StableI.det _, StableI.det _, StableI.det _, StableI.det _, StableI.det _, StableI.det _, StableI.det _, StableI.det _, StableI.det _, StableI.det _, StableI.det _, StableI.det _, StableI.det _, StableI.det _, StableI.det _, StableI.det _, StableI.det _, StableI.det _, StableI.det _, StableI.det _, trivial⟩) ⟨?_, ?_, ?_, ?_, ?_, ?_, ?_, ?_, ?_, ?_, ?_, ?_, ?_, ?_, ?_, ?_, ?_, ?_, ?_, ?_, ?_, ?_, ?_, trivial⟩ ?_
  ·exact fun _ _ h => os rfl ((yl_fieldAddr Tryz.fd40_1 rfl (h.old 1 _ rfl rfl) kI))
  ·exact fun _ _ h => os rfl ((yl_load1 Tryz.ty37 rfl (h.dt 0 6 rfl rfl rfl) (((Box.ex hB13 h.ex).cell 1).trans rfl) kI))
  ·exact fun _ _ h => os rfl ((yl_len Tryz.un37 rfl (h.dt 1 7 rfl rfl rfl) kI))
  ·intro L1387 w1388 hi1389
   refine OpR.op' rfl (yl_call Tryz.en55 rfl (opvs_cons (hi1389.dt 2 8 rfl rfl rfl) (opvs_cons rfl (opvs_cons rfl opvs_nil))) (Cal.mono (c_s_l1In (p_0.Ways.length : Int) 1 4) ?_))
   rintro v1393 w1392 ⟨rfl, hE1394⟩
   exact ⟨rfl, hE1394⟩
  ·exact fun _ _ h => os rfl ((yl_not rfl (h.dt 3 9 rfl rfl rfl) kI))
  ·exact fun _ _ h => os rfl ((yl_move rfl (h.dt 4 10 rfl rfl rfl) kI))
  ·exact fun _ _ h => OpR.skip rfl rfl (h.dt 5 11 rfl rfl rfl) (not_f hb16) ⟨rfl, Ex.refl _⟩
  ·exact fun _ _ h => OpR.skip rfl rfl (h.dt 5 11 rfl rfl rfl) (not_f hb16) ⟨rfl, Ex.refl _⟩
  ·exact fun _ _ h => OpR.skip rfl rfl (h.dt 5 11 rfl rfl rfl) (not_f hb16) ⟨rfl, Ex.refl _⟩
  ·exact fun _ _ h => OpR.skip rfl rfl (h.dt 5 11 rfl rfl rfl) (not_f hb16) ⟨rfl, Ex.refl _⟩
  ·exact fun _ _ h => OpR.skip rfl rfl (h.dt 5 11 rfl rfl rfl) (not_f hb16) ⟨rfl, Ex.refl _⟩
  ·exact fun _ _ h => OpR.skip rfl rfl (h.dt 5 11 rfl rfl rfl) (not_f hb16) ⟨rfl, Ex.refl _⟩
  ·exact fun _ _ h => os rfl ((yl_pick_t rfl (h.dt 5 11 rfl rfl rfl) (not_f hb16) rfl kI))
  ·exact fun _ _ h => os rfl ((yl_move rfl (h.dt 12 18 rfl rfl rfl) kI))
  ·exact fun _ _ h => OpR.skip rfl rfl (h.dt 13 19 rfl rfl rfl) rfl ⟨rfl, Ex.refl _⟩
  ·exact fun _ _ h => OpR.skip rfl rfl (h.dt 13 19 rfl rfl rfl) rfl ⟨rfl, Ex.refl _⟩
  ·exact fun _ _ h => OpR.skip rfl rfl (h.dt 13 19 rfl rfl rfl) rfl ⟨rfl, Ex.refl _⟩
  ·exact fun _ _ h => OpR.skip rfl rfl (h.dt 13 19 rfl rfl rfl) rfl ⟨rfl, Ex.refl _⟩
  ·exact fun _ _ h => OpR.skip rfl rfl (h.dt 13 19 rfl rfl rfl) rfl ⟨rfl, Ex.refl _⟩
  ·exact fun _ _ h => OpR.skip rfl rfl (h.dt 13 19 rfl rfl rfl) rfl ⟨rfl, Ex.refl _⟩
  ·exact fun _ _ h => OpR.skip rfl rfl (h.dt 13 19 rfl rfl rfl) rfl ⟨rfl, Ex.refl _⟩
  ·exact fun _ _ h => OpR.skip rfl rfl (h.dt 13 19 rfl rfl rfl) rfl ⟨rfl, Ex.refl _⟩
  ·exact fun _ _ h => os rfl ((yl_pick_t rfl (h.dt 13 19 rfl rfl rfl) rfl rfl kI))
  ·intro fl1495 fh1496 L1492 w1493 hp1494
   have hE1497 := hp1494.ex
   have hE1497z := Ex.size hE1497
   refine SeqR.done (tn (CW.sub (Sub.cons (d := 1) (hp1494.old 1 _ rfl rfl) (Sub.cons (d := 28) (hp1494.nt 22 28 rfl rfl rfl) (Sub.nil _))) (CW.cond_t rfl rfl (CW.seq (CW.region (sd rfl (yl_assign rfl rfl (SeqR.done (tn ?_)))))))))
   refine CW.ret (tr (rr rfl (.cons rfl .nil) ?_))
   have hM1500 : (s_l27Ways p_0) = (false) := by simp only [s_l27Ways, hb16, cond_true, cond_false, loopE_done, loopE_ret]
   rw [hM1500]
   exact ⟨rfl, (Ex.trans (Ex.trans (Ex.refl w) hE14) hE1497)⟩
set_option maxRecDepth 100000 in
set_option maxHeartbeats 2000000 in
theorem c_s_l1All {A1 : Option Addr} {c1 : Nat} {w : World} (p_l : List Int) (p_lo : Int) (p_hi : Int) (h1 : RdS w (Iv 0 w.heap.size) (RF e_Int) 1 A1 p_l.length c1 p_l) (o2 : (okL okT) p_l) : Cal Tryz.prog 56 #[.slice A1 p_l.length c1, .int .i64 (p_lo), .int .i64 (p_hi)] w fun v w' => v = .bool ((s_l1All p_l p_lo p_hi)) ∧ Ex w w' := by
 have hol3 := o2.1
 refine Cal.of (vs := [.slice A1 p_l.length c1, .int .i64 (p_lo), .int .i64 (p_hi)]) Tryz.func56 rfl Tryz.ntmps56 rfl (CW.seq (CW.region (sd rfl (yl_assign rfl rfl (SeqR.done (tn (CW.seq (CW.seq (CW.region ?_)))))))))
 refine sd rfl (yl_move rfl rfl (sd rfl (yl_len Tryz.un23 rfl rfl (sd rfl (yl_move rfl rfl (SeqR.done (tn (CW.block (CW.loop (fun m5 L6 w7 => ∃ (k4 : Nat), m5 = p_l.length - k4 ∧ k4 ≤ p_l.length ∧ w.heap.size ≤ w7.heap.size ∧ lkp L6 1 = some (.int .i64 (p_lo)) ∧ lkp L6 2 = some (.int .i64 (p_hi)) ∧ lkp L6 9 = some (.slice A1 p_l.length c1) ∧ lkp L6 10 = some (.int .i64 ((p_l.length : Int))) ∧ lkp L6 11 = some (.int .i64 ((k4 : Int))) ∧ RdS w7 (Iv 0 w.heap.size) (RF e_Int) 1 A1 p_l.length c1 p_l ∧ Ex w w7 ∧ loopM (B_s_l1All_0 p_l p_lo p_hi) (p_l.length - k4) k4 () = loopM (B_s_l1All_0 p_l p_lo p_hi) (p_l.length - 0) 0 ()) (p_l.length - 0) ?_ ?_)))))))))
 ·exact ⟨0, rfl, (by omega), Nat.le_refl _, rfl, rfl, rfl, rfl, rfl, h1, (Ex.refl w), rfl⟩
 ·rintro m8 L9 w10 ⟨k4, rfl, hk11, hsz13, hl14, hl15, hl16, hl17, hl18, hf19, hf20, hI12⟩
  refine CW.sub (Sub.cons hl14 (Sub.cons hl15 (Sub.cons hl16 (Sub.cons hl17 (Sub.cons hl18 (Sub.nil _)))))) ?_
  have hf20z := Ex.size hf20
  have hbg21 := RdS.big hf19
  rcases Nat.lt_or_ge k4 p_l.length with hlt22 | hlt22
  ·refine CW.seq (CW.region (sd rfl (yl_lss rfl rfl rfl (SeqR.done (tn (CW.seq (CW.cond_t rfl (lt_t hlt22) (CW.skip (tn ?_)))))))))
   refine CW.seq (CW.block (CW.seq (CW.region ?_)))
   obtain ⟨eb23, eo23, ec23, eA23, eS23, ebl23, el23, eR23, eC23⟩ := RdS.atD hf19 d_Int (i := k4) (by first | omega | assumption)
   obtain rfl := eR23
   have eC23 : Cells w10 eb23 (eo23 + k4 * 1) [.int .i64 ((p_l.getD k4 d_Int))] := eC23
   refine sd rfl (yl_indexAddrN Tryz.un23 Tryz.ty3 rfl rfl rfl eA23 (by first | omega | assumption | (simp only [IntKind.wrap_i64] at *; omega)) (sd rfl (yl_load1 Tryz.ty3 rfl rfl (eC23 0 _ rfl) (sd rfl (yl_assign rfl rfl (SeqR.done (tn (CW.seq (CW.region (sd rfl (yl_move rfl rfl (sd rfl (yl_move rfl rfl ?_)))))))))))))
   refine sd rfl (yl_move rfl rfl (sd rfl (yl_call Tryz.en55 rfl (opvs_cons rfl (opvs_cons rfl (opvs_cons rfl opvs_nil))) (Cal.mono (c_s_l1In (p_l.getD k4 d_Int) p_lo p_hi) ?_))))
   rintro v25 w24 ⟨rfl, hE26⟩
   have hE26z := Ex.size hE26
   refine sd rfl (yl_not rfl rfl (SeqR.done (tn (bcase (s_l1In (p_l.getD k4 d_Int) p_lo p_hi) (fun hb27 => ?_) (fun hb27 => ?_)))))
   ·have hb27p := f_l1In hb27
    refine CW.cond_f rfl (not_t hb27) (CW.skip (bn (tn (CW.region (sd rfl (yl_inc rfl rfl rfl (by omega) (sd rfl (yl_move rfl rfl (SeqR.done (tn ?_))))))))))
    have hB28 : B_s_l1All_0 p_l p_lo p_hi k4 () = .cont () := by simp only [B_s_l1All_0, hb27, cond_true, cond_false, loopE_done, loopE_ret]
    exact ⟨p_l.length - (k4 + 1), by omega, k4 + 1, rfl, hlt22, (by omega), rfl, rfl, rfl, rfl, rfl, (RdS.ex good_Int hf19 hE26), (Ex.trans hf20 hE26), (loopM.cont hlt22 hB28).symm.trans hI12⟩
   ·refine CW.cond_t rfl (not_f hb27) (CW.seq (CW.region (sd rfl (yl_assign rfl rfl (SeqR.done (tn (CW.ret (br (tr ?_)))))))))
    refine tr ?_
    have hB32 : B_s_l1All_0 p_l p_lo p_hi k4 () = .ret false := by simp only [B_s_l1All_0, hb27, cond_true, cond_false, loopE_done, loopE_ret]
    have hL31 : loopM (B_s_l1All_0 p_l p_lo p_hi) (p_l.length - 0) 0 () = .ret false := hI12.symm.trans (loopM.ret hlt22 hB32)
    refine br (tr (rr rfl (.cons rfl .nil) ?_))
    have hM33 : (s_l1All p_l p_lo p_hi) = (false) := by simp only [s_l1All, hb27, hL31, cond_true, cond_false, loopE_done, loopE_ret]
    rw [hM33]
    exact ⟨rfl, (Ex.trans hf20 hE26)⟩
  ·refine CW.seq (CW.region (sd rfl (yl_lss rfl rfl rfl (SeqR.done (tn (CW.seq (CW.cond_f rfl (lt_f hlt22) (CW.exit (tx ?_)))))))))
   refine tx ?_
   have hL35 : loopM (B_s_l1All_0 p_l p_lo p_hi) (p_l.length - 0) 0 () = .done () := hI12.symm.trans (loopM.stop hlt22)
   refine bx (tn (CW.seq (CW.region (sd rfl (yl_assign rfl rfl (SeqR.done (tn (CW.ret (rr rfl (.cons rfl .nil) ?_)))))))))
   have hM36 : (s_l1All p_l p_lo p_hi) = (true) := by simp only [s_l1All, hL35, cond_true, cond_false, loopE_done, loopE_ret]
   rw [hM36]
   exact ⟨rfl, hf20⟩
set_option maxRecDepth 100000 in
set_option maxHeartbeats 2000000 in
theorem c_s_l3Bytes {w : World} (p_s : Str) (p_more : Str) (o1 : okS p_s) (o2 : okS p_more) : Cal Tryz.prog 142 #[.string (bs (p_s)), .string (bs (p_more))] w fun v w' => v = .bool ((s_l3Bytes p_s p_more)) ∧ Ex w w' := by
 have hol3 : p_s.length ≤ 1073741824 := o1
 have hol4 : p_more.length ≤ 1073741824 := o2
 refine Cal.of (vs := [.string (bs (p_s)), .string (bs (p_more))]) Tryz.func142 rfl Tryz.ntmps142 rfl (CW.seq (CW.region (sd rfl (yl_assign rfl rfl (SeqR.done (tn (CW.seq (CW.seq (CW.region ?_)))))))))
 refine sd rfl (yl_assign rfl rfl (SeqR.done (tn (CW.block (CW.loop (fun m6 L7 w8 => ∃ (k5 : Nat), m6 = p_s.length - k5 ∧ k5 ≤ p_s.length ∧ w.heap.size ≤ w8.heap.size ∧ lkp L7 0 = some (.string (bs (p_s))) ∧ lkp L7 1 = some (.string (bs (p_more))) ∧ lkp L7 5 = some (.int .i64 ((k5 : Int))) ∧ Ex w w8 ∧ loopM (B_s_l3Bytes_0 p_s p_more) (p_s.length - k5) k5 () = loopM (B_s_l3Bytes_0 p_s p_more) (p_s.length - 0) 0 ()) (p_s.length - 0) ?_ ?_)))))
 ·exact ⟨0, rfl, (by omega), Nat.le_refl _, rfl, rfl, rfl, (Ex.refl w), rfl⟩
 ·rintro m9 L10 w11 ⟨k5, rfl, hk12, hsz14, hl15, hl16, hl17, hf18, hI13⟩
  refine CW.sub (Sub.cons hl15 (Sub.cons hl16 (Sub.cons hl17 (Sub.nil _)))) ?_
  have hf18z := Ex.size hf18
  have hbg19 : p_s.length ≤ 1073741824 := o1
  rcases Nat.lt_or_ge k5 p_s.length with hlt20 | hlt20
  ·refine CW.seq (CW.seq (CW.region (sd rfl (yl_move rfl rfl (sd rfl (yl_move rfl rfl (sd rfl (yl_slen Tryz.un9 (a := p_s) rfl rfl (sd rfl (yl_lss rfl rfl rfl (SeqR.done (tn ?_))))))))))))
   refine CW.cond_t rfl (lt_t hlt20) (CW.skip (tn (CW.seq (CW.block (CW.seq (CW.region (sd rfl (yl_move rfl rfl (sd rfl (yl_move rfl rfl ?_))))))))))
   refine sd rfl (yl_sindexN Tryz.un9 (a := p_s) rfl rfl rfl (by first | omega | assumption | (simp only [IntKind.wrap_i64] at *; omega)) (sd rfl (yl_geq rfl rfl rfl (sd rfl (yl_move rfl rfl (bcase (decide (97 ≤ ((p_s.getD k5 0).toNat : Int))) (fun hb21 => ?_) (fun hb21 => ?_)))))))
   ·have hb21p := dec_t hb21
    refine sy rfl rfl hb21 (yl_move rfl rfl (sy rfl rfl hb21 (yl_move rfl rfl (sy rfl rfl hb21 (yl_sindexN Tryz.un9 (a := p_s) rfl rfl rfl (by first | omega | assumption | (simp only [IntKind.wrap_i64] at *; omega)) (sy rfl rfl hb21 (yl_leq rfl rfl rfl (sd rfl (yl_pick_t rfl rfl hb21 rfl (sd rfl (yl_move rfl rfl (bcase (decide (((p_s.getD k5 0).toNat : Int) ≤ 122)) (fun hb22 => ?_) (fun hb22 => ?_)))))))))))))
    ·have hb22p := dec_t hb22
     refine sz rfl rfl hb22 (sz rfl rfl hb22 (sz rfl rfl hb22 (sz rfl rfl hb22 (sz rfl rfl hb22 (sq rfl rfl (sq rfl rfl (sq rfl rfl (sq rfl rfl ?_))))))))
     refine sz rfl rfl hb22 (sd rfl (yl_pick_t rfl rfl hb22 rfl (sd rfl (yl_assign rfl rfl (SeqR.done (tn (CW.seq (CW.seq (CW.region (sd rfl (yl_assign rfl rfl ?_)))))))))))
     refine SeqR.done (tn (CW.block (CW.loop (fun m25 L26 w27 => ∃ (k23 : Nat) (x24 : Bool), m25 = p_more.length - k23 ∧ k23 ≤ p_more.length ∧ w11.heap.size ≤ w27.heap.size ∧ lkp L26 0 = some (.string (bs (p_s))) ∧ lkp L26 1 = some (.string (bs (p_more))) ∧ lkp L26 5 = some (.int .i64 ((k5 : Int))) ∧ lkp L26 6 = some (.bool (x24)) ∧ lkp L26 7 = some (.int .i64 ((k23 : Int))) ∧ lkp L26 19 = some (.string (bs (p_s))) ∧ lkp L26 20 = some (.int .i64 ((k5 : Int))) ∧ lkp L26 21 = some (.int .u8 (((p_s.getD k5 0).toNat : Int))) ∧ lkp L26 22 = some (.bool (decide (((p_s.getD k5 0).toNat : Int) ≤ 122))) ∧ lkp L26 25 = some (undef) ∧ lkp L26 26 = some (undef) ∧ lkp L26 27 = some (undef) ∧ lkp L26 28 = some (undef) ∧ lkp L26 29 = some (undef) ∧ lkp L26 30 = some (undef) ∧ lkp L26 31 = some (undef) ∧ lkp L26 32 = some (undef) ∧ lkp L26 33 = some (undef) ∧ lkp L26 34 = some (undef) ∧ Ex w w27 ∧ loopM (B_s_l3Bytes_1 p_s p_more k5) (p_more.length - k23) k23 (x24) = loopM (B_s_l3Bytes_1 p_s p_more k5) (p_more.length - 0) 0 (true)) (p_more.length - 0) ?_ ?_)))
     ·exact ⟨0, true, rfl, (by omega), Nat.le_refl _, rfl, rfl, rfl, rfl, rfl, rfl, rfl, rfl, rfl, rfl, rfl, rfl, rfl, rfl, rfl, rfl, rfl, rfl, rfl, hf18, rfl⟩
     ·rintro m28 L29 w30 ⟨k23, x24, rfl, hk31, hsz33, hl34, hl35, hl36, hl37, hl38, hl39, hl40, hl41, hl42, hl43, hl44, hl45, hl46, hl47, hl48, hl49, hl50, hl51, hl52, hf53, hI32⟩
      refine CW.sub (Sub.cons hl34 (Sub.cons hl35 (Sub.cons hl36 (Sub.cons hl37 (Sub.cons hl38 (Sub.cons hl39 (Sub.cons hl40 (Sub.cons hl41 (Sub.cons hl42 (Sub.cons hl43 (Sub.cons hl44 (Sub.cons hl45 (Sub.cons hl46 (Sub.cons hl47 (Sub.cons hl48 (Sub.cons hl49 (Sub.cons hl50 (Sub.cons hl51 (Sub.cons hl52 (Sub.nil _)))))))))))))))))))) ?_
      have hf53z := Ex.size hf53
      have hbg54 : p_more.length ≤ 1073741824 := o2
      rcases Nat.lt_or_ge k23 p_more.length with hlt55 | hlt55
      ·refine CW.seq (CW.seq (CW.region (sd rfl (yl_move rfl rfl (sd rfl (yl_move rfl rfl (sd rfl (yl_slen Tryz.un9 (a := p_more) rfl rfl (sd rfl (yl_lss rfl rfl rfl (SeqR.done (tn ?_))))))))))))
       refine CW.cond_t rfl (lt_t hlt55) (CW.skip (tn (CW.seq (CW.block (bcase (x24) (fun hb56 => ?_) (fun hb56 => ?_))))))
       ·refine CW.drawsI 11 (vgetI [DetI (.bool (x24)), DetI (.bool (x24)), DetI (undef), DetI (undef), DetI (undef), DetI (undef), DetI (undef), DetI (undef), DetI (undef), DetI (.bool (true)), DetI (.bool (true))]) Tryz.follows rfl rfl rfl rfl rfl rfl (vgetI_stable ⟨StableI.det _, StableI.det _, StableI.det _, StableI.det _, StableI.det _, StableI.det _, StableI.det _, StableI.det _, StableI.det _, StableI.det _, StableI.det _, trivial⟩) ⟨?_, ?_, ?_, ?_, ?_, ?_, ?_, ?_, ?_, ?_, ?_, trivial⟩ ?_
        ·exact fun _ _ h => os rfl ((yl_move rfl (h.old 6 _ rfl rfl) kI))
        ·exact fun _ _ h => os rfl ((yl_move rfl (h.dt 0 42 rfl rfl rfl) kI))
        ·exact fun _ _ h => OpR.skip rfl rfl (h.dt 1 43 rfl rfl rfl) hb56 ⟨rfl, Ex.refl _⟩
        ·exact fun _ _ h => OpR.skip rfl rfl (h.dt 1 43 rfl rfl rfl) hb56 ⟨rfl, Ex.refl _⟩
        ·exact fun _ _ h => OpR.skip rfl rfl (h.dt 1 43 rfl rfl rfl) hb56 ⟨rfl, Ex.refl _⟩
        ·exact fun _ _ h => OpR.skip rfl rfl (h.dt 1 43 rfl rfl rfl) hb56 ⟨rfl, Ex.refl _⟩
        ·exact fun _ _ h => OpR.skip rfl rfl (h.dt 1 43 rfl rfl rfl) hb56 ⟨rfl, Ex.refl _⟩
        ·exact fun _ _ h => OpR.skip rfl rfl (h.dt 1 43 rfl rfl rfl) hb56 ⟨rfl, Ex.refl _⟩
        ·exact fun _ _ h => OpR.skip rfl rfl (h.dt 1 43 rfl rfl rfl) hb56 ⟨rfl, Ex.refl _⟩
        ·exact fun _ _ h => os rfl ((yl_pick_t rfl (h.dt 1 43 rfl rfl rfl) hb56 rfl kI))
        ·exact fun _ _ h => os rfl ((yl_assign rfl (h.dt 9 51 rfl rfl rfl) kI))
        ·intro fl116 fh117 L113 w114 hp115
         have hE118 := hp115.ex
         have hE118z := Ex.size hE118
         refine SeqR.done (bn (tn (CW.sub (Sub.cons (d := 0) (hp115.old 0 _ rfl rfl) (Sub.cons (d := 1) (hp115.old 1 _ rfl rfl) (Sub.cons (d := 5) (hp115.old 5 _ rfl rfl) (Sub.cons (d := 6) (hp115.nt 10 6 rfl rfl rfl) (Sub.cons (d := 7) (hp115.old 7 _ rfl rfl) (Sub.cons (d := 19) (hp115.old 19 _ rfl rfl) (Sub.cons (d := 20) (hp115.old 20 _ rfl rfl) (Sub.cons (d := 21) (hp115.old 21 _ rfl rfl) (Sub.cons (d := 22) (hp115.old 22 _ rfl rfl) (Sub.cons (d := 25) (hp115.old 25 _ rfl rfl) (Sub.cons (d := 26) (hp115.old 26 _ rfl rfl) (Sub.cons (d := 27) (hp115.old 27 _ rfl rfl) (Sub.cons (d := 28) (hp115.old 28 _ rfl rfl) (Sub.cons (d := 29) (hp115.old 29 _ rfl rfl) (Sub.cons (d := 30) (hp115.old 30 _ rfl rfl) (Sub.cons (d := 31) (hp115.old 31 _ rfl rfl) (Sub.cons (d := 32) (hp115.old 32 _ rfl rfl) (Sub.cons (d := 33) (hp115.old 33 _ rfl rfl) (Sub.cons (d := 34) (hp115.old 34 _ rfl rfl) (Sub.cons (d := 44) (hp115.nt 2 44 rfl rfl rfl) (Sub.cons (d := 45) (hp115.nt 3 45 rfl rfl rfl) (Sub.cons (d := 46) (hp115.nt 4 46 rfl rfl rfl) (Sub.cons (d := 47) (hp115.nt 5 47 rfl rfl rfl) (Sub.cons (d := 48) (hp115.nt 6 48 rfl rfl rfl) (Sub.cons (d := 49) (hp115.nt 7 49 rfl rfl rfl) (Sub.cons (d := 50) (hp115.nt 8 50 rfl rfl rfl) (Sub.nil _))))))))))))))))))))))))))) (CW.region (sd rfl (yl_move rfl rfl (sd rfl (yl_inc rfl rfl rfl (by omega) (sd rfl (yl_assign rfl rfl (SeqR.done ?_)))))))))))
         refine tn ?_
         have hB145 : B_s_l3Bytes_1 p_s p_more k5 k23 (x24) = .cont (true) := by simp only [B_s_l3Bytes_1, hb21, hb22, hb56, cond_true, cond_false, loopE_done, loopE_ret]
         exact ⟨p_more.length - (k23 + 1), by omega, k23 + 1, true, rfl, hlt55, (by omega), rfl, rfl, rfl, rfl, rfl, rfl, rfl, rfl, rfl, rfl, rfl, rfl, rfl, rfl, rfl, rfl, rfl, rfl, rfl, (Ex.trans hf53 hE118), (loopM.cont hlt55 hB145).symm.trans hI32⟩
       ·refine CW.drawsI 11 (vgetI [DetI (.bool (x24)), DetI (.bool (x24)), DetI (.string (bs (p_s))), DetI (.int .i64 ((k5 : Int))), DetI (.int .u8 (((p_s.getD k5 0).toNat : Int))), DetI (.string (bs (p_more))), DetI (.int .i64 ((k23 : Int))), DetI (.int .u8 (((p_more.getD k23 0).toNat : Int))), DetI (.bool (decide (((p_s.getD k5 0).toNat : Int) = ((p_more.getD k23 0).toNat : Int)))), DetI (.bool (decide (((p_s.getD k5 0).toNat : Int) = ((p_more.getD k23 0).toNat : Int)))), DetI (.bool (decide (((p_s.getD k5 0).toNat : Int) = ((p_more.getD k23 0).toNat : Int))))]) Tryz.follows rfl rfl rfl rfl rfl rfl (vgetI_stable ⟨StableI.det _, StableI.det _, StableI.det _, StableI.det _, StableI.det _, StableI.det _, StableI.det _, StableI.det _, StableI.det _, StableI.det _, StableI.det _, trivial⟩) ⟨?_, ?_, ?_, ?_, ?_, ?_, ?_, ?_, ?_, ?_, ?_, trivial⟩ ?_
        ·exact fun _ _ h => os rfl ((yl_move rfl (h.old 6 _ rfl rfl) kI))
        ·exact fun _ _ h => os rfl ((yl_move rfl (h.dt 0 42 rfl rfl rfl) kI))
        ·exact fun _ _ h => OpR.want rfl rfl (h.dt 1 43 rfl rfl rfl) hb56 (Yl.sameI (yl_move rfl (h.old 0 _ rfl rfl) kI))
        ·exact fun _ _ h => OpR.want rfl rfl (h.dt 1 43 rfl rfl rfl) hb56 (Yl.sameI (yl_move rfl (h.old 5 _ rfl rfl) kI))
        ·intro L169 w170 hi171
         have hE172 := hi171.ex
         have hE172z := Ex.size hE172
         exact OpR.want rfl rfl (hi171.dt 1 43 rfl rfl rfl) hb56 (Yl.sameI (yl_sindexN Tryz.un9 (a := p_s) rfl (hi171.dt 2 44 rfl rfl rfl) (hi171.dt 3 45 rfl rfl rfl) (by first | omega | assumption | (simp only [IntKind.wrap_i64] at *; omega)) kI))
        ·exact fun _ _ h => OpR.want rfl rfl (h.dt 1 43 rfl rfl rfl) hb56 (Yl.sameI (yl_move rfl (h.old 1 _ rfl rfl) kI))
        ·exact fun _ _ h => OpR.want rfl rfl (h.dt 1 43 rfl rfl rfl) hb56 (Yl.sameI (yl_move rfl (h.old 7 _ rfl rfl) kI))
        ·intro L188 w189 hi190
         have hE191 := hi190.ex
         have hE191z := Ex.size hE191
         exact OpR.want rfl rfl (hi190.dt 1 43 rfl rfl rfl) hb56 (Yl.sameI (yl_sindexN Tryz.un9 (a := p_more) rfl (hi190.dt 5 47 rfl rfl rfl) (hi190.dt 6 48 rfl rfl rfl) (by first | omega | assumption | (simp only [IntKind.wrap_i64] at *; omega)) kI))
        ·exact fun _ _ h => OpR.want rfl rfl (h.dt 1 43 rfl rfl rfl) hb56 (Yl.sameI (yl_eql rfl (h.dt 4 46 rfl rfl rfl) (h.dt 7 49 rfl rfl rfl) kI))
        ·exact fun _ _ h => os rfl ((yl_pick_f rfl (h.dt 1 43 rfl rfl rfl) hb56 (h.dt 8 50 rfl rfl rfl) kI))
        ·exact fun _ _ h => os rfl ((yl_assign rfl (h.dt 9 51 rfl rfl rfl) kI))
        ·intro fl216 fh217 L213 w214 hp215
         have hE218 := hp215.ex
         have hE218z := Ex.size hE218
         refine SeqR.done (bn (tn (CW.sub (Sub.cons (d := 0) (hp215.old 0 _ rfl rfl) (Sub.cons (d := 1) (hp215.old 1 _ rfl rfl) (Sub.cons (d := 5) (hp215.old 5 _ rfl rfl) (Sub.cons (d := 6) (hp215.nt 10 6 rfl rfl rfl) (Sub.cons (d := 7) (hp215.old 7 _ rfl rfl) (Sub.cons (d := 19) (hp215.old 19 _ rfl rfl) (Sub.cons (d := 20) (hp215.old 20 _ rfl rfl) (Sub.cons (d := 21) (hp215.old 21 _ rfl rfl) (Sub.cons (d := 22) (hp215.old 22 _ rfl rfl) (Sub.cons (d := 25) (hp215.old 25 _ rfl rfl) (Sub.cons (d := 26) (hp215.old 26 _ rfl rfl) (Sub.cons (d := 27) (hp215.old 27 _ rfl rfl) (Sub.cons (d := 28) (hp215.old 28 _ rfl rfl) (Sub.cons (d := 29) (hp215.old 29 _ rfl rfl) (Sub.cons (d := 30) (hp215.old 30 _ rfl rfl) (Sub.cons (d := 31) (hp215.old 31 _ rfl rfl) (Sub.cons (d := 32) (hp215.old 32 _ rfl rfl) (Sub.cons (d := 33) (hp215.old 33 _ rfl rfl) (Sub.cons (d := 34) (hp215.old 34 _ rfl rfl) (Sub.cons (d := 44) (hp215.nt 2 44 rfl rfl rfl) (Sub.cons (d := 45) (hp215.nt 3 45 rfl rfl rfl) (Sub.cons (d := 46) (hp215.nt 4 46 rfl rfl rfl) (Sub.cons (d := 47) (hp215.nt 5 47 rfl rfl rfl) (Sub.cons (d := 48) (hp215.nt 6 48 rfl rfl rfl) (Sub.cons (d := 49) (hp215.nt 7 49 rfl rfl rfl) (Sub.cons (d := 50) (hp215.nt 8 50 rfl rfl rfl) (Sub.nil _))))))))))))))))))))))))))) (CW.region (sd rfl (yl_move rfl rfl (sd rfl (yl_inc rfl rfl rfl (by omega) (sd rfl (yl_assign rfl rfl (SeqR.done ?_)))))))))))
         refine tn ?_
         have hB245 : B_s_l3Bytes_1 p_s p_more k5 k23 (x24) = .cont (decide (((p_s.getD k5 0).toNat : Int) = ((p_more.getD k23 0).toNat : Int))) := by simp only [B_s_l3Bytes_1, hb21, hb22, hb56, cond_true, cond_false, loopE_done, loopE_ret]
         exact ⟨p_more.length - (k23 + 1), by omega, k23 + 1, decide (((p_s.getD k5 0).toNat : Int) = ((p_more.getD k23 0).toNat : Int)), rfl, hlt55, (by omega), rfl, rfl, rfl, rfl, rfl, rfl, rfl, rfl, rfl, rfl, rfl, rfl, rfl, rfl, rfl, rfl, rfl, rfl, rfl, (Ex.trans hf53 hE218), (loopM.cont hlt55 hB245).symm.trans hI32⟩
      ·refine CW.seq (CW.seq (CW.region (sd rfl (yl_move rfl rfl (sd rfl (yl_move rfl rfl (sd rfl (yl_slen Tryz.un9 (a := p_more) rfl rfl (sd rfl (yl_lss rfl rfl rfl (SeqR.done (tn ?_))))))))))))
       refine CW.cond_f rfl (lt_f hlt55) (CW.exit (tx (tx ?_)))
       have hL247 : loopM (B_s_l3Bytes_1 p_s p_more k5) (p_more.length - 0) 0 (true) = .done (x24) := hI32.symm.trans (loopM.stop hlt55)
       refine bx (tn (CW.seq (CW.region (sd rfl (yl_move rfl rfl (sd rfl (yl_not rfl rfl (SeqR.done (tn (bcase (x24) (fun hb248 => ?_) (fun hb248 => ?_)))))))))))
       ·refine CW.cond_f rfl (not_t hb248) (CW.skip (bn (tn (CW.region (sd rfl (yl_move rfl rfl (sd rfl (yl_inc rfl rfl rfl (by omega) (sd rfl (yl_assign rfl rfl (SeqR.done ?_)))))))))))
        refine tn ?_
        have hB249 : B_s_l3Bytes_0 p_s p_more k5 () = .cont () := by simp only [B_s_l3Bytes_0, hb21, hb22, hb248, hL247, cond_true, cond_false, loopE_done, loopE_ret]
        exact ⟨p_s.length - (k5 + 1), by omega, k5 + 1, rfl, hlt20, (by omega), rfl, rfl, rfl, hf53, (loopM.cont hlt20 hB249).symm.trans hI13⟩
       ·refine CW.cond_t rfl (not_f hb248) (CW.seq (CW.region (sd rfl (yl_assign rfl rfl (SeqR.done (tn (CW.ret (br (tr ?_)))))))))
        refine tr ?_
        have hB251 : B_s_l3Bytes_0 p_s p_more k5 () = .ret false := by simp only [B_s_l3Bytes_0, hb21, hb22, hb248, hL247, cond_true, cond_false, loopE_done, loopE_ret]
        have hL250 : loopM (B_s_l3Bytes_0 p_s p_more) (p_s.length - 0) 0 () = .ret false := hI13.symm.trans (loopM.ret hlt20 hB251)
        refine br (tr (rr rfl (.cons rfl .nil) ?_))
        have hM252 : (s_l3Bytes p_s p_more) = (false) := by simp only [s_l3Bytes, hb21, hb22, hb248, hL247, hL250, cond_true, cond_false, loopE_done, loopE_ret]
        rw [hM252]
        exact ⟨rfl, hf53⟩
    ·have hb22p := dec_f hb22
     refine sy rfl rfl hb22 (yl_move rfl rfl (sy rfl rfl hb22 (yl_move rfl rfl (sy rfl rfl hb22 (yl_sindexN Tryz.un9 (a := p_s) rfl rfl rfl (by first | omega | assumption | (simp only [IntKind.wrap_i64] at *; omega)) (sy rfl rfl hb22 (yl_geq rfl rfl rfl (sy rfl rfl hb22 (yl_move rfl rfl (bcase (decide (48 ≤ ((p_s.getD k5 0).toNat : Int))) (fun hb253 => ?_) (fun hb253 => ?_)))))))))))
     ·have hb253p := dec_t hb253
      refine sy rfl rfl hb253 (yl_move rfl rfl (sy rfl rfl hb253 (yl_move rfl rfl (sy rfl rfl hb253 (yl_sindexN Tryz.un9 (a := p_s) rfl rfl rfl (by first | omega | assumption | (simp only [IntKind.wrap_i64] at *; omega)) (sy rfl rfl hb253 (yl_leq rfl rfl rfl (sy rfl rfl hb22 (yl_pick_t rfl rfl hb253 rfl (sd rfl (yl_pick_f rfl rfl hb22 rfl (sd rfl (yl_assign rfl rfl (SeqR.done (tn ?_)))))))))))))))
      refine CW.seq (CW.seq (CW.region (sd rfl (yl_assign rfl rfl (SeqR.done (tn (CW.block (CW.loop (fun m256 L257 w258 => ∃ (k254 : Nat) (x255 : Bool), m256 = p_more.length - k254 ∧ k254 ≤ p_more.length ∧ w11.heap.size ≤ w258.heap.size ∧ lkp L257 0 = some (.string (bs (p_s))) ∧ lkp L257 1 = some (.string (bs (p_more))) ∧ lkp L257 5 = some (.int .i64 ((k5 : Int))) ∧ lkp L257 6 = some (.bool (x255)) ∧ lkp L257 7 = some (.int .i64 ((k254 : Int))) ∧ lkp L257 19 = some (.string (bs (p_s))) ∧ lkp L257 20 = some (.int .i64 ((k5 : Int))) ∧ lkp L257 21 = some (.int .u8 (((p_s.getD k5 0).toNat : Int))) ∧ lkp L257 22 = some (.bool (decide (((p_s.getD k5 0).toNat : Int) ≤ 122))) ∧ lkp L257 25 = some (.string (bs (p_s))) ∧ lkp L257 26 = some (.int .i64 ((k5 : Int))) ∧ lkp L257 27 = some (.int .u8 (((p_s.getD k5 0).toNat : Int))) ∧ lkp L257 28 = some (.bool (decide (48 ≤ ((p_s.getD k5 0).toNat : Int)))) ∧ lkp L257 29 = some (.bool (decide (48 ≤ ((p_s.getD k5 0).toNat : Int)))) ∧ lkp L257 30 = some (.string (bs (p_s))) ∧ lkp L257 31 = some (.int .i64 ((k5 : Int))) ∧ lkp L257 32 = some (.int .u8 (((p_s.getD k5 0).toNat : Int))) ∧ lkp L257 33 = some (.bool (decide (((p_s.getD k5 0).toNat : Int) ≤ 57))) ∧ lkp L257 34 = some (.bool (decide (((p_s.getD k5 0).toNat : Int) ≤ 57))) ∧ Ex w w258 ∧ loopM (B_s_l3Bytes_1 p_s p_more k5) (p_more.length - k254) k254 (x255) = loopM (B_s_l3Bytes_1 p_s p_more k5) (p_more.length - 0) 0 (decide (((p_s.getD k5 0).toNat : Int) ≤ 57))) (p_more.length - 0) ?_ ?_))))))))
      ·exact ⟨0, decide (((p_s.getD k5 0).toNat : Int) ≤ 57), rfl, (by omega), Nat.le_refl _, rfl, rfl, rfl, rfl, rfl, rfl, rfl, rfl, rfl, rfl, rfl, rfl, rfl, rfl, rfl, rfl, rfl, rfl, rfl, hf18, rfl⟩
      ·rintro m259 L260 w261 ⟨k254, x255, rfl, hk262, hsz264, hl265, hl266, hl267, hl268, hl269, hl270, hl271, hl272, hl273, hl274, hl275, hl276, hl277, hl278, hl279, hl280, hl281, hl282, hl283, hf284, hI263⟩
       refine CW.sub (Sub.cons hl265 (Sub.cons hl266 (Sub.cons hl267 (Sub.cons hl268 (Sub.cons hl269 (Sub.cons hl270 (Sub.cons hl271 (Sub.cons hl272 (Sub.cons hl273 (Sub.cons hl274 (Sub.cons hl275 (Sub.cons hl276 (Sub.cons hl277 (Sub.cons hl278 (Sub.cons hl279 (Sub.cons hl280 (Sub.cons hl281 (Sub.cons hl282 (Sub.cons hl283 (Sub.nil _)))))))))))))))))))) ?_
       have hf284z := Ex.size hf284
       have hbg285 : p_more.length ≤ 1073741824 := o2
       rcases Nat.lt_or_ge k254 p_more.length with hlt286 | hlt286
       ·refine CW.seq (CW.seq (CW.region (sd rfl (yl_move rfl rfl (sd rfl (yl_move rfl rfl (sd rfl (yl_slen Tryz.un9 (a := p_more) rfl rfl (sd rfl (yl_lss rfl rfl rfl (SeqR.done (tn ?_))))))))))))
        refine CW.cond_t rfl (lt_t hlt286) (CW.skip (tn (CW.seq (CW.block (bcase (x255) (fun hb287 => ?_) (fun hb287 => ?_))))))
        ·refine CW.drawsI 11 (vgetI [DetI (.bool (x255)), DetI (.bool (x255)), DetI (undef), DetI (undef), DetI (undef), DetI (undef), DetI (undef), DetI (undef), DetI (undef), DetI (.bool (true)), DetI (.bool (true))]) Tryz.follows rfl rfl rfl rfl rfl rfl (vgetI_stable ⟨StableI.det _, StableI.det _, StableI.det _, StableI.det _, StableI.det _, StableI.det _, StableI.det _, StableI.det _, StableI.det _, StableI.det _, StableI.det _, trivial⟩) ⟨?_, ?_, ?_, ?_, ?_, ?_, ?_, ?_, ?_, ?_, ?_, trivial⟩ ?_
         ·exact fun _ _ h => os rfl ((yl_move rfl (h.old 6 _ rfl rfl) kI))
         ·exact fun _ _ h => os rfl ((yl_move rfl (h.dt 0 42 rfl rfl rfl) kI))
         ·exact fun _ _ h => OpR.skip rfl rfl (h.dt 1 43 rfl rfl rfl) hb287 ⟨rfl, Ex.refl _⟩
         ·exact fun _ _ h => OpR.skip rfl rfl (h.dt 1 43 rfl rfl rfl) hb287 ⟨rfl, Ex.refl _⟩
         ·exact fun _ _ h => OpR.skip rfl rfl (h.dt 1 43 rfl rfl rfl) hb287 ⟨rfl, Ex.refl _⟩
         ·exact fun _ _ h => OpR.skip rfl rfl (h.dt 1 43 rfl rfl rfl) hb287 ⟨rfl, Ex.refl _⟩
         ·exact fun _ _ h => OpR.skip rfl rfl (h.dt 1 43 rfl rfl rfl) hb287 ⟨rfl, Ex.refl _⟩
         ·exact fun _ _ h => OpR.skip rfl rfl (h.dt 1 43 rfl rfl rfl) hb287 ⟨rfl, Ex.refl _⟩
         ·exact fun _ _ h => OpR.skip rfl rfl (h.dt 1 43 rfl rfl rfl) hb287 ⟨rfl, Ex.refl _⟩
         ·exact fun _ _ h => os rfl ((yl_pick_t rfl (h.dt 1 43 rfl rfl rfl) hb287 rfl kI))
         ·exact fun _ _ h => os rfl ((yl_assign rfl (h.dt 9 51 rfl rfl rfl) kI))
         ·intro fl347 fh348 L344 w345 hp346
          have hE349 := hp346.ex
          have hE349z := Ex.size hE349
          refine SeqR.done (bn (tn (CW.sub (Sub.cons (d := 0) (hp346.old 0 _ rfl rfl) (Sub.cons (d := 1) (hp346.old 1 _ rfl rfl) (Sub.cons (d := 5) (hp346.old 5 _ rfl rfl) (Sub.cons (d := 6) (hp346.nt 10 6 rfl rfl rfl) (Sub.cons (d := 7) (hp346.old 7 _ rfl rfl) (Sub.cons (d := 19) (hp346.old 19 _ rfl rfl) (Sub.cons (d := 20) (hp346.old 20 _ rfl rfl) (Sub.cons (d := 21) (hp346.old 21 _ rfl rfl) (Sub.cons (d := 22) (hp346.old 22 _ rfl rfl) (Sub.cons (d := 25) (hp346.old 25 _ rfl rfl) (Sub.cons (d := 26) (hp346.old 26 _ rfl rfl) (Sub.cons (d := 27) (hp346.old 27 _ rfl rfl) (Sub.cons (d := 28) (hp346.old 28 _ rfl rfl) (Sub.cons (d := 29) (hp346.old 29 _ rfl rfl) (Sub.cons (d := 30) (hp346.old 30 _ rfl rfl) (Sub.cons (d := 31) (hp346.old 31 _ rfl rfl) (Sub.cons (d := 32) (hp346.old 32 _ rfl rfl) (Sub.cons (d := 33) (hp346.old 33 _ rfl rfl) (Sub.cons (d := 34) (hp346.old 34 _ rfl rfl) (Sub.cons (d := 44) (hp346.nt 2 44 rfl rfl rfl) (Sub.cons (d := 45) (hp346.nt 3 45 rfl rfl rfl) (Sub.cons (d := 46) (hp346.nt 4 46 rfl rfl rfl) (Sub.cons (d := 47) (hp346.nt 5 47 rfl rfl rfl) (Sub.cons (d := 48) (hp346.nt 6 48 rfl rfl rfl) (Sub.cons (d := 49) (hp346.nt 7 49 rfl rfl rfl) (Sub.cons (d := 50) (hp346.nt 8 50 rfl rfl rfl) (Sub.nil _))))))))))))))))))))))))))) (CW.region (sd rfl (yl_move rfl rfl (sd rfl (yl_inc rfl rfl rfl (by omega) (sd rfl (yl_assign rfl rfl (SeqR.done ?_)))))))))))
          refine tn ?_
          have hB376 : B_s_l3Bytes_1 p_s p_more k5 k254 (x255) = .cont (true) := by simp only [B_s_l3Bytes_1, hb21, hb22, hb253, hb287, cond_true, cond_false, loopE_done, loopE_ret]
          exact ⟨p_more.length - (k254 + 1), by omega, k254 + 1, true, rfl, hlt286, (by omega), rfl, rfl, rfl, rfl, rfl, rfl, rfl, rfl, rfl, rfl, rfl, rfl, rfl, rfl, rfl, rfl, rfl, rfl, rfl, (Ex.trans hf284 hE349), (loopM.cont hlt286 hB376).symm.trans hI263⟩
        ·refine CW.drawsI 11 (vgetI [DetI (.bool (x255)), DetI (.bool (x255)), DetI (.string (bs (p_s))), DetI (.int .i64 ((k5 : Int))), DetI (.int .u8 (((p_s.getD k5 0).toNat : Int))), DetI (.string (bs (p_more))), DetI (.int .i64 ((k254 : Int))), DetI (.int .u8 (((p_more.getD k254 0).toNat : Int))), DetI (.bool (decide (((p_s.getD k5 0).toNat : Int) = ((p_more.getD k254 0).toNat : Int)))), DetI (.bool (decide (((p_s.getD k5 0).toNat : Int) = ((p_more.getD k254 0).toNat : Int)))), DetI (.bool (decide (((p_s.getD k5 0).toNat : Int) = ((p_more.getD k254 0).toNat : Int))))]) Tryz.follows rfl rfl rfl rfl rfl rfl (vgetI_stable ⟨StableI.det _, StableI.det _, StableI.det _, StableI.det _, StableI.det _, StableI.det _, StableI.det _, StableI.det _, StableI.det _, StableI.det _, StableI.det _, trivial⟩) ⟨?_, ?_, ?_, ?_, ?_, ?_, ?_, ?_, ?_, ?_, ?_, trivial⟩ ?_
         ·exact fun _ _ h => os rfl ((yl_move rfl (h.old 6 _ rfl rfl) kI))
         ·exact fun _ _ h => os rfl ((yl_move rfl (h.dt 0 42 rfl rfl rfl) kI))
         ·exact fun _ _ h => OpR.want rfl rfl (h.dt 1 43 rfl rfl rfl) hb287 (Yl.sameI (yl_move rfl (h.old 0 _ rfl rfl) kI))
         ·exact fun _ _ h => OpR.want rfl rfl (h.dt 1 43 rfl rfl rfl) hb287 (Yl.sameI (yl_move rfl (h.old 5 _ rfl rfl) kI))
         ·intro L400 w401 hi402
          have hE403 := hi402.ex
          have hE403z := Ex.size hE403
          exact OpR.want rfl rfl (hi402.dt 1 43 rfl rfl rfl) hb287 (Yl.sameI (yl_sindexN Tryz.un9 (a := p_s) rfl (hi402.dt 2 44 rfl rfl rfl) (hi402.dt 3 45 rfl rfl rfl) (by first | omega | assumption | (simp only [IntKind.wrap_i64] at *; omega)) kI))
         ·exact fun _ _ h => OpR.want rfl rfl (h.dt 1 43 rfl rfl rfl) hb287 (Yl.sameI (yl_move rfl (h.old 1 _ rfl rfl) kI))
         ·exact fun _ _ h => OpR.want rfl rfl (h.dt 1 43 rfl rfl rfl) hb287 (Yl.sameI (yl_move rfl (h.old 7 _ rfl rfl) kI))
         ·intro L419 w420 hi421
          have hE422 := hi421.ex
          have hE422z := Ex.size hE422
          exact OpR.want rfl rfl (hi421.dt 1 43 rfl rfl rfl) hb287 (Yl.sameI (yl_sindexN Tryz.un9 (a := p_more) rfl (hi421.dt 5 47 rfl rfl rfl) (hi421.dt 6 48 rfl rfl rfl) (by first | omega | assumption | (simp only [IntKind.wrap_i64] at *; omega)) kI))
         ·exact fun _ _ h => OpR.want rfl rfl (h.dt 1 43 rfl rfl rfl) hb287 (Yl.sameI (yl_eql rfl (h.dt 4 46 rfl rfl rfl) (h.dt 7 49 rfl rfl rfl) kI))
         ·exact fun _ _ h => os rfl ((yl_pick_f rfl (h.dt 1 43 rfl rfl rfl) hb287 (h.dt 8 50 rfl rfl rfl) kI))
         ·exact fun _ _ h => os rfl ((yl_assign rfl (h.dt 9 51 rfl rfl rfl) kI))
         ·intro fl447 fh448 L444 w445 hp446
          have hE449 := hp446.ex
          have hE449z := Ex.size hE449
          refine SeqR.done (bn (tn (CW.sub (Sub.cons (d := 0) (hp446.old 0 _ rfl rfl) (Sub.cons (d := 1) (hp446.old 1 _ rfl rfl) (Sub.cons (d := 5) (hp446.old 5 _ rfl rfl) (Sub.cons (d := 6) (hp446.nt 10 6 rfl rfl rfl) (Sub.cons (d := 7) (hp446.old 7 _ rfl rfl) (Sub.cons (d := 19) (hp446.old 19 _ rfl rfl) (Sub.cons (d := 20) (hp446.old 20 _ rfl rfl) (Sub.cons (d := 21) (hp446.old 21 _ rfl rfl) (Sub.cons (d := 22) (hp446.old 22 _ rfl rfl) (Sub.cons (d := 25) (hp446.old 25 _ rfl rfl) (Sub.cons (d := 26) (hp446.old 26 _ rfl rfl) (Sub.cons (d := 27) (hp446.old 27 _ rfl rfl) (Sub.cons (d := 28) (hp446.old 28 _ rfl rfl) (Sub.cons (d := 29) (hp446.old 29 _ rfl rfl) (Sub.cons (d := 30) (hp446.old 30 _ rfl rfl) (Sub.cons (d := 31) (hp446.old 31 _ rfl rfl) (Sub.cons (d := 32) (hp446.old 32 _ rfl rfl) (Sub.cons (d := 33) (hp446.old 33 _ rfl rfl) (Sub.cons (d := 34) (hp446.old 34 _ rfl rfl) (Sub.cons (d := 44) (hp446.nt 2 44 rfl rfl rfl) (Sub.cons (d := 45) (hp446.nt 3 45 rfl rfl rfl) (Sub.cons (d := 46) (hp446.nt 4 46 rfl rfl rfl) (Sub.cons (d := 47) (hp446.nt 5 47 rfl rfl rfl) (Sub.cons (d := 48) (hp446.nt 6 48 rfl rfl rfl) (Sub.cons (d := 49) (hp446.nt 7 49 rfl rfl rfl) (Sub.cons (d := 50) (hp446.nt 8 50 rfl rfl rfl) (Sub.nil _))))))))))))))))))))))))))) (CW.region (sd rfl (yl_move rfl rfl (sd rfl (yl_inc rfl rfl rfl (by omega) (sd rfl (yl_assign rfl rfl (SeqR.done ?_)))))))))))
          refine tn ?_
          have hB476 : B_s_l3Bytes_1 p_s p_more k5 k254 (x255) = .cont (decide (((p_s.getD k5 0).toNat : Int) = ((p_more.getD k254 0).toNat : Int))) := by simp only [B_s_l3Bytes_1, hb21, hb22, hb253, hb287, cond_true, cond_false, loopE_done, loopE_ret]
          exact ⟨p_more.length - (k254 + 1), by omega, k254 + 1, decide (((p_s.getD k5 0).toNat : Int) = ((p_more.getD k254 0).toNat : Int)), rfl, hlt286, (by omega), rfl, rfl, rfl, rfl, rfl, rfl, rfl, rfl, rfl, rfl, rfl, rfl, rfl, rfl, rfl, rfl, rfl, rfl, rfl, (Ex.trans hf284 hE449), (loopM.cont hlt286 hB476).symm.trans hI263⟩
       ·refine CW.seq (CW.seq (CW.region (sd rfl (yl_move rfl rfl (sd rfl (yl_move rfl rfl (sd rfl (yl_slen Tryz.un9 (a := p_more) rfl rfl (sd rfl (yl_lss rfl rfl rfl (SeqR.done (tn ?_))))))))))))
        refine CW.cond_f rfl (lt_f hlt286) (CW.exit (tx (tx ?_)))
        have hL478 : loopM (B_s_l3Bytes_1 p_s p_more k5) (p_more.length - 0) 0 (decide (((p_s.getD k5 0).toNat : Int) ≤ 57)) = .done (x255) := hI263.symm.trans (loopM.stop hlt286)
        refine bx (tn (CW.seq (CW.region (sd rfl (yl_move rfl rfl (sd rfl (yl_not rfl rfl (SeqR.done (tn (bcase (x255) (fun hb479 => ?_) (fun hb479 => ?_)))))))))))
        ·refine CW.cond_f rfl (not_t hb479) (CW.skip (bn (tn (CW.region (sd rfl (yl_move rfl rfl (sd rfl (yl_inc rfl rfl rfl (by omega) (sd rfl (yl_assign rfl rfl (SeqR.done ?_)))))))))))
         refine tn ?_
         have hB480 : B_s_l3Bytes_0 p_s p_more k5 () = .cont () := by simp only [B_s_l3Bytes_0, hb21, hb22, hb253, hb479, hL478, cond_true, cond_false, loopE_done, loopE_ret]
         exact ⟨p_s.length - (k5 + 1), by omega, k5 + 1, rfl, hlt20, (by omega), rfl, rfl, rfl, hf284, (loopM.cont hlt20 hB480).symm.trans hI13⟩
        ·refine CW.cond_t rfl (not_f hb479) (CW.seq (CW.region (sd rfl (yl_assign rfl rfl (SeqR.done (tn (CW.ret (br (tr ?_)))))))))
         refine tr ?_
         have hB482 : B_s_l3Bytes_0 p_s p_more k5 () = .ret false := by simp only [B_s_l3Bytes_0, hb21, hb22, hb253, hb479, hL478, cond_true, cond_false, loopE_done, loopE_ret]
         have hL481 : loopM (B_s_l3Bytes_0 p_s p_more) (p_s.length - 0) 0 () = .ret false := hI13.symm.trans (loopM.ret hlt20 hB482)
         refine br (tr (rr rfl (.cons rfl .nil) ?_))
         have hM483 : (s_l3Bytes p_s p_more) = (false) := by simp only [s_l3Bytes, hb21, hb22, hb253, hb479, hL478, hL481, cond_true, cond_false, loopE_done, loopE_ret]
         rw [hM483]
         exact ⟨rfl, hf284⟩
     ·have hb253p := dec_f hb253
      refine sz rfl rfl hb253 (sz rfl rfl hb253 (sz rfl rfl hb253 (sz rfl rfl hb253 (sy rfl rfl hb22 (yl_pick_f rfl rfl hb253 rfl (sd rfl (yl_pick_f rfl rfl hb22 rfl (sd rfl (yl_assign rfl rfl (SeqR.done (tn ?_)))))))))))
      refine CW.seq (CW.seq (CW.region (sd rfl (yl_assign rfl rfl (SeqR.done (tn (CW.block (CW.loop (fun m486 L487 w488 => ∃ (k484 : Nat) (x485 : Bool), m486 = p_more.length - k484 ∧ k484 ≤ p_more.length ∧ w11.heap.size ≤ w488.heap.size ∧ lkp L487 0 = some (.string (bs (p_s))) ∧ lkp L487 1 = some (.string (bs (p_more))) ∧ lkp L487 5 = some (.int .i64 ((k5 : Int))) ∧ lkp L487 6 = some (.bool (x485)) ∧ lkp L487 7 = some (.int .i64 ((k484 : Int))) ∧ lkp L487 19 = some (.string (bs (p_s))) ∧ lkp L487 20 = some (.int .i64 ((k5 : Int))) ∧ lkp L487 21 = some (.int .u8 (((p_s.getD k5 0).toNat : Int))) ∧ lkp L487 22 = some (.bool (decide (((p_s.getD k5 0).toNat : Int) ≤ 122))) ∧ lkp L487 25 = some (.string (bs (p_s))) ∧ lkp L487 26 = some (.int .i64 ((k5 : Int))) ∧ lkp L487 27 = some (.int .u8 (((p_s.getD k5 0).toNat : Int))) ∧ lkp L487 28 = some (.bool (decide (48 ≤ ((p_s.getD k5 0).toNat : Int)))) ∧ lkp L487 29 = some (.bool (decide (48 ≤ ((p_s.getD k5 0).toNat : Int)))) ∧ lkp L487 30 = some (undef) ∧ lkp L487 31 = some (undef) ∧ lkp L487 32 = some (undef) ∧ lkp L487 33 = some (undef) ∧ lkp L487 34 = some (.bool (false)) ∧ Ex w w488 ∧ loopM (B_s_l3Bytes_1 p_s p_more k5) (p_more.length - k484) k484 (x485) = loopM (B_s_l3Bytes_1 p_s p_more k5) (p_more.length - 0) 0 (false)) (p_more.length - 0) ?_ ?_))))))))
      ·exact ⟨0, false, rfl, (by omega), Nat.le_refl _, rfl, rfl, rfl, rfl, rfl, rfl, rfl, rfl, rfl, rfl, rfl, rfl, rfl, rfl, rfl, rfl, rfl, rfl, rfl, hf18, rfl⟩
      ·rintro m489 L490 w491 ⟨k484, x485, rfl, hk492, hsz494, hl495, hl496, hl497, hl498, hl499, hl500, hl501, hl502, hl503, hl504, hl505, hl506, hl507, hl508, hl509, hl510, hl511, hl512, hl513, hf514, hI493⟩
       refine CW.sub (Sub.cons hl495 (Sub.cons hl496 (Sub.cons hl497 (Sub.cons hl498 (Sub.cons hl499 (Sub.cons hl500 (Sub.cons hl501 (Sub.cons hl502 (Sub.cons hl503 (Sub.cons hl504 (Sub.cons hl505 (Sub.cons hl506 (Sub.cons hl507 (Sub.cons hl508 (Sub.cons hl509 (Sub.cons hl510 (Sub.cons hl511 (Sub.cons hl512 (Sub.cons hl513 (Sub.nil _)))))))))))))))))))) ?_
       have hf514z := Ex.size hf514
       have hbg515 : p_more.length ≤ 1073741824 := o2
       rcases Nat.lt_or_ge k484 p_more.length with hlt516 | hlt516
       ·refine CW.seq (CW.seq (CW.region (sd rfl (yl_move rfl rfl (sd rfl (yl_move rfl rfl (sd rfl (yl_slen Tryz.un9 (a := p_more) rfl rfl (sd rfl (yl_lss rfl rfl rfl (SeqR.done (tn ?_))))))))))))
        refine CW.cond_t rfl (lt_t hlt516) (CW.skip (tn (CW.seq (CW.block (bcase (x485) (fun hb517 => ?_) (fun hb517 => ?_))))))
        ·refine CW.drawsI 11 (vgetI [DetI (.bool (x485)), DetI (.bool (x485)), DetI (undef), DetI (undef), DetI (undef), DetI (undef), DetI (undef), DetI (undef), DetI (undef), DetI (.bool (true)), DetI (.bool (true))]) Tryz.follows rfl rfl rfl rfl rfl rfl (vgetI_stable ⟨StableI.det _, StableI.det _, StableI.det _, StableI.det _, StableI.det _, StableI.det _, StableI.det _, StableI.det _, StableI.det _, StableI.det _, StableI.det _, trivial⟩) ⟨?_, ?_, ?_, ?_, ?_, ?_, ?_, ?_, ?_, ?_, ?_, trivial⟩ ?_
         ·exact fun _ _ h => os rfl ((yl_move rfl (h.old 6 _ rfl rfl) kI))
         ·exact fun _ _ h => os rfl ((yl_move rfl (h.dt 0 42 rfl rfl rfl) kI))
         ·exact fun _ _ h => OpR.skip rfl rfl (h.dt 1 43 rfl rfl rfl) hb517 ⟨rfl, Ex.refl _⟩
         ·exact fun _ _ h => OpR.skip rfl rfl (h.dt 1 43 rfl rfl rfl) hb517 ⟨rfl, Ex.refl _⟩
         ·exact fun _ _ h => OpR.skip rfl rfl (h.dt 1 43 rfl rfl rfl) hb517 ⟨rfl, Ex.refl _⟩
         ·exact fun _ _ h => OpR.skip rfl rfl (h.dt 1 43 rfl rfl rfl) hb517 ⟨rfl, Ex.refl _⟩
         ·exact fun _ _ h => OpR.skip rfl rfl (h.dt 1 43 rfl rfl rfl) hb517 ⟨rfl, Ex.refl _⟩
         ·exact fun _ _ h => OpR.skip rfl rfl (h.dt 1 43 rfl rfl rfl) hb517 ⟨rfl, Ex.refl _⟩
         ·exact fun _ _ h => OpR.skip rfl rfl (h.dt 1 43 rfl rfl rfl) hb517 ⟨rfl, Ex.refl _⟩
         ·exact fun _ _ h => os rfl ((yl_pick_t rfl (h.dt 1 43 rfl rfl rfl) hb517 rfl kI))
         ·exact fun _ _ h => os rfl ((yl_assign rfl (h.dt 9 51 rfl rfl rfl) kI))
         ·intro fl577 fh578 L574 w575 hp576
          have hE579 := hp576.ex
          have hE579z := Ex.size hE579
          refine SeqR.done (bn (tn (CW.sub (Sub.cons (d := 0) (hp576.old 0 _ rfl rfl) (Sub.cons (d := 1) (hp576.old 1 _ rfl rfl) (Sub.cons (d := 5) (hp576.old 5 _ rfl rfl) (Sub.cons (d := 6) (hp576.nt 10 6 rfl rfl rfl) (Sub.cons (d := 7) (hp576.old 7 _ rfl rfl) (Sub.cons (d := 19) (hp576.old 19 _ rfl rfl) (Sub.cons (d := 20) (hp576.old 20 _ rfl rfl) (Sub.cons (d := 21) (hp576.old 21 _ rfl rfl) (Sub.cons (d := 22) (hp576.old 22 _ rfl rfl) (Sub.cons (d := 25) (hp576.old 25 _ rfl rfl) (Sub.cons (d := 26) (hp576.old 26 _ rfl rfl) (Sub.cons (d := 27) (hp576.old 27 _ rfl rfl) (Sub.cons (d := 28) (hp576.old 28 _ rfl rfl) (Sub.cons (d := 29) (hp576.old 29 _ rfl rfl) (Sub.cons (d := 30) (hp576.old 30 _ rfl rfl) (Sub.cons (d := 31) (hp576.old 31 _ rfl rfl) (Sub.cons (d := 32) (hp576.old 32 _ rfl rfl) (Sub.cons (d := 33) (hp576.old 33 _ rfl rfl) (Sub.cons (d := 34) (hp576.old 34 _ rfl rfl) (Sub.cons (d := 44) (hp576.nt 2 44 rfl rfl rfl) (Sub.cons (d := 45) (hp576.nt 3 45 rfl rfl rfl) (Sub.cons (d := 46) (hp576.nt 4 46 rfl rfl rfl) (Sub.cons (d := 47) (hp576.nt 5 47 rfl rfl rfl) (Sub.cons (d := 48) (hp576.nt 6 48 rfl rfl rfl) (Sub.cons (d := 49) (hp576.nt 7 49 rfl rfl rfl) (Sub.cons (d := 50) (hp576.nt 8 50 rfl rfl rfl) (Sub.nil _))))))))))))))))))))))))))) (CW.region (sd rfl (yl_move rfl rfl (sd rfl (yl_inc rfl rfl rfl (by omega) (sd rfl (yl_assign rfl rfl (SeqR.done ?_)))))))))))
          refine tn ?_
          have hB606 : B_s_l3Bytes_1 p_s p_more k5 k484 (x485) = .cont (true) := by simp only [B_s_l3Bytes_1, hb21, hb22, hb253, hb517, cond_true, cond_false, loopE_done, loopE_ret]
          exact ⟨p_more.length - (k484 + 1), by omega, k484 + 1, true, rfl, hlt516, (by omega), rfl, rfl, rfl, rfl, rfl, rfl, rfl, rfl, rfl, rfl, rfl, rfl, rfl, rfl, rfl, rfl, rfl, rfl, rfl, (Ex.trans hf514 hE579), (loopM.cont hlt516 hB606).symm.trans hI493⟩
        ·refine CW.drawsI 11 (vgetI [DetI (.bool (x485)), DetI (.bool (x485)), DetI (.string (bs (p_s))), DetI (.int .i64 ((k5 : Int))), DetI (.int .u8 (((p_s.getD k5 0).toNat : Int))), DetI (.string (bs (p_more))), DetI (.int .i64 ((k484 : Int))), DetI (.int .u8 (((p_more.getD k484 0).toNat : Int))), DetI (.bool (decide (((p_s.getD k5 0).toNat : Int) = ((p_more.getD k484 0).toNat : Int)))), DetI (.bool (decide (((p_s.getD k5 0).toNat : Int) = ((p_more.getD k484 0).toNat : Int)))), DetI (.bool (decide (((p_s.getD k5 0).toNat : Int) = ((p_more.getD k484 0).toNat : Int))))]) Tryz.follows rfl rfl rfl rfl rfl rfl (vgetI_stable ⟨StableI.det _, StableI.det _, StableI.det _, StableI.det _, StableI.det _, StableI.det _, StableI.det _, StableI.det _, StableI.det _, StableI.det _, StableI.det _, trivial⟩) ⟨?_, ?_, ?_, ?_, ?_, ?_, ?_, ?_, ?_, ?_, ?_, trivial⟩ ?_
         ·exact fun _ _ h => os rfl ((yl_move rfl (h.old 6 _ rfl rfl) kI))
         ·exact fun _ _ h => os rfl ((yl_move rfl (h.dt 0 42 rfl rfl rfl) kI))
         ·exact fun _ _ h => OpR.want rfl rfl (h.dt 1 43 rfl rfl rfl) hb517 (Yl.sameI (yl_move rfl (h.old 0 _ rfl rfl) kI))
         ·exact fun _ _ h => OpR.want rfl rfl (h.dt 1 43 rfl rfl rfl) hb517 (Yl.sameI (yl_move rfl (h.old 5 _ rfl rfl) kI))
         ·intro L630 w631 hi632
          have hE633 := hi632.ex
          have hE633z := Ex.size hE633
          exact OpR.want rfl rfl (hi632.dt 1 43 rfl rfl rfl) hb517 (Yl.sameI (yl_sindexN Tryz.un9 (a := p_s) rfl (hi632.dt 2 44 rfl rfl rfl) (hi632.dt 3 45 rfl rfl rfl) (by first | omega | assumption | (simp only [IntKind.wrap_i64] at *; omega)) kI))
         ·exact fun _ _ h => OpR.want rfl rfl (h.dt 1 43 rfl rfl rfl) hb517 (Yl.sameI (yl_move rfl (h.old 1 _ rfl rfl) kI))
         ·exact fun _ _ h => OpR.want rfl rfl (h.dt 1 43 rfl rfl rfl) hb517 (Yl.sameI (yl_move rfl (h.old 7 _ rfl rfl) kI))
         ·intro L649 w650 hi651
          have hE652 := hi651.ex
          have hE652z := Ex.size hE652
          exact OpR.want rfl rfl (hi651.dt 1 43 rfl rfl rfl) hb517 (Yl.sameI (yl_sindexN Tryz.un9 (a := p_more) rfl (hi651.dt 5 47 rfl rfl rfl) (hi651.dt 6 48 rfl rfl rfl) (by first | omega | assumption | (simp only [IntKind.wrap_i64] at *; omega)) kI))
         ·exact fun _ _ h => OpR.want rfl rfl (h.dt 1 43 rfl rfl rfl) hb517 (Yl.sameI (yl_eql rfl (h.dt 4 46 rfl rfl rfl) (h.dt 7 49 rfl rfl rfl) kI))
         ·exact fun _ _ h => os rfl ((yl_pick_f rfl (h.dt 1 43 rfl rfl rfl) hb517 (h.dt 8 50 rfl rfl rfl) kI))
         ·exact fun _ _ h => os rfl ((yl_assign rfl (h.dt 9 51 rfl rfl rfl) kI))
         ·intro fl677 fh678 L674 w675 hp676
          have hE679 := hp676.ex
          have hE679z := Ex.size hE679
          refine SeqR.done (bn (tn (CW.sub (Sub.cons (d := 0) (hp676.old 0 _ rfl rfl) (Sub.cons (d := 1) (hp676.old 1 _ rfl rfl) (Sub.cons (d := 5) (hp676.old 5 _ rfl rfl) (Sub.cons (d := 6) (hp676.nt 10 6 rfl rfl rfl) (Sub.cons (d := 7) (hp676.old 7 _ rfl rfl) (Sub.cons (d := 19) (hp676.old 19 _ rfl rfl) (Sub.cons (d := 20) (hp676.old 20 _ rfl rfl) (Sub.cons (d := 21) (hp676.old 21 _ rfl rfl) (Sub.cons (d := 22) (hp676.old 22 _ rfl rfl) (Sub.cons (d := 25) (hp676.old 25 _ rfl rfl) (Sub.cons (d := 26) (hp676.old 26 _ rfl rfl) (Sub.cons (d := 27) (hp676.old 27 _ rfl rfl) (Sub.cons (d := 28) (hp676.old 28 _ rfl rfl) (Sub.cons (d := 29) (hp676.old 29 _ rfl rfl) (Sub.cons (d := 30) (hp676.old 30 _ rfl rfl) (Sub.cons (d := 31) (hp676.old 31 _ rfl rfl) (Sub.cons (d := 32) (hp676.old 32 _ rfl rfl) (Sub.cons (d := 33) (hp676.old 33 _ rfl rfl) (Sub.cons (d := 34) (hp676.old 34 _ rfl rfl) (Sub.cons (d := 44) (hp676.nt 2 44 rfl rfl rfl) (Sub.cons (d := 45) (hp676.nt 3 45 rfl rfl rfl) (Sub.cons (d := 46) (hp676.nt 4 46 rfl rfl rfl) (Sub.cons (d := 47) (hp676.nt 5 47 rfl rfl rfl) (Sub.cons (d := 48) (hp676.nt 6 48 rfl rfl rfl) (Sub.cons (d := 49) (hp676.nt 7 49 rfl rfl rfl) (Sub.cons (d := 50) (hp676.nt 8 50 rfl rfl rfl) (Sub.nil _))))))))))))))))))))))))))) (CW.region (sd rfl (yl_move rfl rfl (sd rfl (yl_inc rfl rfl rfl (by omega) (sd rfl (yl_assign rfl rfl (SeqR.done ?_)))))))))))
          refine tn ?_
          have hB706 : B_s_l3Bytes_1 p_s p_more k5 k484 (x485) = .cont (decide (((p_s.getD k5 0).toNat : Int) = ((p_more.getD k484 0).toNat : Int))) := by simp only [B_s_l3Bytes_1, hb21, hb22, hb253, hb517, cond_true, cond_false, loopE_done, loopE_ret]
          exact ⟨p_more.length - (k484 + 1), by omega, k484 + 1, decide (((p_s.getD k5 0).toNat : Int) = ((p_more.getD k484 0).toNat : Int)), rfl, hlt516, (by omega), rfl, rfl, rfl, rfl, rfl, rfl, rfl, rfl, rfl, rfl, rfl, rfl, rfl, rfl, rfl, rfl, rfl, rfl, rfl, (Ex.trans hf514 hE679), (loopM.cont hlt516 hB706).symm.trans hI493⟩
       ·refine CW.seq (CW.seq (CW.region (sd rfl (yl_move rfl rfl (sd rfl (yl_move rfl rfl (sd rfl (yl_slen Tryz.un9 (a := p_more) rfl rfl (sd rfl (yl_lss rfl rfl rfl (SeqR.done (tn ?_))))))))))))
        refine CW.cond_f rfl (lt_f hlt516) (CW.exit (tx (tx ?_)))
        have hL708 : loopM (B_s_l3Bytes_1 p_s p_more k5) (p_more.length - 0) 0 (false) = .done (x485) := hI493.symm.trans (loopM.stop hlt516)
        refine bx (tn (CW.seq (CW.region (sd rfl (yl_move rfl rfl (sd rfl (yl_not rfl rfl (SeqR.done (tn (bcase (x485) (fun hb709 => ?_) (fun hb709 => ?_)))))))))))
        ·refine CW.cond_f rfl (not_t hb709) (CW.skip (bn (tn (CW.region (sd rfl (yl_move rfl rfl (sd rfl (yl_inc rfl rfl rfl (by omega) (sd rfl (yl_assign rfl rfl (SeqR.done ?_)))))))))))
         refine tn ?_
         have hB710 : B_s_l3Bytes_0 p_s p_more k5 () = .cont () := by simp only [B_s_l3Bytes_0, hb21, hb22, hb253, hb709, hL708, cond_true, cond_false, loopE_done, loopE_ret]
         exact ⟨p_s.length - (k5 + 1), by omega, k5 + 1, rfl, hlt20, (by omega), rfl, rfl, rfl, hf514, (loopM.cont hlt20 hB710).symm.trans hI13⟩
        ·refine CW.cond_t rfl (not_f hb709) (CW.seq (CW.region (sd rfl (yl_assign rfl rfl (SeqR.done (tn (CW.ret (br (tr ?_)))))))))
         refine tr ?_
         have hB712 : B_s_l3Bytes_0 p_s p_more k5 () = .ret false := by simp only [B_s_l3Bytes_0, hb21, hb22, hb253, hb709, hL708, cond_true, cond_false, loopE_done, loopE_ret]
         have hL711 : loopM (B_s_l3Bytes_0 p_s p_more) (p_s.length - 0) 0 () = .ret false := hI13.symm.trans (loopM.ret hlt20 hB712)
         refine br (tr (rr rfl (.cons rfl .nil) ?_))
         have hM713 : (s_l3Bytes p_s p_more) = (false) := by simp only [s_l3Bytes, hb21, hb22, hb253, hb709, hL708, hL711, cond_true, cond_false, loopE_done, loopE_ret]
         rw [hM713]
         exact ⟨rfl, hf514⟩
   ·have hb21p := dec_f hb21
    refine sz rfl rfl hb21 (sz rfl rfl hb21 (sz rfl rfl hb21 (sz rfl rfl hb21 (sd rfl (yl_pick_f rfl rfl hb21 rfl (sd rfl (yl_move rfl rfl (sy rfl rfl rfl (yl_move rfl rfl (sy rfl rfl rfl (yl_move rfl rfl (sy rfl rfl rfl (yl_sindexN Tryz.un9 (a := p_s) rfl rfl rfl (by first | omega | assumption | (simp only [IntKind.wrap_i64] at *; omega)) ?_)))))))))))))
    refine sy rfl rfl rfl (yl_geq rfl rfl rfl (sy rfl rfl rfl (yl_move rfl rfl (bcase (decide (48 ≤ ((p_s.getD k5 0).toNat : Int))) (fun hb714 => ?_) (fun hb714 => ?_)))))
    ·have hb714p := dec_t hb714
     refine sy rfl rfl hb714 (yl_move rfl rfl (sy rfl rfl hb714 (yl_move rfl rfl (sy rfl rfl hb714 (yl_sindexN Tryz.un9 (a := p_s) rfl rfl rfl (by first | omega | assumption | (simp only [IntKind.wrap_i64] at *; omega)) (sy rfl rfl hb714 (yl_leq rfl rfl rfl (sy rfl rfl rfl (yl_pick_t rfl rfl hb714 rfl (sd rfl (yl_pick_f rfl rfl rfl rfl (sd rfl (yl_assign rfl rfl (SeqR.done (tn ?_)))))))))))))))
     refine CW.seq (CW.seq (CW.region (sd rfl (yl_assign rfl rfl (SeqR.done (tn (CW.block (CW.loop (fun m717 L718 w719 => ∃ (k715 : Nat) (x716 : Bool), m717 = p_more.length - k715 ∧ k715 ≤ p_more.length ∧ w11.heap.size ≤ w719.heap.size ∧ lkp L718 0 = some (.string (bs (p_s))) ∧ lkp L718 1 = some (.string (bs (p_more))) ∧ lkp L718 5 = some (.int .i64 ((k5 : Int))) ∧ lkp L718 6 = some (.bool (x716)) ∧ lkp L718 7 = some (.int .i64 ((k715 : Int))) ∧ lkp L718 19 = some (undef) ∧ lkp L718 20 = some (undef) ∧ lkp L718 21 = some (undef) ∧ lkp L718 22 = some (undef) ∧ lkp L718 25 = some (.string (bs (p_s))) ∧ lkp L718 26 = some (.int .i64 ((k5 : Int))) ∧ lkp L718 27 = some (.int .u8 (((p_s.getD k5 0).toNat : Int))) ∧ lkp L718 28 = some (.bool (decide (48 ≤ ((p_s.getD k5 0).toNat : Int)))) ∧ lkp L718 29 = some (.bool (decide (48 ≤ ((p_s.getD k5 0).toNat : Int)))) ∧ lkp L718 30 = some (.string (bs (p_s))) ∧ lkp L718 31 = some (.int .i64 ((k5 : Int))) ∧ lkp L718 32 = some (.int .u8 (((p_s.getD k5 0).toNat : Int))) ∧ lkp L718 33 = some (.bool (decide (((p_s.getD k5 0).toNat : Int) ≤ 57))) ∧ lkp L718 34 = some (.bool (decide (((p_s.getD k5 0).toNat : Int) ≤ 57))) ∧ Ex w w719 ∧ loopM (B_s_l3Bytes_1 p_s p_more k5) (p_more.length - k715) k715 (x716) = loopM (B_s_l3Bytes_1 p_s p_more k5) (p_more.length - 0) 0 (decide (((p_s.getD k5 0).toNat : Int) ≤ 57))) (p_more.length - 0) ?_ ?_))))))))
     ·exact ⟨0, decide (((p_s.getD k5 0).toNat : Int) ≤ 57), rfl, (by omega), Nat.le_refl _, rfl, rfl, rfl, rfl, rfl, rfl, rfl, rfl, rfl, rfl, rfl, rfl, rfl, rfl, rfl, rfl, rfl, rfl, rfl, hf18, rfl⟩
     ·rintro m720 L721 w722 ⟨k715, x716, rfl, hk723, hsz725, hl726, hl727, hl728, hl729, hl730, hl731, hl732, hl733, hl734, hl735, hl736, hl737, hl738, hl739, hl740, hl741, hl742, hl743, hl744, hf745, hI724⟩
      refine CW.sub (Sub.cons hl726 (Sub.cons hl727 (Sub.cons hl728 (Sub.cons hl729 (Sub.cons hl730 (Sub.cons hl731 (Sub.cons hl732 (Sub.cons hl733 (Sub.cons hl734 (Sub.cons hl735 (Sub.cons hl736 (Sub.cons hl737 (Sub.cons hl738 (Sub.cons hl739 (Sub.cons hl740 (Sub.cons hl741 (Sub.cons hl742 (Sub.cons hl743 (Sub.cons hl744 (Sub.nil _)))))))))))))))))))) ?_
      have hf745z := Ex.size hf745
      have hbg746 : p_more.length ≤ 1073741824 := o2
      rcases Nat.lt_or_ge k715 p_more.length with hlt747 | hlt747
      ·refine CW.seq (CW.seq (CW.region (sd rfl (yl_move rfl rfl (sd rfl (yl_move rfl rfl (sd rfl (yl_slen Tryz.un9 (a := p_more) rfl rfl (sd rfl (yl_lss rfl rfl rfl (SeqR.done (tn ?_))))))))))))
       refine CW.cond_t rfl (lt_t hlt747) (CW.skip (tn (CW.seq (CW.block (bcase (x716) (fun hb748 => ?_) (fun hb748 => ?_))))))
       ·refine CW.drawsI 11 (vgetI [DetI (.bool (x716)), DetI (.bool (x716)), DetI (undef), DetI (undef), DetI (undef), DetI (undef), DetI (undef), DetI (undef), DetI (undef), DetI (.bool (true)), DetI (.bool (true))]) Tryz.follows rfl rfl rfl rfl rfl rfl (vgetI_stable ⟨StableI.det _, StableI.det _, StableI.det _, StableI.det _, StableI.det _, StableI.det _, StableI.det _, StableI.det _, StableI.det _, StableI.det _, StableI.det _, trivial⟩) ⟨?_, ?_, ?_, ?_, ?_, ?_, ?_, ?_, ?_, ?_, ?_, trivial⟩ ?_
        ·exact fun _ _ h => os rfl ((yl_move rfl (h.old 6 _ rfl rfl) kI))
        ·exact fun _ _ h => os rfl ((yl_move rfl (h.dt 0 42 rfl rfl rfl) kI))
        ·exact fun _ _ h => OpR.skip rfl rfl (h.dt 1 43 rfl rfl rfl) hb748 ⟨rfl, Ex.refl _⟩
        ·exact fun _ _ h => OpR.skip rfl rfl (h.dt 1 43 rfl rfl rfl) hb748 ⟨rfl, Ex.refl _⟩
        ·exact fun _ _ h => OpR.skip rfl rfl (h.dt 1 43 rfl rfl rfl) hb748 ⟨rfl, Ex.refl _⟩
        ·exact fun _ _ h => OpR.skip rfl rfl (h.dt 1 43 rfl rfl rfl) hb748 ⟨rfl, Ex.refl _⟩
        ·exact fun _ _ h => OpR.skip rfl rfl (h.dt 1 43 rfl rfl rfl) hb748 ⟨rfl, Ex.refl _⟩
        ·exact fun _ _ h => OpR.skip rfl rfl (h.dt 1 43 rfl rfl rfl) hb748 ⟨rfl, Ex.refl _⟩
        ·exact fun _ _ h => OpR.skip rfl rfl (h.dt 1 43 rfl rfl rfl) hb748 ⟨rfl, Ex.refl _⟩
        ·exact fun _ _ h => os rfl ((yl_pick_t rfl (h.dt 1 43 rfl rfl rfl) hb748 rfl kI))
        ·exact fun _ _ h => os rfl ((yl_assign rfl (h.dt 9 51 rfl rfl rfl) kI))
        ·intro fl808 fh809 L805 w806 hp807
         have hE810 := hp807.ex
         have hE810z := Ex.size hE810
         refine SeqR.done (bn (tn (CW.sub (Sub.cons (d := 0) (hp807.old 0 _ rfl rfl) (Sub.cons (d := 1) (hp807.old 1 _ rfl rfl) (Sub.cons (d := 5) (hp807.old 5 _ rfl rfl) (Sub.cons (d := 6) (hp807.nt 10 6 rfl rfl rfl) (Sub.cons (d := 7) (hp807.old 7 _ rfl rfl) (Sub.cons (d := 19) (hp807.old 19 _ rfl rfl) (Sub.cons (d := 20) (hp807.old 20 _ rfl rfl) (Sub.cons (d := 21) (hp807.old 21 _ rfl rfl) (Sub.cons (d := 22) (hp807.old 22 _ rfl rfl) (Sub.cons (d := 25) (hp807.old 25 _ rfl rfl) (Sub.cons (d := 26) (hp807.old 26 _ rfl rfl) (Sub.cons (d := 27) (hp807.old 27 _ rfl rfl) (Sub.cons (d := 28) (hp807.old 28 _ rfl rfl) (Sub.cons (d := 29) (hp807.old 29 _ rfl rfl) (Sub.cons (d := 30) (hp807.old 30 _ rfl rfl) (Sub.cons (d := 31) (hp807.old 31 _ rfl rfl) (Sub.cons (d := 32) (hp807.old 32 _ rfl rfl) (Sub.cons (d := 33) (hp807.old 33 _ rfl rfl) (Sub.cons (d := 34) (hp807.old 34 _ rfl rfl) (Sub.cons (d := 44) (hp807.nt 2 44 rfl rfl rfl) (Sub.cons (d := 45) (hp807.nt 3 45 rfl rfl rfl) (Sub.cons (d := 46) (hp807.nt 4 46 rfl rfl rfl) (Sub.cons (d := 47) (hp807.nt 5 47 rfl rfl rfl) (Sub.cons (d := 48) (hp807.nt 6 48 rfl rfl rfl) (Sub.cons (d := 49) (hp807.nt 7 49 rfl rfl rfl) (Sub.cons (d := 50) (hp807.nt 8 50 rfl rfl rfl) (Sub.nil _))))))))))))))))))))))))))) (CW.region (sd rfl (yl_move rfl rfl (sd rfl (yl_inc rfl rfl rfl (by omega) (sd rfl (yl_assign rfl rfl (SeqR.done ?_)))))))))))
         refine tn ?_
         have hB837 : B_s_l3Bytes_1 p_s p_more k5 k715 (x716) = .cont (true) := by simp only [B_s_l3Bytes_1, hb21, hb714, hb748, cond_true, cond_false, loopE_done, loopE_ret]
         exact ⟨p_more.length - (k715 + 1), by omega, k715 + 1, true, rfl, hlt747, (by omega), rfl, rfl, rfl, rfl, rfl, rfl, rfl, rfl, rfl, rfl, rfl, rfl, rfl, rfl, rfl, rfl, rfl, rfl, rfl, (Ex.trans hf745 hE810), (loopM.cont hlt747 hB837).symm.trans hI724⟩
       ·refine CW.drawsI 11 (vgetI [DetI (.bool (x716)), DetI (.bool (x716)), DetI (.string (bs (p_s))), DetI (.int .i64 ((k5 : Int))), DetI (.int .u8 (((p_s.getD k5 0).toNat : Int))), DetI (.string (bs (p_more))), DetI (.int .i64 ((k715 : Int))), DetI (.int .u8 (((p_more.getD k715 0).toNat : Int))), DetI (.bool (decide (((p_s.getD k5 0).toNat : Int) = ((p_more.getD k715 0).toNat : Int)))), DetI (.bool (decide (((p_s.getD k5 0).toNat : Int) = ((p_more.getD k715 0).toNat : Int)))), DetI (.bool (decide (((p_s.getD k5 0).toNat : Int) = ((p_more.getD k715 0).toNat : Int))))]) Tryz.follows rfl rfl rfl rfl rfl rfl (vgetI_stable ⟨StableI.det _, StableI.det _, StableI.det _, StableI.det _, StableI.det _, StableI.det _, StableI.det _, StableI.det _, StableI.det _, StableI.det _, StableI.det _, trivial⟩) ⟨?_, ?_, ?_, ?_, ?_, ?_, ?_, ?_, ?_, ?_, ?_, trivial⟩ ?_
        ·exact fun _ _ h => os rfl ((yl_move rfl (h.old 6 _ rfl rfl) kI))
        ·exact fun _ _ h => os rfl ((yl_move rfl (h.dt 0 42 rfl rfl rfl) kI))
        ·exact fun _ _ h => OpR.want rfl rfl (h.dt 1 43 rfl rfl rfl) hb748 (Yl.sameI (yl_move rfl (h.old 0 _ rfl rfl) kI))
        ·exact fun _ _ h => OpR.want rfl rfl (h.dt 1 43 rfl rfl rfl) hb748 (Yl.sameI (yl_move rfl (h.old 5 _ rfl rfl) kI))
        ·intro L861 w862 hi863
         have hE864 := hi863.ex
         have hE864z := Ex.size hE864
         exact OpR.want rfl rfl (hi863.dt 1 43 rfl rfl rfl) hb748 (Yl.sameI (yl_sindexN Tryz.un9 (a := p_s) rfl (hi863.dt 2 44 rfl rfl rfl) (hi863.dt 3 45 rfl rfl rfl) (by first | omega | assumption | (simp only [IntKind.wrap_i64] at *; omega)) kI))
        ·exact fun _ _ h => OpR.want rfl rfl (h.dt 1 43 rfl rfl rfl) hb748 (Yl.sameI (yl_move rfl (h.old 1 _ rfl rfl) kI))
        ·exact fun _ _ h => OpR.want rfl rfl (h.dt 1 43 rfl rfl rfl) hb748 (Yl.sameI (yl_move rfl (h.old 7 _ rfl rfl) kI))
        ·intro L880 w881 hi882
         have hE883 := hi882.ex
         have hE883z := Ex.size hE883
         exact OpR.want rfl rfl (hi882.dt 1 43 rfl rfl rfl) hb748 (Yl.sameI (yl_sindexN Tryz.un9 (a := p_more) rfl (hi882.dt 5 47 rfl rfl rfl) (hi882.dt 6 48 rfl rfl rfl) (by first | omega | assumption | (simp only [IntKind.wrap_i64] at *; omega)) kI))
        ·exact fun _ _ h => OpR.want rfl rfl (h.dt 1 43 rfl rfl rfl) hb748 (Yl.sameI (yl_eql rfl (h.dt 4 46 rfl rfl rfl) (h.dt 7 49 rfl rfl rfl) kI))
        ·exact fun _ _ h => os rfl ((yl_pick_f rfl (h.dt 1 43 rfl rfl rfl) hb748 (h.dt 8 50 rfl rfl rfl) kI))
        ·exact fun _ _ h => os rfl ((yl_assign rfl (h.dt 9 51 rfl rfl rfl) kI))
        ·intro fl908 fh909 L905 w906 hp907
         have hE910 := hp907.ex
         have hE910z := Ex.size hE910
         refine SeqR.done (bn (tn (CW.sub (Sub.cons (d := 0) (hp907.old 0 _ rfl rfl) (Sub.cons (d := 1) (hp907.old 1 _ rfl rfl) (Sub.cons (d := 5) (hp907.old 5 _ rfl rfl) (Sub.cons (d := 6) (hp907.nt 10 6 rfl rfl rfl) (Sub.cons (d := 7) (hp907.old 7 _ rfl rfl) (Sub.cons (d := 19) (hp907.old 19 _ rfl rfl) (Sub.cons (d := 20) (hp907.old 20 _ rfl rfl) (Sub.cons (d := 21) (hp907.old 21 _ rfl rfl) (Sub.cons (d := 22) (hp907.old 22 _ rfl rfl) (Sub.cons (d := 25) (hp907.old 25 _ rfl rfl) (Sub.cons (d := 26) (hp907.old 26 _ rfl rfl) (Sub.cons (d := 27) (hp907.old 27 _ rfl rfl) (Sub.cons (d := 28) (hp907.old 28 _ rfl rfl) (Sub.cons (d := 29) (hp907.old 29 _ rfl rfl) (Sub.cons (d := 30) (hp907.old 30 _ rfl rfl) (Sub.cons (d := 31) (hp907.old 31 _ rfl rfl) (Sub.cons (d := 32) (hp907.old 32 _ rfl rfl) (Sub.cons (d := 33) (hp907.old 33 _ rfl rfl) (Sub.cons (d := 34) (hp907.old 34 _ rfl rfl) (Sub.cons (d := 44) (hp907.nt 2 44 rfl rfl rfl) (Sub.cons (d := 45) (hp907.nt 3 45 rfl rfl rfl) (Sub.cons (d := 46) (hp907.nt 4 46 rfl rfl rfl) (Sub.cons (d := 47) (hp907.nt 5 47 rfl rfl rfl) (Sub.cons (d := 48) (hp907.nt 6 48 rfl rfl rfl) (Sub.cons (d := 49) (hp907.nt 7 49 rfl rfl rfl) (Sub.cons (d := 50) (hp907.nt 8 50 rfl rfl rfl) (Sub.nil _))))))))))))))))))))))))))) (CW.region (sd rfl (yl_move rfl rfl (sd rfl (yl_inc rfl rfl rfl (by omega) (sd rfl (yl_assign rfl rfl (SeqR.done ?_)))))))))))
         refine tn ?_
         have hB937 : B_s_l3Bytes_1 p_s p_more k5 k715 (x716) = .cont (decide (((p_s.getD k5 0).toNat : Int) = ((p_more.getD k715 0).toNat : Int))) := by simp only [B_s_l3Bytes_1, hb21, hb714, hb748, cond_true, cond_false, loopE_done, loopE_ret]
         exact ⟨p_more.length - (k715 + 1), by omega, k715 + 1, decide (((p_s.getD k5 0).toNat : Int) = ((p_more.getD k715 0).toNat : Int)), rfl, hlt747, (by omega), rfl, rfl, rfl, rfl, rfl, rfl, rfl, rfl, rfl, rfl, rfl, rfl, rfl, rfl, rfl, rfl, rfl, rfl, rfl, (Ex.trans hf745 hE910), (loopM.cont hlt747 hB937).symm.trans hI724⟩
      ·refine CW.seq (CW.seq (CW.region (sd rfl (yl_move rfl rfl (sd rfl (yl_move rfl rfl (sd rfl (yl_slen Tryz.un9 (a := p_more) rfl rfl (sd rfl (yl_lss rfl rfl rfl (SeqR.done (tn ?_))))))))))))
       refine CW.cond_f rfl (lt_f hlt747) (CW.exit (tx (tx ?_)))
       have hL939 : loopM (B_s_l3Bytes_1 p_s p_more k5) (p_more.length - 0) 0 (decide (((p_s.getD k5 0).toNat : Int) ≤ 57)) = .done (x716) := hI724.symm.trans (loopM.stop hlt747)
       refine bx (tn (CW.seq (CW.region (sd rfl (yl_move rfl rfl (sd rfl (yl_not rfl rfl (SeqR.done (tn (bcase (x716) (fun hb940 => ?_) (fun hb940 => ?_)))))))))))
       ·refine CW.cond_f rfl (not_t hb940) (CW.skip (bn (tn (CW.region (sd rfl (yl_move rfl rfl (sd rfl (yl_inc rfl rfl rfl (by omega) (sd rfl (yl_assign rfl rfl (SeqR.done ?_)))))))))))
        refine tn ?_
        have hB941 : B_s_l3Bytes_0 p_s p_more k5 () = .cont () := by simp only [B_s_l3Bytes_0, hb21, hb714, hb940, hL939, cond_true, cond_false, loopE_done, loopE_ret]
        exact ⟨p_s.length - (k5 + 1), by omega, k5 + 1, rfl, hlt20, (by omega), rfl, rfl, rfl, hf745, (loopM.cont hlt20 hB941).symm.trans hI13⟩
       ·refine CW.cond_t rfl (not_f hb940) (CW.seq (CW.region (sd rfl (yl_assign rfl rfl (SeqR.done (tn (CW.ret (br (tr ?_)))))))))
        refine tr ?_
        have hB943 : B_s_l3Bytes_0 p_s p_more k5 () = .ret false := by simp only [B_s_l3Bytes_0, hb21, hb714, hb940, hL939, cond_true, cond_false, loopE_done, loopE_ret]
        have hL942 : loopM (B_s_l3Bytes_0 p_s p_more) (p_s.length - 0) 0 () = .ret false := hI13.symm.trans (loopM.ret hlt20 hB943)
        refine br (tr (rr rfl (.cons rfl .nil) ?_))
        have hM944 : (s_l3Bytes p_s p_more) = (false) := by simp only [s_l3Bytes, hb21, hb714, hb940, hL939, hL942, cond_true, cond_false, loopE_done, loopE_ret]
        rw [hM944]
        exact ⟨rfl, hf745⟩
    ·have hb714p := dec_f hb714
     refine sz rfl rfl hb714 (sz rfl rfl hb714 (sz rfl rfl hb714 (sz rfl rfl hb714 (sy rfl rfl rfl (yl_pick_f rfl rfl hb714 rfl (sd rfl (yl_pick_f rfl rfl rfl rfl (sd rfl (yl_assign rfl rfl (SeqR.done (tn ?_)))))))))))
     refine CW.seq (CW.seq (CW.region (sd rfl (yl_assign rfl rfl (SeqR.done (tn (CW.block (CW.loop (fun m947 L948 w949 => ∃ (k945 : Nat) (x946 : Bool), m947 = p_more.length - k945 ∧ k945 ≤ p_more.length ∧ w11.heap.size ≤ w949.heap.size ∧ lkp L948 0 = some (.string (bs (p_s))) ∧ lkp L948 1 = some (.string (bs (p_more))) ∧ lkp L948 5 = some (.int .i64 ((k5 : Int))) ∧ lkp L948 6 = some (.bool (x946)) ∧ lkp L948 7 = some (.int .i64 ((k945 : Int))) ∧ lkp L948 19 = some (undef) ∧ lkp L948 20 = some (undef) ∧ lkp L948 21 = some (undef) ∧ lkp L948 22 = some (undef) ∧ lkp L948 25 = some (.string (bs (p_s))) ∧ lkp L948 26 = some (.int .i64 ((k5 : Int))) ∧ lkp L948 27 = some (.int .u8 (((p_s.getD k5 0).toNat : Int))) ∧ lkp L948 28 = some (.bool (decide (48 ≤ ((p_s.getD k5 0).toNat : Int)))) ∧ lkp L948 29 = some (.bool (decide (48 ≤ ((p_s.getD k5 0).toNat : Int)))) ∧ lkp L948 30 = some (undef) ∧ lkp L948 31 = some (undef) ∧ lkp L948 32 = some (undef) ∧ lkp L948 33 = some (undef) ∧ lkp L948 34 = some (.bool (false)) ∧ Ex w w949 ∧ loopM (B_s_l3Bytes_1 p_s p_more k5) (p_more.length - k945) k945 (x946) = loopM (B_s_l3Bytes_1 p_s p_more k5) (p_more.length - 0) 0 (false)) (p_more.length - 0) ?_ ?_))))))))
     ·exact ⟨0, false, rfl, (by omega), Nat.le_refl _, rfl, rfl, rfl, rfl, rfl, rfl, rfl, rfl, rfl, rfl, rfl, rfl, rfl, rfl, rfl, rfl, rfl, rfl, rfl, hf18, rfl⟩
     ·rintro m950 L951 w952 ⟨k945, x946, rfl, hk953, hsz955, hl956, hl957, hl958, hl959, hl960, hl961, hl962, hl963, hl964, hl965, hl966, hl967, hl968, hl969, hl970, hl971, hl972, hl973, hl974, hf975, hI954⟩
      refine CW.sub (Sub.cons hl956 (Sub.cons hl957 (Sub.cons hl958 (Sub.cons hl959 (Sub.cons hl960 (Sub.cons hl961 (Sub.cons hl962 (Sub.cons hl963 (Sub.cons hl964 (Sub.cons hl965 (Sub.cons hl966 (Sub.cons hl967 (Sub.cons hl968 (Sub.cons hl969 (Sub.cons hl970 (Sub.cons hl971 (Sub.cons hl972 (Sub.cons hl973 (Sub.cons hl974 (Sub.nil _)))))))))))))))))))) ?_
      have hf975z := Ex.size hf975
      have hbg976 : p_more.length ≤ 1073741824 := o2
      rcases Nat.lt_or_ge k945 p_more.length with hlt977 | hlt977
      ·refine CW.seq (CW.seq (CW.region (sd rfl (yl_move rfl rfl (sd rfl (yl_move rfl rfl (sd rfl (yl_slen Tryz.un9 (a := p_more) rfl rfl (sd rfl (yl_lss rfl rfl rfl (SeqR.done (tn ?_))))))))))))
       refine CW.cond_t rfl (lt_t hlt977) (CW.skip (tn (CW.seq (CW.block (bcase (x946) (fun hb978 => ?_) (fun hb978 => ?_))))))
       ·refine CW.drawsI 11 (vgetI [DetI (.bool (x946)), DetI (.bool (x946)), DetI (undef), DetI (undef), DetI (undef), DetI (undef), DetI (undef), DetI (undef), DetI (undef), DetI (.bool (true)), DetI (.bool (true))]) Tryz.follows rfl rfl rfl rfl rfl rfl (vgetI_stable ⟨StableI.det _, StableI.det _, StableI.det _, StableI.det _, StableI.det _, StableI.det _, StableI.det _, StableI.det _, StableI.det _, StableI.det _, StableI.det _, trivial⟩) ⟨?_, ?_, ?_, ?_, ?_, ?_, ?_, ?_, ?_, ?_, ?_, trivial⟩ ?_
        ·exact fun _ _ h => os rfl ((yl_move rfl (h.old 6 _ rfl rfl) kI))
        ·exact fun _ _ h => os rfl ((yl_move rfl (h.dt 0 42 rfl rfl rfl) kI))
        ·exact fun _ _ h => OpR.skip rfl rfl (h.dt 1 43 rfl rfl rfl) hb978 ⟨rfl, Ex.refl _⟩
        ·exact fun _ _ h => OpR.skip rfl rfl (h.dt 1 43 rfl rfl rfl) hb978 ⟨rfl, Ex.refl _⟩
        ·exact fun _ _ h => OpR.skip rfl rfl (h.dt 1 43 rfl rfl rfl) hb978 ⟨rfl, Ex.refl _⟩
        ·exact fun _ _ h => OpR.skip rfl rfl (h.dt 1 43 rfl rfl rfl) hb978 ⟨rfl, Ex.refl _⟩
        ·exact fun _ _ h => OpR.skip rfl rfl (h.dt 1 43 rfl rfl rfl) hb978 ⟨rfl, Ex.refl _⟩
        ·exact fun _ _ h => OpR.skip rfl rfl (h.dt 1 43 rfl rfl rfl) hb978 ⟨rfl, Ex.refl _⟩
        ·exact fun _ _ h => OpR.skip rfl rfl (h.dt 1 43 rfl rfl rfl) hb978 ⟨rfl, Ex.refl _⟩
        ·exact fun _ _ h => os rfl ((yl_pick_t rfl (h.dt 1 43 rfl rfl rfl) hb978 rfl kI))
        ·exact fun _ _ h => os rfl ((yl_assign rfl (h.dt 9 51 rfl rfl rfl) kI))
        ·intro fl1038 fh1039 L1035 w1036 hp1037
         have hE1040 := hp1037.ex
         have hE1040z := Ex.size hE1040
         refine SeqR.done (bn (tn (CW.sub (Sub.cons (d := 0) (hp1037.old 0 _ rfl rfl) (Sub.cons (d := 1) (hp1037.old 1 _ rfl rfl) (Sub.cons (d := 5) (hp1037.old 5 _ rfl rfl) (Sub.cons (d := 6) (hp1037.nt 10 6 rfl rfl rfl) (Sub.cons (d := 7) (hp1037.old 7 _ rfl rfl) (Sub.cons (d := 19) (hp1037.old 19 _ rfl rfl) (Sub.cons (d := 20) (hp1037.old 20 _ rfl rfl) (Sub.cons (d := 21) (hp1037.old 21 _ rfl rfl) (Sub.cons (d := 22) (hp1037.old 22 _ rfl rfl) (Sub.cons (d := 25) (hp1037.old 25 _ rfl rfl) (Sub.cons (d := 26) (hp1037.old 26 _ rfl rfl) (Sub.cons (d := 27) (hp1037.old 27 _ rfl rfl) (Sub.cons (d := 28) (hp1037.old 28 _ rfl rfl) (Sub.cons (d := 29) (hp1037.old 29 _ rfl rfl) (Sub.cons (d := 30) (hp1037.old 30 _ rfl rfl) (Sub.cons (d := 31) (hp1037.old 31 _ rfl rfl) (Sub.cons (d := 32) (hp1037.old 32 _ rfl rfl) (Sub.cons (d := 33) (hp1037.old 33 _ rfl rfl) (Sub.cons (d := 34) (hp1037.old 34 _ rfl rfl) (Sub.cons (d := 44) (hp1037.nt 2 44 rfl rfl rfl) (Sub.cons (d := 45) (hp1037.nt 3 45 rfl rfl rfl) (Sub.cons (d := 46) (hp1037.nt 4 46 rfl rfl rfl) (Sub.cons (d := 47) (hp1037.nt 5 47 rfl rfl rfl) (Sub.cons (d := 48) (hp1037.nt 6 48 rfl rfl rfl) (Sub.cons (d := 49) (hp1037.nt 7 49 rfl rfl rfl) (Sub.cons (d := 50) (hp1037.nt 8 50 rfl rfl rfl) (Sub.nil _))))))))))))))))))))))))))) (CW.region (sd rfl (yl_move rfl rfl (sd rfl (yl_inc rfl rfl rfl (by omega) (sd rfl (yl_assign rfl rfl (SeqR.done ?_)))))))))))
         refine tn ?_
         have hB1067 : B_s_l3Bytes_1 p_s p_more k5 k945 (x946) = .cont (true) := by simp only [B_s_l3Bytes_1, hb21, hb714, hb978, cond_true, cond_false, loopE_done, loopE_ret]
         exact ⟨p_more.length - (k945 + 1), by omega, k945 + 1, true, rfl, hlt977, (by omega), rfl, rfl, rfl, rfl, rfl, rfl, rfl, rfl, rfl, rfl, rfl, rfl, rfl, rfl, rfl, rfl, rfl, rfl, rfl, (Ex.trans hf975 hE1040), (loopM.cont hlt977 hB1067).symm.trans hI954⟩
       ·refine CW.drawsI 11 (vgetI [DetI (.bool (x946)), DetI (.bool (x946)), DetI (.string (bs (p_s))), DetI (.int .i64 ((k5 : Int))), DetI (.int .u8 (((p_s.getD k5 0).toNat : Int))), DetI (.string (bs (p_more))), DetI (.int .i64 ((k945 : Int))), DetI (.int .u8 (((p_more.getD k945 0).toNat : Int))), DetI (.bool (decide (((p_s.getD k5 0).toNat : Int) = ((p_more.getD k945 0).toNat : Int)))), DetI (.bool (decide (((p_s.getD k5 0).toNat : Int) = ((p_more.getD k945 0).toNat : Int)))), DetI (.bool (decide (((p_s.getD k5 0).toNat : Int) = ((p_more.getD k945 0).toNat : Int))))]) Tryz.follows rfl rfl rfl rfl rfl rfl (vgetI_stable ⟨StableI.det _, StableI.det _, StableI.det _, StableI.det _, StableI.det _, StableI.det _, StableI.det _, StableI.det _, StableI.det _, StableI.det _, StableI.det _, trivial⟩) ⟨?_, ?_, ?_, ?_, ?_, ?_, ?_, ?_, ?_, ?_, ?_, trivial⟩ ?_
        ·exact fun _ _ h => os rfl ((yl_move rfl (h.old 6 _ rfl rfl) kI))
        ·exact fun _ _ h => os rfl ((yl_move rfl (h.dt 0 42 rfl rfl rfl) kI))
        ·exact fun _ _ h => OpR.want rfl rfl (h.dt 1 43 rfl rfl rfl) hb978 (Yl.sameI (yl_move rfl (h.old 0 _ rfl rfl) kI))
        ·exact fun _ _ h => OpR.want rfl rfl (h.dt 1 43 rfl rfl rfl) hb978 (Yl.sameI (yl_move rfl (h.old 5 _ rfl rfl) kI))
        ·intro L1091 w1092 hi1093
         have hE1094 := hi1093.ex
         have hE1094z := Ex.size hE1094
         exact OpR.want rfl rfl (hi1093.dt 1 43 rfl rfl rfl) hb978 (Yl.sameI (yl_sindexN Tryz.un9 (a := p_s) rfl (hi1093.dt 2 44 rfl rfl rfl) (hi1093.dt 3 45 rfl rfl rfl) (by first | omega | assumption | (simp only [IntKind.wrap_i64] at *; omega)) kI))
        ·exact fun _ _ h => OpR.want rfl rfl (h.dt 1 43 rfl rfl rfl) hb978 (Yl.sameI (yl_move rfl (h.old 1 _ rfl rfl) kI))
        ·exact fun _ _ h => OpR.want rfl rfl (h.dt 1 43 rfl rfl rfl) hb978 (Yl.sameI (yl_move rfl (h.old 7 _ rfl rfl) kI))
        ·intro L1110 w1111 hi1112
         have hE1113 := hi1112.ex
         have hE1113z := Ex.size hE1113
         exact OpR.want rfl rfl (hi1112.dt 1 43 rfl rfl rfl) hb978 (Yl.sameI (yl_sindexN Tryz.un9 (a := p_more) rfl (hi1112.dt 5 47 rfl rfl rfl) (hi1112.dt 6 48 rfl rfl rfl) (by first | omega | assumption | (simp only [IntKind.wrap_i64] at *; omega)) kI))
        ·exact fun _ _ h => OpR.want rfl rfl (h.dt 1 43 rfl rfl rfl) hb978 (Yl.sameI (yl_eql rfl (h.dt 4 46 rfl rfl rfl) (h.dt 7 49 rfl rfl rfl) kI))
        ·exact fun _ _ h => os rfl ((yl_pick_f rfl (h.dt 1 43 rfl rfl rfl) hb978 (h.dt 8 50 rfl rfl rfl) kI))
        ·exact fun _ _ h => os rfl ((yl_assign rfl (h.dt 9 51 rfl rfl rfl) kI))
        ·intro fl1138 fh1139 L1135 w1136 hp1137
         have hE1140 := hp1137.ex
         have hE1140z := Ex.size hE1140
         refine SeqR.done (bn (tn (CW.sub (Sub.cons (d := 0) (hp1137.old 0 _ rfl rfl) (Sub.cons (d := 1) (hp1137.old 1 _ rfl rfl) (Sub.cons (d := 5) (hp1137.old 5 _ rfl rfl) (Sub.cons (d := 6) (hp1137.nt 10 6 rfl rfl rfl) (Sub.cons (d := 7) (hp1137.old 7 _ rfl rfl) (Sub.cons (d := 19) (hp1137.old 19 _ rfl rfl) (Sub.cons (d := 20) (hp1137.old 20 _ rfl rfl) (Sub.cons (d := 21) (hp1137.old 21 _ rfl rfl) (Sub.cons (d := 22) (hp1137.old 22 _ rfl rfl) (Sub.cons (d := 25) (hp1137.old 25 _ rfl rfl) (Sub.cons (d := 26) (hp1137.old 26 _ rfl rfl) (Sub.cons (d := 27) (hp1137.old 27 _ rfl rfl) (Sub.cons (d := 28) (hp1137.old 28 _ rfl rfl) (Sub.cons (d := 29) (hp1137.old 29 _ rfl rfl) (Sub.cons (d := 30) (hp1137.old 30 _ rfl rfl) (Sub.cons (d := 31) (hp1137.old 31 _ rfl rfl) (Sub.cons (d := 32) (hp1137.old 32 _ rfl rfl) (Sub.cons (d := 33) (hp1137.old 33 _ rfl rfl) (Sub.cons (d := 34) (hp1137.old 34 _ rfl rfl) (Sub.cons (d := 44) (hp1137.nt 2 44 rfl rfl rfl) (Sub.cons (d := 45) (hp1137.nt 3 45 rfl rfl rfl) (Sub.cons (d := 46) (hp1137.nt 4 46 rfl rfl rfl) (Sub.cons (d := 47) (hp1137.nt 5 47 rfl rfl rfl) (Sub.cons (d := 48) (hp1137.nt 6 48 rfl rfl rfl) (Sub.cons (d := 49) (hp1137.nt 7 49 rfl rfl rfl) (Sub.cons (d := 50) (hp1137.nt 8 50 rfl rfl rfl) (Sub.nil _))))))))))))))))))))))))))) (CW.region (sd rfl (yl_move rfl rfl (sd rfl (yl_inc rfl rfl rfl (by omega) (sd rfl (yl_assign rfl rfl (SeqR.done ?_)))))))))))
         refine tn ?_
         have hB1167 : B_s_l3Bytes_1 p_s p_more k5 k945 (x946) = .cont (decide (((p_s.getD k5 0).toNat : Int) = ((p_more.getD k945 0).toNat : Int))) := by simp only [B_s_l3Bytes_1, hb21, hb714, hb978, cond_true, cond_false, loopE_done, loopE_ret]
         exact ⟨p_more.length - (k945 + 1), by omega, k945 + 1, decide (((p_s.getD k5 0).toNat : Int) = ((p_more.getD k945 0).toNat : Int)), rfl, hlt977, (by omega), rfl, rfl, rfl, rfl, rfl, rfl, rfl, rfl, rfl, rfl, rfl, rfl, rfl, rfl, rfl, rfl, rfl, rfl, rfl, (Ex.trans hf975 hE1140), (loopM.cont hlt977 hB1167).symm.trans hI954⟩
      ·refine CW.seq (CW.seq (CW.region (sd rfl (yl_move rfl rfl (sd rfl (yl_move rfl rfl (sd rfl (yl_slen Tryz.un9 (a := p_more) rfl rfl (sd rfl (yl_lss rfl rfl rfl (SeqR.done (tn ?_))))))))))))
       refine CW.cond_f rfl (lt_f hlt977) (CW.exit (tx (tx ?_)))
       have hL1169 : loopM (B_s_l3Bytes_1 p_s p_more k5) (p_more.length - 0) 0 (false) = .done (x946) := hI954.symm.trans (loopM.stop hlt977)
       refine bx (tn (CW.seq (CW.region (sd rfl (yl_move rfl rfl (sd rfl (yl_not rfl rfl (SeqR.done (tn (bcase (x946) (fun hb1170 => ?_) (fun hb1170 => ?_)))))))))))
       ·refine CW.cond_f rfl (not_t hb1170) (CW.skip (bn (tn (CW.region (sd rfl (yl_move rfl rfl (sd rfl (yl_inc rfl rfl rfl (by omega) (sd rfl (yl_assign rfl rfl (SeqR.done ?_)))))))))))
        refine tn ?_
        have hB1171 : B_s_l3Bytes_0 p_s p_more k5 () = .cont () := by simp only [B_s_l3Bytes_0, hb21, hb714, hb1170, hL1169, cond_true, cond_false, loopE_done, loopE_ret]
        exact ⟨p_s.length - (k5 + 1), by omega, k5 + 1, rfl, hlt20, (by omega), rfl, rfl, rfl, hf975, (loopM.cont hlt20 hB1171).symm.trans hI13⟩
       ·refine CW.cond_t rfl (not_f hb1170) (CW.seq (CW.region (sd rfl (yl_assign rfl rfl (SeqR.done (tn (CW.ret (br (tr ?_)))))))))
        refine tr ?_
        have hB1173 : B_s_l3Bytes_0 p_s p_more k5 () = .ret false := by simp only [B_s_l3Bytes_0, hb21, hb714, hb1170, hL1169, cond_true, cond_false, loopE_done, loopE_ret]
        have hL1172 : loopM (B_s_l3Bytes_0 p_s p_more) (p_s.length - 0) 0 () = .ret false := hI13.symm.trans (loopM.ret hlt20 hB1173)
        refine br (tr (rr rfl (.cons rfl .nil) ?_))
        have hM1174 : (s_l3Bytes p_s p_more) = (false) := by simp only [s_l3Bytes, hb21, hb714, hb1170, hL1169, hL1172, cond_true, cond_false, loopE_done, loopE_ret]
        rw [hM1174]
        exact ⟨rfl, hf975⟩
  ·refine CW.seq (CW.seq (CW.region (sd rfl (yl_move rfl rfl (sd rfl (yl_move rfl rfl (sd rfl (yl_slen Tryz.un9 (a := p_s) rfl rfl (sd rfl (yl_lss rfl rfl rfl (SeqR.done (tn ?_))))))))))))
   refine CW.cond_f rfl (lt_f hlt20) (CW.exit (tx (tx ?_)))
   have hL1175 : loopM (B_s_l3Bytes_0 p_s p_more) (p_s.length - 0) 0 () = .done () := hI13.symm.trans (loopM.stop hlt20)
   refine bx (tn (CW.seq (CW.region (sd rfl (yl_assign rfl rfl (SeqR.done (tn (CW.ret (rr rfl (.cons rfl .nil) ?_)))))))))
   have hM1176 : (s_l3Bytes p_s p_more) = (true) := by simp only [s_l3Bytes, hL1175, cond_true, cond_false, loopE_done, loopE_ret]
   rw [hM1176]
   exact ⟨rfl, hf18⟩
set_option maxRecDepth 100000 in
set_option maxHeartbeats 2000000 in
theorem c_s_l3Key {w : World} (p_s : Str) (o1 : okS p_s) : Cal Tryz.prog 112 #[.string (bs (p_s))] w fun v w' => v = .bool ((s_l3Key p_s)) ∧ Ex w w' := by
 have hol2 : p_s.length ≤ 1073741824 := o1
 refine Cal.of (vs := [.string (bs (p_s))]) Tryz.func112 rfl Tryz.ntmps112 rfl (CW.seq (CW.region (sd rfl (yl_assign rfl rfl (SeqR.done (tn (CW.seq (CW.region (sd rfl (yl_move rfl rfl ?_))))))))))
 refine sd rfl (yl_slen Tryz.un9 (a := p_s) rfl rfl (sd rfl (yl_call Tryz.en55 rfl (opvs_cons rfl (opvs_cons rfl (opvs_cons rfl opvs_nil))) (Cal.mono (c_s_l1In (p_s.length : Int) 1 12) ?_))))
 rintro v4 w3 ⟨rfl, hE5⟩
 have hE5z := Ex.size hE5
 refine sd rfl (yl_move rfl rfl (bcase (s_l1In (p_s.length : Int) 1 12) (fun hb6 => ?_) (fun hb6 => ?_)))
 ·have hb6p := f_l1In hb6
  refine sy rfl rfl hb6 (yl_move rfl rfl (sy rfl rfl hb6 (yl_call Tryz.en142 rfl (opvs_cons rfl (opvs_cons rfl opvs_nil)) (Cal.mono (c_s_l3Bytes p_s ([46, 47] : Str) o1 (okS.lit rfl)) ?_))))
  rintro v8 w7 ⟨rfl, hE9⟩
  have hE9z := Ex.size hE9
  refine sd rfl (yl_pick_t rfl rfl hb6 rfl (sd rfl (yl_assign rfl rfl (SeqR.done (tn (CW.ret (rr rfl (.cons rfl .nil) ?_)))))))
  have hM10 : (s_l3Key p_s) = ((s_l3Bytes p_s ([46, 47] : Str))) := by simp only [s_l3Key, hb6, cond_true, cond_false, loopE_done, loopE_ret]
  rw [hM10]
  exact ⟨rfl, (Ex.trans (Ex.trans (Ex.refl w) hE5) hE9)⟩
 ·refine sz rfl rfl hb6 (sz rfl rfl hb6 (sd rfl (yl_pick_f rfl rfl hb6 rfl (sd rfl (yl_assign rfl rfl (SeqR.done (tn (CW.ret (rr rfl (.cons rfl .nil) ?_)))))))))
  have hM13 : (s_l3Key p_s) = (false) := by simp only [s_l3Key, hb6, cond_true, cond_false, loopE_done, loopE_ret]
  rw [hM13]
  exact ⟨rfl, (Ex.trans (Ex.refl w) hE5)⟩
set_option maxRecDepth 100000 in
set_option maxHeartbeats 2000000 in
theorem c_s_l3Val {w : World} (p_s : Str) (o1 : okS p_s) : Cal Tryz.prog 148 #[.string (bs (p_s))] w fun v w' => v = .bool ((s_l3Val p_s)) ∧ Ex w w' := by
 have hol2 : p_s.length ≤ 1073741824 := o1
 refine Cal.of (vs := [.string (bs (p_s))]) Tryz.func148 rfl Tryz.ntmps148 rfl (CW.seq (CW.region (sd rfl (yl_assign rfl rfl (SeqR.done (tn (CW.seq (CW.region (sd rfl (yl_move rfl rfl ?_))))))))))
 refine sd rfl (yl_slen Tryz.un9 (a := p_s) rfl rfl (sd rfl (yl_leq rfl rfl rfl (sd rfl (yl_move rfl rfl (bcase (decide ((p_s.length : Int) ≤ 24)) (fun hb3 => ?_) (fun hb3 => ?_)))))))
 ·have hb3p := dec_t hb3
  refine sy rfl rfl hb3 (yl_move rfl rfl (sy rfl rfl hb3 (yl_call Tryz.en142 rfl (opvs_cons rfl (opvs_cons rfl opvs_nil)) (Cal.mono (c_s_l3Bytes p_s ([46, 45, 44, 95] : Str) o1 (okS.lit rfl)) ?_))))
  rintro v5 w4 ⟨rfl, hE6⟩
  have hE6z := Ex.size hE6
  refine sd rfl (yl_pick_t rfl rfl hb3 rfl (sd rfl (yl_assign rfl rfl (SeqR.done (tn (CW.ret (rr rfl (.cons rfl .nil) ?_)))))))
  have hM7 : (s_l3Val p_s) = ((s_l3Bytes p_s ([46, 45, 44, 95] : Str))) := by simp only [s_l3Val, hb3, cond_true, cond_false, loopE_done, loopE_ret]
  rw [hM7]
  exact ⟨rfl, (Ex.trans (Ex.refl w) hE6)⟩
 ·have hb3p := dec_f hb3
  refine sz rfl rfl hb3 (sz rfl rfl hb3 (sd rfl (yl_pick_f rfl rfl hb3 rfl (sd rfl (yl_assign rfl rfl (SeqR.done (tn (CW.ret (rr rfl (.cons rfl .nil) ?_)))))))))
  have hM9 : (s_l3Val p_s) = (false) := by simp only [s_l3Val, hb3, cond_true, cond_false, loopE_done, loopE_ret]
  rw [hM9]
  exact ⟨rfl, (Ex.refl w)⟩
set_option maxRecDepth 100000 in
set_option maxHeartbeats 2000000 in
theorem c_s_l3Write {w : World} (p_key : Str) (p_val : Str) (p_gone : Bool) (o1 : okS p_key) (o2 : okS p_val) : Cal Tryz.prog 125 #[.string (bs (p_key)), .string (bs (p_val)), .bool (p_gone)] w fun v w' => v = .bool ((s_l3Write p_key p_val p_gone)) ∧ Ex w w' := by
 have hol3 : p_key.length ≤ 1073741824 := o1
 have hol4 : p_val.length ≤ 1073741824 := o2
 refine Cal.of (vs := [.string (bs (p_key)), .string (bs (p_val)), .bool (p_gone)]) Tryz.func125 rfl Tryz.ntmps125 rfl (CW.seq (CW.region (sd rfl (yl_assign rfl rfl (SeqR.done (tn (CW.seq (CW.region (sd rfl (yl_move rfl rfl ?_))))))))))
 refine sd rfl (yl_call Tryz.en112 rfl (opvs_cons rfl opvs_nil) (Cal.mono (c_s_l3Key p_key o1) ?_))
 rintro v6 w5 ⟨rfl, hE7⟩
 have hE7z := Ex.size hE7
 refine sd rfl (yl_move rfl rfl (bcase (s_l3Key p_key) (fun hb8 => ?_) (fun hb8 => ?_)))
 ·refine sy rfl rfl hb8 (yl_move rfl rfl (sy rfl rfl hb8 (yl_call Tryz.en148 rfl (opvs_cons rfl opvs_nil) (Cal.mono (c_s_l3Val p_val o2) ?_))))
  rintro v10 w9 ⟨rfl, hE11⟩
  have hE11z := Ex.size hE11
  refine sd rfl (yl_pick_t rfl rfl hb8 rfl (sd rfl (yl_move rfl rfl (bcase (s_l3Val p_val) (fun hb12 => ?_) (fun hb12 => ?_)))))
  ·refine sy rfl rfl hb12 (yl_move rfl rfl (sy rfl rfl hb12 (yl_not rfl rfl (sy rfl rfl hb12 (yl_move rfl rfl (bcase (p_gone) (fun hb13 => ?_) (fun hb13 => ?_)))))))
   ·refine sy rfl rfl (not_t hb13) (yl_move rfl rfl (sy rfl rfl (not_t hb13) (yl_seql (a := p_val) (b := ([] : Str)) rfl rfl rfl (sy rfl rfl hb12 (yl_pick_f rfl rfl (not_t hb13) rfl (sd rfl (yl_pick_t rfl rfl hb12 rfl (sd rfl (yl_assign rfl rfl (SeqR.done (tn (CW.ret (rr rfl (.cons rfl .nil) ?_)))))))))))))
    have hM14 : (s_l3Write p_key p_val p_gone) = (p_val == ([] : Str)) := by simp only [s_l3Write, hb8, hb12, hb13, cond_true, cond_false, loopE_done, loopE_ret]
    rw [hM14]
    exact ⟨rfl, (Ex.trans (Ex.trans (Ex.refl w) hE7) hE11)⟩
   ·refine sz rfl rfl (not_f hb13) (sz rfl rfl (not_f hb13) (sy rfl rfl hb12 (yl_pick_t rfl rfl (not_f hb13) rfl (sd rfl (yl_pick_t rfl rfl hb12 rfl (sd rfl (yl_assign rfl rfl (SeqR.done (tn (CW.ret (rr rfl (.cons rfl .nil) ?_)))))))))))
    have hM17 : (s_l3Write p_key p_val p_gone) = (true) := by simp only [s_l3Write, hb8, hb12, hb13, cond_true, cond_false, loopE_done, loopE_ret]
    rw [hM17]
    exact ⟨rfl, (Ex.trans (Ex.trans (Ex.refl w) hE7) hE11)⟩
  ·refine sz rfl rfl hb12 (sz rfl rfl hb12 (sz rfl rfl hb12 (sq rfl rfl (sq rfl rfl (sz rfl rfl hb12 (sd rfl (yl_pick_f rfl rfl hb12 rfl (sd rfl (yl_assign rfl rfl (SeqR.done ?_))))))))))
   refine tn (CW.ret (rr rfl (.cons rfl .nil) ?_))
   have hM20 : (s_l3Write p_key p_val p_gone) = (false) := by simp only [s_l3Write, hb8, hb12, cond_true, cond_false, loopE_done, loopE_ret]
   rw [hM20]
   exact ⟨rfl, (Ex.trans (Ex.trans (Ex.refl w) hE7) hE11)⟩
 ·refine sz rfl rfl hb8 (sz rfl rfl hb8 (sd rfl (yl_pick_f rfl rfl hb8 rfl (sd rfl (yl_move rfl rfl (sz rfl rfl rfl (sz rfl rfl rfl (sz rfl rfl rfl (sq rfl rfl (sq rfl rfl ?_))))))))))
  refine sz rfl rfl rfl (sd rfl (yl_pick_f rfl rfl rfl rfl (sd rfl (yl_assign rfl rfl (SeqR.done (tn (CW.ret (rr rfl (.cons rfl .nil) ?_))))))))
  have hM23 : (s_l3Write p_key p_val p_gone) = (false) := by simp only [s_l3Write, hb8, cond_true, cond_false, loopE_done, loopE_ret]
  rw [hM23]
  exact ⟨rfl, (Ex.trans (Ex.refl w) hE7)⟩
end Go.Proofs.YtfmepgbpbbneaaaGreat
