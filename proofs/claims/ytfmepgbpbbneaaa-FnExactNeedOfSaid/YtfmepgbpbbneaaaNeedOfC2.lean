/- Need Of: what each call returns, part 2. -/
import Derived.Test.YtfmepgbpbbneaaaNeedOfC1
set_option linter.unusedVariables false
set_option linter.unusedSimpArgs false
namespace Go.Proofs.Ytfmepgbpbbneaaa
open Go.RowKit Go.X
set_option maxRecDepth 100000 in
set_option maxHeartbeats 2000000 in
theorem c_s_l24Set {A1 : Option Addr} {c1 : Nat} {A2 : Option Addr} {c2 : Nat} {w : World} (p_t : DTable) (p_name : Str) (p_stage : Int) (h1 : RdS w (Iv 0 w.heap.size) (RF e_Str) 1 A1 p_t.Cols.length c1 p_t.Cols) (h2 : RdS w (Iv 0 w.heap.size) (RF e_Idx) 3 A2 p_t.Idxs.length c2 p_t.Idxs) (o3 : ok_Table p_t) (o4 : okS p_name) (pre0 : (0 ≤ s_l24Idx p_t p_name ∧ s_l24Idx p_t p_name < (p_t.Idxs.length : Int))) : Cal Try.prog 163 #[.agg #[.string (bs (p_t.Name)), .slice A1 p_t.Cols.length c1, .slice A2 p_t.Idxs.length c2], .string (bs (p_name)), .int .i64 (p_stage)] w fun v w' => ∃ A_1 c_1 lo_1 hi_1 A_2 c_2 lo_2 hi_2, v = .agg #[.string (bs ((s_l24Set p_t p_name p_stage).Name)), .slice A_1 (((s_l24Set p_t p_name p_stage).Cols).length) c_1, .slice A_2 (((s_l24Set p_t p_name p_stage).Idxs).length) c_2] ∧ OwnL w' lo_1 hi_1 9 1 (RF e_Str) A_1 (((s_l24Set p_t p_name p_stage).Cols).length) c_1 ((s_l24Set p_t p_name p_stage).Cols) ∧ OwnL w' lo_2 hi_2 177 3 (RF e_Idx) A_2 (((s_l24Set p_t p_name p_stage).Idxs).length) c_2 ((s_l24Set p_t p_name p_stage).Idxs) ∧ ok_Table (s_l24Set p_t p_name p_stage) ∧ (w.heap.size ≤ lo_1 ∧ lo_1 ≤ hi_1 ∧ hi_1 ≤ w'.heap.size) ∧ (w.heap.size ≤ lo_2 ∧ lo_2 ≤ hi_2 ∧ hi_2 ≤ w'.heap.size) ∧ (hi_1 ≤ lo_2 ∨ hi_2 ≤ lo_1) ∧ Ex w w' := by
 have hol5 : p_t.Name.length ≤ 1073741824 := o3.1
 have hol6 := o3.2.1.1
 have hol7 := o3.2.2.1
 have hol8 : p_name.length ≤ 1073741824 := o4
 refine Cal.of (vs := [.agg #[.string (bs (p_t.Name)), .slice A1 p_t.Cols.length c1, .slice A2 p_t.Idxs.length c2], .string (bs (p_name)), .int .i64 (p_stage)]) Try.func163 rfl Try.ntmps163 rfl (CW.seq (CW.region (sd rfl (yl_box (cs := [.string (bs (p_t.Name)), .slice A1 p_t.Cols.length c1, .slice A2 p_t.Idxs.length c2]) rfl rfl rfl ?_))))
 intro b9 w10 hs11 hz12 hB13 hE14
 refine sd rfl (yl_alloc Try.ty59 (cs := [.string (bs (([] : Str))), .slice none 0 0, .slice none 0 0]) rfl rfl ?_)
 intro b15 w16 hs17 hz18 hB19 hE20
 refine SeqR.done (tn (CW.seq (CW.region ?_)))
 have q21 := Box.ex hB13 hE20
 refine sd rfl (yl_loadN (cs := [.string (bs (p_t.Name)), .slice A1 p_t.Cols.length c1, .slice A2 p_t.Idxs.length c2]) Try.ty59 rfl rfl (q21.cells (n := 3) rfl) rfl ?_)
 have q23 := RdS.ex good_Str (RdS.ex good_Str h1 hE14) hE20
 have q25 := RdS.ex good_Idx (RdS.ex good_Idx h2 hE14) hE20
 refine sd rfl (yl_call Try.en162 rfl (opvs_cons rfl opvs_nil) (Cal.mono (c_s_l24Own p_t (RdS.up q23 good_Str) (RdS.up q25 good_Idx) o3) ?_))
 rintro v30 w26 ⟨A27, c27, lo27, hi27, A28, c28, lo28, hi28, rfl, h27, h28, ho29, hrn32, hrn33, hrn34, hE31⟩
 have hE31z := Ex.size hE31
 have hrf35 := rf_l24Own p_t
 refine sd rfl (yl_alloc Try.ty59 (cs := [.string (bs (([] : Str))), .slice none 0 0, .slice none 0 0]) rfl rfl ?_)
 intro b36 w37 hs38 hz39 hB40 hE41
 refine SeqR.u rfl rfl (yl_store (vs := [.string (bs ((s_l24Own p_t).Name)), .slice A27 (((s_l24Own p_t).Cols).length) c27, .slice A28 (((s_l24Own p_t).Idxs).length) c28]) Try.ty59 rfl rfl rfl rfl rfl rfl hB40 (Nat.le_of_ble_eq_true rfl) ?_)
 intro w42 hB43 hO44
 have hB43 : Box w42 b36 59 [.string (bs ((s_l24Own p_t).Name)), .slice A27 (((s_l24Own p_t).Cols).length) c27, .slice A28 (((s_l24Own p_t).Idxs).length) c28] := hB43
 have hO44z := hO44.size
 refine SeqR.done (tn (CW.seq ?_))
 have hrf55 := rf_s_l24Idx p_t p_name
 refine CW.drawsI 6 (vgetI [DetI (.pointer (some ⟨b36, 0 + 2, none⟩)), DetI (.slice A28 (((s_l24Own p_t).Idxs).length) c28), DetI (.agg #[.string (bs (p_t.Name)), .slice A1 p_t.Cols.length c1, .slice A2 p_t.Idxs.length c2]), DetI (.string (bs (p_name))), DetI (.int .i64 ((s_l24Idx p_t p_name))), DetI (.int .i64 (p_stage))]) Try.follows rfl rfl rfl rfl rfl rfl (vgetI_stable ⟨StableI.det _, StableI.det _, StableI.det _, StableI.det _, StableI.det _, StableI.det _, trivial⟩) ⟨?_, ?_, ?_, ?_, ?_, ?_, trivial⟩ ?_
 ·exact fun _ _ h => os rfl ((yl_fieldAddr Try.fd59_2 rfl (h.old 7 _ rfl rfl) kI))
 ·exact fun _ _ h => os rfl ((yl_load1 Try.ty57 rfl (h.dt 0 10 rfl rfl rfl) (((Box.ex hB43 h.ex).cell 2).trans rfl) kI))
 ·intro L67 w68 hi69
  have hE70 := hi69.ex
  have hE70z := Ex.size hE70
  exact os rfl ((yl_loadN (cs := [.string (bs (p_t.Name)), .slice A1 p_t.Cols.length c1, .slice A2 p_t.Idxs.length c2]) Try.ty59 rfl (hi69.old 3 _ rfl rfl) ((Box.ex (Box.only (Box.ex (Box.ex q21 hE31) hE41) hO44 (by omega)) hE70).cells (n := 3) rfl) rfl kI))
 ·exact fun _ _ h => os rfl ((yl_move rfl (h.old 1 _ rfl rfl) kI))
 ·intro L78 w79 hi80
  have hE81 := hi80.ex
  have hE81z := Ex.size hE81
  refine OpR.op' rfl (yl_call Try.en159 rfl (opvs_cons (hi80.dt 2 12 rfl rfl rfl) (opvs_cons (hi80.dt 3 13 rfl rfl rfl) opvs_nil)) (Cal.mono (c_s_l24Idx p_t p_name (RdS.up (RdS.ex good_Str (RdS.only good_Str (RdS.ex good_Str (RdS.ex good_Str q23 hE31) hE41) hO44 (by simp only [Iv]; omega)) hE81) good_Str) (RdS.up (RdS.ex good_Idx (RdS.only good_Idx (RdS.ex good_Idx (RdS.ex good_Idx q25 hE31) hE41) hO44 (by simp only [Iv]; omega)) hE81) good_Idx) o3 o4) ?_))
  rintro v87 w86 ⟨rfl, hE88⟩
  exact ⟨rfl, hE88⟩
 ·exact fun _ _ h => os rfl ((yl_move rfl (h.old 2 _ rfl rfl) kI))
 ·intro fl97 fh98 L94 w95 hp96
  have hE99 := hp96.ex
  have hE99z := Ex.size hE99
  have q108 := OwnL.ex good_Idx (OwnL.only good_Idx (OwnL.ex good_Idx h28 hE41) hO44 (by omega)) hE99
  obtain ⟨eb109, eo109, ec109, eA109, eS109, ebl109, el109, eR109, eC109⟩ := RdS.atD (OwnL.rd good_Idx q108) d_Idx (i := ((s_l24Idx p_t p_name)).toNat) (by first | omega | assumption | (simp only [IntKind.wrap_i64] at *; omega))
  obtain rfl := eR109
  have eC109 : Cells w95 eb109 (eo109 + (((s_l24Idx p_t p_name)).toNat) * 3) [.string (bs ((((s_l24Own p_t).Idxs).getD (((s_l24Idx p_t p_name)).toNat) d_Idx).Name)), .int .i64 ((((s_l24Own p_t).Idxs).getD (((s_l24Idx p_t p_name)).toNat) d_Idx).Col), .int .i64 ((((s_l24Own p_t).Idxs).getD (((s_l24Idx p_t p_name)).toNat) d_Idx).Stage)] := eC109
  refine sd rfl (yl_indexAddr Try.un57 Try.ty177 rfl (hp96.nt 1 11 rfl rfl rfl) (hp96.nt 4 14 rfl rfl rfl) eA109 (by first | omega | assumption | (simp only [IntKind.wrap_i64] at *; omega)) (by first | omega | assumption | (simp only [IntKind.wrap_i64] at *; omega)) (sd rfl (yl_fieldAddr Try.fd177_2 rfl rfl ?_)))
  have hrg110 := OwnL.rng q108 (i := ((s_l24Idx p_t p_name)).toNat) (by first | omega | assumption | (simp only [IntKind.wrap_i64] at *; omega)) eb109 (by rw [eA109]; rfl)
  refine SeqR.u rfl rfl (yl_storeF (off := eo109) (i := ((s_l24Idx p_t p_name)).toNat) (d := 2) (dx := d_Idx) (x' := (⟨(((s_l24Own p_t).Idxs).getD (((s_l24Idx p_t p_name)).toNat) d_Idx).Name, (((s_l24Own p_t).Idxs).getD (((s_l24Idx p_t p_name)).toNat) d_Idx).Col, p_stage⟩ : DIdx)) (vs := [.int .i64 (p_stage)]) Try.ty3 rfl q108 eA109 rfl (hp96.nt 5 15 rfl rfl rfl) rfl rfl rfl (by first | omega | assumption | (simp only [IntKind.wrap_i64] at *; omega)) (Nat.le_of_ble_eq_true rfl) rfl rfl ?_)
  intro w111 hB112 hO113
  have hO113z := hO113.size
  refine SeqR.done (tn (CW.sub (Sub.cons (d := 6) (hp96.old 6 _ rfl rfl) (Sub.cons (d := 7) (hp96.old 7 _ rfl rfl) (Sub.nil _))) (CW.seq (CW.region (sd rfl (yl_loadN (cs := [.string (bs ((s_l24Own p_t).Name)), .slice A27 (((s_l24Own p_t).Cols).length) c27, .slice A28 (((s_l24Own p_t).Idxs).length) c28]) Try.ty59 rfl rfl ((Box.only (Box.ex hB43 hE99) hO113 (by omega)).cells (n := 3) rfl) rfl (SeqR.u rfl rfl (yl_store (vs := [.string (bs ((s_l24Own p_t).Name)), .slice A27 (((s_l24Own p_t).Cols).length) c27, .slice A28 (((s_l24Own p_t).Idxs).length) c28]) Try.ty59 rfl rfl rfl rfl rfl rfl (Box.only (Box.ex (Box.only (Box.ex (Box.ex hB19 hE31) hE41) hO44 (by omega)) hE99) hO113 (by omega)) (Nat.le_of_ble_eq_true rfl) ?_))))))))
  intro w121 hB122 hO123
  have hB122 : Box w121 b15 59 [.string (bs ((s_l24Own p_t).Name)), .slice A27 (((s_l24Own p_t).Cols).length) c27, .slice A28 (((s_l24Own p_t).Idxs).length) c28] := hB122
  have hO123z := hO123.size
  refine SeqR.done (tn (CW.ret (rr rfl (.cons ⟨_, rfl, run_loadN Try.ty59 (cs := [.string (bs ((s_l24Own p_t).Name)), .slice A27 (((s_l24Own p_t).Cols).length) c27, .slice A28 (((s_l24Own p_t).Idxs).length) c28]) rfl (hB122.cells (n := 3) rfl)⟩ .nil) ?_)))
  have hM124 : (s_l24Set p_t p_name p_stage) = ((⟨(s_l24Own p_t).Name, (s_l24Own p_t).Cols, (((s_l24Own p_t).Idxs).set (((s_l24Idx p_t p_name)).toNat) (⟨(((s_l24Own p_t).Idxs).getD (((s_l24Idx p_t p_name)).toNat) d_Idx).Name, (((s_l24Own p_t).Idxs).getD (((s_l24Idx p_t p_name)).toNat) d_Idx).Col, p_stage⟩ : DIdx))⟩ : DTable)) := by simp only [s_l24Set, cond_true, cond_false, loopE_done, loopE_ret]
  have q130 := OwnL.only good_Idx hB112 hO123 (by omega)
  have hfx131 := (q130).1
  have hol132 : ((s_l24Own p_t).Idxs).length ≤ 1073741824 := ho29.2.2.1
  rw [hM124]
  exact ⟨A27, c27, lo27, hi27, A28, c28, lo28, hi28, (by first | rfl | (simp only [List.length_replicate, List.length_set]; done) | (simp only [List.length_replicate, List.length_set]; rfl) | rw [hfx131]), (OwnL.only good_Str (OwnL.only good_Str (OwnL.ex good_Str (OwnL.only good_Str (OwnL.ex good_Str h27 hE41) hO44 (by omega)) hE99) hO113 (by omega)) hO123 (by omega)), (OwnL.fix q130), ⟨ho29.1, ho29.2.1, (okL.mk (xs := (((s_l24Own p_t).Idxs).set (((s_l24Idx p_t p_name)).toNat) (⟨(((s_l24Own p_t).Idxs).getD (((s_l24Idx p_t p_name)).toNat) d_Idx).Name, (((s_l24Own p_t).Idxs).getD (((s_l24Idx p_t p_name)).toNat) d_Idx).Col, p_stage⟩ : DIdx))) (by first | omega | (simp only [List.length_append, List.length_cons, List.length_nil, List.length_take, List.length_drop, List.length_replicate, List.length_set, toS_length]; omega)) (okE.set (ho29.2.2).2 (okL.getD ho29.2.2 ok_d_Idx _)))⟩, (by omega), (by omega), (by omega), (Below.only (Below.only (Ex.trans (Below.only (Ex.trans (Ex.trans (Ex.trans (Ex.trans (Ex.refl w) hE14) hE20) hE31) hE41) hO44 (by omega)) hE99) hO113 (by omega)) hO123 (by omega))⟩
set_option maxRecDepth 100000 in
set_option maxHeartbeats 2000000 in
theorem c_s_l24Way {A1 : Option Addr} {c1 : Nat} {A2 : Option Addr} {c2 : Nat} {w : World} (p_t : DTable) (p_name : Str) (p_stage : Int) (h1 : RdS w (Iv 0 w.heap.size) (RF e_Str) 1 A1 p_t.Cols.length c1 p_t.Cols) (h2 : RdS w (Iv 0 w.heap.size) (RF e_Idx) 3 A2 p_t.Idxs.length c2 p_t.Idxs) (o3 : ok_Table p_t) (o4 : okS p_name) (pre0 : (0 ≤ s_l24Idx p_t p_name ∧ s_l24Idx p_t p_name < (p_t.Idxs.length : Int))) (pre1 : (0 ≤ (p_t.Idxs.getD (s_l24Idx p_t p_name).toNat d_Idx).Stage ∧ (p_t.Idxs.getD (s_l24Idx p_t p_name).toNat d_Idx).Stage ≤ 3)) (pre2 : (0 ≤ p_stage ∧ p_stage ≤ 3)) : Cal Try.prog 102 #[.agg #[.string (bs (p_t.Name)), .slice A1 p_t.Cols.length c1, .slice A2 p_t.Idxs.length c2], .string (bs (p_name)), .int .i64 (p_stage)] w fun v w' => ∃ A_1 c_1 lo_1 hi_1, v = .slice A_1 ((s_l24Way p_t p_name p_stage).length) c_1 ∧ OwnL w' lo_1 hi_1 59 3 R_Table A_1 ((s_l24Way p_t p_name p_stage).length) c_1 (s_l24Way p_t p_name p_stage) ∧ (okL ok_Table) (s_l24Way p_t p_name p_stage) ∧ (w.heap.size ≤ lo_1 ∧ lo_1 ≤ hi_1 ∧ hi_1 ≤ w'.heap.size) ∧ Ex w w' := by
 have hol5 : p_t.Name.length ≤ 1073741824 := o3.1
 have hol6 := o3.2.1.1
 have hol7 := o3.2.2.1
 have hol8 : p_name.length ≤ 1073741824 := o4
 refine Cal.of (vs := [.agg #[.string (bs (p_t.Name)), .slice A1 p_t.Cols.length c1, .slice A2 p_t.Idxs.length c2], .string (bs (p_name)), .int .i64 (p_stage)]) Try.func102 rfl Try.ntmps102 rfl (CW.seq (CW.region (sd rfl (yl_box (cs := [.string (bs (p_t.Name)), .slice A1 p_t.Cols.length c1, .slice A2 p_t.Idxs.length c2]) rfl rfl rfl ?_))))
 intro b9 w10 hs11 hz12 hB13 hE14
 refine sd rfl (yl_assign rfl rfl (SeqR.done (tn (CW.seq (CW.region (sd rfl (yl_loadN (cs := [.string (bs (p_t.Name)), .slice A1 p_t.Cols.length c1, .slice A2 p_t.Idxs.length c2]) Try.ty59 rfl rfl (hB13.cells (n := 3) rfl) rfl ?_)))))))
 have q15 := RdS.ex good_Str h1 hE14
 have q16 := RdS.ex good_Idx h2 hE14
 refine sd rfl (yl_call Try.en162 rfl (opvs_cons rfl opvs_nil) (Cal.mono (c_s_l24Own p_t (RdS.up q15 good_Str) (RdS.up q16 good_Idx) o3) ?_))
 rintro v21 w17 ⟨A18, c18, lo18, hi18, A19, c19, lo19, hi19, rfl, h18, h19, ho20, hrn23, hrn24, hrn25, hE22⟩
 have hE22z := Ex.size hE22
 have hrf26 := rf_l24Own p_t
 refine sd rfl (yl_buildSlice (cs := [.string (bs ((s_l24Own p_t).Name)), .slice A18 (((s_l24Own p_t).Cols).length) c18, .slice A19 (((s_l24Own p_t).Idxs).length) c19]) Try.un88 Try.ty59 (by decide) rfl (opvs_cons rfl opvs_nil) (by kernel_rfl) ?_)
 intro b27 w28 hs29 hz30 hB31 hE32
 have hO33 : OwnL w28 w10.heap.size (b27 + 1) 59 3 R_Table (some ⟨b27, 0, none⟩) 1 1 ([(s_l24Own p_t)] : List DTable) := OwnL.of_box (S := Iv w10.heap.size b27) hB31 (by omega) (Nat.lt_succ_self _) (EncL.cons (c := [.string (bs ((s_l24Own p_t).Name)), .slice A18 (((s_l24Own p_t).Cols).length) c18, .slice A19 (((s_l24Own p_t).Idxs).length) c19]) rfl ⟨A18, c18, A19, c19, rfl, (RdS.ex good_Str (RdS.wide good_Str (OwnL.rd good_Str h18) (fun b hh hl => ⟨by first | exact Nat.zero_le _ | (have := hh.1; omega), by omega⟩)) hE32), (RdS.ex good_Idx (RdS.wide good_Idx (OwnL.rd good_Idx h19) (fun b hh hl => ⟨by first | exact Nat.zero_le _ | (have := hh.1; omega), by omega⟩)) hE32)⟩ EncL.nil) (Nat.le_of_ble_eq_true rfl) (fun h => Nat.lt_irrefl _ h.2) (fun _ h => ⟨h.1, Nat.lt_succ_of_lt h.2⟩)
 refine sd rfl (yl_assign rfl rfl (SeqR.done (tn (CW.seq ?_))))
 have q37 := Box.ex (Box.ex hB13 hE22) hE32
 have q39 := RdS.ex good_Str (RdS.ex good_Str q15 hE22) hE32
 have q41 := RdS.ex good_Idx (RdS.ex good_Idx q16 hE22) hE32
 have hrf43 := rf_s_l24Idx p_t p_name
 refine CW.drawsI 5 (vgetI [DetI (.pointer (some ⟨b9, 0 + 2, none⟩)), DetI (.slice A2 p_t.Idxs.length c2), DetI (.agg #[.string (bs (p_t.Name)), .slice A1 p_t.Cols.length c1, .slice A2 p_t.Idxs.length c2]), DetI (.string (bs (p_name))), DetI (.int .i64 ((s_l24Idx p_t p_name)))]) Try.follows rfl rfl rfl rfl rfl rfl (vgetI_stable ⟨StableI.det _, StableI.det _, StableI.det _, StableI.det _, StableI.det _, trivial⟩) ⟨?_, ?_, ?_, ?_, ?_, trivial⟩ ?_
 ·exact fun _ _ h => os rfl ((yl_fieldAddr Try.fd59_2 rfl (h.old 3 _ rfl rfl) kI))
 ·exact fun _ _ h => os rfl ((yl_load1 Try.ty57 rfl (h.dt 0 12 rfl rfl rfl) (((Box.ex q37 h.ex).cell 2).trans rfl) kI))
 ·exact fun _ _ h => os rfl ((yl_loadN (cs := [.string (bs (p_t.Name)), .slice A1 p_t.Cols.length c1, .slice A2 p_t.Idxs.length c2]) Try.ty59 rfl (h.old 3 _ rfl rfl) ((Box.ex q37 h.ex).cells (n := 3) rfl) rfl kI))
 ·exact fun _ _ h => os rfl ((yl_move rfl (h.old 1 _ rfl rfl) kI))
 ·intro L66 w67 hi68
  have hE69 := hi68.ex
  refine OpR.op' rfl (yl_call Try.en159 rfl (opvs_cons (hi68.dt 2 14 rfl rfl rfl) (opvs_cons (hi68.dt 3 15 rfl rfl rfl) opvs_nil)) (Cal.mono (c_s_l24Idx p_t p_name (RdS.up (RdS.ex good_Str q39 hE69) good_Str) (RdS.up (RdS.ex good_Idx q41 hE69) good_Idx) o3 o4) ?_))
  rintro v75 w74 ⟨rfl, hE76⟩
  exact ⟨rfl, hE76⟩
 ·intro fl80 fh81 L77 w78 hp79
  have hE82 := hp79.ex
  have hE82z := Ex.size hE82
  have q89 := RdS.ex good_Idx q41 hE82
  obtain ⟨eb90, eo90, ec90, eA90, eS90, ebl90, el90, eR90, eC90⟩ := RdS.atD q89 d_Idx (i := ((s_l24Idx p_t p_name)).toNat) (by first | omega | assumption | (simp only [IntKind.wrap_i64] at *; omega))
  obtain rfl := eR90
  have eC90 : Cells w78 eb90 (eo90 + (((s_l24Idx p_t p_name)).toNat) * 3) [.string (bs ((p_t.Idxs.getD (((s_l24Idx p_t p_name)).toNat) d_Idx).Name)), .int .i64 ((p_t.Idxs.getD (((s_l24Idx p_t p_name)).toNat) d_Idx).Col), .int .i64 ((p_t.Idxs.getD (((s_l24Idx p_t p_name)).toNat) d_Idx).Stage)] := eC90
  refine sd rfl (yl_indexAddr Try.un57 Try.ty177 rfl (hp79.nt 1 13 rfl rfl rfl) (hp79.nt 4 16 rfl rfl rfl) eA90 (by first | omega | assumption | (simp only [IntKind.wrap_i64] at *; omega)) (by first | omega | assumption | (simp only [IntKind.wrap_i64] at *; omega)) (sd rfl (yl_fieldAddr Try.fd177_2 rfl rfl (sd rfl (yl_load1 Try.ty3 rfl rfl (eC90 2 _ rfl) (sd rfl (yl_assign rfl rfl (SeqR.done (tn (CW.sub (Sub.cons (d := 1) (hp79.old 1 _ rfl rfl) (Sub.cons (d := 2) (hp79.old 2 _ rfl rfl) (Sub.cons (d := 3) (hp79.old 3 _ rfl rfl) (Sub.cons (d := 7) (hp79.old 7 _ rfl rfl) (Sub.cons (d := 8) rfl (Sub.nil _)))))) (CW.seq (CW.block ?_))))))))))))
  refine CW.loop (fun m155 L156 w157 => ∃ (x150 : List DTable) (x154 : Int) (A151 : Option Addr) (c152 : Nat) (u153 : Nat), ((p_stage - x154).toNat + (x154 - p_stage).toNat) < m155 ∧ w78.heap.size ≤ w157.heap.size ∧ lkp L156 1 = some (.string (bs (p_name))) ∧ lkp L156 2 = some (.int .i64 (p_stage)) ∧ lkp L156 3 = some (.pointer (some ⟨b9, 0, none⟩)) ∧ lkp L156 7 = some (.slice A151 x150.length c152) ∧ lkp L156 8 = some (.int .i64 (x154)) ∧ Box w157 b9 59 [.string (bs (p_t.Name)), .slice A1 p_t.Cols.length c1, .slice A2 p_t.Idxs.length c2] ∧ RdS w157 (Iv 0 w.heap.size) (RF e_Str) 1 A1 p_t.Cols.length c1 p_t.Cols ∧ RdS w157 (Iv 0 w.heap.size) (RF e_Idx) 3 A2 p_t.Idxs.length c2 p_t.Idxs ∧ OwnL w157 w10.heap.size u153 59 3 R_Table A151 x150.length c152 x150 ∧ Ex w w157 ∧ (w10.heap.size ≤ u153 ∧ u153 ≤ w157.heap.size) ∧ x150.length + 1 * ((p_stage - x154).toNat + (x154 - p_stage).toNat) ≤ 1 + 1 * ((p_stage - (p_t.Idxs.getD (((s_l24Idx p_t p_name)).toNat) d_Idx).Stage).toNat + ((p_t.Idxs.getD (((s_l24Idx p_t p_name)).toNat) d_Idx).Stage - p_stage).toNat) ∧ (∀ y ∈ x150, ok_Table y) ∧ 0 ≤ x154 ∧ x154 ≤ 3 ∧ loopW (B_s_l24Way_0 p_t p_name p_stage) m155 (x150, x154) = loopW (B_s_l24Way_0 p_t p_name p_stage) (((p_stage - (p_t.Idxs.getD (((s_l24Idx p_t p_name)).toNat) d_Idx).Stage).toNat + ((p_t.Idxs.getD (((s_l24Idx p_t p_name)).toNat) d_Idx).Stage - p_stage).toNat) + 1) (([(s_l24Own p_t)] : List DTable), (p_t.Idxs.getD (((s_l24Idx p_t p_name)).toNat) d_Idx).Stage)) (((p_stage - (p_t.Idxs.getD (((s_l24Idx p_t p_name)).toNat) d_Idx).Stage).toNat + ((p_t.Idxs.getD (((s_l24Idx p_t p_name)).toNat) d_Idx).Stage - p_stage).toNat) + 1) ?_ ?_
  ·exact ⟨([(s_l24Own p_t)] : List DTable), (p_t.Idxs.getD (((s_l24Idx p_t p_name)).toNat) d_Idx).Stage, (some ⟨b27, 0, none⟩), 1, (b27 + 1), Nat.lt_succ_self _, Nat.le_refl _, rfl, rfl, rfl, rfl, rfl, (Box.ex q37 hE82), (RdS.ex good_Str q39 hE82), q89, (OwnL.ex good_Table hO33 hE82), (Ex.trans (Ex.trans (Ex.trans (Ex.trans (Ex.refl w) hE14) hE22) hE32) hE82), (by omega), (by first | (simp; done) | (first | omega | (simp only [List.length_append, List.length_cons, List.length_nil, List.length_set, toS_length]; omega))), ((okL.mk (Nat.le_of_ble_eq_true rfl) (okE.cons ho20 okE.nil))).2, (by first | omega | assumption | (simp only [IntKind.wrap_i64] at *; omega)), (by first | omega | assumption | (simp only [IntKind.wrap_i64] at *; omega)), rfl⟩
  ·rintro m165 L166 w167 ⟨x150, x154, A151, c152, u153, hk168, hsz170, hl171, hl172, hl173, hl174, hl175, hf176, hf177, hf178, hf179, hf180, hu181, hln182, hok183, hv184, hv185, hI169⟩
   refine CW.sub (Sub.cons hl171 (Sub.cons hl172 (Sub.cons hl173 (Sub.cons hl174 (Sub.cons hl175 (Sub.nil _)))))) ?_
   have hf176z := Box.lt hf176
   have hf180z := Ex.size hf180
   refine CW.seq (CW.seq (CW.region (sd rfl (yl_move rfl rfl (sd rfl (yl_move rfl rfl (sd rfl (yl_neq rfl rfl rfl (SeqR.done (tn (bcase (decide (x154 = p_stage)) (fun hb186 => ?_) (fun hb186 => ?_))))))))))))
   ·have hb186p := dec_t hb186
    refine CW.cond_f rfl (not_t hb186) (CW.exit (tx (tx ?_)))
    have hB188 : B_s_l24Way_0 p_t p_name p_stage (x150, x154) = .brk (x150, x154) := by simp only [B_s_l24Way_0, hb186, cond_true, cond_false, loopE_done, loopE_ret]
    have hL187 : loopW (B_s_l24Way_0 p_t p_name p_stage) (((p_stage - (p_t.Idxs.getD (((s_l24Idx p_t p_name)).toNat) d_Idx).Stage).toNat + ((p_t.Idxs.getD (((s_l24Idx p_t p_name)).toNat) d_Idx).Stage - p_stage).toNat) + 1) (([(s_l24Own p_t)] : List DTable), (p_t.Idxs.getD (((s_l24Idx p_t p_name)).toNat) d_Idx).Stage) = .done (x150, x154) := hI169.symm.trans (loopW.brk hk168 hB188)
    refine bx (tn (CW.seq (CW.region (sd rfl (yl_move rfl rfl (sd rfl (yl_assign rfl rfl (SeqR.done (tn (CW.ret ?_))))))))))
    refine rr rfl (.cons rfl .nil) ?_
    have hM189 : (s_l24Way p_t p_name p_stage) = (x150) := by simp only [s_l24Way, hb186, hL187, cond_true, cond_false, loopE_done, loopE_ret]
    rw [hM189]
    exact ⟨A151, c152, w10.heap.size, u153, rfl, hf179, (okL.mk (xs := x150) (by first | omega | (simp only [List.length_append, List.length_cons, List.length_nil, List.length_take, List.length_drop, List.length_replicate, List.length_set, toS_length]; omega)) hok183), (by omega), hf180⟩
   ·have hb186p := dec_f hb186
    refine CW.cond_t rfl (not_f hb186) (CW.skip (tn (CW.block (CW.seq (CW.seq (CW.region (sd rfl (yl_move rfl rfl (sd rfl (yl_move rfl rfl ?_))))))))))
    refine sd rfl (yl_lss rfl rfl rfl (SeqR.done (tn (bcase (decide (x154 < p_stage)) (fun hb190 => ?_) (fun hb190 => ?_)))))
    ·have hb190p := dec_t hb190
     refine CW.cond_t rfl hb190 (CW.region (sd rfl (yl_move rfl rfl (sd rfl (yl_add rfl rfl rfl (sd rfl (yl_assign rfl rfl (SeqR.done (tn (CW.region (sd rfl (yl_move rfl rfl ?_))))))))))))
     refine sd rfl (yl_loadN (cs := [.string (bs (p_t.Name)), .slice A1 p_t.Cols.length c1, .slice A2 p_t.Idxs.length c2]) Try.ty59 rfl rfl (hf176.cells (n := 3) rfl) rfl (sd rfl (yl_move rfl rfl (sd rfl (yl_move rfl rfl (sd rfl (yl_call Try.en163 rfl (opvs_cons rfl (opvs_cons rfl (opvs_cons rfl opvs_nil))) (Cal.mono (c_s_l24Set p_t p_name (IntKind.wrap .i64 (x154 + 1)) (RdS.up hf177 good_Str) (RdS.up hf178 good_Idx) o3 o4 (by first | omega | assumption | (simp only [IntKind.wrap_i64] at *; omega))) ?_))))))))
     rintro v195 w191 ⟨A192, c192, lo192, hi192, A193, c193, lo193, hi193, rfl, h192, h193, ho194, hrn197, hrn198, hrn199, hE196⟩
     have hE196z := Ex.size hE196
     refine sd rfl (yl_buildSlice (cs := [.string (bs ((s_l24Set p_t p_name (IntKind.wrap .i64 (x154 + 1))).Name)), .slice A192 (((s_l24Set p_t p_name (IntKind.wrap .i64 (x154 + 1))).Cols).length) c192, .slice A193 (((s_l24Set p_t p_name (IntKind.wrap .i64 (x154 + 1))).Idxs).length) c193]) Try.un88 Try.ty59 (by decide) rfl (opvs_cons rfl opvs_nil) (by kernel_rfl) ?_)
     intro b200 w201 hs202 hz203 hB204 hE205
     have hO206 : OwnL w201 w167.heap.size (b200 + 1) 59 3 R_Table (some ⟨b200, 0, none⟩) 1 1 ([(s_l24Set p_t p_name (IntKind.wrap .i64 (x154 + 1)))] : List DTable) := OwnL.of_box (S := Iv w167.heap.size b200) hB204 (by omega) (Nat.lt_succ_self _) (EncL.cons (c := [.string (bs ((s_l24Set p_t p_name (IntKind.wrap .i64 (x154 + 1))).Name)), .slice A192 (((s_l24Set p_t p_name (IntKind.wrap .i64 (x154 + 1))).Cols).length) c192, .slice A193 (((s_l24Set p_t p_name (IntKind.wrap .i64 (x154 + 1))).Idxs).length) c193]) rfl ⟨A192, c192, A193, c193, rfl, (RdS.ex good_Str (RdS.wide good_Str (OwnL.rd good_Str h192) (fun b hh hl => ⟨by first | exact Nat.zero_le _ | (have := hh.1; omega), by omega⟩)) hE205), (RdS.ex good_Idx (RdS.wide good_Idx (OwnL.rd good_Idx h193) (fun b hh hl => ⟨by first | exact Nat.zero_le _ | (have := hh.1; omega), by omega⟩)) hE205)⟩ EncL.nil) (Nat.le_of_ble_eq_true rfl) (fun h => Nat.lt_irrefl _ h.2) (fun _ h => ⟨h.1, Nat.lt_succ_of_lt h.2⟩)
     refine sd rfl (yl_appendL (S := (Iv u153 w201.heap.size)) (lo := w10.heap.size) (hi := u153) (xs := x150) (ys := ([(s_l24Set p_t p_name (IntKind.wrap .i64 (x154 + 1)))] : List DTable)) good_Table Try.un88 Try.ty59 rfl (Nat.le_of_ble_eq_true rfl) rfl rfl rfl (OwnL.ex good_Table (OwnL.ex good_Table hf179 hE196) hE205) (EncL.cons (c := [.string (bs ((s_l24Set p_t p_name (IntKind.wrap .i64 (x154 + 1))).Name)), .slice A192 (((s_l24Set p_t p_name (IntKind.wrap .i64 (x154 + 1))).Cols).length) c192, .slice A193 (((s_l24Set p_t p_name (IntKind.wrap .i64 (x154 + 1))).Idxs).length) c193]) rfl ⟨A192, c192, A193, c193, rfl, (RdS.wide good_Str (OwnL.rd good_Str (OwnL.ex good_Str h192 hE205)) (fun b hh hl => ⟨by have := hh.1; omega, hl⟩)), (RdS.wide good_Idx (OwnL.rd good_Idx (OwnL.ex good_Idx h193 hE205)) (fun b hh hl => ⟨by have := hh.1; omega, hl⟩))⟩ EncL.nil) (Or.inr ⟨_, _, rfl, rfl, hB204.cells (o := 0) (n := 3) rfl⟩) rfl (by first | omega | (simp only [List.length_append, List.length_cons, List.length_nil, List.length_take, List.length_drop, List.length_replicate, List.length_set, toS_length]; omega)) (by first | omega | (simp only [List.length_append, List.length_cons, List.length_nil, List.length_take, List.length_drop, List.length_replicate, List.length_set, toS_length]; omega)) (by omega) (by omega) (fun _ h _ => h.1) (by omega) ?_)
     intro A215 c216 w217 row218 hO219 hG220 hrg221
     have hG220z := hG220.size
     refine sd rfl (yl_assign rfl rfl (SeqR.done (bn (tn ?_))))
     have hB222 : B_s_l24Way_0 p_t p_name p_stage (x150, x154) = .cont ((x150 ++ ([(s_l24Set p_t p_name (IntKind.wrap .i64 (x154 + 1)))] : List DTable)), IntKind.wrap .i64 (x154 + 1)) := by simp only [B_s_l24Way_0, hb186, hb190, cond_true, cond_false, loopE_done, loopE_ret]
     have hmu235 : ((p_stage - IntKind.wrap .i64 (x154 + 1)).toNat + (IntKind.wrap .i64 (x154 + 1) - p_stage).toNat) < ((p_stage - x154).toNat + (x154 - p_stage).toNat) := by first | omega | assumption | (simp only [IntKind.wrap_i64] at *; omega)
     exact ⟨m165 - 1, by omega, (x150 ++ ([(s_l24Set p_t p_name (IntKind.wrap .i64 (x154 + 1)))] : List DTable)), IntKind.wrap .i64 (x154 + 1), A215, c216, w217.heap.size, (by omega), (by omega), rfl, rfl, rfl, rfl, rfl, (Box.grown (Box.ex (Box.ex hf176 hE196) hE205) hG220 (fun k hk => by have := hrg221 k hk; omega)), (RdS.grown good_Str (RdS.ex good_Str (RdS.ex good_Str hf177 hE196) hE205) hG220 (fun k hk => by have := hrg221 k hk; simp only [Iv]; omega)), (RdS.grown good_Idx (RdS.ex good_Idx (RdS.ex good_Idx hf178 hE196) hE205) hG220 (fun k hk => by have := hrg221 k hk; simp only [Iv]; omega)), hO219, (Below.grown (Ex.trans (Ex.trans hf180 hE196) hE205) hG220 (by omega) (fun k hk => by have := hrg221 k hk; omega)), (by omega), (by first | omega | (simp only [List.length_append, List.length_cons, List.length_nil, List.length_set, toS_length]; omega)), (okE.append hok183 ((okL.mk (Nat.le_of_ble_eq_true rfl) (okE.cons ho194 okE.nil))).2), (by first | omega | assumption | (simp only [IntKind.wrap_i64] at *; omega)), (by first | omega | assumption | (simp only [IntKind.wrap_i64] at *; omega)), (loopW.cont hk168 hB222).symm.trans hI169⟩
    ·have hb190p := dec_f hb190
     refine CW.cond_f rfl hb190 (CW.region (sd rfl (yl_move rfl rfl (sd rfl (yl_sub rfl rfl rfl (sd rfl (yl_assign rfl rfl (SeqR.done (tn (CW.region (sd rfl (yl_move rfl rfl ?_))))))))))))
     refine sd rfl (yl_loadN (cs := [.string (bs (p_t.Name)), .slice A1 p_t.Cols.length c1, .slice A2 p_t.Idxs.length c2]) Try.ty59 rfl rfl (hf176.cells (n := 3) rfl) rfl (sd rfl (yl_move rfl rfl (sd rfl (yl_move rfl rfl (sd rfl (yl_call Try.en163 rfl (opvs_cons rfl (opvs_cons rfl (opvs_cons rfl opvs_nil))) (Cal.mono (c_s_l24Set p_t p_name (IntKind.wrap .i64 (x154 - 1)) (RdS.up hf177 good_Str) (RdS.up hf178 good_Idx) o3 o4 (by first | omega | assumption | (simp only [IntKind.wrap_i64] at *; omega))) ?_))))))))
     rintro v240 w236 ⟨A237, c237, lo237, hi237, A238, c238, lo238, hi238, rfl, h237, h238, ho239, hrn242, hrn243, hrn244, hE241⟩
     have hE241z := Ex.size hE241
     refine sd rfl (yl_buildSlice (cs := [.string (bs ((s_l24Set p_t p_name (IntKind.wrap .i64 (x154 - 1))).Name)), .slice A237 (((s_l24Set p_t p_name (IntKind.wrap .i64 (x154 - 1))).Cols).length) c237, .slice A238 (((s_l24Set p_t p_name (IntKind.wrap .i64 (x154 - 1))).Idxs).length) c238]) Try.un88 Try.ty59 (by decide) rfl (opvs_cons rfl opvs_nil) (by kernel_rfl) ?_)
     intro b245 w246 hs247 hz248 hB249 hE250
     have hO251 : OwnL w246 w167.heap.size (b245 + 1) 59 3 R_Table (some ⟨b245, 0, none⟩) 1 1 ([(s_l24Set p_t p_name (IntKind.wrap .i64 (x154 - 1)))] : List DTable) := OwnL.of_box (S := Iv w167.heap.size b245) hB249 (by omega) (Nat.lt_succ_self _) (EncL.cons (c := [.string (bs ((s_l24Set p_t p_name (IntKind.wrap .i64 (x154 - 1))).Name)), .slice A237 (((s_l24Set p_t p_name (IntKind.wrap .i64 (x154 - 1))).Cols).length) c237, .slice A238 (((s_l24Set p_t p_name (IntKind.wrap .i64 (x154 - 1))).Idxs).length) c238]) rfl ⟨A237, c237, A238, c238, rfl, (RdS.ex good_Str (RdS.wide good_Str (OwnL.rd good_Str h237) (fun b hh hl => ⟨by first | exact Nat.zero_le _ | (have := hh.1; omega), by omega⟩)) hE250), (RdS.ex good_Idx (RdS.wide good_Idx (OwnL.rd good_Idx h238) (fun b hh hl => ⟨by first | exact Nat.zero_le _ | (have := hh.1; omega), by omega⟩)) hE250)⟩ EncL.nil) (Nat.le_of_ble_eq_true rfl) (fun h => Nat.lt_irrefl _ h.2) (fun _ h => ⟨h.1, Nat.lt_succ_of_lt h.2⟩)
     refine sd rfl (yl_appendL (S := (Iv u153 w246.heap.size)) (lo := w10.heap.size) (hi := u153) (xs := x150) (ys := ([(s_l24Set p_t p_name (IntKind.wrap .i64 (x154 - 1)))] : List DTable)) good_Table Try.un88 Try.ty59 rfl (Nat.le_of_ble_eq_true rfl) rfl rfl rfl (OwnL.ex good_Table (OwnL.ex good_Table hf179 hE241) hE250) (EncL.cons (c := [.string (bs ((s_l24Set p_t p_name (IntKind.wrap .i64 (x154 - 1))).Name)), .slice A237 (((s_l24Set p_t p_name (IntKind.wrap .i64 (x154 - 1))).Cols).length) c237, .slice A238 (((s_l24Set p_t p_name (IntKind.wrap .i64 (x154 - 1))).Idxs).length) c238]) rfl ⟨A237, c237, A238, c238, rfl, (RdS.wide good_Str (OwnL.rd good_Str (OwnL.ex good_Str h237 hE250)) (fun b hh hl => ⟨by have := hh.1; omega, hl⟩)), (RdS.wide good_Idx (OwnL.rd good_Idx (OwnL.ex good_Idx h238 hE250)) (fun b hh hl => ⟨by have := hh.1; omega, hl⟩))⟩ EncL.nil) (Or.inr ⟨_, _, rfl, rfl, hB249.cells (o := 0) (n := 3) rfl⟩) rfl (by first | omega | (simp only [List.length_append, List.length_cons, List.length_nil, List.length_take, List.length_drop, List.length_replicate, List.length_set, toS_length]; omega)) (by first | omega | (simp only [List.length_append, List.length_cons, List.length_nil, List.length_take, List.length_drop, List.length_replicate, List.length_set, toS_length]; omega)) (by omega) (by omega) (fun _ h _ => h.1) (by omega) ?_)
     intro A260 c261 w262 row263 hO264 hG265 hrg266
     have hG265z := hG265.size
     refine sd rfl (yl_assign rfl rfl (SeqR.done (bn (tn ?_))))
     have hB267 : B_s_l24Way_0 p_t p_name p_stage (x150, x154) = .cont ((x150 ++ ([(s_l24Set p_t p_name (IntKind.wrap .i64 (x154 - 1)))] : List DTable)), IntKind.wrap .i64 (x154 - 1)) := by simp only [B_s_l24Way_0, hb186, hb190, cond_true, cond_false, loopE_done, loopE_ret]
     have hmu280 : ((p_stage - IntKind.wrap .i64 (x154 - 1)).toNat + (IntKind.wrap .i64 (x154 - 1) - p_stage).toNat) < ((p_stage - x154).toNat + (x154 - p_stage).toNat) := by first | omega | assumption | (simp only [IntKind.wrap_i64] at *; omega)
     exact ⟨m165 - 1, by omega, (x150 ++ ([(s_l24Set p_t p_name (IntKind.wrap .i64 (x154 - 1)))] : List DTable)), IntKind.wrap .i64 (x154 - 1), A260, c261, w262.heap.size, (by omega), (by omega), rfl, rfl, rfl, rfl, rfl, (Box.grown (Box.ex (Box.ex hf176 hE241) hE250) hG265 (fun k hk => by have := hrg266 k hk; omega)), (RdS.grown good_Str (RdS.ex good_Str (RdS.ex good_Str hf177 hE241) hE250) hG265 (fun k hk => by have := hrg266 k hk; simp only [Iv]; omega)), (RdS.grown good_Idx (RdS.ex good_Idx (RdS.ex good_Idx hf178 hE241) hE250) hG265 (fun k hk => by have := hrg266 k hk; simp only [Iv]; omega)), hO264, (Below.grown (Ex.trans (Ex.trans hf180 hE241) hE250) hG265 (by omega) (fun k hk => by have := hrg266 k hk; omega)), (by omega), (by first | omega | (simp only [List.length_append, List.length_cons, List.length_nil, List.length_set, toS_length]; omega)), (okE.append hok183 ((okL.mk (Nat.le_of_ble_eq_true rfl) (okE.cons ho239 okE.nil))).2), (by first | omega | assumption | (simp only [IntKind.wrap_i64] at *; omega)), (by first | omega | assumption | (simp only [IntKind.wrap_i64] at *; omega)), (loopW.cont hk168 hB267).symm.trans hI169⟩
set_option maxRecDepth 100000 in
set_option maxHeartbeats 2000000 in
theorem c_s_l24Letters {w : World} (p_s : Str) (p_most : Int) (o1 : okS p_s) : Cal Try.prog 177 #[.string (bs (p_s)), .int .i64 (p_most)] w fun v w' => v = .bool ((s_l24Letters p_s p_most)) ∧ Ex w w' := by
 have hol2 : p_s.length ≤ 1073741824 := o1
 refine Cal.of (vs := [.string (bs (p_s)), .int .i64 (p_most)]) Try.func177 rfl Try.ntmps177 rfl (CW.seq (CW.region (sd rfl (yl_assign rfl rfl (SeqR.done (tn (CW.seq (CW.seq (CW.region ?_)))))))))
 refine sd rfl (yl_assign rfl rfl (SeqR.done (tn (CW.block (CW.loop (fun m4 L5 w6 => ∃ (k3 : Nat), m4 = p_s.length - k3 ∧ k3 ≤ p_s.length ∧ w.heap.size ≤ w6.heap.size ∧ lkp L5 0 = some (.string (bs (p_s))) ∧ lkp L5 1 = some (.int .i64 (p_most)) ∧ lkp L5 5 = some (.int .i64 ((k3 : Int))) ∧ Ex w w6 ∧ loopM (B_s_l24Letters_0 p_s p_most) (p_s.length - k3) k3 () = loopM (B_s_l24Letters_0 p_s p_most) (p_s.length - 0) 0 ()) (p_s.length - 0) ?_ ?_)))))
 ·exact ⟨0, rfl, (by omega), Nat.le_refl _, rfl, rfl, rfl, (Ex.refl w), rfl⟩
 ·rintro m7 L8 w9 ⟨k3, rfl, hk10, hsz12, hl13, hl14, hl15, hf16, hI11⟩
  refine CW.sub (Sub.cons hl13 (Sub.cons hl14 (Sub.cons hl15 (Sub.nil _)))) ?_
  have hf16z := Ex.size hf16
  have hbg17 : p_s.length ≤ 1073741824 := o1
  rcases Nat.lt_or_ge k3 p_s.length with hlt18 | hlt18
  ·refine CW.seq (CW.seq (CW.region (sd rfl (yl_move rfl rfl (sd rfl (yl_move rfl rfl (sd rfl (yl_slen Try.un9 (a := p_s) rfl rfl (sd rfl (yl_lss rfl rfl rfl (SeqR.done (tn ?_))))))))))))
   refine CW.cond_t rfl (lt_t hlt18) (CW.skip (tn (CW.seq (CW.block (CW.seq (CW.region (sd rfl (yl_move rfl rfl (sd rfl (yl_move rfl rfl ?_))))))))))
   refine sd rfl (yl_sindexN Try.un9 (a := p_s) rfl rfl rfl (by first | omega | assumption | (simp only [IntKind.wrap_i64] at *; omega)) (sd rfl (yl_lss rfl rfl rfl (sd rfl (yl_move rfl rfl (bcase (decide (((p_s.getD k3 0).toNat : Int) < 97)) (fun hb19 => ?_) (fun hb19 => ?_)))))))
   ·have hb19p := dec_t hb19
    refine sz rfl rfl hb19 (sz rfl rfl hb19 (sz rfl rfl hb19 (sz rfl rfl hb19 (sd rfl (yl_pick_t rfl rfl hb19 rfl (SeqR.done (tn (CW.cond_t rfl rfl (CW.seq ?_)))))))))
    refine CW.region (sd rfl (yl_assign rfl rfl (SeqR.done (tn (CW.ret (br (tr (tr ?_))))))))
    have hB21 : B_s_l24Letters_0 p_s p_most k3 () = .ret false := by simp only [B_s_l24Letters_0, hb19, cond_true, cond_false, loopE_done, loopE_ret]
    have hL20 : loopM (B_s_l24Letters_0 p_s p_most) (p_s.length - 0) 0 () = .ret false := hI11.symm.trans (loopM.ret hlt18 hB21)
    refine br (tr (rr rfl (.cons rfl .nil) ?_))
    have hM22 : (s_l24Letters p_s p_most) = (false) := by simp only [s_l24Letters, hb19, hL20, cond_true, cond_false, loopE_done, loopE_ret]
    rw [hM22]
    exact ⟨rfl, hf16⟩
   ·have hb19p := dec_f hb19
    refine sy rfl rfl hb19 (yl_move rfl rfl (sy rfl rfl hb19 (yl_move rfl rfl (sy rfl rfl hb19 (yl_sindexN Try.un9 (a := p_s) rfl rfl rfl (by first | omega | assumption | (simp only [IntKind.wrap_i64] at *; omega)) (sy rfl rfl hb19 (yl_gtr rfl rfl rfl (sd rfl (yl_pick_f rfl rfl hb19 rfl (SeqR.done (tn (bcase (decide (122 < ((p_s.getD k3 0).toNat : Int))) (fun hb23 => ?_) (fun hb23 => ?_)))))))))))))
    ·have hb23p := dec_t hb23
     refine CW.cond_t rfl hb23 (CW.seq (CW.region (sd rfl (yl_assign rfl rfl (SeqR.done (tn (CW.ret (br (tr ?_)))))))))
     refine tr ?_
     have hB25 : B_s_l24Letters_0 p_s p_most k3 () = .ret false := by simp only [B_s_l24Letters_0, hb19, hb23, cond_true, cond_false, loopE_done, loopE_ret]
     have hL24 : loopM (B_s_l24Letters_0 p_s p_most) (p_s.length - 0) 0 () = .ret false := hI11.symm.trans (loopM.ret hlt18 hB25)
     refine br (tr (rr rfl (.cons rfl .nil) ?_))
     have hM26 : (s_l24Letters p_s p_most) = (false) := by simp only [s_l24Letters, hb19, hb23, hL24, cond_true, cond_false, loopE_done, loopE_ret]
     rw [hM26]
     exact ⟨rfl, hf16⟩
    ·have hb23p := dec_f hb23
     refine CW.cond_f rfl hb23 (CW.skip (bn (tn (CW.region (sd rfl (yl_move rfl rfl (sd rfl (yl_inc rfl rfl rfl (by omega) (sd rfl (yl_assign rfl rfl (SeqR.done ?_)))))))))))
     refine tn ?_
     have hB27 : B_s_l24Letters_0 p_s p_most k3 () = .cont () := by simp only [B_s_l24Letters_0, hb19, hb23, cond_true, cond_false, loopE_done, loopE_ret]
     exact ⟨p_s.length - (k3 + 1), by omega, k3 + 1, rfl, hlt18, (by omega), rfl, rfl, rfl, hf16, (loopM.cont hlt18 hB27).symm.trans hI11⟩
  ·refine CW.seq (CW.seq (CW.region (sd rfl (yl_move rfl rfl (sd rfl (yl_move rfl rfl (sd rfl (yl_slen Try.un9 (a := p_s) rfl rfl (sd rfl (yl_lss rfl rfl rfl (SeqR.done (tn ?_))))))))))))
   refine CW.cond_f rfl (lt_f hlt18) (CW.exit (tx (tx ?_)))
   have hL28 : loopM (B_s_l24Letters_0 p_s p_most) (p_s.length - 0) 0 () = .done () := hI11.symm.trans (loopM.stop hlt18)
   refine bx (tn (CW.seq (CW.region (sd rfl (yl_move rfl rfl (sd rfl (yl_slen Try.un9 (a := p_s) rfl rfl (sd rfl (yl_geq rfl rfl rfl (sd rfl (yl_move rfl rfl (bcase (decide (1 ≤ (p_s.length : Int))) (fun hb29 => ?_) (fun hb29 => ?_)))))))))))))
   ·have hb29p := dec_t hb29
    refine sy rfl rfl hb29 (yl_move rfl rfl (sy rfl rfl hb29 (yl_slen Try.un9 (a := p_s) rfl rfl (sy rfl rfl hb29 (yl_move rfl rfl (sy rfl rfl hb29 (yl_leq rfl rfl rfl (sd rfl (yl_pick_t rfl rfl hb29 rfl (sd rfl (yl_assign rfl rfl (SeqR.done (tn (CW.ret ?_))))))))))))))
    refine rr rfl (.cons rfl .nil) ?_
    have hM30 : (s_l24Letters p_s p_most) = (decide ((p_s.length : Int) ≤ p_most)) := by simp only [s_l24Letters, hb29, hL28, cond_true, cond_false, loopE_done, loopE_ret]
    rw [hM30]
    exact ⟨rfl, hf16⟩
   ·have hb29p := dec_f hb29
    refine sz rfl rfl hb29 (sz rfl rfl hb29 (sz rfl rfl hb29 (sz rfl rfl hb29 (sd rfl (yl_pick_f rfl rfl hb29 rfl (sd rfl (yl_assign rfl rfl (SeqR.done (tn (CW.ret ?_))))))))))
    refine rr rfl (.cons rfl .nil) ?_
    have hM31 : (s_l24Letters p_s p_most) = (false) := by simp only [s_l24Letters, hb29, hL28, cond_true, cond_false, loopE_done, loopE_ret]
    rw [hM31]
    exact ⟨rfl, hf16⟩
set_option maxRecDepth 100000 in
set_option maxHeartbeats 2000000 in
theorem c_s_l24At {A1 : Option Addr} {c1 : Nat} {w : World} (p_l : List Str) (p_s : Str) (h1 : RdS w (Iv 0 w.heap.size) (RF e_Str) 1 A1 p_l.length c1 p_l) (o2 : (okL okS) p_l) (o3 : okS p_s) : Cal Try.prog 212 #[.slice A1 p_l.length c1, .string (bs (p_s))] w fun v w' => v = .int .i64 ((s_l24At p_l p_s)) ∧ Ex w w' := by
 have hol4 := o2.1
 have hol5 : p_s.length ≤ 1073741824 := o3
 refine Cal.of (vs := [.slice A1 p_l.length c1, .string (bs (p_s))]) Try.func212 rfl Try.ntmps212 rfl (CW.seq (CW.region (sd rfl (yl_assign rfl rfl (SeqR.done (tn (CW.seq (CW.seq (CW.region ?_)))))))))
 refine sd rfl (yl_move rfl rfl (sd rfl (yl_len Try.un45 rfl rfl (sd rfl (yl_move rfl rfl (SeqR.done (tn (CW.block (CW.loop (fun m7 L8 w9 => ∃ (k6 : Nat), m7 = p_l.length - k6 ∧ k6 ≤ p_l.length ∧ w.heap.size ≤ w9.heap.size ∧ lkp L8 1 = some (.string (bs (p_s))) ∧ lkp L8 7 = some (.slice A1 p_l.length c1) ∧ lkp L8 8 = some (.int .i64 ((p_l.length : Int))) ∧ lkp L8 9 = some (.int .i64 ((k6 : Int))) ∧ RdS w9 (Iv 0 w.heap.size) (RF e_Str) 1 A1 p_l.length c1 p_l ∧ Ex w w9 ∧ loopM (B_s_l24At_0 p_l p_s) (p_l.length - k6) k6 () = loopM (B_s_l24At_0 p_l p_s) (p_l.length - 0) 0 ()) (p_l.length - 0) ?_ ?_)))))))))
 ·exact ⟨0, rfl, (by omega), Nat.le_refl _, rfl, rfl, rfl, rfl, h1, (Ex.refl w), rfl⟩
 ·rintro m10 L11 w12 ⟨k6, rfl, hk13, hsz15, hl16, hl17, hl18, hl19, hf20, hf21, hI14⟩
  refine CW.sub (Sub.cons hl16 (Sub.cons hl17 (Sub.cons hl18 (Sub.cons hl19 (Sub.nil _))))) ?_
  have hf21z := Ex.size hf21
  have hbg22 := RdS.big hf20
  rcases Nat.lt_or_ge k6 p_l.length with hlt23 | hlt23
  ·refine CW.seq (CW.region (sd rfl (yl_lss rfl rfl rfl (SeqR.done (tn (CW.seq (CW.cond_t rfl (lt_t hlt23) (CW.skip (tn ?_)))))))))
   refine CW.seq (CW.block (CW.seq (CW.region (sd rfl (yl_move rfl rfl ?_)))))
   obtain ⟨eb24, eo24, ec24, eA24, eS24, ebl24, el24, eR24, eC24⟩ := RdS.atD hf20 d_Str (i := k6) (by first | omega | assumption)
   obtain rfl := eR24
   have eC24 : Cells w12 eb24 (eo24 + k6 * 1) [.string (bs ((p_l.getD k6 d_Str)))] := eC24
   refine sd rfl (yl_indexAddrN Try.un45 Try.ty9 rfl rfl rfl eA24 (by first | omega | assumption | (simp only [IntKind.wrap_i64] at *; omega)) (sd rfl (yl_load1 Try.ty9 rfl rfl (eC24 0 _ rfl) (sd rfl (yl_assign rfl rfl (sd rfl (yl_assign rfl rfl (SeqR.done (tn (CW.seq (CW.region (sd rfl (yl_move rfl rfl ?_)))))))))))))
   refine sd rfl (yl_move rfl rfl (sd rfl (yl_seql (a := (p_l.getD k6 d_Str)) (b := p_s) rfl rfl rfl (SeqR.done (tn (bcase ((p_l.getD k6 d_Str) == p_s) (fun hb25 => ?_) (fun hb25 => ?_)))))))
   ·refine CW.cond_t rfl hb25 (CW.seq (CW.region (sd rfl (yl_move rfl rfl (sd rfl (yl_assign rfl rfl (SeqR.done (tn (CW.ret (br ?_))))))))))
    refine tr (tr ?_)
    have hB27 : B_s_l24At_0 p_l p_s k6 () = .ret (k6 : Int) := by simp only [B_s_l24At_0, hb25, cond_true, cond_false, loopE_done, loopE_ret]
    have hL26 : loopM (B_s_l24At_0 p_l p_s) (p_l.length - 0) 0 () = .ret (k6 : Int) := hI14.symm.trans (loopM.ret hlt23 hB27)
    refine br (tr (rr rfl (.cons rfl .nil) ?_))
    have hM28 : (s_l24At p_l p_s) = ((k6 : Int)) := by simp only [s_l24At, hb25, hL26, cond_true, cond_false, loopE_done, loopE_ret]
    rw [hM28]
    exact ⟨rfl, hf21⟩
   ·refine CW.cond_f rfl hb25 (CW.skip (bn (tn (CW.region (sd rfl (yl_inc rfl rfl rfl (by omega) (sd rfl (yl_move rfl rfl (SeqR.done (tn ?_))))))))))
    have hB29 : B_s_l24At_0 p_l p_s k6 () = .cont () := by simp only [B_s_l24At_0, hb25, cond_true, cond_false, loopE_done, loopE_ret]
    exact ⟨p_l.length - (k6 + 1), by omega, k6 + 1, rfl, hlt23, (by omega), rfl, rfl, rfl, rfl, hf20, hf21, (loopM.cont hlt23 hB29).symm.trans hI14⟩
  ·refine CW.seq (CW.region (sd rfl (yl_lss rfl rfl rfl (SeqR.done (tn (CW.seq (CW.cond_f rfl (lt_f hlt23) (CW.exit (tx ?_)))))))))
   refine tx ?_
   have hL30 : loopM (B_s_l24At_0 p_l p_s) (p_l.length - 0) 0 () = .done () := hI14.symm.trans (loopM.stop hlt23)
   refine bx (tn (CW.seq (CW.region (sd rfl (yl_assign rfl rfl (SeqR.done (tn (CW.ret (rr rfl (.cons rfl .nil) ?_)))))))))
   have hM31 : (s_l24At p_l p_s) = (-1) := by simp only [s_l24At, hL30, cond_true, cond_false, loopE_done, loopE_ret]
   rw [hM31]
   exact ⟨rfl, hf21⟩
set_option maxRecDepth 100000 in
set_option maxHeartbeats 2000000 in
theorem c_s_l24Cols {A1 : Option Addr} {c1 : Nat} {w : World} (p_l : List Str) (h1 : RdS w (Iv 0 w.heap.size) (RF e_Str) 1 A1 p_l.length c1 p_l) (o2 : (okL okS) p_l) : Cal Try.prog 178 #[.slice A1 p_l.length c1] w fun v w' => v = .bool ((s_l24Cols p_l)) ∧ Ex w w' := by
 have hol3 := o2.1
 refine Cal.of (vs := [.slice A1 p_l.length c1]) Try.func178 rfl Try.ntmps178 rfl (CW.seq (CW.region (sd rfl (yl_assign rfl rfl (SeqR.done (tn (CW.seq (CW.seq (CW.region ?_)))))))))
 refine sd rfl (yl_move rfl rfl (sd rfl (yl_len Try.un45 rfl rfl (sd rfl (yl_move rfl rfl (SeqR.done (tn (CW.block (CW.loop (fun m5 L6 w7 => ∃ (k4 : Nat), m5 = p_l.length - k4 ∧ k4 ≤ p_l.length ∧ w.heap.size ≤ w7.heap.size ∧ lkp L6 0 = some (.slice A1 p_l.length c1) ∧ lkp L6 5 = some (.slice A1 p_l.length c1) ∧ lkp L6 6 = some (.int .i64 ((p_l.length : Int))) ∧ lkp L6 7 = some (.int .i64 ((k4 : Int))) ∧ RdS w7 (Iv 0 w.heap.size) (RF e_Str) 1 A1 p_l.length c1 p_l ∧ Ex w w7 ∧ loopM (B_s_l24Cols_0 p_l) (p_l.length - k4) k4 () = loopM (B_s_l24Cols_0 p_l) (p_l.length - 0) 0 ()) (p_l.length - 0) ?_ ?_)))))))))
 ·exact ⟨0, rfl, (by omega), Nat.le_refl _, rfl, rfl, rfl, rfl, h1, (Ex.refl w), rfl⟩
 ·rintro m8 L9 w10 ⟨k4, rfl, hk11, hsz13, hl14, hl15, hl16, hl17, hf18, hf19, hI12⟩
  refine CW.sub (Sub.cons hl14 (Sub.cons hl15 (Sub.cons hl16 (Sub.cons hl17 (Sub.nil _))))) ?_
  have hf19z := Ex.size hf19
  have hbg20 := RdS.big hf18
  rcases Nat.lt_or_ge k4 p_l.length with hlt21 | hlt21
  ·refine CW.seq (CW.region (sd rfl (yl_lss rfl rfl rfl (SeqR.done (tn (CW.seq (CW.cond_t rfl (lt_t hlt21) (CW.skip (tn ?_)))))))))
   refine CW.seq (CW.block (CW.seq (CW.region (sd rfl (yl_move rfl rfl ?_)))))
   obtain ⟨eb22, eo22, ec22, eA22, eS22, ebl22, el22, eR22, eC22⟩ := RdS.atD hf18 d_Str (i := k4) (by first | omega | assumption)
   obtain rfl := eR22
   have eC22 : Cells w10 eb22 (eo22 + k4 * 1) [.string (bs ((p_l.getD k4 d_Str)))] := eC22
   refine sd rfl (yl_indexAddrN Try.un45 Try.ty9 rfl rfl rfl eA22 (by first | omega | assumption | (simp only [IntKind.wrap_i64] at *; omega)) (sd rfl (yl_load1 Try.ty9 rfl rfl (eC22 0 _ rfl) (sd rfl (yl_assign rfl rfl (sd rfl (yl_assign rfl rfl (SeqR.done (tn (CW.seq (CW.region (sd rfl (yl_move rfl rfl ?_)))))))))))))
   refine sd rfl (yl_call Try.en177 rfl (opvs_cons rfl (opvs_cons rfl opvs_nil)) (Cal.mono (c_s_l24Letters (p_l.getD k4 d_Str) 3 (okL.getD o2 ok_d_Str _)) ?_))
   rintro v24 w23 ⟨rfl, hE25⟩
   have hE25z := Ex.size hE25
   refine sd rfl (yl_not rfl rfl (sd rfl (yl_move rfl rfl (bcase (s_l24Letters (p_l.getD k4 d_Str) 3) (fun hb26 => ?_) (fun hb26 => ?_)))))
   ·refine sy rfl rfl (not_t hb26) (yl_move rfl rfl (sy rfl rfl (not_t hb26) (yl_move rfl rfl ?_)))
    have q27 := RdS.ex good_Str hf18 hE25
    obtain ⟨A28, c29, he32, h31⟩ := RdS.sl (RdS.drop (RdS.take q27 (k := k4) (by omega)) (k := 0) (by omega))
    have hrc33 := (q27).2.1
    refine sy rfl rfl (not_t hb26) (yl_sliceR (kl := .i64) (l := 0) (h := k4) Try.un45 Try.ty9 rfl rfl (.inl ⟨rfl, rfl⟩) (.inr ⟨_, rfl, rfl⟩) (by omega) (by omega) he32 (sy rfl rfl (not_t hb26) (yl_move rfl rfl (sy rfl rfl (not_t hb26) (yl_call Try.en212 rfl (opvs_cons rfl (opvs_cons rfl opvs_nil)) (Cal.mono (c_s_l24At (p_l.take k4) (p_l.getD k4 d_Str) (RdS.up h31 good_Str) (okL.take o2 _) (okL.getD o2 ok_d_Str _)) ?_))))))
    rintro v35 w34 ⟨rfl, hE36⟩
    have hE36z := Ex.size hE36
    refine sy rfl rfl (not_t hb26) (yl_geq rfl rfl rfl (sd rfl (yl_pick_f rfl rfl (not_t hb26) rfl (SeqR.done (tn (bcase (decide (0 ≤ (s_l24At (p_l.take k4) (p_l.getD k4 d_Str)))) (fun hb37 => ?_) (fun hb37 => ?_)))))))
    ·have hb37p := dec_t hb37
     refine CW.cond_t rfl hb37 (CW.seq (CW.region (sd rfl (yl_assign rfl rfl (SeqR.done (tn (CW.ret (br (tr ?_)))))))))
     refine tr ?_
     have hB39 : B_s_l24Cols_0 p_l k4 () = .ret false := by simp only [B_s_l24Cols_0, hb26, hb37, cond_true, cond_false, loopE_done, loopE_ret]
     have hL38 : loopM (B_s_l24Cols_0 p_l) (p_l.length - 0) 0 () = .ret false := hI12.symm.trans (loopM.ret hlt21 hB39)
     refine br (tr (rr rfl (.cons rfl .nil) ?_))
     have hM40 : (s_l24Cols p_l) = (false) := by simp only [s_l24Cols, hb26, hb37, hL38, cond_true, cond_false, loopE_done, loopE_ret]
     rw [hM40]
     exact ⟨rfl, (Ex.trans (Ex.trans hf19 hE25) hE36)⟩
    ·have hb37p := dec_f hb37
     refine CW.cond_f rfl hb37 (CW.skip (bn (tn (CW.region (sd rfl (yl_inc rfl rfl rfl (by omega) (sd rfl (yl_move rfl rfl (SeqR.done (tn ?_))))))))))
     have hB43 : B_s_l24Cols_0 p_l k4 () = .cont () := by simp only [B_s_l24Cols_0, hb26, hb37, cond_true, cond_false, loopE_done, loopE_ret]
     exact ⟨p_l.length - (k4 + 1), by omega, k4 + 1, rfl, hlt21, (by omega), rfl, rfl, rfl, rfl, (RdS.ex good_Str q27 hE36), (Ex.trans (Ex.trans hf19 hE25) hE36), (loopM.cont hlt21 hB43).symm.trans hI12⟩
   ·refine sz rfl rfl (not_f hb26) (sz rfl rfl (not_f hb26) (sz rfl rfl (not_f hb26) (sz rfl rfl (not_f hb26) (sz rfl rfl (not_f hb26) (sz rfl rfl (not_f hb26) (sd rfl (yl_pick_t rfl rfl (not_f hb26) rfl (SeqR.done (tn ?_)))))))))
    refine CW.cond_t rfl rfl (CW.seq (CW.region (sd rfl (yl_assign rfl rfl (SeqR.done (tn (CW.ret (br (tr ?_)))))))))
    refine tr ?_
    have hB48 : B_s_l24Cols_0 p_l k4 () = .ret false := by simp only [B_s_l24Cols_0, hb26, cond_true, cond_false, loopE_done, loopE_ret]
    have hL47 : loopM (B_s_l24Cols_0 p_l) (p_l.length - 0) 0 () = .ret false := hI12.symm.trans (loopM.ret hlt21 hB48)
    refine br (tr (rr rfl (.cons rfl .nil) ?_))
    have hM49 : (s_l24Cols p_l) = (false) := by simp only [s_l24Cols, hb26, hL47, cond_true, cond_false, loopE_done, loopE_ret]
    rw [hM49]
    exact ⟨rfl, (Ex.trans hf19 hE25)⟩
  ·refine CW.seq (CW.region (sd rfl (yl_lss rfl rfl rfl (SeqR.done (tn (CW.seq (CW.cond_f rfl (lt_f hlt21) (CW.exit (tx ?_)))))))))
   refine tx ?_
   have hL51 : loopM (B_s_l24Cols_0 p_l) (p_l.length - 0) 0 () = .done () := hI12.symm.trans (loopM.stop hlt21)
   refine bx (tn (CW.seq (CW.region (sd rfl (yl_move rfl rfl (sd rfl (yl_len Try.un45 rfl rfl (sd rfl (yl_call Try.en50 rfl (opvs_cons rfl (opvs_cons rfl (opvs_cons rfl opvs_nil))) (Cal.mono (c_s_l1In (p_l.length : Int) 2 4) ?_))))))))))
   rintro v53 w52 ⟨rfl, hE54⟩
   have hE54z := Ex.size hE54
   refine sd rfl (yl_assign rfl rfl (SeqR.done (tn (CW.ret (rr rfl (.cons rfl .nil) ?_)))))
   have hM55 : (s_l24Cols p_l) = ((s_l1In (p_l.length : Int) 2 4)) := by simp only [s_l24Cols, hL51, cond_true, cond_false, loopE_done, loopE_ret]
   rw [hM55]
   exact ⟨rfl, (Ex.trans hf19 hE54)⟩
set_option maxRecDepth 100000 in
set_option maxHeartbeats 2000000 in
theorem c_s_GoodTable {A1 : Option Addr} {c1 : Nat} {A2 : Option Addr} {c2 : Nat} {w : World} (p_0 : DTable) (h1 : RdS w (Iv 0 w.heap.size) (RF e_Str) 1 A1 p_0.Cols.length c1 p_0.Cols) (h2 : RdS w (Iv 0 w.heap.size) (RF e_Idx) 3 A2 p_0.Idxs.length c2 p_0.Idxs) (o3 : ok_Table p_0) : Cal Try.prog 131 #[.agg #[.string (bs (p_0.Name)), .slice A1 p_0.Cols.length c1, .slice A2 p_0.Idxs.length c2]] w fun v w' => v = .bool ((s_GoodTable p_0)) ∧ Ex w w' := by
 have hol4 : p_0.Name.length ≤ 1073741824 := o3.1
 have hol5 := o3.2.1.1
 have hol6 := o3.2.2.1
 refine Cal.of (vs := [.agg #[.string (bs (p_0.Name)), .slice A1 p_0.Cols.length c1, .slice A2 p_0.Idxs.length c2]]) Try.func131 rfl Try.ntmps131 rfl (CW.seq (CW.region (sd rfl (yl_box (cs := [.string (bs (p_0.Name)), .slice A1 p_0.Cols.length c1, .slice A2 p_0.Idxs.length c2]) rfl rfl rfl ?_))))
 intro b7 w8 hs9 hz10 hB11 hE12
 refine sd rfl (yl_assign rfl rfl (SeqR.done (tn (CW.seq (CW.seq (CW.region (sd rfl (yl_fieldAddr Try.fd59_0 rfl rfl (sd rfl (yl_load1 Try.ty9 rfl rfl ((hB11.cell 0).trans rfl) (sd rfl (yl_call Try.en177 rfl (opvs_cons rfl (opvs_cons rfl opvs_nil)) (Cal.mono (c_s_l24Letters p_0.Name 1 o3.1) ?_)))))))))))))
 rintro v14 w13 ⟨rfl, hE15⟩
 have hE15z := Ex.size hE15
 refine sd rfl (yl_not rfl rfl (sd rfl (yl_move rfl rfl (bcase (s_l24Letters p_0.Name 1) (fun hb16 => ?_) (fun hb16 => ?_)))))
 ·refine sy rfl rfl (not_t hb16) (yl_fieldAddr Try.fd59_1 rfl rfl ?_)
  have q17 := Box.ex hB11 hE15
  refine sy rfl rfl (not_t hb16) (yl_load1 Try.ty45 rfl rfl ((q17.cell 1).trans rfl) ?_)
  have q19 := RdS.ex good_Str (RdS.ex good_Str h1 hE12) hE15
  refine sy rfl rfl (not_t hb16) (yl_call Try.en178 rfl (opvs_cons rfl opvs_nil) (Cal.mono (c_s_l24Cols p_0.Cols (RdS.up q19 good_Str) o3.2.1) ?_))
  rintro v21 w20 ⟨rfl, hE22⟩
  have hE22z := Ex.size hE22
  refine sy rfl rfl (not_t hb16) (yl_not rfl rfl (sd rfl (yl_pick_f rfl rfl (not_t hb16) rfl (sd rfl (yl_move rfl rfl (bcase (s_l24Cols p_0.Cols) (fun hb23 => ?_) (fun hb23 => ?_)))))))
  ·refine sy rfl rfl (not_t hb23) (yl_fieldAddr Try.fd59_2 rfl rfl ?_)
   have q24 := Box.ex q17 hE22
   refine sy rfl rfl (not_t hb23) (yl_load1 Try.ty57 rfl rfl ((q24.cell 2).trans rfl) (sy rfl rfl (not_t hb23) (yl_len Try.un57 rfl rfl (sy rfl rfl (not_t hb23) (yl_gtr rfl rfl rfl (sd rfl (yl_pick_f rfl rfl (not_t hb23) rfl (SeqR.done (tn (bcase (decide (3 < (p_0.Idxs.length : Int))) (fun hb25 => ?_) (fun hb25 => ?_)))))))))))
   ·have hb25p := dec_t hb25
    refine CW.cond_t rfl hb25 (CW.seq (CW.region (sd rfl (yl_assign rfl rfl (SeqR.done (tn (CW.ret (tr (rr rfl (.cons rfl .nil) ?_)))))))))
    have hM26 : (s_GoodTable p_0) = (false) := by simp only [s_GoodTable, hb16, hb23, hb25, cond_true, cond_false, loopE_done, loopE_ret]
    rw [hM26]
    exact ⟨rfl, (Ex.trans (Ex.trans (Ex.trans (Ex.refl w) hE12) hE15) hE22)⟩
   ·have hb25p := dec_f hb25
    refine CW.cond_f rfl hb25 (CW.skip (tn (CW.seq (CW.seq (CW.region (sd rfl (yl_fieldAddr Try.fd59_2 rfl rfl (sd rfl (yl_load1 Try.ty57 rfl rfl ((q24.cell 2).trans rfl) (sd rfl (yl_len Try.un57 rfl rfl ?_)))))))))))
    refine sd rfl (yl_move rfl rfl (SeqR.done (tn (CW.block (CW.loop (fun m68 L69 w70 => ∃ (k30 : Nat), m68 = p_0.Idxs.length - k30 ∧ k30 ≤ p_0.Idxs.length ∧ w20.heap.size ≤ w70.heap.size ∧ lkp L69 1 = some (.pointer (some ⟨b7, 0, none⟩)) ∧ lkp L69 22 = some (.slice A2 p_0.Idxs.length c2) ∧ lkp L69 23 = some (.int .i64 ((p_0.Idxs.length : Int))) ∧ lkp L69 24 = some (.int .i64 ((k30 : Int))) ∧ Box w70 b7 59 [.string (bs (p_0.Name)), .slice A1 p_0.Cols.length c1, .slice A2 p_0.Idxs.length c2] ∧ RdS w70 (Iv 0 w.heap.size) (RF e_Str) 1 A1 p_0.Cols.length c1 p_0.Cols ∧ RdS w70 (Iv 0 w.heap.size) (RF e_Idx) 3 A2 p_0.Idxs.length c2 p_0.Idxs ∧ Ex w w70 ∧ loopM (B_s_GoodTable_0 p_0) (p_0.Idxs.length - k30) k30 () = loopM (B_s_GoodTable_0 p_0) (p_0.Idxs.length - 0) 0 ()) (p_0.Idxs.length - 0) ?_ ?_)))))
    ·exact ⟨0, rfl, (by omega), Nat.le_refl _, rfl, rfl, rfl, rfl, q24, (RdS.ex good_Str q19 hE22), (RdS.ex good_Idx (RdS.ex good_Idx (RdS.ex good_Idx h2 hE12) hE15) hE22), (Ex.trans (Ex.trans (Ex.trans (Ex.refl w) hE12) hE15) hE22), rfl⟩
    ·rintro m78 L79 w80 ⟨k30, rfl, hk81, hsz83, hl84, hl85, hl86, hl87, hf88, hf89, hf90, hf91, hI82⟩
     refine CW.sub (Sub.cons hl84 (Sub.cons hl85 (Sub.cons hl86 (Sub.cons hl87 (Sub.nil _))))) ?_
     have hf88z := Box.lt hf88
     have hf91z := Ex.size hf91
     have hbg92 := RdS.big hf90
     rcases Nat.lt_or_ge k30 p_0.Idxs.length with hlt93 | hlt93
     ·refine CW.seq (CW.region (sd rfl (yl_lss rfl rfl rfl (SeqR.done (tn (CW.seq (CW.cond_t rfl (lt_t hlt93) (CW.skip (tn ?_)))))))))
      refine CW.seq (CW.block (CW.seq (CW.region (sd rfl (yl_move rfl rfl ?_)))))
      obtain ⟨eb94, eo94, ec94, eA94, eS94, ebl94, el94, eR94, eC94⟩ := RdS.atD hf90 d_Idx (i := k30) (by first | omega | assumption)
      obtain rfl := eR94
      have eC94 : Cells w80 eb94 (eo94 + k30 * 3) [.string (bs ((p_0.Idxs.getD k30 d_Idx).Name)), .int .i64 ((p_0.Idxs.getD k30 d_Idx).Col), .int .i64 ((p_0.Idxs.getD k30 d_Idx).Stage)] := eC94
      refine sd rfl (yl_indexAddrN Try.un57 Try.ty177 rfl rfl rfl eA94 (by first | omega | assumption | (simp only [IntKind.wrap_i64] at *; omega)) (sd rfl (yl_loadN (cs := [.string (bs ((p_0.Idxs.getD k30 d_Idx).Name)), .int .i64 ((p_0.Idxs.getD k30 d_Idx).Col), .int .i64 ((p_0.Idxs.getD k30 d_Idx).Stage)]) Try.ty177 rfl rfl eC94 rfl (sd rfl (yl_alloc Try.ty177 (cs := [.string (bs (([] : Str))), .int .i64 (0), .int .i64 (0)]) rfl rfl ?_)))))
      intro b95 w96 hs97 hz98 hB99 hE100
      refine sd rfl (yl_assign rfl rfl (SeqR.u rfl rfl (yl_store (vs := [.string (bs ((p_0.Idxs.getD k30 d_Idx).Name)), .int .i64 ((p_0.Idxs.getD k30 d_Idx).Col), .int .i64 ((p_0.Idxs.getD k30 d_Idx).Stage)]) Try.ty177 rfl rfl rfl rfl rfl rfl hB99 (Nat.le_of_ble_eq_true rfl) ?_)))
      intro w101 hB102 hO103
      have hB102 : Box w101 b95 177 [.string (bs ((p_0.Idxs.getD k30 d_Idx).Name)), .int .i64 ((p_0.Idxs.getD k30 d_Idx).Col), .int .i64 ((p_0.Idxs.getD k30 d_Idx).Stage)] := hB102
      have hO103z := hO103.size
      refine SeqR.done (tn (CW.seq (bcase (s_l24Letters ((p_0.Idxs.getD k30 d_Idx).Name) 1) (fun hb105 => ?_) (fun hb105 => ?_))))
      ·refine bcase (s_l1In ((p_0.Idxs.getD k30 d_Idx).Col) 1 (IntKind.wrap .i64 ((p_0.Cols.length : Int) - 1))) (fun hb110 => ?_) (fun hb110 => ?_)
       ·have hb110p := f_l1In hb110
        refine bcase (s_l1In ((p_0.Idxs.getD k30 d_Idx).Stage) 0 3) (fun hb116 => ?_) (fun hb116 => ?_)
        ·have hb116p := f_l1In hb116
         refine bcase (decide (0 < (k30 : Int))) (fun hb122 => ?_) (fun hb122 => ?_)
         ·have hb122p := dec_t hb122
          have q125 := Box.only (Box.ex hf88 hE100) hO103 (by omega)
          have q129 := RdS.only good_Idx (RdS.ex good_Idx hf90 hE100) hO103 (by simp only [Iv]; omega)
          obtain ⟨eb130, eo130, ec130, eA130, eS130, ebl130, el130, eR130, eC130⟩ := RdS.atD q129 d_Idx (i := (IntKind.wrap .i64 ((k30 : Int) - 1)).toNat) (by first | omega | assumption | (simp only [IntKind.wrap_i64] at *; omega))
          obtain rfl := eR130
          have eC130 : Cells w101 eb130 (eo130 + ((IntKind.wrap .i64 ((k30 : Int) - 1)).toNat) * 3) [.string (bs ((p_0.Idxs.getD ((IntKind.wrap .i64 ((k30 : Int) - 1)).toNat) d_Idx).Name)), .int .i64 ((p_0.Idxs.getD ((IntKind.wrap .i64 ((k30 : Int) - 1)).toNat) d_Idx).Col), .int .i64 ((p_0.Idxs.getD ((IntKind.wrap .i64 ((k30 : Int) - 1)).toNat) d_Idx).Stage)] := eC130
          refine CW.drawsI 36 (vgetI [DetI (.pointer (some ⟨b95, 0 + 0, none⟩)), DetI (.string (bs ((p_0.Idxs.getD k30 d_Idx).Name))), DetI (.bool ((s_l24Letters ((p_0.Idxs.getD k30 d_Idx).Name) 1))), DetI (.bool (!(s_l24Letters ((p_0.Idxs.getD k30 d_Idx).Name) 1))), DetI (.bool (!(s_l24Letters ((p_0.Idxs.getD k30 d_Idx).Name) 1))), DetI (.pointer (some ⟨b95, 0 + 1, none⟩)), DetI (.int .i64 ((p_0.Idxs.getD k30 d_Idx).Col)), DetI (.pointer (some ⟨b7, 0 + 1, none⟩)), DetI (.slice A1 p_0.Cols.length c1), DetI (.int .i64 ((p_0.Cols.length : Int))), DetI (.int .i64 (IntKind.wrap .i64 ((p_0.Cols.length : Int) - 1))), DetI (.bool ((s_l1In ((p_0.Idxs.getD k30 d_Idx).Col) 1 (IntKind.wrap .i64 ((p_0.Cols.length : Int) - 1))))), DetI (.bool (!(s_l1In ((p_0.Idxs.getD k30 d_Idx).Col) 1 (IntKind.wrap .i64 ((p_0.Cols.length : Int) - 1))))), DetI (.bool (!(s_l1In ((p_0.Idxs.getD k30 d_Idx).Col) 1 (IntKind.wrap .i64 ((p_0.Cols.length : Int) - 1))))), DetI (.bool (!(s_l1In ((p_0.Idxs.getD k30 d_Idx).Col) 1 (IntKind.wrap .i64 ((p_0.Cols.length : Int) - 1))))), DetI (.pointer (some ⟨b95, 0 + 2, none⟩)), DetI (.int .i64 ((p_0.Idxs.getD k30 d_Idx).Stage)), DetI (.bool ((s_l1In ((p_0.Idxs.getD k30 d_Idx).Stage) 0 3))), DetI (.bool (!(s_l1In ((p_0.Idxs.getD k30 d_Idx).Stage) 0 3))), DetI (.bool (!(s_l1In ((p_0.Idxs.getD k30 d_Idx).Stage) 0 3))), DetI (.bool (!(s_l1In ((p_0.Idxs.getD k30 d_Idx).Stage) 0 3))), DetI (.int .i64 ((k30 : Int))), DetI (.bool (decide (0 < (k30 : Int)))), DetI (.bool (decide (0 < (k30 : Int)))), DetI (.pointer (some ⟨b7, 0 + 2, none⟩)), DetI (.slice A2 p_0.Idxs.length c2), DetI (.int .i64 ((k30 : Int))), DetI (.int .i64 (IntKind.wrap .i64 ((k30 : Int) - 1))), DetI (.pointer (some ⟨eb130, eo130 + ((IntKind.wrap .i64 ((k30 : Int) - 1)).toNat) * 3, none⟩)), DetI (.pointer (some ⟨eb130, eo130 + ((IntKind.wrap .i64 ((k30 : Int) - 1)).toNat) * 3 + 0, none⟩)), DetI (.string (bs ((p_0.Idxs.getD ((IntKind.wrap .i64 ((k30 : Int) - 1)).toNat) d_Idx).Name))), DetI (.pointer (some ⟨b95, 0 + 0, none⟩)), DetI (.string (bs ((p_0.Idxs.getD k30 d_Idx).Name))), DetI (.bool (!(sLt ((p_0.Idxs.getD ((IntKind.wrap .i64 ((k30 : Int) - 1)).toNat) d_Idx).Name) ((p_0.Idxs.getD k30 d_Idx).Name)))), DetI (.bool (!(sLt ((p_0.Idxs.getD ((IntKind.wrap .i64 ((k30 : Int) - 1)).toNat) d_Idx).Name) ((p_0.Idxs.getD k30 d_Idx).Name)))), DetI (.bool (!(sLt ((p_0.Idxs.getD ((IntKind.wrap .i64 ((k30 : Int) - 1)).toNat) d_Idx).Name) ((p_0.Idxs.getD k30 d_Idx).Name))))]) Try.follows rfl rfl rfl rfl rfl rfl (vgetI_stable ⟨StableI.det _, StableI.det _, StableI.det _, StableI.det _, StableI.det _, StableI.det _, StableI.det _, StableI.det _, StableI.det _, StableI.det _, StableI.det _, StableI.det _, StableI.det _, StableI.det _, StableI.det _, StableI.det _, StableI.det _, StableI.det _, StableI.det _, StableI.det _, StableI.det _, StableI.det _, StableI.det _, StableI.det _, StableI.det _, StableI.det _, StableI.det _, StableI.det _, StableI.det _, StableI.det _, StableI.det _, StableI.det _, StableI.det _, StableI.det _, StableI.det _, StableI.det _, trivial⟩) ⟨?_, ?_, ?_, ?_, ?_, ?_, ?_, ?_, ?_, ?_, ?_, ?_, ?_, ?_, ?_, ?_, ?_, ?_, ?_, ?_, ?_, ?_, ?_, ?_, ?_, ?_, ?_, ?_, ?_, ?_, ?_, ?_, ?_, ?_, ?_, ?_, trivial⟩ ?_
          ·exact fun _ _ h => os rfl ((yl_fieldAddr Try.fd177_0 rfl (h.old 4 _ rfl rfl) kI))
          ·exact fun _ _ h => os rfl ((yl_load1 Try.ty9 rfl (h.dt 0 29 rfl rfl rfl) (((Box.ex hB102 h.ex).cell 0).trans rfl) kI))
          ·intro L142 w143 hi144
           refine OpR.op' rfl (yl_call Try.en177 rfl (opvs_cons (hi144.dt 1 30 rfl rfl rfl) (opvs_cons rfl opvs_nil)) (Cal.mono (c_s_l24Letters ((p_0.Idxs.getD k30 d_Idx).Name) 1 (okL.getD o3.2.2 ok_d_Idx _)) ?_))
           rintro v148 w147 ⟨rfl, hE149⟩
           exact ⟨rfl, hE149⟩
          ·exact fun _ _ h => os rfl ((yl_not rfl (h.dt 2 31 rfl rfl rfl) kI))
          ·exact fun _ _ h => os rfl ((yl_move rfl (h.dt 3 32 rfl rfl rfl) kI))
          ·exact fun _ _ h => OpR.want rfl rfl (h.dt 4 33 rfl rfl rfl) (not_t hb105) (Yl.sameI (yl_fieldAddr Try.fd177_1 rfl (h.old 4 _ rfl rfl) kI))
          ·exact fun _ _ h => OpR.want rfl rfl (h.dt 4 33 rfl rfl rfl) (not_t hb105) (Yl.sameI (yl_load1 Try.ty3 rfl (h.dt 5 34 rfl rfl rfl) (((Box.ex hB102 h.ex).cell 1).trans rfl) kI))
          ·exact fun _ _ h => OpR.want rfl rfl (h.dt 4 33 rfl rfl rfl) (not_t hb105) (Yl.sameI (yl_fieldAddr Try.fd59_1 rfl (h.old 1 _ rfl rfl) kI))
          ·exact fun _ _ h => OpR.want rfl rfl (h.dt 4 33 rfl rfl rfl) (not_t hb105) (Yl.sameI (yl_load1 Try.ty45 rfl (h.dt 7 36 rfl rfl rfl) (((Box.ex q125 h.ex).cell 1).trans rfl) kI))
          ·exact fun _ _ h => OpR.want rfl rfl (h.dt 4 33 rfl rfl rfl) (not_t hb105) (Yl.sameI (yl_len Try.un45 rfl (h.dt 8 37 rfl rfl rfl) kI))
          ·exact fun _ _ h => OpR.want rfl rfl (h.dt 4 33 rfl rfl rfl) (not_t hb105) (Yl.sameI (yl_sub rfl (h.dt 9 38 rfl rfl rfl) rfl kI))
          ·intro L198 w199 hi200
           refine OpR.want rfl rfl (hi200.dt 4 33 rfl rfl rfl) (not_t hb105) (yl_call Try.en50 rfl (opvs_cons (hi200.dt 6 35 rfl rfl rfl) (opvs_cons rfl (opvs_cons (hi200.dt 10 39 rfl rfl rfl) opvs_nil))) (Cal.mono (c_s_l1In ((p_0.Idxs.getD k30 d_Idx).Col) 1 (IntKind.wrap .i64 ((p_0.Cols.length : Int) - 1))) ?_))
           rintro v206 w205 ⟨rfl, hE207⟩
           exact ⟨rfl, hE207⟩
          ·exact fun _ _ h => OpR.want rfl rfl (h.dt 4 33 rfl rfl rfl) (not_t hb105) (Yl.sameI (yl_not rfl (h.dt 11 40 rfl rfl rfl) kI))
          ·exact fun _ _ h => os rfl ((yl_pick_f rfl (h.dt 4 33 rfl rfl rfl) (not_t hb105) (h.dt 12 41 rfl rfl rfl) kI))
          ·exact fun _ _ h => os rfl ((yl_move rfl (h.dt 13 42 rfl rfl rfl) kI))
          ·exact fun _ _ h => OpR.want rfl rfl (h.dt 14 43 rfl rfl rfl) (not_t hb110) (Yl.sameI (yl_fieldAddr Try.fd177_2 rfl (h.old 4 _ rfl rfl) kI))
          ·exact fun _ _ h => OpR.want rfl rfl (h.dt 14 43 rfl rfl rfl) (not_t hb110) (Yl.sameI (yl_load1 Try.ty3 rfl (h.dt 15 44 rfl rfl rfl) (((Box.ex hB102 h.ex).cell 2).trans rfl) kI))
          ·intro L238 w239 hi240
           refine OpR.want rfl rfl (hi240.dt 14 43 rfl rfl rfl) (not_t hb110) (yl_call Try.en50 rfl (opvs_cons (hi240.dt 16 45 rfl rfl rfl) (opvs_cons rfl (opvs_cons rfl opvs_nil))) (Cal.mono (c_s_l1In ((p_0.Idxs.getD k30 d_Idx).Stage) 0 3) ?_))
           rintro v245 w244 ⟨rfl, hE246⟩
           exact ⟨rfl, hE246⟩
          ·exact fun _ _ h => OpR.want rfl rfl (h.dt 14 43 rfl rfl rfl) (not_t hb110) (Yl.sameI (yl_not rfl (h.dt 17 46 rfl rfl rfl) kI))
          ·exact fun _ _ h => os rfl ((yl_pick_f rfl (h.dt 14 43 rfl rfl rfl) (not_t hb110) (h.dt 18 47 rfl rfl rfl) kI))
          ·exact fun _ _ h => os rfl ((yl_move rfl (h.dt 19 48 rfl rfl rfl) kI))
          ·exact fun _ _ h => OpR.want rfl rfl (h.dt 20 49 rfl rfl rfl) (not_t hb116) (Yl.sameI (yl_move rfl (h.old 3 _ rfl rfl) kI))
          ·exact fun _ _ h => OpR.want rfl rfl (h.dt 20 49 rfl rfl rfl) (not_t hb116) (Yl.sameI (yl_gtr rfl (h.dt 21 50 rfl rfl rfl) rfl kI))
          ·exact fun _ _ h => OpR.want rfl rfl (h.dt 20 49 rfl rfl rfl) (not_t hb116) (Yl.sameI (yl_move rfl (h.dt 22 51 rfl rfl rfl) kI))
          ·exact fun _ _ h => OpR.want rfl rfl (h.dt 23 52 rfl rfl rfl) hb122 (Yl.sameI (yl_fieldAddr Try.fd59_2 rfl (h.old 1 _ rfl rfl) kI))
          ·exact fun _ _ h => OpR.want rfl rfl (h.dt 23 52 rfl rfl rfl) hb122 (Yl.sameI (yl_load1 Try.ty57 rfl (h.dt 24 53 rfl rfl rfl) (((Box.ex q125 h.ex).cell 2).trans rfl) kI))
          ·exact fun _ _ h => OpR.want rfl rfl (h.dt 23 52 rfl rfl rfl) hb122 (Yl.sameI (yl_move rfl (h.old 3 _ rfl rfl) kI))
          ·exact fun _ _ h => OpR.want rfl rfl (h.dt 23 52 rfl rfl rfl) hb122 (Yl.sameI (yl_sub rfl (h.dt 26 55 rfl rfl rfl) rfl kI))
          ·intro L307 w308 hi309
           have hE310 := hi309.ex
           have hE310z := Ex.size hE310
           exact OpR.want rfl rfl (hi309.dt 23 52 rfl rfl rfl) hb122 (Yl.sameI (yl_indexAddr Try.un57 Try.ty177 rfl (hi309.dt 25 54 rfl rfl rfl) (hi309.dt 27 56 rfl rfl rfl) eA130 (by first | omega | assumption | (simp only [IntKind.wrap_i64] at *; omega)) (by first | omega | assumption | (simp only [IntKind.wrap_i64] at *; omega)) kI))
          ·exact fun _ _ h => OpR.want rfl rfl (h.dt 23 52 rfl rfl rfl) hb122 (Yl.sameI (yl_fieldAddr Try.fd177_0 rfl (h.dt 28 57 rfl rfl rfl) kI))
          ·exact fun _ _ h => OpR.want rfl rfl (h.dt 23 52 rfl rfl rfl) hb122 (Yl.sameI (yl_load1 Try.ty9 rfl (h.dt 29 58 rfl rfl rfl) ((Cells.ex eC130 h.ex) 0 _ rfl) kI))
          ·exact fun _ _ h => OpR.want rfl rfl (h.dt 23 52 rfl rfl rfl) hb122 (Yl.sameI (yl_fieldAddr Try.fd177_0 rfl (h.old 4 _ rfl rfl) kI))
          ·exact fun _ _ h => OpR.want rfl rfl (h.dt 23 52 rfl rfl rfl) hb122 (Yl.sameI (yl_load1 Try.ty9 rfl (h.dt 31 60 rfl rfl rfl) (((Box.ex hB102 h.ex).cell 0).trans rfl) kI))
          ·exact fun _ _ h => OpR.want rfl rfl (h.dt 23 52 rfl rfl rfl) hb122 (Yl.sameI (yl_sgeq (a := ((p_0.Idxs.getD ((IntKind.wrap .i64 ((k30 : Int) - 1)).toNat) d_Idx).Name)) (b := ((p_0.Idxs.getD k30 d_Idx).Name)) rfl (h.dt 30 59 rfl rfl rfl) (h.dt 32 61 rfl rfl rfl) kI))
          ·exact fun _ _ h => OpR.want rfl rfl (h.dt 20 49 rfl rfl rfl) (not_t hb116) (Yl.sameI (yl_pick_t rfl (h.dt 23 52 rfl rfl rfl) hb122 (h.dt 33 62 rfl rfl rfl) kI))
          ·exact fun _ _ h => os rfl ((yl_pick_f rfl (h.dt 20 49 rfl rfl rfl) (not_t hb116) (h.dt 34 63 rfl rfl rfl) kI))
          ·intro fl363 fh364 L360 w361 hp362
           have hE365 := hp362.ex
           have hE365z := Ex.size hE365
           refine SeqR.done (tn (CW.sub (Sub.cons (d := 1) (hp362.old 1 _ rfl rfl) (Sub.cons (d := 22) (hp362.old 22 _ rfl rfl) (Sub.cons (d := 23) (hp362.old 23 _ rfl rfl) (Sub.cons (d := 24) (hp362.old 24 _ rfl rfl) (Sub.cons (d := 34) (hp362.nt 5 34 rfl rfl rfl) (Sub.cons (d := 35) (hp362.nt 6 35 rfl rfl rfl) (Sub.cons (d := 36) (hp362.nt 7 36 rfl rfl rfl) (Sub.cons (d := 37) (hp362.nt 8 37 rfl rfl rfl) (Sub.cons (d := 38) (hp362.nt 9 38 rfl rfl rfl) (Sub.cons (d := 39) (hp362.nt 10 39 rfl rfl rfl) (Sub.cons (d := 40) (hp362.nt 11 40 rfl rfl rfl) (Sub.cons (d := 41) (hp362.nt 12 41 rfl rfl rfl) (Sub.cons (d := 44) (hp362.nt 15 44 rfl rfl rfl) (Sub.cons (d := 45) (hp362.nt 16 45 rfl rfl rfl) (Sub.cons (d := 46) (hp362.nt 17 46 rfl rfl rfl) (Sub.cons (d := 47) (hp362.nt 18 47 rfl rfl rfl) (Sub.cons (d := 50) (hp362.nt 21 50 rfl rfl rfl) (Sub.cons (d := 51) (hp362.nt 22 51 rfl rfl rfl) (Sub.cons (d := 52) (hp362.nt 23 52 rfl rfl rfl) (Sub.cons (d := 53) (hp362.nt 24 53 rfl rfl rfl) (Sub.cons (d := 54) (hp362.nt 25 54 rfl rfl rfl) (Sub.cons (d := 55) (hp362.nt 26 55 rfl rfl rfl) (Sub.cons (d := 56) (hp362.nt 27 56 rfl rfl rfl) (Sub.cons (d := 57) (hp362.nt 28 57 rfl rfl rfl) (Sub.cons (d := 58) (hp362.nt 29 58 rfl rfl rfl) (Sub.cons (d := 59) (hp362.nt 30 59 rfl rfl rfl) (Sub.cons (d := 60) (hp362.nt 31 60 rfl rfl rfl) (Sub.cons (d := 61) (hp362.nt 32 61 rfl rfl rfl) (Sub.cons (d := 62) (hp362.nt 33 62 rfl rfl rfl) (Sub.cons (d := 63) (hp362.nt 34 63 rfl rfl rfl) (Sub.cons (d := 64) (hp362.nt 35 64 rfl rfl rfl) (Sub.nil _)))))))))))))))))))))))))))))))) ?_))
           refine bcase (sLt ((p_0.Idxs.getD ((IntKind.wrap .i64 ((k30 : Int) - 1)).toNat) d_Idx).Name) ((p_0.Idxs.getD k30 d_Idx).Name)) (fun hb397 => ?_) (fun hb397 => ?_)
           ·refine CW.cond_f rfl (not_t hb397) (CW.skip (bn (tn (CW.region (sd rfl (yl_inc rfl rfl rfl (by omega) (sd rfl (yl_move rfl rfl (SeqR.done (tn ?_))))))))))
            have hB398 : B_s_GoodTable_0 p_0 k30 () = .cont () := by simp only [B_s_GoodTable_0, hb16, hb23, hb25, hb105, hb110, hb116, hb122, hb397, cond_true, cond_false, loopE_done, loopE_ret]
            exact ⟨p_0.Idxs.length - (k30 + 1), by omega, k30 + 1, rfl, hlt93, (by omega), rfl, rfl, rfl, rfl, (Box.ex q125 hE365), (RdS.ex good_Str (RdS.only good_Str (RdS.ex good_Str hf89 hE100) hO103 (by simp only [Iv]; omega)) hE365), (RdS.ex good_Idx q129 hE365), (Ex.trans (Below.only (Ex.trans hf91 hE100) hO103 (by omega)) hE365), (loopM.cont hlt93 hB398).symm.trans hI82⟩
           ·refine CW.cond_t rfl (not_f hb397) (CW.seq (CW.region (sd rfl (yl_assign rfl rfl (SeqR.done (tn (CW.ret (br (tr ?_)))))))))
            refine tr ?_
            have hB408 : B_s_GoodTable_0 p_0 k30 () = .ret false := by simp only [B_s_GoodTable_0, hb16, hb23, hb25, hb105, hb110, hb116, hb122, hb397, cond_true, cond_false, loopE_done, loopE_ret]
            have hL407 : loopM (B_s_GoodTable_0 p_0) (p_0.Idxs.length - 0) 0 () = .ret false := hI82.symm.trans (loopM.ret hlt93 hB408)
            refine br (tr (rr rfl (.cons rfl .nil) ?_))
            have hM409 : (s_GoodTable p_0) = (false) := by simp only [s_GoodTable, hb16, hb23, hb25, hb105, hb110, hb116, hb122, hb397, hL407, cond_true, cond_false, loopE_done, loopE_ret]
            rw [hM409]
            exact ⟨rfl, (Ex.trans (Below.only (Ex.trans hf91 hE100) hO103 (by omega)) hE365)⟩
         ·have hb122p := dec_f hb122
          have q415 := Box.only (Box.ex hf88 hE100) hO103 (by omega)
          refine CW.drawsI 36 (vgetI [DetI (.pointer (some ⟨b95, 0 + 0, none⟩)), DetI (.string (bs ((p_0.Idxs.getD k30 d_Idx).Name))), DetI (.bool ((s_l24Letters ((p_0.Idxs.getD k30 d_Idx).Name) 1))), DetI (.bool (!(s_l24Letters ((p_0.Idxs.getD k30 d_Idx).Name) 1))), DetI (.bool (!(s_l24Letters ((p_0.Idxs.getD k30 d_Idx).Name) 1))), DetI (.pointer (some ⟨b95, 0 + 1, none⟩)), DetI (.int .i64 ((p_0.Idxs.getD k30 d_Idx).Col)), DetI (.pointer (some ⟨b7, 0 + 1, none⟩)), DetI (.slice A1 p_0.Cols.length c1), DetI (.int .i64 ((p_0.Cols.length : Int))), DetI (.int .i64 (IntKind.wrap .i64 ((p_0.Cols.length : Int) - 1))), DetI (.bool ((s_l1In ((p_0.Idxs.getD k30 d_Idx).Col) 1 (IntKind.wrap .i64 ((p_0.Cols.length : Int) - 1))))), DetI (.bool (!(s_l1In ((p_0.Idxs.getD k30 d_Idx).Col) 1 (IntKind.wrap .i64 ((p_0.Cols.length : Int) - 1))))), DetI (.bool (!(s_l1In ((p_0.Idxs.getD k30 d_Idx).Col) 1 (IntKind.wrap .i64 ((p_0.Cols.length : Int) - 1))))), DetI (.bool (!(s_l1In ((p_0.Idxs.getD k30 d_Idx).Col) 1 (IntKind.wrap .i64 ((p_0.Cols.length : Int) - 1))))), DetI (.pointer (some ⟨b95, 0 + 2, none⟩)), DetI (.int .i64 ((p_0.Idxs.getD k30 d_Idx).Stage)), DetI (.bool ((s_l1In ((p_0.Idxs.getD k30 d_Idx).Stage) 0 3))), DetI (.bool (!(s_l1In ((p_0.Idxs.getD k30 d_Idx).Stage) 0 3))), DetI (.bool (!(s_l1In ((p_0.Idxs.getD k30 d_Idx).Stage) 0 3))), DetI (.bool (!(s_l1In ((p_0.Idxs.getD k30 d_Idx).Stage) 0 3))), DetI (.int .i64 ((k30 : Int))), DetI (.bool (decide (0 < (k30 : Int)))), DetI (.bool (decide (0 < (k30 : Int)))), DetI (undef), DetI (undef), DetI (undef), DetI (undef), DetI (undef), DetI (undef), DetI (undef), DetI (undef), DetI (undef), DetI (undef), DetI (.bool (false)), DetI (.bool (false))]) Try.follows rfl rfl rfl rfl rfl rfl (vgetI_stable ⟨StableI.det _, StableI.det _, StableI.det _, StableI.det _, StableI.det _, StableI.det _, StableI.det _, StableI.det _, StableI.det _, StableI.det _, StableI.det _, StableI.det _, StableI.det _, StableI.det _, StableI.det _, StableI.det _, StableI.det _, StableI.det _, StableI.det _, StableI.det _, StableI.det _, StableI.det _, StableI.det _, StableI.det _, StableI.det _, StableI.det _, StableI.det _, StableI.det _, StableI.det _, StableI.det _, StableI.det _, StableI.det _, StableI.det _, StableI.det _, StableI.det _, StableI.det _, trivial⟩) ⟨?_, ?_, ?_, ?_, ?_, ?_, ?_, ?_, ?_, ?_, ?_, ?_, ?_, ?_, ?_, ?_, ?_, ?_, ?_, ?_, ?_, ?_, ?_, ?_, ?_, ?_, ?_, ?_, ?_, ?_, ?_, ?_, ?_, ?_, ?_, ?_, trivial⟩ ?_
          ·exact fun _ _ h => os rfl ((yl_fieldAddr Try.fd177_0 rfl (h.old 4 _ rfl rfl) kI))
          ·exact fun _ _ h => os rfl ((yl_load1 Try.ty9 rfl (h.dt 0 29 rfl rfl rfl) (((Box.ex hB102 h.ex).cell 0).trans rfl) kI))
          ·intro L429 w430 hi431
           refine OpR.op' rfl (yl_call Try.en177 rfl (opvs_cons (hi431.dt 1 30 rfl rfl rfl) (opvs_cons rfl opvs_nil)) (Cal.mono (c_s_l24Letters ((p_0.Idxs.getD k30 d_Idx).Name) 1 (okL.getD o3.2.2 ok_d_Idx _)) ?_))
           rintro v435 w434 ⟨rfl, hE436⟩
           exact ⟨rfl, hE436⟩
          ·exact fun _ _ h => os rfl ((yl_not rfl (h.dt 2 31 rfl rfl rfl) kI))
          ·exact fun _ _ h => os rfl ((yl_move rfl (h.dt 3 32 rfl rfl rfl) kI))
          ·exact fun _ _ h => OpR.want rfl rfl (h.dt 4 33 rfl rfl rfl) (not_t hb105) (Yl.sameI (yl_fieldAddr Try.fd177_1 rfl (h.old 4 _ rfl rfl) kI))
          ·exact fun _ _ h => OpR.want rfl rfl (h.dt 4 33 rfl rfl rfl) (not_t hb105) (Yl.sameI (yl_load1 Try.ty3 rfl (h.dt 5 34 rfl rfl rfl) (((Box.ex hB102 h.ex).cell 1).trans rfl) kI))
          ·exact fun _ _ h => OpR.want rfl rfl (h.dt 4 33 rfl rfl rfl) (not_t hb105) (Yl.sameI (yl_fieldAddr Try.fd59_1 rfl (h.old 1 _ rfl rfl) kI))
          ·exact fun _ _ h => OpR.want rfl rfl (h.dt 4 33 rfl rfl rfl) (not_t hb105) (Yl.sameI (yl_load1 Try.ty45 rfl (h.dt 7 36 rfl rfl rfl) (((Box.ex q415 h.ex).cell 1).trans rfl) kI))
          ·exact fun _ _ h => OpR.want rfl rfl (h.dt 4 33 rfl rfl rfl) (not_t hb105) (Yl.sameI (yl_len Try.un45 rfl (h.dt 8 37 rfl rfl rfl) kI))
          ·exact fun _ _ h => OpR.want rfl rfl (h.dt 4 33 rfl rfl rfl) (not_t hb105) (Yl.sameI (yl_sub rfl (h.dt 9 38 rfl rfl rfl) rfl kI))
          ·intro L485 w486 hi487
           refine OpR.want rfl rfl (hi487.dt 4 33 rfl rfl rfl) (not_t hb105) (yl_call Try.en50 rfl (opvs_cons (hi487.dt 6 35 rfl rfl rfl) (opvs_cons rfl (opvs_cons (hi487.dt 10 39 rfl rfl rfl) opvs_nil))) (Cal.mono (c_s_l1In ((p_0.Idxs.getD k30 d_Idx).Col) 1 (IntKind.wrap .i64 ((p_0.Cols.length : Int) - 1))) ?_))
           rintro v493 w492 ⟨rfl, hE494⟩
           exact ⟨rfl, hE494⟩
          ·exact fun _ _ h => OpR.want rfl rfl (h.dt 4 33 rfl rfl rfl) (not_t hb105) (Yl.sameI (yl_not rfl (h.dt 11 40 rfl rfl rfl) kI))
          ·exact fun _ _ h => os rfl ((yl_pick_f rfl (h.dt 4 33 rfl rfl rfl) (not_t hb105) (h.dt 12 41 rfl rfl rfl) kI))
          ·exact fun _ _ h => os rfl ((yl_move rfl (h.dt 13 42 rfl rfl rfl) kI))
          ·exact fun _ _ h => OpR.want rfl rfl (h.dt 14 43 rfl rfl rfl) (not_t hb110) (Yl.sameI (yl_fieldAddr Try.fd177_2 rfl (h.old 4 _ rfl rfl) kI))
          ·exact fun _ _ h => OpR.want rfl rfl (h.dt 14 43 rfl rfl rfl) (not_t hb110) (Yl.sameI (yl_load1 Try.ty3 rfl (h.dt 15 44 rfl rfl rfl) (((Box.ex hB102 h.ex).cell 2).trans rfl) kI))
          ·intro L525 w526 hi527
           refine OpR.want rfl rfl (hi527.dt 14 43 rfl rfl rfl) (not_t hb110) (yl_call Try.en50 rfl (opvs_cons (hi527.dt 16 45 rfl rfl rfl) (opvs_cons rfl (opvs_cons rfl opvs_nil))) (Cal.mono (c_s_l1In ((p_0.Idxs.getD k30 d_Idx).Stage) 0 3) ?_))
           rintro v532 w531 ⟨rfl, hE533⟩
           exact ⟨rfl, hE533⟩
          ·exact fun _ _ h => OpR.want rfl rfl (h.dt 14 43 rfl rfl rfl) (not_t hb110) (Yl.sameI (yl_not rfl (h.dt 17 46 rfl rfl rfl) kI))
          ·exact fun _ _ h => os rfl ((yl_pick_f rfl (h.dt 14 43 rfl rfl rfl) (not_t hb110) (h.dt 18 47 rfl rfl rfl) kI))
          ·exact fun _ _ h => os rfl ((yl_move rfl (h.dt 19 48 rfl rfl rfl) kI))
          ·exact fun _ _ h => OpR.want rfl rfl (h.dt 20 49 rfl rfl rfl) (not_t hb116) (Yl.sameI (yl_move rfl (h.old 3 _ rfl rfl) kI))
          ·exact fun _ _ h => OpR.want rfl rfl (h.dt 20 49 rfl rfl rfl) (not_t hb116) (Yl.sameI (yl_gtr rfl (h.dt 21 50 rfl rfl rfl) rfl kI))
          ·exact fun _ _ h => OpR.want rfl rfl (h.dt 20 49 rfl rfl rfl) (not_t hb116) (Yl.sameI (yl_move rfl (h.dt 22 51 rfl rfl rfl) kI))
          ·exact fun _ _ h => OpR.skip rfl rfl (h.dt 23 52 rfl rfl rfl) hb122 ⟨rfl, Ex.refl _⟩
          ·exact fun _ _ h => OpR.skip rfl rfl (h.dt 23 52 rfl rfl rfl) hb122 ⟨rfl, Ex.refl _⟩
          ·exact fun _ _ h => OpR.skip rfl rfl (h.dt 23 52 rfl rfl rfl) hb122 ⟨rfl, Ex.refl _⟩
          ·exact fun _ _ h => OpR.skip rfl rfl (h.dt 23 52 rfl rfl rfl) hb122 ⟨rfl, Ex.refl _⟩
          ·exact fun _ _ h => OpR.skip rfl rfl (h.dt 23 52 rfl rfl rfl) hb122 ⟨rfl, Ex.refl _⟩
          ·exact fun _ _ h => OpR.skip rfl rfl (h.dt 23 52 rfl rfl rfl) hb122 ⟨rfl, Ex.refl _⟩
          ·exact fun _ _ h => OpR.skip rfl rfl (h.dt 23 52 rfl rfl rfl) hb122 ⟨rfl, Ex.refl _⟩
          ·exact fun _ _ h => OpR.skip rfl rfl (h.dt 23 52 rfl rfl rfl) hb122 ⟨rfl, Ex.refl _⟩
          ·exact fun _ _ h => OpR.skip rfl rfl (h.dt 23 52 rfl rfl rfl) hb122 ⟨rfl, Ex.refl _⟩
          ·exact fun _ _ h => OpR.skip rfl rfl (h.dt 23 52 rfl rfl rfl) hb122 ⟨rfl, Ex.refl _⟩
          ·exact fun _ _ h => OpR.want rfl rfl (h.dt 20 49 rfl rfl rfl) (not_t hb116) (Yl.sameI (yl_pick_f rfl (h.dt 23 52 rfl rfl rfl) hb122 rfl kI))
          ·exact fun _ _ h => os rfl ((yl_pick_f rfl (h.dt 20 49 rfl rfl rfl) (not_t hb116) (h.dt 34 63 rfl rfl rfl) kI))
          ·intro fl635 fh636 L632 w633 hp634
           have hE637 := hp634.ex
           have hE637z := Ex.size hE637
           refine SeqR.done (tn (CW.sub (Sub.cons (d := 1) (hp634.old 1 _ rfl rfl) (Sub.cons (d := 22) (hp634.old 22 _ rfl rfl) (Sub.cons (d := 23) (hp634.old 23 _ rfl rfl) (Sub.cons (d := 24) (hp634.old 24 _ rfl rfl) (Sub.cons (d := 34) (hp634.nt 5 34 rfl rfl rfl) (Sub.cons (d := 35) (hp634.nt 6 35 rfl rfl rfl) (Sub.cons (d := 36) (hp634.nt 7 36 rfl rfl rfl) (Sub.cons (d := 37) (hp634.nt 8 37 rfl rfl rfl) (Sub.cons (d := 38) (hp634.nt 9 38 rfl rfl rfl) (Sub.cons (d := 39) (hp634.nt 10 39 rfl rfl rfl) (Sub.cons (d := 40) (hp634.nt 11 40 rfl rfl rfl) (Sub.cons (d := 41) (hp634.nt 12 41 rfl rfl rfl) (Sub.cons (d := 44) (hp634.nt 15 44 rfl rfl rfl) (Sub.cons (d := 45) (hp634.nt 16 45 rfl rfl rfl) (Sub.cons (d := 46) (hp634.nt 17 46 rfl rfl rfl) (Sub.cons (d := 47) (hp634.nt 18 47 rfl rfl rfl) (Sub.cons (d := 50) (hp634.nt 21 50 rfl rfl rfl) (Sub.cons (d := 51) (hp634.nt 22 51 rfl rfl rfl) (Sub.cons (d := 52) (hp634.nt 23 52 rfl rfl rfl) (Sub.cons (d := 53) (hp634.nt 24 53 rfl rfl rfl) (Sub.cons (d := 54) (hp634.nt 25 54 rfl rfl rfl) (Sub.cons (d := 55) (hp634.nt 26 55 rfl rfl rfl) (Sub.cons (d := 56) (hp634.nt 27 56 rfl rfl rfl) (Sub.cons (d := 57) (hp634.nt 28 57 rfl rfl rfl) (Sub.cons (d := 58) (hp634.nt 29 58 rfl rfl rfl) (Sub.cons (d := 59) (hp634.nt 30 59 rfl rfl rfl) (Sub.cons (d := 60) (hp634.nt 31 60 rfl rfl rfl) (Sub.cons (d := 61) (hp634.nt 32 61 rfl rfl rfl) (Sub.cons (d := 62) (hp634.nt 33 62 rfl rfl rfl) (Sub.cons (d := 63) (hp634.nt 34 63 rfl rfl rfl) (Sub.cons (d := 64) (hp634.nt 35 64 rfl rfl rfl) (Sub.nil _)))))))))))))))))))))))))))))))) ?_))
           refine CW.cond_f rfl rfl (CW.skip (bn (tn (CW.region (sd rfl (yl_inc rfl rfl rfl (by omega) (sd rfl (yl_move rfl rfl (SeqR.done (tn ?_))))))))))
           have hB669 : B_s_GoodTable_0 p_0 k30 () = .cont () := by simp only [B_s_GoodTable_0, hb16, hb23, hb25, hb105, hb110, hb116, hb122, cond_true, cond_false, loopE_done, loopE_ret]
           exact ⟨p_0.Idxs.length - (k30 + 1), by omega, k30 + 1, rfl, hlt93, (by omega), rfl, rfl, rfl, rfl, (Box.ex q415 hE637), (RdS.ex good_Str (RdS.only good_Str (RdS.ex good_Str hf89 hE100) hO103 (by simp only [Iv]; omega)) hE637), (RdS.ex good_Idx (RdS.only good_Idx (RdS.ex good_Idx hf90 hE100) hO103 (by simp only [Iv]; omega)) hE637), (Ex.trans (Below.only (Ex.trans hf91 hE100) hO103 (by omega)) hE637), (loopM.cont hlt93 hB669).symm.trans hI82⟩
        ·refine CW.drawsI 36 (vgetI [DetI (.pointer (some ⟨b95, 0 + 0, none⟩)), DetI (.string (bs ((p_0.Idxs.getD k30 d_Idx).Name))), DetI (.bool ((s_l24Letters ((p_0.Idxs.getD k30 d_Idx).Name) 1))), DetI (.bool (!(s_l24Letters ((p_0.Idxs.getD k30 d_Idx).Name) 1))), DetI (.bool (!(s_l24Letters ((p_0.Idxs.getD k30 d_Idx).Name) 1))), DetI (.pointer (some ⟨b95, 0 + 1, none⟩)), DetI (.int .i64 ((p_0.Idxs.getD k30 d_Idx).Col)), DetI (.pointer (some ⟨b7, 0 + 1, none⟩)), DetI (.slice A1 p_0.Cols.length c1), DetI (.int .i64 ((p_0.Cols.length : Int))), DetI (.int .i64 (IntKind.wrap .i64 ((p_0.Cols.length : Int) - 1))), DetI (.bool ((s_l1In ((p_0.Idxs.getD k30 d_Idx).Col) 1 (IntKind.wrap .i64 ((p_0.Cols.length : Int) - 1))))), DetI (.bool (!(s_l1In ((p_0.Idxs.getD k30 d_Idx).Col) 1 (IntKind.wrap .i64 ((p_0.Cols.length : Int) - 1))))), DetI (.bool (!(s_l1In ((p_0.Idxs.getD k30 d_Idx).Col) 1 (IntKind.wrap .i64 ((p_0.Cols.length : Int) - 1))))), DetI (.bool (!(s_l1In ((p_0.Idxs.getD k30 d_Idx).Col) 1 (IntKind.wrap .i64 ((p_0.Cols.length : Int) - 1))))), DetI (.pointer (some ⟨b95, 0 + 2, none⟩)), DetI (.int .i64 ((p_0.Idxs.getD k30 d_Idx).Stage)), DetI (.bool ((s_l1In ((p_0.Idxs.getD k30 d_Idx).Stage) 0 3))), DetI (.bool (!(s_l1In ((p_0.Idxs.getD k30 d_Idx).Stage) 0 3))), DetI (.bool (!(s_l1In ((p_0.Idxs.getD k30 d_Idx).Stage) 0 3))), DetI (.bool (!(s_l1In ((p_0.Idxs.getD k30 d_Idx).Stage) 0 3))), DetI (undef), DetI (undef), DetI (undef), DetI (undef), DetI (undef), DetI (undef), DetI (undef), DetI (undef), DetI (undef), DetI (undef), DetI (undef), DetI (undef), DetI (undef), DetI (undef), DetI (.bool (true))]) Try.follows rfl rfl rfl rfl rfl rfl (vgetI_stable ⟨StableI.det _, StableI.det _, StableI.det _, StableI.det _, StableI.det _, StableI.det _, StableI.det _, StableI.det _, StableI.det _, StableI.det _, StableI.det _, StableI.det _, StableI.det _, StableI.det _, StableI.det _, StableI.det _, StableI.det _, StableI.det _, StableI.det _, StableI.det _, StableI.det _, StableI.det _, StableI.det _, StableI.det _, StableI.det _, StableI.det _, StableI.det _, StableI.det _, StableI.det _, StableI.det _, StableI.det _, StableI.det _, StableI.det _, StableI.det _, StableI.det _, StableI.det _, trivial⟩) ⟨?_, ?_, ?_, ?_, ?_, ?_, ?_, ?_, ?_, ?_, ?_, ?_, ?_, ?_, ?_, ?_, ?_, ?_, ?_, ?_, ?_, ?_, ?_, ?_, ?_, ?_, ?_, ?_, ?_, ?_, ?_, ?_, ?_, ?_, ?_, ?_, trivial⟩ ?_
         ·exact fun _ _ h => os rfl ((yl_fieldAddr Try.fd177_0 rfl (h.old 4 _ rfl rfl) kI))
         ·exact fun _ _ h => os rfl ((yl_load1 Try.ty9 rfl (h.dt 0 29 rfl rfl rfl) (((Box.ex hB102 h.ex).cell 0).trans rfl) kI))
         ·intro L696 w697 hi698
          refine OpR.op' rfl (yl_call Try.en177 rfl (opvs_cons (hi698.dt 1 30 rfl rfl rfl) (opvs_cons rfl opvs_nil)) (Cal.mono (c_s_l24Letters ((p_0.Idxs.getD k30 d_Idx).Name) 1 (okL.getD o3.2.2 ok_d_Idx _)) ?_))
          rintro v702 w701 ⟨rfl, hE703⟩
          exact ⟨rfl, hE703⟩
         ·exact fun _ _ h => os rfl ((yl_not rfl (h.dt 2 31 rfl rfl rfl) kI))
         ·exact fun _ _ h => os rfl ((yl_move rfl (h.dt 3 32 rfl rfl rfl) kI))
         ·exact fun _ _ h => OpR.want rfl rfl (h.dt 4 33 rfl rfl rfl) (not_t hb105) (Yl.sameI (yl_fieldAddr Try.fd177_1 rfl (h.old 4 _ rfl rfl) kI))
         ·exact fun _ _ h => OpR.want rfl rfl (h.dt 4 33 rfl rfl rfl) (not_t hb105) (Yl.sameI (yl_load1 Try.ty3 rfl (h.dt 5 34 rfl rfl rfl) (((Box.ex hB102 h.ex).cell 1).trans rfl) kI))
         ·exact fun _ _ h => OpR.want rfl rfl (h.dt 4 33 rfl rfl rfl) (not_t hb105) (Yl.sameI (yl_fieldAddr Try.fd59_1 rfl (h.old 1 _ rfl rfl) kI))
         ·intro L733 w734 hi735
          have hE736 := hi735.ex
          have hE736z := Ex.size hE736
          exact OpR.want rfl rfl (hi735.dt 4 33 rfl rfl rfl) (not_t hb105) (Yl.sameI (yl_load1 Try.ty45 rfl (hi735.dt 7 36 rfl rfl rfl) (((Box.ex (Box.only (Box.ex hf88 hE100) hO103 (by omega)) hE736).cell 1).trans rfl) kI))
         ·exact fun _ _ h => OpR.want rfl rfl (h.dt 4 33 rfl rfl rfl) (not_t hb105) (Yl.sameI (yl_len Try.un45 rfl (h.dt 8 37 rfl rfl rfl) kI))
         ·exact fun _ _ h => OpR.want rfl rfl (h.dt 4 33 rfl rfl rfl) (not_t hb105) (Yl.sameI (yl_sub rfl (h.dt 9 38 rfl rfl rfl) rfl kI))
         ·intro L752 w753 hi754
          refine OpR.want rfl rfl (hi754.dt 4 33 rfl rfl rfl) (not_t hb105) (yl_call Try.en50 rfl (opvs_cons (hi754.dt 6 35 rfl rfl rfl) (opvs_cons rfl (opvs_cons (hi754.dt 10 39 rfl rfl rfl) opvs_nil))) (Cal.mono (c_s_l1In ((p_0.Idxs.getD k30 d_Idx).Col) 1 (IntKind.wrap .i64 ((p_0.Cols.length : Int) - 1))) ?_))
          rintro v760 w759 ⟨rfl, hE761⟩
          exact ⟨rfl, hE761⟩
         ·exact fun _ _ h => OpR.want rfl rfl (h.dt 4 33 rfl rfl rfl) (not_t hb105) (Yl.sameI (yl_not rfl (h.dt 11 40 rfl rfl rfl) kI))
         ·exact fun _ _ h => os rfl ((yl_pick_f rfl (h.dt 4 33 rfl rfl rfl) (not_t hb105) (h.dt 12 41 rfl rfl rfl) kI))
         ·exact fun _ _ h => os rfl ((yl_move rfl (h.dt 13 42 rfl rfl rfl) kI))
         ·exact fun _ _ h => OpR.want rfl rfl (h.dt 14 43 rfl rfl rfl) (not_t hb110) (Yl.sameI (yl_fieldAddr Try.fd177_2 rfl (h.old 4 _ rfl rfl) kI))
         ·exact fun _ _ h => OpR.want rfl rfl (h.dt 14 43 rfl rfl rfl) (not_t hb110) (Yl.sameI (yl_load1 Try.ty3 rfl (h.dt 15 44 rfl rfl rfl) (((Box.ex hB102 h.ex).cell 2).trans rfl) kI))
         ·intro L792 w793 hi794
          refine OpR.want rfl rfl (hi794.dt 14 43 rfl rfl rfl) (not_t hb110) (yl_call Try.en50 rfl (opvs_cons (hi794.dt 16 45 rfl rfl rfl) (opvs_cons rfl (opvs_cons rfl opvs_nil))) (Cal.mono (c_s_l1In ((p_0.Idxs.getD k30 d_Idx).Stage) 0 3) ?_))
          rintro v799 w798 ⟨rfl, hE800⟩
          exact ⟨rfl, hE800⟩
         ·exact fun _ _ h => OpR.want rfl rfl (h.dt 14 43 rfl rfl rfl) (not_t hb110) (Yl.sameI (yl_not rfl (h.dt 17 46 rfl rfl rfl) kI))
         ·exact fun _ _ h => os rfl ((yl_pick_f rfl (h.dt 14 43 rfl rfl rfl) (not_t hb110) (h.dt 18 47 rfl rfl rfl) kI))
         ·exact fun _ _ h => os rfl ((yl_move rfl (h.dt 19 48 rfl rfl rfl) kI))
         ·exact fun _ _ h => OpR.skip rfl rfl (h.dt 20 49 rfl rfl rfl) (not_f hb116) ⟨rfl, Ex.refl _⟩
         ·exact fun _ _ h => OpR.skip rfl rfl (h.dt 20 49 rfl rfl rfl) (not_f hb116) ⟨rfl, Ex.refl _⟩
         ·exact fun _ _ h => OpR.skip rfl rfl (h.dt 20 49 rfl rfl rfl) (not_f hb116) ⟨rfl, Ex.refl _⟩
         ·exact fun _ _ h => OpR.undef rfl rfl (h.dt 23 52 rfl rfl rfl) ⟨rfl, Ex.refl _⟩
         ·exact fun _ _ h => OpR.undef rfl rfl (h.dt 23 52 rfl rfl rfl) ⟨rfl, Ex.refl _⟩
         ·exact fun _ _ h => OpR.undef rfl rfl (h.dt 23 52 rfl rfl rfl) ⟨rfl, Ex.refl _⟩
         ·exact fun _ _ h => OpR.undef rfl rfl (h.dt 23 52 rfl rfl rfl) ⟨rfl, Ex.refl _⟩
         ·exact fun _ _ h => OpR.undef rfl rfl (h.dt 23 52 rfl rfl rfl) ⟨rfl, Ex.refl _⟩
         ·exact fun _ _ h => OpR.undef rfl rfl (h.dt 23 52 rfl rfl rfl) ⟨rfl, Ex.refl _⟩
         ·exact fun _ _ h => OpR.undef rfl rfl (h.dt 23 52 rfl rfl rfl) ⟨rfl, Ex.refl _⟩
         ·exact fun _ _ h => OpR.undef rfl rfl (h.dt 23 52 rfl rfl rfl) ⟨rfl, Ex.refl _⟩
         ·exact fun _ _ h => OpR.undef rfl rfl (h.dt 23 52 rfl rfl rfl) ⟨rfl, Ex.refl _⟩
         ·exact fun _ _ h => OpR.undef rfl rfl (h.dt 23 52 rfl rfl rfl) ⟨rfl, Ex.refl _⟩
         ·exact fun _ _ h => OpR.skip rfl rfl (h.dt 20 49 rfl rfl rfl) (not_f hb116) ⟨rfl, Ex.refl _⟩
         ·exact fun _ _ h => os rfl ((yl_pick_t rfl (h.dt 20 49 rfl rfl rfl) (not_f hb116) rfl kI))
         ·intro fl897 fh898 L894 w895 hp896
          have hE899 := hp896.ex
          have hE899z := Ex.size hE899
          refine SeqR.done (tn (CW.sub (Sub.cons (d := 1) (hp896.old 1 _ rfl rfl) (Sub.cons (d := 22) (hp896.old 22 _ rfl rfl) (Sub.cons (d := 23) (hp896.old 23 _ rfl rfl) (Sub.cons (d := 24) (hp896.old 24 _ rfl rfl) (Sub.cons (d := 34) (hp896.nt 5 34 rfl rfl rfl) (Sub.cons (d := 35) (hp896.nt 6 35 rfl rfl rfl) (Sub.cons (d := 36) (hp896.nt 7 36 rfl rfl rfl) (Sub.cons (d := 37) (hp896.nt 8 37 rfl rfl rfl) (Sub.cons (d := 38) (hp896.nt 9 38 rfl rfl rfl) (Sub.cons (d := 39) (hp896.nt 10 39 rfl rfl rfl) (Sub.cons (d := 40) (hp896.nt 11 40 rfl rfl rfl) (Sub.cons (d := 41) (hp896.nt 12 41 rfl rfl rfl) (Sub.cons (d := 44) (hp896.nt 15 44 rfl rfl rfl) (Sub.cons (d := 45) (hp896.nt 16 45 rfl rfl rfl) (Sub.cons (d := 46) (hp896.nt 17 46 rfl rfl rfl) (Sub.cons (d := 47) (hp896.nt 18 47 rfl rfl rfl) (Sub.cons (d := 50) (hp896.nt 21 50 rfl rfl rfl) (Sub.cons (d := 51) (hp896.nt 22 51 rfl rfl rfl) (Sub.cons (d := 52) (hp896.nt 23 52 rfl rfl rfl) (Sub.cons (d := 53) (hp896.nt 24 53 rfl rfl rfl) (Sub.cons (d := 54) (hp896.nt 25 54 rfl rfl rfl) (Sub.cons (d := 55) (hp896.nt 26 55 rfl rfl rfl) (Sub.cons (d := 56) (hp896.nt 27 56 rfl rfl rfl) (Sub.cons (d := 57) (hp896.nt 28 57 rfl rfl rfl) (Sub.cons (d := 58) (hp896.nt 29 58 rfl rfl rfl) (Sub.cons (d := 59) (hp896.nt 30 59 rfl rfl rfl) (Sub.cons (d := 60) (hp896.nt 31 60 rfl rfl rfl) (Sub.cons (d := 61) (hp896.nt 32 61 rfl rfl rfl) (Sub.cons (d := 62) (hp896.nt 33 62 rfl rfl rfl) (Sub.cons (d := 63) (hp896.nt 34 63 rfl rfl rfl) (Sub.cons (d := 64) (hp896.nt 35 64 rfl rfl rfl) (Sub.nil _)))))))))))))))))))))))))))))))) ?_))
          refine CW.cond_t rfl rfl (CW.seq (CW.region (sd rfl (yl_assign rfl rfl (SeqR.done (tn (CW.ret (br (tr ?_)))))))))
          refine tr ?_
          have hB932 : B_s_GoodTable_0 p_0 k30 () = .ret false := by simp only [B_s_GoodTable_0, hb16, hb23, hb25, hb105, hb110, hb116, cond_true, cond_false, loopE_done, loopE_ret]
          have hL931 : loopM (B_s_GoodTable_0 p_0) (p_0.Idxs.length - 0) 0 () = .ret false := hI82.symm.trans (loopM.ret hlt93 hB932)
          refine br (tr (rr rfl (.cons rfl .nil) ?_))
          have hM933 : (s_GoodTable p_0) = (false) := by simp only [s_GoodTable, hb16, hb23, hb25, hb105, hb110, hb116, hL931, cond_true, cond_false, loopE_done, loopE_ret]
          rw [hM933]
          exact ⟨rfl, (Ex.trans (Below.only (Ex.trans hf91 hE100) hO103 (by omega)) hE899)⟩
       ·refine CW.drawsI 36 (vgetI [DetI (.pointer (some ⟨b95, 0 + 0, none⟩)), DetI (.string (bs ((p_0.Idxs.getD k30 d_Idx).Name))), DetI (.bool ((s_l24Letters ((p_0.Idxs.getD k30 d_Idx).Name) 1))), DetI (.bool (!(s_l24Letters ((p_0.Idxs.getD k30 d_Idx).Name) 1))), DetI (.bool (!(s_l24Letters ((p_0.Idxs.getD k30 d_Idx).Name) 1))), DetI (.pointer (some ⟨b95, 0 + 1, none⟩)), DetI (.int .i64 ((p_0.Idxs.getD k30 d_Idx).Col)), DetI (.pointer (some ⟨b7, 0 + 1, none⟩)), DetI (.slice A1 p_0.Cols.length c1), DetI (.int .i64 ((p_0.Cols.length : Int))), DetI (.int .i64 (IntKind.wrap .i64 ((p_0.Cols.length : Int) - 1))), DetI (.bool ((s_l1In ((p_0.Idxs.getD k30 d_Idx).Col) 1 (IntKind.wrap .i64 ((p_0.Cols.length : Int) - 1))))), DetI (.bool (!(s_l1In ((p_0.Idxs.getD k30 d_Idx).Col) 1 (IntKind.wrap .i64 ((p_0.Cols.length : Int) - 1))))), DetI (.bool (!(s_l1In ((p_0.Idxs.getD k30 d_Idx).Col) 1 (IntKind.wrap .i64 ((p_0.Cols.length : Int) - 1))))), DetI (.bool (!(s_l1In ((p_0.Idxs.getD k30 d_Idx).Col) 1 (IntKind.wrap .i64 ((p_0.Cols.length : Int) - 1))))), DetI (undef), DetI (undef), DetI (undef), DetI (undef), DetI (.bool (true)), DetI (.bool (true)), DetI (undef), DetI (undef), DetI (undef), DetI (undef), DetI (undef), DetI (undef), DetI (undef), DetI (undef), DetI (undef), DetI (undef), DetI (undef), DetI (undef), DetI (undef), DetI (undef), DetI (.bool (true))]) Try.follows rfl rfl rfl rfl rfl rfl (vgetI_stable ⟨StableI.det _, StableI.det _, StableI.det _, StableI.det _, StableI.det _, StableI.det _, StableI.det _, StableI.det _, StableI.det _, StableI.det _, StableI.det _, StableI.det _, StableI.det _, StableI.det _, StableI.det _, StableI.det _, StableI.det _, StableI.det _, StableI.det _, StableI.det _, StableI.det _, StableI.det _, StableI.det _, StableI.det _, StableI.det _, StableI.det _, StableI.det _, StableI.det _, StableI.det _, StableI.det _, StableI.det _, StableI.det _, StableI.det _, StableI.det _, StableI.det _, StableI.det _, trivial⟩) ⟨?_, ?_, ?_, ?_, ?_, ?_, ?_, ?_, ?_, ?_, ?_, ?_, ?_, ?_, ?_, ?_, ?_, ?_, ?_, ?_, ?_, ?_, ?_, ?_, ?_, ?_, ?_, ?_, ?_, ?_, ?_, ?_, ?_, ?_, ?_, ?_, trivial⟩ ?_
        ·exact fun _ _ h => os rfl ((yl_fieldAddr Try.fd177_0 rfl (h.old 4 _ rfl rfl) kI))
        ·exact fun _ _ h => os rfl ((yl_load1 Try.ty9 rfl (h.dt 0 29 rfl rfl rfl) (((Box.ex hB102 h.ex).cell 0).trans rfl) kI))
        ·intro L952 w953 hi954
         refine OpR.op' rfl (yl_call Try.en177 rfl (opvs_cons (hi954.dt 1 30 rfl rfl rfl) (opvs_cons rfl opvs_nil)) (Cal.mono (c_s_l24Letters ((p_0.Idxs.getD k30 d_Idx).Name) 1 (okL.getD o3.2.2 ok_d_Idx _)) ?_))
         rintro v958 w957 ⟨rfl, hE959⟩
         exact ⟨rfl, hE959⟩
        ·exact fun _ _ h => os rfl ((yl_not rfl (h.dt 2 31 rfl rfl rfl) kI))
        ·exact fun _ _ h => os rfl ((yl_move rfl (h.dt 3 32 rfl rfl rfl) kI))
        ·exact fun _ _ h => OpR.want rfl rfl (h.dt 4 33 rfl rfl rfl) (not_t hb105) (Yl.sameI (yl_fieldAddr Try.fd177_1 rfl (h.old 4 _ rfl rfl) kI))
        ·exact fun _ _ h => OpR.want rfl rfl (h.dt 4 33 rfl rfl rfl) (not_t hb105) (Yl.sameI (yl_load1 Try.ty3 rfl (h.dt 5 34 rfl rfl rfl) (((Box.ex hB102 h.ex).cell 1).trans rfl) kI))
        ·exact fun _ _ h => OpR.want rfl rfl (h.dt 4 33 rfl rfl rfl) (not_t hb105) (Yl.sameI (yl_fieldAddr Try.fd59_1 rfl (h.old 1 _ rfl rfl) kI))
        ·intro L989 w990 hi991
         have hE992 := hi991.ex
         have hE992z := Ex.size hE992
         exact OpR.want rfl rfl (hi991.dt 4 33 rfl rfl rfl) (not_t hb105) (Yl.sameI (yl_load1 Try.ty45 rfl (hi991.dt 7 36 rfl rfl rfl) (((Box.ex (Box.only (Box.ex hf88 hE100) hO103 (by omega)) hE992).cell 1).trans rfl) kI))
        ·exact fun _ _ h => OpR.want rfl rfl (h.dt 4 33 rfl rfl rfl) (not_t hb105) (Yl.sameI (yl_len Try.un45 rfl (h.dt 8 37 rfl rfl rfl) kI))
        ·exact fun _ _ h => OpR.want rfl rfl (h.dt 4 33 rfl rfl rfl) (not_t hb105) (Yl.sameI (yl_sub rfl (h.dt 9 38 rfl rfl rfl) rfl kI))
        ·intro L1008 w1009 hi1010
         refine OpR.want rfl rfl (hi1010.dt 4 33 rfl rfl rfl) (not_t hb105) (yl_call Try.en50 rfl (opvs_cons (hi1010.dt 6 35 rfl rfl rfl) (opvs_cons rfl (opvs_cons (hi1010.dt 10 39 rfl rfl rfl) opvs_nil))) (Cal.mono (c_s_l1In ((p_0.Idxs.getD k30 d_Idx).Col) 1 (IntKind.wrap .i64 ((p_0.Cols.length : Int) - 1))) ?_))
         rintro v1016 w1015 ⟨rfl, hE1017⟩
         exact ⟨rfl, hE1017⟩
        ·exact fun _ _ h => OpR.want rfl rfl (h.dt 4 33 rfl rfl rfl) (not_t hb105) (Yl.sameI (yl_not rfl (h.dt 11 40 rfl rfl rfl) kI))
        ·exact fun _ _ h => os rfl ((yl_pick_f rfl (h.dt 4 33 rfl rfl rfl) (not_t hb105) (h.dt 12 41 rfl rfl rfl) kI))
        ·exact fun _ _ h => os rfl ((yl_move rfl (h.dt 13 42 rfl rfl rfl) kI))
        ·exact fun _ _ h => OpR.skip rfl rfl (h.dt 14 43 rfl rfl rfl) (not_f hb110) ⟨rfl, Ex.refl _⟩
        ·exact fun _ _ h => OpR.skip rfl rfl (h.dt 14 43 rfl rfl rfl) (not_f hb110) ⟨rfl, Ex.refl _⟩
        ·exact fun _ _ h => OpR.skip rfl rfl (h.dt 14 43 rfl rfl rfl) (not_f hb110) ⟨rfl, Ex.refl _⟩
        ·exact fun _ _ h => OpR.skip rfl rfl (h.dt 14 43 rfl rfl rfl) (not_f hb110) ⟨rfl, Ex.refl _⟩
        ·exact fun _ _ h => os rfl ((yl_pick_t rfl (h.dt 14 43 rfl rfl rfl) (not_f hb110) rfl kI))
        ·exact fun _ _ h => os rfl ((yl_move rfl (h.dt 19 48 rfl rfl rfl) kI))
        ·exact fun _ _ h => OpR.skip rfl rfl (h.dt 20 49 rfl rfl rfl) rfl ⟨rfl, Ex.refl _⟩
        ·exact fun _ _ h => OpR.skip rfl rfl (h.dt 20 49 rfl rfl rfl) rfl ⟨rfl, Ex.refl _⟩
        ·exact fun _ _ h => OpR.skip rfl rfl (h.dt 20 49 rfl rfl rfl) rfl ⟨rfl, Ex.refl _⟩
        ·exact fun _ _ h => OpR.undef rfl rfl (h.dt 23 52 rfl rfl rfl) ⟨rfl, Ex.refl _⟩
        ·exact fun _ _ h => OpR.undef rfl rfl (h.dt 23 52 rfl rfl rfl) ⟨rfl, Ex.refl _⟩
        ·exact fun _ _ h => OpR.undef rfl rfl (h.dt 23 52 rfl rfl rfl) ⟨rfl, Ex.refl _⟩
        ·exact fun _ _ h => OpR.undef rfl rfl (h.dt 23 52 rfl rfl rfl) ⟨rfl, Ex.refl _⟩
        ·exact fun _ _ h => OpR.undef rfl rfl (h.dt 23 52 rfl rfl rfl) ⟨rfl, Ex.refl _⟩
        ·exact fun _ _ h => OpR.undef rfl rfl (h.dt 23 52 rfl rfl rfl) ⟨rfl, Ex.refl _⟩
        ·exact fun _ _ h => OpR.undef rfl rfl (h.dt 23 52 rfl rfl rfl) ⟨rfl, Ex.refl _⟩
        ·exact fun _ _ h => OpR.undef rfl rfl (h.dt 23 52 rfl rfl rfl) ⟨rfl, Ex.refl _⟩
        ·exact fun _ _ h => OpR.undef rfl rfl (h.dt 23 52 rfl rfl rfl) ⟨rfl, Ex.refl _⟩
        ·exact fun _ _ h => OpR.undef rfl rfl (h.dt 23 52 rfl rfl rfl) ⟨rfl, Ex.refl _⟩
        ·exact fun _ _ h => OpR.skip rfl rfl (h.dt 20 49 rfl rfl rfl) rfl ⟨rfl, Ex.refl _⟩
        ·exact fun _ _ h => os rfl ((yl_pick_t rfl (h.dt 20 49 rfl rfl rfl) rfl rfl kI))
        ·intro fl1145 fh1146 L1142 w1143 hp1144
         have hE1147 := hp1144.ex
         have hE1147z := Ex.size hE1147
         refine SeqR.done (tn (CW.sub (Sub.cons (d := 1) (hp1144.old 1 _ rfl rfl) (Sub.cons (d := 22) (hp1144.old 22 _ rfl rfl) (Sub.cons (d := 23) (hp1144.old 23 _ rfl rfl) (Sub.cons (d := 24) (hp1144.old 24 _ rfl rfl) (Sub.cons (d := 34) (hp1144.nt 5 34 rfl rfl rfl) (Sub.cons (d := 35) (hp1144.nt 6 35 rfl rfl rfl) (Sub.cons (d := 36) (hp1144.nt 7 36 rfl rfl rfl) (Sub.cons (d := 37) (hp1144.nt 8 37 rfl rfl rfl) (Sub.cons (d := 38) (hp1144.nt 9 38 rfl rfl rfl) (Sub.cons (d := 39) (hp1144.nt 10 39 rfl rfl rfl) (Sub.cons (d := 40) (hp1144.nt 11 40 rfl rfl rfl) (Sub.cons (d := 41) (hp1144.nt 12 41 rfl rfl rfl) (Sub.cons (d := 44) (hp1144.nt 15 44 rfl rfl rfl) (Sub.cons (d := 45) (hp1144.nt 16 45 rfl rfl rfl) (Sub.cons (d := 46) (hp1144.nt 17 46 rfl rfl rfl) (Sub.cons (d := 47) (hp1144.nt 18 47 rfl rfl rfl) (Sub.cons (d := 50) (hp1144.nt 21 50 rfl rfl rfl) (Sub.cons (d := 51) (hp1144.nt 22 51 rfl rfl rfl) (Sub.cons (d := 52) (hp1144.nt 23 52 rfl rfl rfl) (Sub.cons (d := 53) (hp1144.nt 24 53 rfl rfl rfl) (Sub.cons (d := 54) (hp1144.nt 25 54 rfl rfl rfl) (Sub.cons (d := 55) (hp1144.nt 26 55 rfl rfl rfl) (Sub.cons (d := 56) (hp1144.nt 27 56 rfl rfl rfl) (Sub.cons (d := 57) (hp1144.nt 28 57 rfl rfl rfl) (Sub.cons (d := 58) (hp1144.nt 29 58 rfl rfl rfl) (Sub.cons (d := 59) (hp1144.nt 30 59 rfl rfl rfl) (Sub.cons (d := 60) (hp1144.nt 31 60 rfl rfl rfl) (Sub.cons (d := 61) (hp1144.nt 32 61 rfl rfl rfl) (Sub.cons (d := 62) (hp1144.nt 33 62 rfl rfl rfl) (Sub.cons (d := 63) (hp1144.nt 34 63 rfl rfl rfl) (Sub.cons (d := 64) (hp1144.nt 35 64 rfl rfl rfl) (Sub.nil _)))))))))))))))))))))))))))))))) ?_))
         refine CW.cond_t rfl rfl (CW.seq (CW.region (sd rfl (yl_assign rfl rfl (SeqR.done (tn (CW.ret (br (tr ?_)))))))))
         refine tr ?_
         have hB1180 : B_s_GoodTable_0 p_0 k30 () = .ret false := by simp only [B_s_GoodTable_0, hb16, hb23, hb25, hb105, hb110, cond_true, cond_false, loopE_done, loopE_ret]
         have hL1179 : loopM (B_s_GoodTable_0 p_0) (p_0.Idxs.length - 0) 0 () = .ret false := hI82.symm.trans (loopM.ret hlt93 hB1180)
         refine br (tr (rr rfl (.cons rfl .nil) ?_))
         have hM1181 : (s_GoodTable p_0) = (false) := by simp only [s_GoodTable, hb16, hb23, hb25, hb105, hb110, hL1179, cond_true, cond_false, loopE_done, loopE_ret]
         rw [hM1181]
         exact ⟨rfl, (Ex.trans (Below.only (Ex.trans hf91 hE100) hO103 (by omega)) hE1147)⟩
      ·refine CW.drawsI 36 (vgetI [DetI (.pointer (some ⟨b95, 0 + 0, none⟩)), DetI (.string (bs ((p_0.Idxs.getD k30 d_Idx).Name))), DetI (.bool ((s_l24Letters ((p_0.Idxs.getD k30 d_Idx).Name) 1))), DetI (.bool (!(s_l24Letters ((p_0.Idxs.getD k30 d_Idx).Name) 1))), DetI (.bool (!(s_l24Letters ((p_0.Idxs.getD k30 d_Idx).Name) 1))), DetI (undef), DetI (undef), DetI (undef), DetI (undef), DetI (undef), DetI (undef), DetI (undef), DetI (undef), DetI (.bool (true)), DetI (.bool (true)), DetI (undef), DetI (undef), DetI (undef), DetI (undef), DetI (.bool (true)), DetI (.bool (true)), DetI (undef), DetI (undef), DetI (undef), DetI (undef), DetI (undef), DetI (undef), DetI (undef), DetI (undef), DetI (undef), DetI (undef), DetI (undef), DetI (undef), DetI (undef), DetI (undef), DetI (.bool (true))]) Try.follows rfl rfl rfl rfl rfl rfl (vgetI_stable ⟨StableI.det _, StableI.det _, StableI.det _, StableI.det _, StableI.det _, StableI.det _, StableI.det _, StableI.det _, StableI.det _, StableI.det _, StableI.det _, StableI.det _, StableI.det _, StableI.det _, StableI.det _, StableI.det _, StableI.det _, StableI.det _, StableI.det _, StableI.det _, StableI.det _, StableI.det _, StableI.det _, StableI.det _, StableI.det _, StableI.det _, StableI.det _, StableI.det _, StableI.det _, StableI.det _, StableI.det _, StableI.det _, StableI.det _, StableI.det _, StableI.det _, StableI.det _, trivial⟩) ⟨?_, ?_, ?_, ?_, ?_, ?_, ?_, ?_, ?_, ?_, ?_, ?_, ?_, ?_, ?_, ?_, ?_, ?_, ?_, ?_, ?_, ?_, ?_, ?_, ?_, ?_, ?_, ?_, ?_, ?_, ?_, ?_, ?_, ?_, ?_, ?_, trivial⟩ ?_
       ·exact fun _ _ h => os rfl ((yl_fieldAddr Try.fd177_0 rfl (h.old 4 _ rfl rfl) kI))
       ·exact fun _ _ h => os rfl ((yl_load1 Try.ty9 rfl (h.dt 0 29 rfl rfl rfl) (((Box.ex hB102 h.ex).cell 0).trans rfl) kI))
       ·intro L1197 w1198 hi1199
        refine OpR.op' rfl (yl_call Try.en177 rfl (opvs_cons (hi1199.dt 1 30 rfl rfl rfl) (opvs_cons rfl opvs_nil)) (Cal.mono (c_s_l24Letters ((p_0.Idxs.getD k30 d_Idx).Name) 1 (okL.getD o3.2.2 ok_d_Idx _)) ?_))
        rintro v1203 w1202 ⟨rfl, hE1204⟩
        exact ⟨rfl, hE1204⟩
       ·exact fun _ _ h => os rfl ((yl_not rfl (h.dt 2 31 rfl rfl rfl) kI))
       ·exact fun _ _ h => os rfl ((yl_move rfl (h.dt 3 32 rfl rfl rfl) kI))
       ·exact fun _ _ h => OpR.skip rfl rfl (h.dt 4 33 rfl rfl rfl) (not_f hb105) ⟨rfl, Ex.refl _⟩
       ·exact fun _ _ h => OpR.skip rfl rfl (h.dt 4 33 rfl rfl rfl) (not_f hb105) ⟨rfl, Ex.refl _⟩
       ·exact fun _ _ h => OpR.skip rfl rfl (h.dt 4 33 rfl rfl rfl) (not_f hb105) ⟨rfl, Ex.refl _⟩
       ·exact fun _ _ h => OpR.skip rfl rfl (h.dt 4 33 rfl rfl rfl) (not_f hb105) ⟨rfl, Ex.refl _⟩
       ·exact fun _ _ h => OpR.skip rfl rfl (h.dt 4 33 rfl rfl rfl) (not_f hb105) ⟨rfl, Ex.refl _⟩
       ·exact fun _ _ h => OpR.skip rfl rfl (h.dt 4 33 rfl rfl rfl) (not_f hb105) ⟨rfl, Ex.refl _⟩
       ·exact fun _ _ h => OpR.skip rfl rfl (h.dt 4 33 rfl rfl rfl) (not_f hb105) ⟨rfl, Ex.refl _⟩
       ·exact fun _ _ h => OpR.skip rfl rfl (h.dt 4 33 rfl rfl rfl) (not_f hb105) ⟨rfl, Ex.refl _⟩
       ·exact fun _ _ h => os rfl ((yl_pick_t rfl (h.dt 4 33 rfl rfl rfl) (not_f hb105) rfl kI))
       ·exact fun _ _ h => os rfl ((yl_move rfl (h.dt 13 42 rfl rfl rfl) kI))
       ·exact fun _ _ h => OpR.skip rfl rfl (h.dt 14 43 rfl rfl rfl) rfl ⟨rfl, Ex.refl _⟩
       ·exact fun _ _ h => OpR.skip rfl rfl (h.dt 14 43 rfl rfl rfl) rfl ⟨rfl, Ex.refl _⟩
       ·exact fun _ _ h => OpR.skip rfl rfl (h.dt 14 43 rfl rfl rfl) rfl ⟨rfl, Ex.refl _⟩
       ·exact fun _ _ h => OpR.skip rfl rfl (h.dt 14 43 rfl rfl rfl) rfl ⟨rfl, Ex.refl _⟩
       ·exact fun _ _ h => os rfl ((yl_pick_t rfl (h.dt 14 43 rfl rfl rfl) rfl rfl kI))
       ·exact fun _ _ h => os rfl ((yl_move rfl (h.dt 19 48 rfl rfl rfl) kI))
       ·exact fun _ _ h => OpR.skip rfl rfl (h.dt 20 49 rfl rfl rfl) rfl ⟨rfl, Ex.refl _⟩
       ·exact fun _ _ h => OpR.skip rfl rfl (h.dt 20 49 rfl rfl rfl) rfl ⟨rfl, Ex.refl _⟩
       ·exact fun _ _ h => OpR.skip rfl rfl (h.dt 20 49 rfl rfl rfl) rfl ⟨rfl, Ex.refl _⟩
       ·exact fun _ _ h => OpR.undef rfl rfl (h.dt 23 52 rfl rfl rfl) ⟨rfl, Ex.refl _⟩
       ·exact fun _ _ h => OpR.undef rfl rfl (h.dt 23 52 rfl rfl rfl) ⟨rfl, Ex.refl _⟩
       ·exact fun _ _ h => OpR.undef rfl rfl (h.dt 23 52 rfl rfl rfl) ⟨rfl, Ex.refl _⟩
       ·exact fun _ _ h => OpR.undef rfl rfl (h.dt 23 52 rfl rfl rfl) ⟨rfl, Ex.refl _⟩
       ·exact fun _ _ h => OpR.undef rfl rfl (h.dt 23 52 rfl rfl rfl) ⟨rfl, Ex.refl _⟩
       ·exact fun _ _ h => OpR.undef rfl rfl (h.dt 23 52 rfl rfl rfl) ⟨rfl, Ex.refl _⟩
       ·exact fun _ _ h => OpR.undef rfl rfl (h.dt 23 52 rfl rfl rfl) ⟨rfl, Ex.refl _⟩
       ·exact fun _ _ h => OpR.undef rfl rfl (h.dt 23 52 rfl rfl rfl) ⟨rfl, Ex.refl _⟩
       ·exact fun _ _ h => OpR.undef rfl rfl (h.dt 23 52 rfl rfl rfl) ⟨rfl, Ex.refl _⟩
       ·exact fun _ _ h => OpR.undef rfl rfl (h.dt 23 52 rfl rfl rfl) ⟨rfl, Ex.refl _⟩
       ·exact fun _ _ h => OpR.skip rfl rfl (h.dt 20 49 rfl rfl rfl) rfl ⟨rfl, Ex.refl _⟩
       ·exact fun _ _ h => os rfl ((yl_pick_t rfl (h.dt 20 49 rfl rfl rfl) rfl rfl kI))
       ·intro fl1376 fh1377 L1373 w1374 hp1375
        have hE1378 := hp1375.ex
        have hE1378z := Ex.size hE1378
        refine SeqR.done (tn (CW.sub (Sub.cons (d := 1) (hp1375.old 1 _ rfl rfl) (Sub.cons (d := 22) (hp1375.old 22 _ rfl rfl) (Sub.cons (d := 23) (hp1375.old 23 _ rfl rfl) (Sub.cons (d := 24) (hp1375.old 24 _ rfl rfl) (Sub.cons (d := 34) (hp1375.nt 5 34 rfl rfl rfl) (Sub.cons (d := 35) (hp1375.nt 6 35 rfl rfl rfl) (Sub.cons (d := 36) (hp1375.nt 7 36 rfl rfl rfl) (Sub.cons (d := 37) (hp1375.nt 8 37 rfl rfl rfl) (Sub.cons (d := 38) (hp1375.nt 9 38 rfl rfl rfl) (Sub.cons (d := 39) (hp1375.nt 10 39 rfl rfl rfl) (Sub.cons (d := 40) (hp1375.nt 11 40 rfl rfl rfl) (Sub.cons (d := 41) (hp1375.nt 12 41 rfl rfl rfl) (Sub.cons (d := 44) (hp1375.nt 15 44 rfl rfl rfl) (Sub.cons (d := 45) (hp1375.nt 16 45 rfl rfl rfl) (Sub.cons (d := 46) (hp1375.nt 17 46 rfl rfl rfl) (Sub.cons (d := 47) (hp1375.nt 18 47 rfl rfl rfl) (Sub.cons (d := 50) (hp1375.nt 21 50 rfl rfl rfl) (Sub.cons (d := 51) (hp1375.nt 22 51 rfl rfl rfl) (Sub.cons (d := 52) (hp1375.nt 23 52 rfl rfl rfl) (Sub.cons (d := 53) (hp1375.nt 24 53 rfl rfl rfl) (Sub.cons (d := 54) (hp1375.nt 25 54 rfl rfl rfl) (Sub.cons (d := 55) (hp1375.nt 26 55 rfl rfl rfl) (Sub.cons (d := 56) (hp1375.nt 27 56 rfl rfl rfl) (Sub.cons (d := 57) (hp1375.nt 28 57 rfl rfl rfl) (Sub.cons (d := 58) (hp1375.nt 29 58 rfl rfl rfl) (Sub.cons (d := 59) (hp1375.nt 30 59 rfl rfl rfl) (Sub.cons (d := 60) (hp1375.nt 31 60 rfl rfl rfl) (Sub.cons (d := 61) (hp1375.nt 32 61 rfl rfl rfl) (Sub.cons (d := 62) (hp1375.nt 33 62 rfl rfl rfl) (Sub.cons (d := 63) (hp1375.nt 34 63 rfl rfl rfl) (Sub.cons (d := 64) (hp1375.nt 35 64 rfl rfl rfl) (Sub.nil _)))))))))))))))))))))))))))))))) ?_))
        refine CW.cond_t rfl rfl (CW.seq (CW.region (sd rfl (yl_assign rfl rfl (SeqR.done (tn (CW.ret (br (tr ?_)))))))))
        refine tr ?_
        have hB1411 : B_s_GoodTable_0 p_0 k30 () = .ret false := by simp only [B_s_GoodTable_0, hb16, hb23, hb25, hb105, cond_true, cond_false, loopE_done, loopE_ret]
        have hL1410 : loopM (B_s_GoodTable_0 p_0) (p_0.Idxs.length - 0) 0 () = .ret false := hI82.symm.trans (loopM.ret hlt93 hB1411)
        refine br (tr (rr rfl (.cons rfl .nil) ?_))
        have hM1412 : (s_GoodTable p_0) = (false) := by simp only [s_GoodTable, hb16, hb23, hb25, hb105, hL1410, cond_true, cond_false, loopE_done, loopE_ret]
        rw [hM1412]
        exact ⟨rfl, (Ex.trans (Below.only (Ex.trans hf91 hE100) hO103 (by omega)) hE1378)⟩
     ·refine CW.seq (CW.region (sd rfl (yl_lss rfl rfl rfl (SeqR.done (tn (CW.seq (CW.cond_f rfl (lt_f hlt93) (CW.exit (tx ?_)))))))))
      refine tx ?_
      have hL1416 : loopM (B_s_GoodTable_0 p_0) (p_0.Idxs.length - 0) 0 () = .done () := hI82.symm.trans (loopM.stop hlt93)
      refine bx (tn (CW.seq (CW.region (sd rfl (yl_assign rfl rfl (SeqR.done (tn (CW.ret (rr rfl (.cons rfl .nil) ?_)))))))))
      have hM1417 : (s_GoodTable p_0) = (true) := by simp only [s_GoodTable, hb16, hb23, hb25, hL1416, cond_true, cond_false, loopE_done, loopE_ret]
      rw [hM1417]
      exact ⟨rfl, hf91⟩
  ·refine sz rfl rfl (not_f hb23) (sz rfl rfl (not_f hb23) (sz rfl rfl (not_f hb23) (sz rfl rfl (not_f hb23) (sd rfl (yl_pick_t rfl rfl (not_f hb23) rfl (SeqR.done (tn (CW.cond_t rfl rfl (CW.seq ?_)))))))))
   refine CW.region (sd rfl (yl_assign rfl rfl (SeqR.done (tn (CW.ret (tr (rr rfl (.cons rfl .nil) ?_)))))))
   have hM1418 : (s_GoodTable p_0) = (false) := by simp only [s_GoodTable, hb16, hb23, cond_true, cond_false, loopE_done, loopE_ret]
   rw [hM1418]
   exact ⟨rfl, (Ex.trans (Ex.trans (Ex.trans (Ex.refl w) hE12) hE15) hE22)⟩
 ·refine sz rfl rfl (not_f hb16) (sz rfl rfl (not_f hb16) (sz rfl rfl (not_f hb16) (sz rfl rfl (not_f hb16) (sd rfl (yl_pick_t rfl rfl (not_f hb16) rfl (sd rfl (yl_move rfl rfl (sz rfl rfl rfl (sz rfl rfl rfl (sz rfl rfl rfl ?_))))))))))
  refine sz rfl rfl rfl (sd rfl (yl_pick_t rfl rfl rfl rfl (SeqR.done (tn (CW.cond_t rfl rfl (CW.seq (CW.region (sd rfl (yl_assign rfl rfl (SeqR.done ?_))))))))))
  refine tn (CW.ret (tr (rr rfl (.cons rfl .nil) ?_)))
  have hM1422 : (s_GoodTable p_0) = (false) := by simp only [s_GoodTable, hb16, cond_true, cond_false, loopE_done, loopE_ret]
  rw [hM1422]
  exact ⟨rfl, (Ex.trans (Ex.trans (Ex.refl w) hE12) hE15)⟩
set_option maxRecDepth 100000 in
set_option maxHeartbeats 2000000 in
theorem c_s_l24SameCols {A1 : Option Addr} {c1 : Nat} {A2 : Option Addr} {c2 : Nat} {A4 : Option Addr} {c4 : Nat} {A5 : Option Addr} {c5 : Nat} {w : World} (p_0 : DTable) (p_1 : DTable) (h1 : RdS w (Iv 0 w.heap.size) (RF e_Str) 1 A1 p_0.Cols.length c1 p_0.Cols) (h2 : RdS w (Iv 0 w.heap.size) (RF e_Idx) 3 A2 p_0.Idxs.length c2 p_0.Idxs) (h4 : RdS w (Iv 0 w.heap.size) (RF e_Str) 1 A4 p_1.Cols.length c4 p_1.Cols) (h5 : RdS w (Iv 0 w.heap.size) (RF e_Idx) 3 A5 p_1.Idxs.length c5 p_1.Idxs) (o3 : ok_Table p_0) (o6 : ok_Table p_1) : Cal Try.prog 193 #[.agg #[.string (bs (p_0.Name)), .slice A1 p_0.Cols.length c1, .slice A2 p_0.Idxs.length c2], .agg #[.string (bs (p_1.Name)), .slice A4 p_1.Cols.length c4, .slice A5 p_1.Idxs.length c5]] w fun v w' => v = .bool ((s_l24SameCols p_0 p_1)) ∧ Ex w w' := by
 have hol7 : p_0.Name.length ≤ 1073741824 := o3.1
 have hol8 := o3.2.1.1
 have hol9 := o3.2.2.1
 have hol10 : p_1.Name.length ≤ 1073741824 := o6.1
 have hol11 := o6.2.1.1
 have hol12 := o6.2.2.1
 refine Cal.of (vs := [.agg #[.string (bs (p_0.Name)), .slice A1 p_0.Cols.length c1, .slice A2 p_0.Idxs.length c2], .agg #[.string (bs (p_1.Name)), .slice A4 p_1.Cols.length c4, .slice A5 p_1.Idxs.length c5]]) Try.func193 rfl Try.ntmps193 rfl (CW.seq (CW.region (sd rfl (yl_box (cs := [.string (bs (p_0.Name)), .slice A1 p_0.Cols.length c1, .slice A2 p_0.Idxs.length c2]) rfl rfl rfl ?_))))
 intro b13 w14 hs15 hz16 hB17 hE18
 refine sd rfl (yl_box (cs := [.string (bs (p_1.Name)), .slice A4 p_1.Cols.length c4, .slice A5 p_1.Idxs.length c5]) rfl rfl rfl ?_)
 intro b19 w20 hs21 hz22 hB23 hE24
 refine sd rfl (yl_assign rfl rfl (SeqR.done (tn (CW.seq (CW.seq (CW.region (sd rfl (yl_fieldAddr Try.fd59_0 rfl rfl ?_))))))))
 have q25 := Box.ex hB17 hE24
 refine sd rfl (yl_load1 Try.ty9 rfl rfl ((q25.cell 0).trans rfl) (sd rfl (yl_fieldAddr Try.fd59_0 rfl rfl (sd rfl (yl_load1 Try.ty9 rfl rfl ((hB23.cell 0).trans rfl) (sd rfl (yl_sneq (a := p_0.Name) (b := p_1.Name) rfl rfl rfl (sd rfl (yl_move rfl rfl (bcase (p_0.Name == p_1.Name) (fun hb26 => ?_) (fun hb26 => ?_)))))))))))
 ·refine sy rfl rfl (not_t hb26) (yl_fieldAddr Try.fd59_1 rfl rfl (sy rfl rfl (not_t hb26) (yl_load1 Try.ty45 rfl rfl ((q25.cell 1).trans rfl) (sy rfl rfl (not_t hb26) (yl_len Try.un45 rfl rfl (sy rfl rfl (not_t hb26) (yl_fieldAddr Try.fd59_1 rfl rfl (sy rfl rfl (not_t hb26) (yl_load1 Try.ty45 rfl rfl ((hB23.cell 1).trans rfl) (sy rfl rfl (not_t hb26) (yl_len Try.un45 rfl rfl (sy rfl rfl (not_t hb26) (yl_neq rfl rfl rfl (sd rfl (yl_pick_f rfl rfl (not_t hb26) rfl (sd rfl (yl_move rfl rfl ?_)))))))))))))))))
  refine bcase (decide ((p_0.Cols.length : Int) = (p_1.Cols.length : Int))) (fun hb27 => ?_) (fun hb27 => ?_)
  ·have hb27p := dec_t hb27
   refine sy rfl rfl (not_t hb27) (yl_fieldAddr Try.fd59_2 rfl rfl (sy rfl rfl (not_t hb27) (yl_load1 Try.ty57 rfl rfl ((q25.cell 2).trans rfl) (sy rfl rfl (not_t hb27) (yl_len Try.un57 rfl rfl (sy rfl rfl (not_t hb27) (yl_fieldAddr Try.fd59_2 rfl rfl (sy rfl rfl (not_t hb27) (yl_load1 Try.ty57 rfl rfl ((hB23.cell 2).trans rfl) (sy rfl rfl (not_t hb27) (yl_len Try.un57 rfl rfl (sy rfl rfl (not_t hb27) (yl_neq rfl rfl rfl (sd rfl (yl_pick_f rfl rfl (not_t hb27) rfl (SeqR.done ?_))))))))))))))))
   refine tn (bcase (decide ((p_0.Idxs.length : Int) = (p_1.Idxs.length : Int))) (fun hb28 => ?_) (fun hb28 => ?_))
   ·have hb28p := dec_t hb28
    refine CW.cond_f rfl (not_t hb28) (CW.skip (tn (CW.seq (CW.seq (CW.region (sd rfl (yl_fieldAddr Try.fd59_1 rfl rfl (sd rfl (yl_load1 Try.ty45 rfl rfl ((q25.cell 1).trans rfl) (sd rfl (yl_len Try.un45 rfl rfl ?_)))))))))))
    refine sd rfl (yl_move rfl rfl (SeqR.done (tn (CW.block (CW.loop (fun m30 L31 w32 => ∃ (k29 : Nat), m30 = p_0.Cols.length - k29 ∧ k29 ≤ p_0.Cols.length ∧ w20.heap.size ≤ w32.heap.size ∧ lkp L31 2 = some (.pointer (some ⟨b13, 0, none⟩)) ∧ lkp L31 3 = some (.pointer (some ⟨b19, 0, none⟩)) ∧ lkp L31 32 = some (.int .i64 ((p_0.Cols.length : Int))) ∧ lkp L31 33 = some (.int .i64 ((k29 : Int))) ∧ Box w32 b13 59 [.string (bs (p_0.Name)), .slice A1 p_0.Cols.length c1, .slice A2 p_0.Idxs.length c2] ∧ RdS w32 (Iv 0 w.heap.size) (RF e_Str) 1 A1 p_0.Cols.length c1 p_0.Cols ∧ RdS w32 (Iv 0 w.heap.size) (RF e_Idx) 3 A2 p_0.Idxs.length c2 p_0.Idxs ∧ Box w32 b19 59 [.string (bs (p_1.Name)), .slice A4 p_1.Cols.length c4, .slice A5 p_1.Idxs.length c5] ∧ RdS w32 (Iv 0 w.heap.size) (RF e_Str) 1 A4 p_1.Cols.length c4 p_1.Cols ∧ RdS w32 (Iv 0 w.heap.size) (RF e_Idx) 3 A5 p_1.Idxs.length c5 p_1.Idxs ∧ Ex w w32 ∧ loopM (B_s_l24SameCols_0 p_0 p_1) (p_0.Cols.length - k29) k29 () = loopM (B_s_l24SameCols_0 p_0 p_1) (p_0.Cols.length - 0) 0 ()) (p_0.Cols.length - 0) ?_ ?_)))))
    ·exact ⟨0, rfl, (by omega), Nat.le_refl _, rfl, rfl, rfl, rfl, q25, (RdS.ex good_Str (RdS.ex good_Str h1 hE18) hE24), (RdS.ex good_Idx (RdS.ex good_Idx h2 hE18) hE24), hB23, (RdS.ex good_Str (RdS.ex good_Str h4 hE18) hE24), (RdS.ex good_Idx (RdS.ex good_Idx h5 hE18) hE24), (Ex.trans (Ex.trans (Ex.refl w) hE18) hE24), rfl⟩
    ·rintro m43 L44 w45 ⟨k29, rfl, hk46, hsz48, hl49, hl50, hl51, hl52, hf53, hf54, hf55, hf56, hf57, hf58, hf59, hI47⟩
     refine CW.sub (Sub.cons hl49 (Sub.cons hl50 (Sub.cons hl51 (Sub.cons hl52 (Sub.nil _))))) ?_
     have hf53z := Box.lt hf53
     have hf56z := Box.lt hf56
     have hf59z := Ex.size hf59
     have hbg60 := RdS.big hf54
     rcases Nat.lt_or_ge k29 p_0.Cols.length with hlt61 | hlt61
     ·refine CW.seq (CW.region (sd rfl (yl_lss rfl rfl rfl (SeqR.done (tn (CW.seq (CW.cond_t rfl (lt_t hlt61) (CW.skip (tn ?_)))))))))
      refine CW.seq (CW.block (CW.seq (CW.region (sd rfl (yl_move rfl rfl (sd rfl (yl_assign rfl rfl (SeqR.done (tn (CW.seq ?_))))))))))
      obtain ⟨eb62, eo62, ec62, eA62, eS62, ebl62, el62, eR62, eC62⟩ := RdS.atD hf54 d_Str (i := k29) (by first | omega | assumption)
      obtain rfl := eR62
      have eC62 : Cells w45 eb62 (eo62 + k29 * 1) [.string (bs ((p_0.Cols.getD k29 d_Str)))] := eC62
      obtain ⟨eb63, eo63, ec63, eA63, eS63, ebl63, el63, eR63, eC63⟩ := RdS.atD hf57 d_Str (i := k29) (by first | omega | assumption)
      obtain rfl := eR63
      have eC63 : Cells w45 eb63 (eo63 + k29 * 1) [.string (bs ((p_1.Cols.getD k29 d_Str)))] := eC63
      refine CW.drawsI 11 (vgetI [DetI (.pointer (some ⟨b13, 0 + 1, none⟩)), DetI (.slice A1 p_0.Cols.length c1), DetI (.int .i64 ((k29 : Int))), DetI (.pointer (some ⟨eb62, eo62 + k29 * 1, none⟩)), DetI (.string (bs ((p_0.Cols.getD k29 d_Str)))), DetI (.pointer (some ⟨b19, 0 + 1, none⟩)), DetI (.slice A4 p_1.Cols.length c4), DetI (.int .i64 ((k29 : Int))), DetI (.pointer (some ⟨eb63, eo63 + k29 * 1, none⟩)), DetI (.string (bs ((p_1.Cols.getD k29 d_Str)))), DetI (.bool (!((p_0.Cols.getD k29 d_Str) == (p_1.Cols.getD k29 d_Str))))]) Try.follows rfl rfl rfl rfl rfl rfl (vgetI_stable ⟨StableI.det _, StableI.det _, StableI.det _, StableI.det _, StableI.det _, StableI.det _, StableI.det _, StableI.det _, StableI.det _, StableI.det _, StableI.det _, trivial⟩) ⟨?_, ?_, ?_, ?_, ?_, ?_, ?_, ?_, ?_, ?_, ?_, trivial⟩ ?_
      ·exact fun _ _ h => os rfl ((yl_fieldAddr Try.fd59_1 rfl (h.old 2 _ rfl rfl) kI))
      ·exact fun _ _ h => os rfl ((yl_load1 Try.ty45 rfl (h.dt 0 36 rfl rfl rfl) (((Box.ex hf53 h.ex).cell 1).trans rfl) kI))
      ·exact fun _ _ h => os rfl ((yl_move rfl (h.old 5 _ rfl rfl) kI))
      ·intro L80 w81 hi82
       have hE83 := hi82.ex
       have hE83z := Ex.size hE83
       exact os rfl ((yl_indexAddrN Try.un45 Try.ty9 rfl (hi82.dt 1 37 rfl rfl rfl) (hi82.dt 2 38 rfl rfl rfl) eA62 (by first | omega | assumption | (simp only [IntKind.wrap_i64] at *; omega)) kI))
      ·exact fun _ _ h => os rfl ((yl_load1 Try.ty9 rfl (h.dt 3 39 rfl rfl rfl) ((Cells.ex eC62 h.ex) 0 _ rfl) kI))
      ·exact fun _ _ h => os rfl ((yl_fieldAddr Try.fd59_1 rfl (h.old 3 _ rfl rfl) kI))
      ·exact fun _ _ h => os rfl ((yl_load1 Try.ty45 rfl (h.dt 5 41 rfl rfl rfl) (((Box.ex hf56 h.ex).cell 1).trans rfl) kI))
      ·exact fun _ _ h => os rfl ((yl_move rfl (h.old 5 _ rfl rfl) kI))
      ·intro L108 w109 hi110
       have hE111 := hi110.ex
       have hE111z := Ex.size hE111
       exact os rfl ((yl_indexAddrN Try.un45 Try.ty9 rfl (hi110.dt 6 42 rfl rfl rfl) (hi110.dt 7 43 rfl rfl rfl) eA63 (by first | omega | assumption | (simp only [IntKind.wrap_i64] at *; omega)) kI))
      ·exact fun _ _ h => os rfl ((yl_load1 Try.ty9 rfl (h.dt 8 44 rfl rfl rfl) ((Cells.ex eC63 h.ex) 0 _ rfl) kI))
      ·exact fun _ _ h => os rfl ((yl_sneq (a := (p_0.Cols.getD k29 d_Str)) (b := (p_1.Cols.getD k29 d_Str)) rfl (h.dt 4 40 rfl rfl rfl) (h.dt 9 45 rfl rfl rfl) kI))
      ·intro fl129 fh130 L126 w127 hp128
       have hE131 := hp128.ex
       have hE131z := Ex.size hE131
       refine SeqR.done (tn (CW.sub (Sub.cons (d := 2) (hp128.old 2 _ rfl rfl) (Sub.cons (d := 3) (hp128.old 3 _ rfl rfl) (Sub.cons (d := 32) (hp128.old 32 _ rfl rfl) (Sub.cons (d := 33) (hp128.old 33 _ rfl rfl) (Sub.cons (d := 46) (hp128.nt 10 46 rfl rfl rfl) (Sub.nil _)))))) (bcase ((p_0.Cols.getD k29 d_Str) == (p_1.Cols.getD k29 d_Str)) (fun hb137 => ?_) (fun hb137 => ?_))))
       ·refine CW.cond_f rfl (not_t hb137) (CW.skip (bn (tn (CW.region (sd rfl (yl_inc rfl rfl rfl (by omega) (sd rfl (yl_move rfl rfl (SeqR.done (tn ?_))))))))))
        have hB138 : B_s_l24SameCols_0 p_0 p_1 k29 () = .cont () := by simp only [B_s_l24SameCols_0, hb26, hb27, hb28, hb137, cond_true, cond_false, loopE_done, loopE_ret]
        exact ⟨p_0.Cols.length - (k29 + 1), by omega, k29 + 1, rfl, hlt61, (by omega), rfl, rfl, rfl, rfl, (Box.ex hf53 hE131), (RdS.ex good_Str hf54 hE131), (RdS.ex good_Idx hf55 hE131), (Box.ex hf56 hE131), (RdS.ex good_Str hf57 hE131), (RdS.ex good_Idx hf58 hE131), (Ex.trans hf59 hE131), (loopM.cont hlt61 hB138).symm.trans hI47⟩
       ·refine CW.cond_t rfl (not_f hb137) (CW.seq (CW.region (sd rfl (yl_assign rfl rfl (SeqR.done (tn (CW.ret (br (tr ?_)))))))))
        refine tr ?_
        have hB147 : B_s_l24SameCols_0 p_0 p_1 k29 () = .ret false := by simp only [B_s_l24SameCols_0, hb26, hb27, hb28, hb137, cond_true, cond_false, loopE_done, loopE_ret]
        have hL146 : loopM (B_s_l24SameCols_0 p_0 p_1) (p_0.Cols.length - 0) 0 () = .ret false := hI47.symm.trans (loopM.ret hlt61 hB147)
        refine br (tr (rr rfl (.cons rfl .nil) ?_))
        have hM148 : (s_l24SameCols p_0 p_1) = (false) := by simp only [s_l24SameCols, hb26, hb27, hb28, hb137, hL146, cond_true, cond_false, loopE_done, loopE_ret]
        rw [hM148]
        exact ⟨rfl, (Ex.trans hf59 hE131)⟩
     ·refine CW.seq (CW.region (sd rfl (yl_lss rfl rfl rfl (SeqR.done (tn (CW.seq (CW.cond_f rfl (lt_f hlt61) (CW.exit (tx ?_)))))))))
      refine tx ?_
      have hL150 : loopM (B_s_l24SameCols_0 p_0 p_1) (p_0.Cols.length - 0) 0 () = .done () := hI47.symm.trans (loopM.stop hlt61)
      refine bx (tn (CW.seq (CW.seq (CW.region (sd rfl (yl_fieldAddr Try.fd59_2 rfl rfl (sd rfl (yl_load1 Try.ty57 rfl rfl ((hf53.cell 2).trans rfl) (sd rfl (yl_len Try.un57 rfl rfl (sd rfl (yl_move rfl rfl ?_))))))))))))
      refine SeqR.done (tn (CW.block (CW.loop (fun m152 L153 w154 => ∃ (k151 : Nat), m152 = p_0.Idxs.length - k151 ∧ k151 ≤ p_0.Idxs.length ∧ w45.heap.size ≤ w154.heap.size ∧ lkp L153 2 = some (.pointer (some ⟨b13, 0, none⟩)) ∧ lkp L153 3 = some (.pointer (some ⟨b19, 0, none⟩)) ∧ lkp L153 50 = some (.int .i64 ((p_0.Idxs.length : Int))) ∧ lkp L153 51 = some (.int .i64 ((k151 : Int))) ∧ Box w154 b13 59 [.string (bs (p_0.Name)), .slice A1 p_0.Cols.length c1, .slice A2 p_0.Idxs.length c2] ∧ RdS w154 (Iv 0 w.heap.size) (RF e_Str) 1 A1 p_0.Cols.length c1 p_0.Cols ∧ RdS w154 (Iv 0 w.heap.size) (RF e_Idx) 3 A2 p_0.Idxs.length c2 p_0.Idxs ∧ Box w154 b19 59 [.string (bs (p_1.Name)), .slice A4 p_1.Cols.length c4, .slice A5 p_1.Idxs.length c5] ∧ RdS w154 (Iv 0 w.heap.size) (RF e_Str) 1 A4 p_1.Cols.length c4 p_1.Cols ∧ RdS w154 (Iv 0 w.heap.size) (RF e_Idx) 3 A5 p_1.Idxs.length c5 p_1.Idxs ∧ Ex w w154 ∧ loopM (B_s_l24SameCols_1 p_0 p_1) (p_0.Idxs.length - k151) k151 () = loopM (B_s_l24SameCols_1 p_0 p_1) (p_0.Idxs.length - 0) 0 ()) (p_0.Idxs.length - 0) ?_ ?_)))
      ·exact ⟨0, rfl, (by omega), Nat.le_refl _, rfl, rfl, rfl, rfl, hf53, hf54, hf55, hf56, hf57, hf58, hf59, rfl⟩
      ·rintro m155 L156 w157 ⟨k151, rfl, hk158, hsz160, hl161, hl162, hl163, hl164, hf165, hf166, hf167, hf168, hf169, hf170, hf171, hI159⟩
       refine CW.sub (Sub.cons hl161 (Sub.cons hl162 (Sub.cons hl163 (Sub.cons hl164 (Sub.nil _))))) ?_
       have hf165z := Box.lt hf165
       have hf168z := Box.lt hf168
       have hf171z := Ex.size hf171
       have hbg172 := RdS.big hf167
       rcases Nat.lt_or_ge k151 p_0.Idxs.length with hlt173 | hlt173
       ·refine CW.seq (CW.region (sd rfl (yl_lss rfl rfl rfl (SeqR.done (tn (CW.seq (CW.cond_t rfl (lt_t hlt173) (CW.skip (tn ?_)))))))))
        refine CW.seq (CW.block (CW.seq (CW.region (sd rfl (yl_move rfl rfl (sd rfl (yl_assign rfl rfl (SeqR.done (tn (CW.seq ?_))))))))))
        obtain ⟨eb174, eo174, ec174, eA174, eS174, ebl174, el174, eR174, eC174⟩ := RdS.atD hf167 d_Idx (i := k151) (by first | omega | assumption)
        obtain rfl := eR174
        have eC174 : Cells w157 eb174 (eo174 + k151 * 3) [.string (bs ((p_0.Idxs.getD k151 d_Idx).Name)), .int .i64 ((p_0.Idxs.getD k151 d_Idx).Col), .int .i64 ((p_0.Idxs.getD k151 d_Idx).Stage)] := eC174
        obtain ⟨eb175, eo175, ec175, eA175, eS175, ebl175, el175, eR175, eC175⟩ := RdS.atD hf170 d_Idx (i := k151) (by first | omega | assumption)
        obtain rfl := eR175
        have eC175 : Cells w157 eb175 (eo175 + k151 * 3) [.string (bs ((p_1.Idxs.getD k151 d_Idx).Name)), .int .i64 ((p_1.Idxs.getD k151 d_Idx).Col), .int .i64 ((p_1.Idxs.getD k151 d_Idx).Stage)] := eC175
        refine bcase (((p_0.Idxs.getD k151 d_Idx).Name) == ((p_1.Idxs.getD k151 d_Idx).Name)) (fun hb176 => ?_) (fun hb176 => ?_)
        ·obtain ⟨eb177, eo177, ec177, eA177, eS177, ebl177, el177, eR177, eC177⟩ := RdS.atD hf167 d_Idx (i := k151) (by first | omega | assumption)
         obtain rfl := eR177
         have eC177 : Cells w157 eb177 (eo177 + k151 * 3) [.string (bs ((p_0.Idxs.getD k151 d_Idx).Name)), .int .i64 ((p_0.Idxs.getD k151 d_Idx).Col), .int .i64 ((p_0.Idxs.getD k151 d_Idx).Stage)] := eC177
         obtain ⟨eb178, eo178, ec178, eA178, eS178, ebl178, el178, eR178, eC178⟩ := RdS.atD hf170 d_Idx (i := k151) (by first | omega | assumption)
         obtain rfl := eR178
         have eC178 : Cells w157 eb178 (eo178 + k151 * 3) [.string (bs ((p_1.Idxs.getD k151 d_Idx).Name)), .int .i64 ((p_1.Idxs.getD k151 d_Idx).Col), .int .i64 ((p_1.Idxs.getD k151 d_Idx).Stage)] := eC178
         refine CW.drawsI 28 (vgetI [DetI (.pointer (some ⟨b13, 0 + 2, none⟩)), DetI (.slice A2 p_0.Idxs.length c2), DetI (.int .i64 ((k151 : Int))), DetI (.pointer (some ⟨eb177, eo177 + k151 * 3, none⟩)), DetI (.pointer (some ⟨eb177, eo177 + k151 * 3 + 0, none⟩)), DetI (.string (bs ((p_0.Idxs.getD k151 d_Idx).Name))), DetI (.pointer (some ⟨b19, 0 + 2, none⟩)), DetI (.slice A5 p_1.Idxs.length c5), DetI (.int .i64 ((k151 : Int))), DetI (.pointer (some ⟨eb178, eo178 + k151 * 3, none⟩)), DetI (.pointer (some ⟨eb178, eo178 + k151 * 3 + 0, none⟩)), DetI (.string (bs ((p_1.Idxs.getD k151 d_Idx).Name))), DetI (.bool (!(((p_0.Idxs.getD k151 d_Idx).Name) == ((p_1.Idxs.getD k151 d_Idx).Name)))), DetI (.bool (!(((p_0.Idxs.getD k151 d_Idx).Name) == ((p_1.Idxs.getD k151 d_Idx).Name)))), DetI (.pointer (some ⟨b13, 0 + 2, none⟩)), DetI (.slice A2 p_0.Idxs.length c2), DetI (.int .i64 ((k151 : Int))), DetI (.pointer (some ⟨eb177, eo177 + k151 * 3, none⟩)), DetI (.pointer (some ⟨eb177, eo177 + k151 * 3 + 1, none⟩)), DetI (.int .i64 ((p_0.Idxs.getD k151 d_Idx).Col)), DetI (.pointer (some ⟨b19, 0 + 2, none⟩)), DetI (.slice A5 p_1.Idxs.length c5), DetI (.int .i64 ((k151 : Int))), DetI (.pointer (some ⟨eb178, eo178 + k151 * 3, none⟩)), DetI (.pointer (some ⟨eb178, eo178 + k151 * 3 + 1, none⟩)), DetI (.int .i64 ((p_1.Idxs.getD k151 d_Idx).Col)), DetI (.bool (!(decide (((p_0.Idxs.getD k151 d_Idx).Col) = ((p_1.Idxs.getD k151 d_Idx).Col))))), DetI (.bool (!(decide (((p_0.Idxs.getD k151 d_Idx).Col) = ((p_1.Idxs.getD k151 d_Idx).Col)))))]) Try.follows rfl rfl rfl rfl rfl rfl (vgetI_stable ⟨StableI.det _, StableI.det _, StableI.det _, StableI.det _, StableI.det _, StableI.det _, StableI.det _, StableI.det _, StableI.det _, StableI.det _, StableI.det _, StableI.det _, StableI.det _, StableI.det _, StableI.det _, StableI.det _, StableI.det _, StableI.det _, StableI.det _, StableI.det _, StableI.det _, StableI.det _, StableI.det _, StableI.det _, StableI.det _, StableI.det _, StableI.det _, StableI.det _, trivial⟩) ⟨?_, ?_, ?_, ?_, ?_, ?_, ?_, ?_, ?_, ?_, ?_, ?_, ?_, ?_, ?_, ?_, ?_, ?_, ?_, ?_, ?_, ?_, ?_, ?_, ?_, ?_, ?_, ?_, trivial⟩ ?_
         ·exact fun _ _ h => os rfl ((yl_fieldAddr Try.fd59_2 rfl (h.old 2 _ rfl rfl) kI))
         ·exact fun _ _ h => os rfl ((yl_load1 Try.ty57 rfl (h.dt 0 54 rfl rfl rfl) (((Box.ex hf165 h.ex).cell 2).trans rfl) kI))
         ·exact fun _ _ h => os rfl ((yl_move rfl (h.old 6 _ rfl rfl) kI))
         ·intro L195 w196 hi197
          have hE198 := hi197.ex
          have hE198z := Ex.size hE198
          exact os rfl ((yl_indexAddrN Try.un57 Try.ty177 rfl (hi197.dt 1 55 rfl rfl rfl) (hi197.dt 2 56 rfl rfl rfl) eA177 (by first | omega | assumption | (simp only [IntKind.wrap_i64] at *; omega)) kI))
         ·exact fun _ _ h => os rfl ((yl_fieldAddr Try.fd177_0 rfl (h.dt 3 57 rfl rfl rfl) kI))
         ·exact fun _ _ h => os rfl ((yl_load1 Try.ty9 rfl (h.dt 4 58 rfl rfl rfl) ((Cells.ex eC177 h.ex) 0 _ rfl) kI))
         ·exact fun _ _ h => os rfl ((yl_fieldAddr Try.fd59_2 rfl (h.old 3 _ rfl rfl) kI))
         ·exact fun _ _ h => os rfl ((yl_load1 Try.ty57 rfl (h.dt 6 60 rfl rfl rfl) (((Box.ex hf168 h.ex).cell 2).trans rfl) kI))
         ·exact fun _ _ h => os rfl ((yl_move rfl (h.old 6 _ rfl rfl) kI))
         ·intro L228 w229 hi230
          have hE231 := hi230.ex
          have hE231z := Ex.size hE231
          exact os rfl ((yl_indexAddrN Try.un57 Try.ty177 rfl (hi230.dt 7 61 rfl rfl rfl) (hi230.dt 8 62 rfl rfl rfl) eA178 (by first | omega | assumption | (simp only [IntKind.wrap_i64] at *; omega)) kI))
         ·exact fun _ _ h => os rfl ((yl_fieldAddr Try.fd177_0 rfl (h.dt 9 63 rfl rfl rfl) kI))
         ·exact fun _ _ h => os rfl ((yl_load1 Try.ty9 rfl (h.dt 10 64 rfl rfl rfl) ((Cells.ex eC178 h.ex) 0 _ rfl) kI))
         ·exact fun _ _ h => os rfl ((yl_sneq (a := ((p_0.Idxs.getD k151 d_Idx).Name)) (b := ((p_1.Idxs.getD k151 d_Idx).Name)) rfl (h.dt 5 59 rfl rfl rfl) (h.dt 11 65 rfl rfl rfl) kI))
         ·exact fun _ _ h => os rfl ((yl_move rfl (h.dt 12 66 rfl rfl rfl) kI))
         ·exact fun _ _ h => OpR.want rfl rfl (h.dt 13 67 rfl rfl rfl) (not_t hb176) (Yl.sameI (yl_fieldAddr Try.fd59_2 rfl (h.old 2 _ rfl rfl) kI))
         ·exact fun _ _ h => OpR.want rfl rfl (h.dt 13 67 rfl rfl rfl) (not_t hb176) (Yl.sameI (yl_load1 Try.ty57 rfl (h.dt 14 68 rfl rfl rfl) (((Box.ex hf165 h.ex).cell 2).trans rfl) kI))
         ·exact fun _ _ h => OpR.want rfl rfl (h.dt 13 67 rfl rfl rfl) (not_t hb176) (Yl.sameI (yl_move rfl (h.old 6 _ rfl rfl) kI))
         ·intro L275 w276 hi277
          have hE278 := hi277.ex
          have hE278z := Ex.size hE278
          exact OpR.want rfl rfl (hi277.dt 13 67 rfl rfl rfl) (not_t hb176) (Yl.sameI (yl_indexAddrN Try.un57 Try.ty177 rfl (hi277.dt 15 69 rfl rfl rfl) (hi277.dt 16 70 rfl rfl rfl) eA177 (by first | omega | assumption | (simp only [IntKind.wrap_i64] at *; omega)) kI))
         ·exact fun _ _ h => OpR.want rfl rfl (h.dt 13 67 rfl rfl rfl) (not_t hb176) (Yl.sameI (yl_fieldAddr Try.fd177_1 rfl (h.dt 17 71 rfl rfl rfl) kI))
         ·exact fun _ _ h => OpR.want rfl rfl (h.dt 13 67 rfl rfl rfl) (not_t hb176) (Yl.sameI (yl_load1 Try.ty3 rfl (h.dt 18 72 rfl rfl rfl) ((Cells.ex eC177 h.ex) 1 _ rfl) kI))
         ·exact fun _ _ h => OpR.want rfl rfl (h.dt 13 67 rfl rfl rfl) (not_t hb176) (Yl.sameI (yl_fieldAddr Try.fd59_2 rfl (h.old 3 _ rfl rfl) kI))
         ·exact fun _ _ h => OpR.want rfl rfl (h.dt 13 67 rfl rfl rfl) (not_t hb176) (Yl.sameI (yl_load1 Try.ty57 rfl (h.dt 20 74 rfl rfl rfl) (((Box.ex hf168 h.ex).cell 2).trans rfl) kI))
         ·exact fun _ _ h => OpR.want rfl rfl (h.dt 13 67 rfl rfl rfl) (not_t hb176) (Yl.sameI (yl_move rfl (h.old 6 _ rfl rfl) kI))
         ·intro L314 w315 hi316
          have hE317 := hi316.ex
          have hE317z := Ex.size hE317
          exact OpR.want rfl rfl (hi316.dt 13 67 rfl rfl rfl) (not_t hb176) (Yl.sameI (yl_indexAddrN Try.un57 Try.ty177 rfl (hi316.dt 21 75 rfl rfl rfl) (hi316.dt 22 76 rfl rfl rfl) eA178 (by first | omega | assumption | (simp only [IntKind.wrap_i64] at *; omega)) kI))
         ·exact fun _ _ h => OpR.want rfl rfl (h.dt 13 67 rfl rfl rfl) (not_t hb176) (Yl.sameI (yl_fieldAddr Try.fd177_1 rfl (h.dt 23 77 rfl rfl rfl) kI))
         ·exact fun _ _ h => OpR.want rfl rfl (h.dt 13 67 rfl rfl rfl) (not_t hb176) (Yl.sameI (yl_load1 Try.ty3 rfl (h.dt 24 78 rfl rfl rfl) ((Cells.ex eC178 h.ex) 1 _ rfl) kI))
         ·exact fun _ _ h => OpR.want rfl rfl (h.dt 13 67 rfl rfl rfl) (not_t hb176) (Yl.sameI (yl_neq rfl (h.dt 19 73 rfl rfl rfl) (h.dt 25 79 rfl rfl rfl) kI))
         ·exact fun _ _ h => os rfl ((yl_pick_f rfl (h.dt 13 67 rfl rfl rfl) (not_t hb176) (h.dt 26 80 rfl rfl rfl) kI))
         ·intro fl350 fh351 L347 w348 hp349
          have hE352 := hp349.ex
          have hE352z := Ex.size hE352
          refine SeqR.done (tn (CW.sub (Sub.cons (d := 2) (hp349.old 2 _ rfl rfl) (Sub.cons (d := 3) (hp349.old 3 _ rfl rfl) (Sub.cons (d := 50) (hp349.old 50 _ rfl rfl) (Sub.cons (d := 51) (hp349.old 51 _ rfl rfl) (Sub.cons (d := 68) (hp349.nt 14 68 rfl rfl rfl) (Sub.cons (d := 69) (hp349.nt 15 69 rfl rfl rfl) (Sub.cons (d := 70) (hp349.nt 16 70 rfl rfl rfl) (Sub.cons (d := 71) (hp349.nt 17 71 rfl rfl rfl) (Sub.cons (d := 72) (hp349.nt 18 72 rfl rfl rfl) (Sub.cons (d := 73) (hp349.nt 19 73 rfl rfl rfl) (Sub.cons (d := 74) (hp349.nt 20 74 rfl rfl rfl) (Sub.cons (d := 75) (hp349.nt 21 75 rfl rfl rfl) (Sub.cons (d := 76) (hp349.nt 22 76 rfl rfl rfl) (Sub.cons (d := 77) (hp349.nt 23 77 rfl rfl rfl) (Sub.cons (d := 78) (hp349.nt 24 78 rfl rfl rfl) (Sub.cons (d := 79) (hp349.nt 25 79 rfl rfl rfl) (Sub.cons (d := 80) (hp349.nt 26 80 rfl rfl rfl) (Sub.cons (d := 81) (hp349.nt 27 81 rfl rfl rfl) (Sub.nil _))))))))))))))))))) (bcase (decide (((p_0.Idxs.getD k151 d_Idx).Col) = ((p_1.Idxs.getD k151 d_Idx).Col))) (fun hb371 => ?_) (fun hb371 => ?_))))
          ·have hb371p := dec_t hb371
           refine CW.cond_f rfl (not_t hb371) (CW.skip (bn (tn (CW.region (sd rfl (yl_inc rfl rfl rfl (by omega) (sd rfl (yl_move rfl rfl (SeqR.done (tn ?_))))))))))
           have hB372 : B_s_l24SameCols_1 p_0 p_1 k151 () = .cont () := by simp only [B_s_l24SameCols_1, hb26, hb27, hb28, hb176, hb371, hL150, cond_true, cond_false, loopE_done, loopE_ret]
           exact ⟨p_0.Idxs.length - (k151 + 1), by omega, k151 + 1, rfl, hlt173, (by omega), rfl, rfl, rfl, rfl, (Box.ex hf165 hE352), (RdS.ex good_Str hf166 hE352), (RdS.ex good_Idx hf167 hE352), (Box.ex hf168 hE352), (RdS.ex good_Str hf169 hE352), (RdS.ex good_Idx hf170 hE352), (Ex.trans hf171 hE352), (loopM.cont hlt173 hB372).symm.trans hI159⟩
          ·have hb371p := dec_f hb371
           refine CW.cond_t rfl (not_f hb371) (CW.seq (CW.region (sd rfl (yl_assign rfl rfl (SeqR.done (tn (CW.ret (br (tr ?_)))))))))
           refine tr ?_
           have hB381 : B_s_l24SameCols_1 p_0 p_1 k151 () = .ret false := by simp only [B_s_l24SameCols_1, hb26, hb27, hb28, hb176, hb371, hL150, cond_true, cond_false, loopE_done, loopE_ret]
           have hL380 : loopM (B_s_l24SameCols_1 p_0 p_1) (p_0.Idxs.length - 0) 0 () = .ret false := hI159.symm.trans (loopM.ret hlt173 hB381)
           refine br (tr (rr rfl (.cons rfl .nil) ?_))
           have hM382 : (s_l24SameCols p_0 p_1) = (false) := by simp only [s_l24SameCols, hb26, hb27, hb28, hb176, hb371, hL150, hL380, cond_true, cond_false, loopE_done, loopE_ret]
           rw [hM382]
           exact ⟨rfl, (Ex.trans hf171 hE352)⟩
        ·obtain ⟨eb384, eo384, ec384, eA384, eS384, ebl384, el384, eR384, eC384⟩ := RdS.atD hf167 d_Idx (i := k151) (by first | omega | assumption)
         obtain rfl := eR384
         have eC384 : Cells w157 eb384 (eo384 + k151 * 3) [.string (bs ((p_0.Idxs.getD k151 d_Idx).Name)), .int .i64 ((p_0.Idxs.getD k151 d_Idx).Col), .int .i64 ((p_0.Idxs.getD k151 d_Idx).Stage)] := eC384
         obtain ⟨eb385, eo385, ec385, eA385, eS385, ebl385, el385, eR385, eC385⟩ := RdS.atD hf170 d_Idx (i := k151) (by first | omega | assumption)
         obtain rfl := eR385
         have eC385 : Cells w157 eb385 (eo385 + k151 * 3) [.string (bs ((p_1.Idxs.getD k151 d_Idx).Name)), .int .i64 ((p_1.Idxs.getD k151 d_Idx).Col), .int .i64 ((p_1.Idxs.getD k151 d_Idx).Stage)] := eC385
         refine CW.drawsI 28 (vgetI [DetI (.pointer (some ⟨b13, 0 + 2, none⟩)), DetI (.slice A2 p_0.Idxs.length c2), DetI (.int .i64 ((k151 : Int))), DetI (.pointer (some ⟨eb384, eo384 + k151 * 3, none⟩)), DetI (.pointer (some ⟨eb384, eo384 + k151 * 3 + 0, none⟩)), DetI (.string (bs ((p_0.Idxs.getD k151 d_Idx).Name))), DetI (.pointer (some ⟨b19, 0 + 2, none⟩)), DetI (.slice A5 p_1.Idxs.length c5), DetI (.int .i64 ((k151 : Int))), DetI (.pointer (some ⟨eb385, eo385 + k151 * 3, none⟩)), DetI (.pointer (some ⟨eb385, eo385 + k151 * 3 + 0, none⟩)), DetI (.string (bs ((p_1.Idxs.getD k151 d_Idx).Name))), DetI (.bool (!(((p_0.Idxs.getD k151 d_Idx).Name) == ((p_1.Idxs.getD k151 d_Idx).Name)))), DetI (.bool (!(((p_0.Idxs.getD k151 d_Idx).Name) == ((p_1.Idxs.getD k151 d_Idx).Name)))), DetI (undef), DetI (undef), DetI (undef), DetI (undef), DetI (undef), DetI (undef), DetI (undef), DetI (undef), DetI (undef), DetI (undef), DetI (undef), DetI (undef), DetI (undef), DetI (.bool (true))]) Try.follows rfl rfl rfl rfl rfl rfl (vgetI_stable ⟨StableI.det _, StableI.det _, StableI.det _, StableI.det _, StableI.det _, StableI.det _, StableI.det _, StableI.det _, StableI.det _, StableI.det _, StableI.det _, StableI.det _, StableI.det _, StableI.det _, StableI.det _, StableI.det _, StableI.det _, StableI.det _, StableI.det _, StableI.det _, StableI.det _, StableI.det _, StableI.det _, StableI.det _, StableI.det _, StableI.det _, StableI.det _, StableI.det _, trivial⟩) ⟨?_, ?_, ?_, ?_, ?_, ?_, ?_, ?_, ?_, ?_, ?_, ?_, ?_, ?_, ?_, ?_, ?_, ?_, ?_, ?_, ?_, ?_, ?_, ?_, ?_, ?_, ?_, ?_, trivial⟩ ?_
         ·exact fun _ _ h => os rfl ((yl_fieldAddr Try.fd59_2 rfl (h.old 2 _ rfl rfl) kI))
         ·exact fun _ _ h => os rfl ((yl_load1 Try.ty57 rfl (h.dt 0 54 rfl rfl rfl) (((Box.ex hf165 h.ex).cell 2).trans rfl) kI))
         ·exact fun _ _ h => os rfl ((yl_move rfl (h.old 6 _ rfl rfl) kI))
         ·intro L402 w403 hi404
          have hE405 := hi404.ex
          have hE405z := Ex.size hE405
          exact os rfl ((yl_indexAddrN Try.un57 Try.ty177 rfl (hi404.dt 1 55 rfl rfl rfl) (hi404.dt 2 56 rfl rfl rfl) eA384 (by first | omega | assumption | (simp only [IntKind.wrap_i64] at *; omega)) kI))
         ·exact fun _ _ h => os rfl ((yl_fieldAddr Try.fd177_0 rfl (h.dt 3 57 rfl rfl rfl) kI))
         ·exact fun _ _ h => os rfl ((yl_load1 Try.ty9 rfl (h.dt 4 58 rfl rfl rfl) ((Cells.ex eC384 h.ex) 0 _ rfl) kI))
         ·exact fun _ _ h => os rfl ((yl_fieldAddr Try.fd59_2 rfl (h.old 3 _ rfl rfl) kI))
         ·exact fun _ _ h => os rfl ((yl_load1 Try.ty57 rfl (h.dt 6 60 rfl rfl rfl) (((Box.ex hf168 h.ex).cell 2).trans rfl) kI))
         ·exact fun _ _ h => os rfl ((yl_move rfl (h.old 6 _ rfl rfl) kI))
         ·intro L435 w436 hi437
          have hE438 := hi437.ex
          have hE438z := Ex.size hE438
          exact os rfl ((yl_indexAddrN Try.un57 Try.ty177 rfl (hi437.dt 7 61 rfl rfl rfl) (hi437.dt 8 62 rfl rfl rfl) eA385 (by first | omega | assumption | (simp only [IntKind.wrap_i64] at *; omega)) kI))
         ·exact fun _ _ h => os rfl ((yl_fieldAddr Try.fd177_0 rfl (h.dt 9 63 rfl rfl rfl) kI))
         ·exact fun _ _ h => os rfl ((yl_load1 Try.ty9 rfl (h.dt 10 64 rfl rfl rfl) ((Cells.ex eC385 h.ex) 0 _ rfl) kI))
         ·exact fun _ _ h => os rfl ((yl_sneq (a := ((p_0.Idxs.getD k151 d_Idx).Name)) (b := ((p_1.Idxs.getD k151 d_Idx).Name)) rfl (h.dt 5 59 rfl rfl rfl) (h.dt 11 65 rfl rfl rfl) kI))
         ·exact fun _ _ h => os rfl ((yl_move rfl (h.dt 12 66 rfl rfl rfl) kI))
         ·exact fun _ _ h => OpR.skip rfl rfl (h.dt 13 67 rfl rfl rfl) (not_f hb176) ⟨rfl, Ex.refl _⟩
         ·exact fun _ _ h => OpR.skip rfl rfl (h.dt 13 67 rfl rfl rfl) (not_f hb176) ⟨rfl, Ex.refl _⟩
         ·exact fun _ _ h => OpR.skip rfl rfl (h.dt 13 67 rfl rfl rfl) (not_f hb176) ⟨rfl, Ex.refl _⟩
         ·exact fun _ _ h => OpR.skip rfl rfl (h.dt 13 67 rfl rfl rfl) (not_f hb176) ⟨rfl, Ex.refl _⟩
         ·exact fun _ _ h => OpR.skip rfl rfl (h.dt 13 67 rfl rfl rfl) (not_f hb176) ⟨rfl, Ex.refl _⟩
         ·exact fun _ _ h => OpR.skip rfl rfl (h.dt 13 67 rfl rfl rfl) (not_f hb176) ⟨rfl, Ex.refl _⟩
         ·exact fun _ _ h => OpR.skip rfl rfl (h.dt 13 67 rfl rfl rfl) (not_f hb176) ⟨rfl, Ex.refl _⟩
         ·exact fun _ _ h => OpR.skip rfl rfl (h.dt 13 67 rfl rfl rfl) (not_f hb176) ⟨rfl, Ex.refl _⟩
         ·exact fun _ _ h => OpR.skip rfl rfl (h.dt 13 67 rfl rfl rfl) (not_f hb176) ⟨rfl, Ex.refl _⟩
         ·exact fun _ _ h => OpR.skip rfl rfl (h.dt 13 67 rfl rfl rfl) (not_f hb176) ⟨rfl, Ex.refl _⟩
         ·exact fun _ _ h => OpR.skip rfl rfl (h.dt 13 67 rfl rfl rfl) (not_f hb176) ⟨rfl, Ex.refl _⟩
         ·exact fun _ _ h => OpR.skip rfl rfl (h.dt 13 67 rfl rfl rfl) (not_f hb176) ⟨rfl, Ex.refl _⟩
         ·exact fun _ _ h => OpR.skip rfl rfl (h.dt 13 67 rfl rfl rfl) (not_f hb176) ⟨rfl, Ex.refl _⟩
         ·exact fun _ _ h => os rfl ((yl_pick_t rfl (h.dt 13 67 rfl rfl rfl) (not_f hb176) rfl kI))
         ·intro fl537 fh538 L534 w535 hp536
          have hE539 := hp536.ex
          have hE539z := Ex.size hE539
          refine SeqR.done (tn (CW.sub (Sub.cons (d := 2) (hp536.old 2 _ rfl rfl) (Sub.cons (d := 3) (hp536.old 3 _ rfl rfl) (Sub.cons (d := 50) (hp536.old 50 _ rfl rfl) (Sub.cons (d := 51) (hp536.old 51 _ rfl rfl) (Sub.cons (d := 68) (hp536.nt 14 68 rfl rfl rfl) (Sub.cons (d := 69) (hp536.nt 15 69 rfl rfl rfl) (Sub.cons (d := 70) (hp536.nt 16 70 rfl rfl rfl) (Sub.cons (d := 71) (hp536.nt 17 71 rfl rfl rfl) (Sub.cons (d := 72) (hp536.nt 18 72 rfl rfl rfl) (Sub.cons (d := 73) (hp536.nt 19 73 rfl rfl rfl) (Sub.cons (d := 74) (hp536.nt 20 74 rfl rfl rfl) (Sub.cons (d := 75) (hp536.nt 21 75 rfl rfl rfl) (Sub.cons (d := 76) (hp536.nt 22 76 rfl rfl rfl) (Sub.cons (d := 77) (hp536.nt 23 77 rfl rfl rfl) (Sub.cons (d := 78) (hp536.nt 24 78 rfl rfl rfl) (Sub.cons (d := 79) (hp536.nt 25 79 rfl rfl rfl) (Sub.cons (d := 80) (hp536.nt 26 80 rfl rfl rfl) (Sub.cons (d := 81) (hp536.nt 27 81 rfl rfl rfl) (Sub.nil _))))))))))))))))))) (CW.cond_t rfl rfl (CW.seq (CW.region (sd rfl (yl_assign rfl rfl (SeqR.done (tn ?_)))))))))
          refine CW.ret (br (tr (tr ?_)))
          have hB559 : B_s_l24SameCols_1 p_0 p_1 k151 () = .ret false := by simp only [B_s_l24SameCols_1, hb26, hb27, hb28, hb176, hL150, cond_true, cond_false, loopE_done, loopE_ret]
          have hL558 : loopM (B_s_l24SameCols_1 p_0 p_1) (p_0.Idxs.length - 0) 0 () = .ret false := hI159.symm.trans (loopM.ret hlt173 hB559)
          refine br (tr (rr rfl (.cons rfl .nil) ?_))
          have hM560 : (s_l24SameCols p_0 p_1) = (false) := by simp only [s_l24SameCols, hb26, hb27, hb28, hb176, hL150, hL558, cond_true, cond_false, loopE_done, loopE_ret]
          rw [hM560]
          exact ⟨rfl, (Ex.trans hf171 hE539)⟩
       ·refine CW.seq (CW.region (sd rfl (yl_lss rfl rfl rfl (SeqR.done (tn (CW.seq (CW.cond_f rfl (lt_f hlt173) (CW.exit (tx ?_)))))))))
        refine tx ?_
        have hL562 : loopM (B_s_l24SameCols_1 p_0 p_1) (p_0.Idxs.length - 0) 0 () = .done () := hI159.symm.trans (loopM.stop hlt173)
        refine bx (tn (CW.seq (CW.region (sd rfl (yl_assign rfl rfl (SeqR.done (tn (CW.ret (rr rfl (.cons rfl .nil) ?_)))))))))
        have hM563 : (s_l24SameCols p_0 p_1) = (true) := by simp only [s_l24SameCols, hb26, hb27, hb28, hL150, hL562, cond_true, cond_false, loopE_done, loopE_ret]
        rw [hM563]
        exact ⟨rfl, hf171⟩
   ·have hb28p := dec_f hb28
    refine CW.cond_t rfl (not_f hb28) (CW.seq (CW.region (sd rfl (yl_assign rfl rfl (SeqR.done (tn (CW.ret (tr (rr rfl (.cons rfl .nil) ?_)))))))))
    have hM564 : (s_l24SameCols p_0 p_1) = (false) := by simp only [s_l24SameCols, hb26, hb27, hb28, cond_true, cond_false, loopE_done, loopE_ret]
    rw [hM564]
    exact ⟨rfl, (Ex.trans (Ex.trans (Ex.refl w) hE18) hE24)⟩
  ·have hb27p := dec_f hb27
   refine sz rfl rfl (not_f hb27) (sz rfl rfl (not_f hb27) (sz rfl rfl (not_f hb27) (sz rfl rfl (not_f hb27) (sz rfl rfl (not_f hb27) (sz rfl rfl (not_f hb27) (sz rfl rfl (not_f hb27) (sd rfl (yl_pick_t rfl rfl (not_f hb27) rfl (SeqR.done ?_)))))))))
   refine tn (CW.cond_t rfl rfl (CW.seq (CW.region (sd rfl (yl_assign rfl rfl (SeqR.done (tn (CW.ret (tr ?_)))))))))
   refine rr rfl (.cons rfl .nil) ?_
   have hM567 : (s_l24SameCols p_0 p_1) = (false) := by simp only [s_l24SameCols, hb26, hb27, cond_true, cond_false, loopE_done, loopE_ret]
   rw [hM567]
   exact ⟨rfl, (Ex.trans (Ex.trans (Ex.refl w) hE18) hE24)⟩
 ·refine sz rfl rfl (not_f hb26) (sz rfl rfl (not_f hb26) (sz rfl rfl (not_f hb26) (sz rfl rfl (not_f hb26) (sz rfl rfl (not_f hb26) (sz rfl rfl (not_f hb26) (sz rfl rfl (not_f hb26) (sd rfl (yl_pick_t rfl rfl (not_f hb26) rfl (sd rfl (yl_move rfl rfl ?_))))))))))
  refine sz rfl rfl rfl (sz rfl rfl rfl (sz rfl rfl rfl (sz rfl rfl rfl (sz rfl rfl rfl (sz rfl rfl rfl (sz rfl rfl rfl (sd rfl (yl_pick_t rfl rfl rfl rfl (SeqR.done ?_)))))))))
  refine tn (CW.cond_t rfl rfl (CW.seq (CW.region (sd rfl (yl_assign rfl rfl (SeqR.done (tn (CW.ret (tr ?_)))))))))
  refine rr rfl (.cons rfl .nil) ?_
  have hM570 : (s_l24SameCols p_0 p_1) = (false) := by simp only [s_l24SameCols, hb26, cond_true, cond_false, loopE_done, loopE_ret]
  rw [hM570]
  exact ⟨rfl, (Ex.trans (Ex.trans (Ex.refl w) hE18) hE24)⟩
set_option maxRecDepth 100000 in
set_option maxHeartbeats 2000000 in
theorem c_s_l1Most {w : World} (p_a : Int) (p_b : Int) : Cal Try.prog 221 #[.int .i64 (p_a), .int .i64 (p_b)] w fun v w' => v = .int .i64 ((s_l1Most p_a p_b)) ∧ Ex w w' := by
 refine Cal.of (vs := [.int .i64 (p_a), .int .i64 (p_b)]) Try.func221 rfl Try.ntmps221 rfl (CW.seq (CW.region (sd rfl (yl_assign rfl rfl (SeqR.done (tn (CW.seq (CW.seq (CW.region ?_)))))))))
 refine sd rfl (yl_move rfl rfl (sd rfl (yl_move rfl rfl (sd rfl (yl_gtr rfl rfl rfl (SeqR.done (tn (bcase (decide (p_b < p_a)) (fun hb1 => ?_) (fun hb1 => ?_)))))))))
 ·have hb1p := dec_t hb1
  refine CW.cond_t rfl hb1 (CW.seq (CW.region (sd rfl (yl_move rfl rfl (sd rfl (yl_assign rfl rfl (SeqR.done (tn (CW.ret (tr ?_))))))))))
  refine rr rfl (.cons rfl .nil) ?_
  have hM2 : (s_l1Most p_a p_b) = (p_a) := by simp only [s_l1Most, hb1, cond_true, cond_false, loopE_done, loopE_ret]
  rw [hM2]
  exact ⟨rfl, (Ex.refl w)⟩
 ·have hb1p := dec_f hb1
  refine CW.cond_f rfl hb1 (CW.skip (tn (CW.seq (CW.region (sd rfl (yl_move rfl rfl (sd rfl (yl_assign rfl rfl (SeqR.done (tn ?_))))))))))
  refine CW.ret (rr rfl (.cons rfl .nil) ?_)
  have hM3 : (s_l1Most p_a p_b) = (p_b) := by simp only [s_l1Most, hb1, cond_true, cond_false, loopE_done, loopE_ret]
  rw [hM3]
  exact ⟨rfl, (Ex.refl w)⟩
set_option maxRecDepth 100000 in
set_option maxHeartbeats 2000000 in
theorem c_s_l24Far {A1 : Option Addr} {c1 : Nat} {A2 : Option Addr} {c2 : Nat} {A4 : Option Addr} {c4 : Nat} {A5 : Option Addr} {c5 : Nat} {w : World} (p_a : DTable) (p_b : DTable) (h1 : RdS w (Iv 0 w.heap.size) (RF e_Str) 1 A1 p_a.Cols.length c1 p_a.Cols) (h2 : RdS w (Iv 0 w.heap.size) (RF e_Idx) 3 A2 p_a.Idxs.length c2 p_a.Idxs) (h4 : RdS w (Iv 0 w.heap.size) (RF e_Str) 1 A4 p_b.Cols.length c4 p_b.Cols) (h5 : RdS w (Iv 0 w.heap.size) (RF e_Idx) 3 A5 p_b.Idxs.length c5 p_b.Idxs) (o3 : ok_Table p_a) (o6 : ok_Table p_b) (pre0 : p_a.Idxs.length = p_b.Idxs.length) : Cal Try.prog 194 #[.agg #[.string (bs (p_a.Name)), .slice A1 p_a.Cols.length c1, .slice A2 p_a.Idxs.length c2], .agg #[.string (bs (p_b.Name)), .slice A4 p_b.Cols.length c4, .slice A5 p_b.Idxs.length c5]] w fun v w' => v = .int .i64 ((s_l24Far p_a p_b)) ∧ Ex w w' := by
 have hol7 : p_a.Name.length ≤ 1073741824 := o3.1
 have hol8 := o3.2.1.1
 have hol9 := o3.2.2.1
 have hol10 : p_b.Name.length ≤ 1073741824 := o6.1
 have hol11 := o6.2.1.1
 have hol12 := o6.2.2.1
 refine Cal.of (vs := [.agg #[.string (bs (p_a.Name)), .slice A1 p_a.Cols.length c1, .slice A2 p_a.Idxs.length c2], .agg #[.string (bs (p_b.Name)), .slice A4 p_b.Cols.length c4, .slice A5 p_b.Idxs.length c5]]) Try.func194 rfl Try.ntmps194 rfl (CW.seq (CW.region (sd rfl (yl_box (cs := [.string (bs (p_a.Name)), .slice A1 p_a.Cols.length c1, .slice A2 p_a.Idxs.length c2]) rfl rfl rfl ?_))))
 intro b13 w14 hs15 hz16 hB17 hE18
 refine sd rfl (yl_box (cs := [.string (bs (p_b.Name)), .slice A4 p_b.Cols.length c4, .slice A5 p_b.Idxs.length c5]) rfl rfl rfl ?_)
 intro b19 w20 hs21 hz22 hB23 hE24
 refine sd rfl (yl_assign rfl rfl (SeqR.done (tn (CW.seq (CW.region (sd rfl (yl_assign rfl rfl (SeqR.done (tn (CW.seq ?_))))))))))
 refine CW.seq (CW.region (sd rfl (yl_fieldAddr Try.fd59_2 rfl rfl ?_)))
 have q25 := Box.ex hB17 hE24
 refine sd rfl (yl_load1 Try.ty57 rfl rfl ((q25.cell 2).trans rfl) (sd rfl (yl_len Try.un57 rfl rfl (sd rfl (yl_move rfl rfl (SeqR.done (tn (CW.block (CW.loop (fun m28 L29 w30 => ∃ (k26 : Nat) (x27 : Int), m28 = p_a.Idxs.length - k26 ∧ k26 ≤ p_a.Idxs.length ∧ w20.heap.size ≤ w30.heap.size ∧ lkp L29 2 = some (.pointer (some ⟨b13, 0, none⟩)) ∧ lkp L29 3 = some (.pointer (some ⟨b19, 0, none⟩)) ∧ lkp L29 5 = some (.int .i64 (x27)) ∧ lkp L29 10 = some (.int .i64 ((p_a.Idxs.length : Int))) ∧ lkp L29 11 = some (.int .i64 ((k26 : Int))) ∧ Box w30 b13 59 [.string (bs (p_a.Name)), .slice A1 p_a.Cols.length c1, .slice A2 p_a.Idxs.length c2] ∧ RdS w30 (Iv 0 w.heap.size) (RF e_Str) 1 A1 p_a.Cols.length c1 p_a.Cols ∧ RdS w30 (Iv 0 w.heap.size) (RF e_Idx) 3 A2 p_a.Idxs.length c2 p_a.Idxs ∧ Box w30 b19 59 [.string (bs (p_b.Name)), .slice A4 p_b.Cols.length c4, .slice A5 p_b.Idxs.length c5] ∧ RdS w30 (Iv 0 w.heap.size) (RF e_Str) 1 A4 p_b.Cols.length c4 p_b.Cols ∧ RdS w30 (Iv 0 w.heap.size) (RF e_Idx) 3 A5 p_b.Idxs.length c5 p_b.Idxs ∧ Ex w w30 ∧ loopM (B_s_l24Far_0 p_a p_b) (p_a.Idxs.length - k26) k26 (x27) = loopM (B_s_l24Far_0 p_a p_b) (p_a.Idxs.length - 0) 0 (0)) (p_a.Idxs.length - 0) ?_ ?_)))))))))
 ·exact ⟨0, 0, rfl, (by omega), Nat.le_refl _, rfl, rfl, rfl, rfl, rfl, q25, (RdS.ex good_Str (RdS.ex good_Str h1 hE18) hE24), (RdS.ex good_Idx (RdS.ex good_Idx h2 hE18) hE24), hB23, (RdS.ex good_Str (RdS.ex good_Str h4 hE18) hE24), (RdS.ex good_Idx (RdS.ex good_Idx h5 hE18) hE24), (Ex.trans (Ex.trans (Ex.refl w) hE18) hE24), rfl⟩
 ·rintro m41 L42 w43 ⟨k26, x27, rfl, hk44, hsz46, hl47, hl48, hl49, hl50, hl51, hf52, hf53, hf54, hf55, hf56, hf57, hf58, hI45⟩
  refine CW.sub (Sub.cons hl47 (Sub.cons hl48 (Sub.cons hl49 (Sub.cons hl50 (Sub.cons hl51 (Sub.nil _)))))) ?_
  have hf52z := Box.lt hf52
  have hf55z := Box.lt hf55
  have hf58z := Ex.size hf58
  have hbg59 := RdS.big hf54
  rcases Nat.lt_or_ge k26 p_a.Idxs.length with hlt60 | hlt60
  ·refine CW.seq (CW.region (sd rfl (yl_lss rfl rfl rfl (SeqR.done (tn (CW.seq (CW.cond_t rfl (lt_t hlt60) (CW.skip (tn ?_)))))))))
   refine CW.seq (CW.block (CW.seq (CW.region (sd rfl (yl_move rfl rfl (sd rfl (yl_assign rfl rfl (SeqR.done (tn (CW.seq ?_))))))))))
   obtain ⟨eb61, eo61, ec61, eA61, eS61, ebl61, el61, eR61, eC61⟩ := RdS.atD hf54 d_Idx (i := k26) (by first | omega | assumption)
   obtain rfl := eR61
   have eC61 : Cells w43 eb61 (eo61 + k26 * 3) [.string (bs ((p_a.Idxs.getD k26 d_Idx).Name)), .int .i64 ((p_a.Idxs.getD k26 d_Idx).Col), .int .i64 ((p_a.Idxs.getD k26 d_Idx).Stage)] := eC61
   obtain ⟨eb62, eo62, ec62, eA62, eS62, ebl62, el62, eR62, eC62⟩ := RdS.atD hf57 d_Idx (i := k26) (by first | omega | assumption)
   obtain rfl := eR62
   have eC62 : Cells w43 eb62 (eo62 + k26 * 3) [.string (bs ((p_b.Idxs.getD k26 d_Idx).Name)), .int .i64 ((p_b.Idxs.getD k26 d_Idx).Col), .int .i64 ((p_b.Idxs.getD k26 d_Idx).Stage)] := eC62
   refine CW.drawsI 14 (vgetI [DetI (.pointer (some ⟨b13, 0 + 2, none⟩)), DetI (.slice A2 p_a.Idxs.length c2), DetI (.int .i64 ((k26 : Int))), DetI (.pointer (some ⟨eb61, eo61 + k26 * 3, none⟩)), DetI (.pointer (some ⟨eb61, eo61 + k26 * 3 + 2, none⟩)), DetI (.int .i64 ((p_a.Idxs.getD k26 d_Idx).Stage)), DetI (.pointer (some ⟨b19, 0 + 2, none⟩)), DetI (.slice A5 p_b.Idxs.length c5), DetI (.int .i64 ((k26 : Int))), DetI (.pointer (some ⟨eb62, eo62 + k26 * 3, none⟩)), DetI (.pointer (some ⟨eb62, eo62 + k26 * 3 + 2, none⟩)), DetI (.int .i64 ((p_b.Idxs.getD k26 d_Idx).Stage)), DetI (.int .i64 (IntKind.wrap .i64 (((p_a.Idxs.getD k26 d_Idx).Stage) - ((p_b.Idxs.getD k26 d_Idx).Stage)))), DetI (.int .i64 (IntKind.wrap .i64 (((p_a.Idxs.getD k26 d_Idx).Stage) - ((p_b.Idxs.getD k26 d_Idx).Stage))))]) Try.follows rfl rfl rfl rfl rfl rfl (vgetI_stable ⟨StableI.det _, StableI.det _, StableI.det _, StableI.det _, StableI.det _, StableI.det _, StableI.det _, StableI.det _, StableI.det _, StableI.det _, StableI.det _, StableI.det _, StableI.det _, StableI.det _, trivial⟩) ⟨?_, ?_, ?_, ?_, ?_, ?_, ?_, ?_, ?_, ?_, ?_, ?_, ?_, ?_, trivial⟩ ?_
   ·exact fun _ _ h => os rfl ((yl_fieldAddr Try.fd59_2 rfl (h.old 2 _ rfl rfl) kI))
   ·exact fun _ _ h => os rfl ((yl_load1 Try.ty57 rfl (h.dt 0 14 rfl rfl rfl) (((Box.ex hf52 h.ex).cell 2).trans rfl) kI))
   ·exact fun _ _ h => os rfl ((yl_move rfl (h.old 6 _ rfl rfl) kI))
   ·intro L79 w80 hi81
    have hE82 := hi81.ex
    have hE82z := Ex.size hE82
    exact os rfl ((yl_indexAddrN Try.un57 Try.ty177 rfl (hi81.dt 1 15 rfl rfl rfl) (hi81.dt 2 16 rfl rfl rfl) eA61 (by first | omega | assumption | (simp only [IntKind.wrap_i64] at *; omega)) kI))
   ·exact fun _ _ h => os rfl ((yl_fieldAddr Try.fd177_2 rfl (h.dt 3 17 rfl rfl rfl) kI))
   ·exact fun _ _ h => os rfl ((yl_load1 Try.ty3 rfl (h.dt 4 18 rfl rfl rfl) ((Cells.ex eC61 h.ex) 2 _ rfl) kI))
   ·exact fun _ _ h => os rfl ((yl_fieldAddr Try.fd59_2 rfl (h.old 3 _ rfl rfl) kI))
   ·exact fun _ _ h => os rfl ((yl_load1 Try.ty57 rfl (h.dt 6 20 rfl rfl rfl) (((Box.ex hf55 h.ex).cell 2).trans rfl) kI))
   ·exact fun _ _ h => os rfl ((yl_move rfl (h.old 6 _ rfl rfl) kI))
   ·intro L112 w113 hi114
    have hE115 := hi114.ex
    have hE115z := Ex.size hE115
    exact os rfl ((yl_indexAddrN Try.un57 Try.ty177 rfl (hi114.dt 7 21 rfl rfl rfl) (hi114.dt 8 22 rfl rfl rfl) eA62 (by first | omega | assumption | (simp only [IntKind.wrap_i64] at *; omega)) kI))
   ·exact fun _ _ h => os rfl ((yl_fieldAddr Try.fd177_2 rfl (h.dt 9 23 rfl rfl rfl) kI))
   ·exact fun _ _ h => os rfl ((yl_load1 Try.ty3 rfl (h.dt 10 24 rfl rfl rfl) ((Cells.ex eC62 h.ex) 2 _ rfl) kI))
   ·exact fun _ _ h => os rfl ((yl_sub rfl (h.dt 5 19 rfl rfl rfl) (h.dt 11 25 rfl rfl rfl) kI))
   ·exact fun _ _ h => os rfl ((yl_assign rfl (h.dt 12 26 rfl rfl rfl) kI))
   ·intro fl143 fh144 L140 w141 hp142
    have hE145 := hp142.ex
    have hE145z := Ex.size hE145
    refine SeqR.done (tn (CW.sub (Sub.cons (d := 2) (hp142.old 2 _ rfl rfl) (Sub.cons (d := 3) (hp142.old 3 _ rfl rfl) (Sub.cons (d := 5) (hp142.old 5 _ rfl rfl) (Sub.cons (d := 7) (hp142.nt 13 7 rfl rfl rfl) (Sub.cons (d := 10) (hp142.old 10 _ rfl rfl) (Sub.cons (d := 11) (hp142.old 11 _ rfl rfl) (Sub.nil _))))))) (CW.region (sd rfl (yl_move rfl rfl (sd rfl (yl_move rfl rfl (sd rfl (yl_move rfl rfl (sd rfl (yl_neg rfl rfl (sd rfl (yl_call Try.en221 rfl (opvs_cons rfl (opvs_cons rfl opvs_nil)) (Cal.mono (c_s_l1Most (IntKind.wrap .i64 (((p_a.Idxs.getD k26 d_Idx).Stage) - ((p_b.Idxs.getD k26 d_Idx).Stage))) (IntKind.wrap .i64 (0 - (IntKind.wrap .i64 (((p_a.Idxs.getD k26 d_Idx).Stage) - ((p_b.Idxs.getD k26 d_Idx).Stage)))))) ?_))))))))))))))
    rintro v153 w152 ⟨rfl, hE154⟩
    have hE154z := Ex.size hE154
    refine sd rfl (yl_add rfl rfl rfl (sd rfl (yl_assign rfl rfl (SeqR.done (bn (tn (CW.region (sd rfl (yl_inc rfl rfl rfl (by omega) (sd rfl (yl_move rfl rfl (SeqR.done ?_))))))))))))
    refine tn ?_
    have hB155 : B_s_l24Far_0 p_a p_b k26 (x27) = .cont (IntKind.wrap .i64 (x27 + (s_l1Most (IntKind.wrap .i64 (((p_a.Idxs.getD k26 d_Idx).Stage) - ((p_b.Idxs.getD k26 d_Idx).Stage))) (IntKind.wrap .i64 (0 - (IntKind.wrap .i64 (((p_a.Idxs.getD k26 d_Idx).Stage) - ((p_b.Idxs.getD k26 d_Idx).Stage)))))))) := by simp only [B_s_l24Far_0, cond_true, cond_false, loopE_done, loopE_ret]
    exact ⟨p_a.Idxs.length - (k26 + 1), by omega, k26 + 1, IntKind.wrap .i64 (x27 + (s_l1Most (IntKind.wrap .i64 (((p_a.Idxs.getD k26 d_Idx).Stage) - ((p_b.Idxs.getD k26 d_Idx).Stage))) (IntKind.wrap .i64 (0 - (IntKind.wrap .i64 (((p_a.Idxs.getD k26 d_Idx).Stage) - ((p_b.Idxs.getD k26 d_Idx).Stage))))))), rfl, hlt60, (by omega), rfl, rfl, rfl, rfl, rfl, (Box.ex (Box.ex hf52 hE145) hE154), (RdS.ex good_Str (RdS.ex good_Str hf53 hE145) hE154), (RdS.ex good_Idx (RdS.ex good_Idx hf54 hE145) hE154), (Box.ex (Box.ex hf55 hE145) hE154), (RdS.ex good_Str (RdS.ex good_Str hf56 hE145) hE154), (RdS.ex good_Idx (RdS.ex good_Idx hf57 hE145) hE154), (Ex.trans (Ex.trans hf58 hE145) hE154), (loopM.cont hlt60 hB155).symm.trans hI45⟩
  ·refine CW.seq (CW.region (sd rfl (yl_lss rfl rfl rfl (SeqR.done (tn (CW.seq (CW.cond_f rfl (lt_f hlt60) (CW.exit (tx ?_)))))))))
   refine tx ?_
   have hL170 : loopM (B_s_l24Far_0 p_a p_b) (p_a.Idxs.length - 0) 0 (0) = .done (x27) := hI45.symm.trans (loopM.stop hlt60)
   refine bx (tn (CW.seq (CW.region (sd rfl (yl_move rfl rfl (sd rfl (yl_assign rfl rfl (SeqR.done (tn (CW.ret ?_))))))))))
   refine rr rfl (.cons rfl .nil) ?_
   have hM171 : (s_l24Far p_a p_b) = (x27) := by simp only [s_l24Far, hL170, cond_true, cond_false, loopE_done, loopE_ret]
   rw [hM171]
   exact ⟨rfl, hf58⟩
set_option maxRecDepth 100000 in
set_option maxHeartbeats 2000000 in
theorem c_s_l27Ways {A1 : Option Addr} {c1 : Nat} {A2 : Option Addr} {c2 : Nat} {A3 : Option Addr} {c3 : Nat} {w : World} (p_0 : DShift) (h1 : RdS w (Iv 0 w.heap.size) R_Table 3 A1 p_0.Ways.length c1 p_0.Ways) (h2 : RdS w (Iv 0 w.heap.size) (RF e_Int) 1 A2 p_0.At.length c2 p_0.At) (h3 : RdS w (Iv 0 w.heap.size) (RF e_Write) 3 A3 p_0.Store.length c3 p_0.Store) (o4 : ok_Shift p_0) : Cal Try.prog 143 #[.agg #[.string (bs (p_0.Name)), .slice A1 p_0.Ways.length c1, .slice A2 p_0.At.length c2, .slice A3 p_0.Store.length c3]] w fun v w' => v = .bool ((s_l27Ways p_0)) ∧ Ex w w' := by
 have hol5 : p_0.Name.length ≤ 1073741824 := o4.1
 have hol6 := o4.2.1.1
 have hol7 := o4.2.2.1.1
 have hol8 := o4.2.2.2.1
 refine Cal.of (vs := [.agg #[.string (bs (p_0.Name)), .slice A1 p_0.Ways.length c1, .slice A2 p_0.At.length c2, .slice A3 p_0.Store.length c3]]) Try.func143 rfl Try.ntmps143 rfl (CW.seq (CW.region (sd rfl (yl_box (cs := [.string (bs (p_0.Name)), .slice A1 p_0.Ways.length c1, .slice A2 p_0.At.length c2, .slice A3 p_0.Store.length c3]) rfl rfl rfl ?_))))
 intro b9 w10 hs11 hz12 hB13 hE14
 refine sd rfl (yl_assign rfl rfl (SeqR.done (tn (CW.seq (CW.seq (bcase (s_l1In (p_0.Ways.length : Int) 1 4) (fun hb16 => ?_) (fun hb16 => ?_)))))))
 ·have hb16p := f_l1In hb16
  obtain ⟨eb19, eo19, ec19, eA19, eS19, ebl19, el19, eR19, eC19⟩ := RdS.atD (RdS.ex good_Table h1 hE14) d_Table (i := 0) (by first | omega | assumption)
  obtain ⟨A20, c20, A21, c21, rfl, h20, h21⟩ := eR19
  have eC19 : Cells w10 eb19 (eo19 + 0 * 3) [.string (bs ((p_0.Ways.getD 0 d_Table).Name)), .slice A20 (((p_0.Ways.getD 0 d_Table).Cols).length) c20, .slice A21 (((p_0.Ways.getD 0 d_Table).Idxs).length) c21] := eC19
  refine bcase (s_GoodTable (p_0.Ways.getD 0 d_Table)) (fun hb23 => ?_) (fun hb23 => ?_)
  ·have hb23p := f_s_GoodTable hb23
   have q25 := RdS.ex good_Table h1 hE14
   obtain ⟨eb26, eo26, ec26, eA26, eS26, ebl26, el26, eR26, eC26⟩ := RdS.atD q25 d_Table (i := 0) (by first | omega | assumption)
   obtain ⟨A27, c27, A28, c28, rfl, h27, h28⟩ := eR26
   have eC26 : Cells w10 eb26 (eo26 + 0 * 3) [.string (bs ((p_0.Ways.getD 0 d_Table).Name)), .slice A27 (((p_0.Ways.getD 0 d_Table).Cols).length) c27, .slice A28 (((p_0.Ways.getD 0 d_Table).Idxs).length) c28] := eC26
   have hrf31 := rf_s_l24Idx (p_0.Ways.getD 0 d_Table) p_0.Name
   refine CW.drawsI 23 (vgetI [DetI (.pointer (some ⟨b9, 0 + 1, none⟩)), DetI (.slice A1 p_0.Ways.length c1), DetI (.int .i64 ((p_0.Ways.length : Int))), DetI (.bool ((s_l1In (p_0.Ways.length : Int) 1 4))), DetI (.bool (!(s_l1In (p_0.Ways.length : Int) 1 4))), DetI (.bool (!(s_l1In (p_0.Ways.length : Int) 1 4))), DetI (.pointer (some ⟨b9, 0 + 1, none⟩)), DetI (.slice A1 p_0.Ways.length c1), DetI (.pointer (some ⟨eb26, eo26 + 0 * 3, none⟩)), DetI (.agg #[.string (bs ((p_0.Ways.getD 0 d_Table).Name)), .slice A27 (((p_0.Ways.getD 0 d_Table).Cols).length) c27, .slice A28 (((p_0.Ways.getD 0 d_Table).Idxs).length) c28]), DetI (.bool ((s_GoodTable (p_0.Ways.getD 0 d_Table)))), DetI (.bool (!(s_GoodTable (p_0.Ways.getD 0 d_Table)))), DetI (.bool (!(s_GoodTable (p_0.Ways.getD 0 d_Table)))), DetI (.bool (!(s_GoodTable (p_0.Ways.getD 0 d_Table)))), DetI (.pointer (some ⟨b9, 0 + 1, none⟩)), DetI (.slice A1 p_0.Ways.length c1), DetI (.pointer (some ⟨eb26, eo26 + 0 * 3, none⟩)), DetI (.agg #[.string (bs ((p_0.Ways.getD 0 d_Table).Name)), .slice A27 (((p_0.Ways.getD 0 d_Table).Cols).length) c27, .slice A28 (((p_0.Ways.getD 0 d_Table).Idxs).length) c28]), DetI (.pointer (some ⟨b9, 0 + 0, none⟩)), DetI (.string (bs (p_0.Name))), DetI (.int .i64 ((s_l24Idx (p_0.Ways.getD 0 d_Table) p_0.Name))), DetI (.bool (decide ((s_l24Idx (p_0.Ways.getD 0 d_Table) p_0.Name) < 0))), DetI (.bool (decide ((s_l24Idx (p_0.Ways.getD 0 d_Table) p_0.Name) < 0)))]) Try.follows rfl rfl rfl rfl rfl rfl (vgetI_stable ⟨StableI.det _, StableI.det _, StableI.det _, StableI.det _, StableI.det _, StableI.det _, StableI.det _, StableI.det _, StableI.det _, StableI.det _, StableI.det _, StableI.det _, StableI.det _, StableI.det _, StableI.det _, StableI.det _, StableI.det _, StableI.det _, StableI.det _, StableI.det _, StableI.det _, StableI.det _, StableI.det _, trivial⟩) ⟨?_, ?_, ?_, ?_, ?_, ?_, ?_, ?_, ?_, ?_, ?_, ?_, ?_, ?_, ?_, ?_, ?_, ?_, ?_, ?_, ?_, ?_, ?_, trivial⟩ ?_
   ·exact fun _ _ h => os rfl ((yl_fieldAddr Try.fd91_1 rfl (h.old 1 _ rfl rfl) kI))
   ·exact fun _ _ h => os rfl ((yl_load1 Try.ty88 rfl (h.dt 0 6 rfl rfl rfl) (((Box.ex hB13 h.ex).cell 1).trans rfl) kI))
   ·exact fun _ _ h => os rfl ((yl_len Try.un88 rfl (h.dt 1 7 rfl rfl rfl) kI))
   ·intro L48 w49 hi50
    refine OpR.op' rfl (yl_call Try.en50 rfl (opvs_cons (hi50.dt 2 8 rfl rfl rfl) (opvs_cons rfl (opvs_cons rfl opvs_nil))) (Cal.mono (c_s_l1In (p_0.Ways.length : Int) 1 4) ?_))
    rintro v54 w53 ⟨rfl, hE55⟩
    exact ⟨rfl, hE55⟩
   ·exact fun _ _ h => os rfl ((yl_not rfl (h.dt 3 9 rfl rfl rfl) kI))
   ·exact fun _ _ h => os rfl ((yl_move rfl (h.dt 4 10 rfl rfl rfl) kI))
   ·exact fun _ _ h => OpR.want rfl rfl (h.dt 5 11 rfl rfl rfl) (not_t hb16) (Yl.sameI (yl_fieldAddr Try.fd91_1 rfl (h.old 1 _ rfl rfl) kI))
   ·exact fun _ _ h => OpR.want rfl rfl (h.dt 5 11 rfl rfl rfl) (not_t hb16) (Yl.sameI (yl_load1 Try.ty88 rfl (h.dt 6 12 rfl rfl rfl) (((Box.ex hB13 h.ex).cell 1).trans rfl) kI))
   ·intro L79 w80 hi81
    have hE82 := hi81.ex
    have hE82z := Ex.size hE82
    exact OpR.want rfl rfl (hi81.dt 5 11 rfl rfl rfl) (not_t hb16) (Yl.sameI (yl_indexAddrN Try.un88 Try.ty59 rfl (hi81.dt 7 13 rfl rfl rfl) rfl eA26 (by first | omega | assumption | (simp only [IntKind.wrap_i64] at *; omega)) kI))
   ·exact fun _ _ h => OpR.want rfl rfl (h.dt 5 11 rfl rfl rfl) (not_t hb16) (Yl.sameI (yl_loadN (cs := [.string (bs ((p_0.Ways.getD 0 d_Table).Name)), .slice A27 (((p_0.Ways.getD 0 d_Table).Cols).length) c27, .slice A28 (((p_0.Ways.getD 0 d_Table).Idxs).length) c28]) Try.ty59 rfl (h.dt 8 14 rfl rfl rfl) (Cells.ex eC26 h.ex) rfl kI))
   ·intro L92 w93 hi94
    have hE95 := hi94.ex
    refine OpR.want rfl rfl (hi94.dt 5 11 rfl rfl rfl) (not_t hb16) (yl_call Try.en131 rfl (opvs_cons (hi94.dt 9 15 rfl rfl rfl) opvs_nil) (Cal.mono (c_s_GoodTable (p_0.Ways.getD 0 d_Table) (RdS.up (RdS.ex good_Str h27 hE95) good_Str) (RdS.up (RdS.ex good_Idx h28 hE95) good_Idx) (okL.getD o4.2.1 ok_d_Table _)) ?_))
    rintro v101 w100 ⟨rfl, hE102⟩
    exact ⟨rfl, hE102⟩
   ·exact fun _ _ h => OpR.want rfl rfl (h.dt 5 11 rfl rfl rfl) (not_t hb16) (Yl.sameI (yl_not rfl (h.dt 10 16 rfl rfl rfl) kI))
   ·exact fun _ _ h => os rfl ((yl_pick_f rfl (h.dt 5 11 rfl rfl rfl) (not_t hb16) (h.dt 11 17 rfl rfl rfl) kI))
   ·exact fun _ _ h => os rfl ((yl_move rfl (h.dt 12 18 rfl rfl rfl) kI))
   ·exact fun _ _ h => OpR.want rfl rfl (h.dt 13 19 rfl rfl rfl) (not_t hb23) (Yl.sameI (yl_fieldAddr Try.fd91_1 rfl (h.old 1 _ rfl rfl) kI))
   ·exact fun _ _ h => OpR.want rfl rfl (h.dt 13 19 rfl rfl rfl) (not_t hb23) (Yl.sameI (yl_load1 Try.ty88 rfl (h.dt 14 20 rfl rfl rfl) (((Box.ex hB13 h.ex).cell 1).trans rfl) kI))
   ·intro L133 w134 hi135
    have hE136 := hi135.ex
    have hE136z := Ex.size hE136
    exact OpR.want rfl rfl (hi135.dt 13 19 rfl rfl rfl) (not_t hb23) (Yl.sameI (yl_indexAddrN Try.un88 Try.ty59 rfl (hi135.dt 15 21 rfl rfl rfl) rfl eA26 (by first | omega | assumption | (simp only [IntKind.wrap_i64] at *; omega)) kI))
   ·exact fun _ _ h => OpR.want rfl rfl (h.dt 13 19 rfl rfl rfl) (not_t hb23) (Yl.sameI (yl_loadN (cs := [.string (bs ((p_0.Ways.getD 0 d_Table).Name)), .slice A27 (((p_0.Ways.getD 0 d_Table).Cols).length) c27, .slice A28 (((p_0.Ways.getD 0 d_Table).Idxs).length) c28]) Try.ty59 rfl (h.dt 16 22 rfl rfl rfl) (Cells.ex eC26 h.ex) rfl kI))
   ·exact fun _ _ h => OpR.want rfl rfl (h.dt 13 19 rfl rfl rfl) (not_t hb23) (Yl.sameI (yl_fieldAddr Try.fd91_0 rfl (h.old 1 _ rfl rfl) kI))
   ·exact fun _ _ h => OpR.want rfl rfl (h.dt 13 19 rfl rfl rfl) (not_t hb23) (Yl.sameI (yl_load1 Try.ty9 rfl (h.dt 18 24 rfl rfl rfl) (((Box.ex hB13 h.ex).cell 0).trans rfl) kI))
   ·intro L159 w160 hi161
    have hE162 := hi161.ex
    refine OpR.want rfl rfl (hi161.dt 13 19 rfl rfl rfl) (not_t hb23) (yl_call Try.en159 rfl (opvs_cons (hi161.dt 17 23 rfl rfl rfl) (opvs_cons (hi161.dt 19 25 rfl rfl rfl) opvs_nil)) (Cal.mono (c_s_l24Idx (p_0.Ways.getD 0 d_Table) p_0.Name (RdS.up (RdS.ex good_Str h27 hE162) good_Str) (RdS.up (RdS.ex good_Idx h28 hE162) good_Idx) (okL.getD o4.2.1 ok_d_Table _) o4.1) ?_))
    rintro v169 w168 ⟨rfl, hE170⟩
    exact ⟨rfl, hE170⟩
   ·exact fun _ _ h => OpR.want rfl rfl (h.dt 13 19 rfl rfl rfl) (not_t hb23) (Yl.sameI (yl_lss rfl (h.dt 20 26 rfl rfl rfl) rfl kI))
   ·exact fun _ _ h => os rfl ((yl_pick_f rfl (h.dt 13 19 rfl rfl rfl) (not_t hb23) (h.dt 21 27 rfl rfl rfl) kI))
   ·intro fl186 fh187 L183 w184 hp185
    have hE188 := hp185.ex
    have hE188z := Ex.size hE188
    refine SeqR.done (tn (CW.sub (Sub.cons (d := 1) (hp185.old 1 _ rfl rfl) (Sub.cons (d := 28) (hp185.nt 22 28 rfl rfl rfl) (Sub.nil _))) (bcase (decide ((s_l24Idx (p_0.Ways.getD 0 d_Table) p_0.Name) < 0)) (fun hb191 => ?_) (fun hb191 => ?_))))
    ·have hb191p := dec_t hb191
     refine CW.cond_t rfl hb191 (CW.seq (CW.region (sd rfl (yl_assign rfl rfl (SeqR.done (tn (CW.ret (tr (rr rfl (.cons rfl .nil) ?_)))))))))
     have hM192 : (s_l27Ways p_0) = (false) := by simp only [s_l27Ways, hb16, hb23, hb191, cond_true, cond_false, loopE_done, loopE_ret]
     rw [hM192]
     exact ⟨rfl, (Ex.trans (Ex.trans (Ex.refl w) hE14) hE188)⟩
    ·have hb191p := dec_f hb191
     refine CW.cond_f rfl hb191 (CW.skip (tn (CW.seq (CW.region (sd rfl (yl_fieldAddr Try.fd91_1 rfl rfl ?_))))))
     have q195 := Box.ex hB13 hE188
     refine sd rfl (yl_load1 Try.ty88 rfl rfl ((q195.cell 1).trans rfl) (sd rfl (yl_fieldAddr Try.fd91_1 rfl rfl (sd rfl (yl_load1 Try.ty88 rfl rfl ((q195.cell 1).trans rfl) (sd rfl (yl_len Try.un88 rfl rfl (sd rfl (yl_sub rfl rfl rfl ?_)))))))))
     have q196 := RdS.ex good_Table q25 hE188
     obtain ⟨eb197, eo197, ec197, eA197, eS197, ebl197, el197, eR197, eC197⟩ := RdS.atD q196 d_Table (i := (IntKind.wrap .i64 ((p_0.Ways.length : Int) - 1)).toNat) (by first | omega | assumption | (simp only [IntKind.wrap_i64] at *; omega))
     obtain ⟨A198, c198, A199, c199, rfl, h198, h199⟩ := eR197
     have eC197 : Cells w184 eb197 (eo197 + ((IntKind.wrap .i64 ((p_0.Ways.length : Int) - 1)).toNat) * 3) [.string (bs ((p_0.Ways.getD ((IntKind.wrap .i64 ((p_0.Ways.length : Int) - 1)).toNat) d_Table).Name)), .slice A198 (((p_0.Ways.getD ((IntKind.wrap .i64 ((p_0.Ways.length : Int) - 1)).toNat) d_Table).Cols).length) c198, .slice A199 (((p_0.Ways.getD ((IntKind.wrap .i64 ((p_0.Ways.length : Int) - 1)).toNat) d_Table).Idxs).length) c199] := eC197
     refine sd rfl (yl_indexAddr Try.un88 Try.ty59 rfl rfl rfl eA197 (by first | omega | assumption | (simp only [IntKind.wrap_i64] at *; omega)) (by first | omega | assumption | (simp only [IntKind.wrap_i64] at *; omega)) (sd rfl (yl_loadN (cs := [.string (bs ((p_0.Ways.getD ((IntKind.wrap .i64 ((p_0.Ways.length : Int) - 1)).toNat) d_Table).Name)), .slice A198 (((p_0.Ways.getD ((IntKind.wrap .i64 ((p_0.Ways.length : Int) - 1)).toNat) d_Table).Cols).length) c198, .slice A199 (((p_0.Ways.getD ((IntKind.wrap .i64 ((p_0.Ways.length : Int) - 1)).toNat) d_Table).Idxs).length) c199]) Try.ty59 rfl rfl eC197 rfl (sd rfl (yl_alloc Try.ty59 (cs := [.string (bs (([] : Str))), .slice none 0 0, .slice none 0 0]) rfl rfl ?_)))))
     intro b200 w201 hs202 hz203 hB204 hE205
     refine SeqR.u rfl rfl (yl_store (vs := [.string (bs ((p_0.Ways.getD ((IntKind.wrap .i64 ((p_0.Ways.length : Int) - 1)).toNat) d_Table).Name)), .slice A198 (((p_0.Ways.getD ((IntKind.wrap .i64 ((p_0.Ways.length : Int) - 1)).toNat) d_Table).Cols).length) c198, .slice A199 (((p_0.Ways.getD ((IntKind.wrap .i64 ((p_0.Ways.length : Int) - 1)).toNat) d_Table).Idxs).length) c199]) Try.ty59 rfl rfl rfl rfl rfl rfl hB204 (Nat.le_of_ble_eq_true rfl) ?_)
     intro w206 hB207 hO208
     have hB207 : Box w206 b200 59 [.string (bs ((p_0.Ways.getD ((IntKind.wrap .i64 ((p_0.Ways.length : Int) - 1)).toNat) d_Table).Name)), .slice A198 (((p_0.Ways.getD ((IntKind.wrap .i64 ((p_0.Ways.length : Int) - 1)).toNat) d_Table).Cols).length) c198, .slice A199 (((p_0.Ways.getD ((IntKind.wrap .i64 ((p_0.Ways.length : Int) - 1)).toNat) d_Table).Idxs).length) c199] := hB207
     have hO208z := hO208.size
     refine SeqR.done (tn (CW.seq (CW.seq (CW.region (sd rfl (yl_loadN (cs := [.string (bs ((p_0.Ways.getD ((IntKind.wrap .i64 ((p_0.Ways.length : Int) - 1)).toNat) d_Table).Name)), .slice A198 (((p_0.Ways.getD ((IntKind.wrap .i64 ((p_0.Ways.length : Int) - 1)).toNat) d_Table).Cols).length) c198, .slice A199 (((p_0.Ways.getD ((IntKind.wrap .i64 ((p_0.Ways.length : Int) - 1)).toNat) d_Table).Idxs).length) c199]) Try.ty59 rfl rfl (hB207.cells (n := 3) rfl) rfl ?_))))))
     have q210 := RdS.only good_Str (RdS.ex good_Str h198 hE205) hO208 (by simp only [Iv]; omega)
     have q212 := RdS.only good_Idx (RdS.ex good_Idx h199 hE205) hO208 (by simp only [Iv]; omega)
     refine sd rfl (yl_call Try.en131 rfl (opvs_cons rfl opvs_nil) (Cal.mono (c_s_GoodTable (p_0.Ways.getD ((IntKind.wrap .i64 ((p_0.Ways.length : Int) - 1)).toNat) d_Table) (RdS.up q210 good_Str) (RdS.up q212 good_Idx) (okL.getD o4.2.1 ok_d_Table _)) ?_))
     rintro v214 w213 ⟨rfl, hE215⟩
     have hE215z := Ex.size hE215
     refine sd rfl (yl_not rfl rfl (sd rfl (yl_move rfl rfl (bcase (s_GoodTable (p_0.Ways.getD ((IntKind.wrap .i64 ((p_0.Ways.length : Int) - 1)).toNat) d_Table)) (fun hb216 => ?_) (fun hb216 => ?_)))))
     ·have hb216p := f_s_GoodTable hb216
      have q217 := Box.ex hB207 hE215
      refine sy rfl rfl (not_t hb216) (yl_loadN (cs := [.string (bs ((p_0.Ways.getD ((IntKind.wrap .i64 ((p_0.Ways.length : Int) - 1)).toNat) d_Table).Name)), .slice A198 (((p_0.Ways.getD ((IntKind.wrap .i64 ((p_0.Ways.length : Int) - 1)).toNat) d_Table).Cols).length) c198, .slice A199 (((p_0.Ways.getD ((IntKind.wrap .i64 ((p_0.Ways.length : Int) - 1)).toNat) d_Table).Idxs).length) c199]) Try.ty59 rfl rfl (q217.cells (n := 3) rfl) rfl (sy rfl rfl (not_t hb216) (yl_fieldAddr Try.fd91_0 rfl rfl ?_)))
      have q220 := Box.ex (Box.only (Box.ex q195 hE205) hO208 (by omega)) hE215
      refine sy rfl rfl (not_t hb216) (yl_load1 Try.ty9 rfl rfl ((q220.cell 0).trans rfl) ?_)
      have q221 := RdS.ex good_Str q210 hE215
      have q222 := RdS.ex good_Idx q212 hE215
      refine sy rfl rfl (not_t hb216) (yl_call Try.en159 rfl (opvs_cons rfl (opvs_cons rfl opvs_nil)) (Cal.mono (c_s_l24Idx (p_0.Ways.getD ((IntKind.wrap .i64 ((p_0.Ways.length : Int) - 1)).toNat) d_Table) p_0.Name (RdS.up q221 good_Str) (RdS.up q222 good_Idx) (okL.getD o4.2.1 ok_d_Table _) o4.1) ?_))
      rintro v224 w223 ⟨rfl, hE225⟩
      have hE225z := Ex.size hE225
      have hrf226 := rf_s_l24Idx (p_0.Ways.getD ((IntKind.wrap .i64 ((p_0.Ways.length : Int) - 1)).toNat) d_Table) p_0.Name
      refine sy rfl rfl (not_t hb216) (yl_lss rfl rfl rfl (sd rfl (yl_pick_f rfl rfl (not_t hb216) rfl (SeqR.done (tn (bcase (decide ((s_l24Idx (p_0.Ways.getD ((IntKind.wrap .i64 ((p_0.Ways.length : Int) - 1)).toNat) d_Table) p_0.Name) < 0)) (fun hb227 => ?_) (fun hb227 => ?_)))))))
      ·have hb227p := dec_t hb227
       refine CW.cond_t rfl hb227 (CW.seq (CW.region (sd rfl (yl_assign rfl rfl (SeqR.done (tn (CW.ret (tr (rr rfl (.cons rfl .nil) ?_)))))))))
       have hM228 : (s_l27Ways p_0) = (false) := by simp only [s_l27Ways, hb16, hb23, hb191, hb216, hb227, cond_true, cond_false, loopE_done, loopE_ret]
       rw [hM228]
       exact ⟨rfl, (Ex.trans (Ex.trans (Below.only (Ex.trans (Ex.trans (Ex.trans (Ex.refl w) hE14) hE188) hE205) hO208 (by omega)) hE215) hE225)⟩
      ·have hb227p := dec_f hb227
       refine CW.cond_f rfl hb227 (CW.skip (tn (CW.seq ?_)))
       have q235 := Box.ex q220 hE225
       have q241 := Box.ex q217 hE225
       have q243 := RdS.ex good_Idx q222 hE225
       obtain ⟨eb245, eo245, ec245, eA245, eS245, ebl245, el245, eR245, eC245⟩ := RdS.atD q243 d_Idx (i := ((s_l24Idx (p_0.Ways.getD ((IntKind.wrap .i64 ((p_0.Ways.length : Int) - 1)).toNat) d_Table) p_0.Name)).toNat) (by first | omega | assumption | (simp only [IntKind.wrap_i64] at *; omega))
       obtain rfl := eR245
       have eC245 : Cells w223 eb245 (eo245 + (((s_l24Idx (p_0.Ways.getD ((IntKind.wrap .i64 ((p_0.Ways.length : Int) - 1)).toNat) d_Table) p_0.Name)).toNat) * 3) [.string (bs ((((p_0.Ways.getD ((IntKind.wrap .i64 ((p_0.Ways.length : Int) - 1)).toNat) d_Table).Idxs).getD (((s_l24Idx (p_0.Ways.getD ((IntKind.wrap .i64 ((p_0.Ways.length : Int) - 1)).toNat) d_Table) p_0.Name)).toNat) d_Idx).Name)), .int .i64 ((((p_0.Ways.getD ((IntKind.wrap .i64 ((p_0.Ways.length : Int) - 1)).toNat) d_Table).Idxs).getD (((s_l24Idx (p_0.Ways.getD ((IntKind.wrap .i64 ((p_0.Ways.length : Int) - 1)).toNat) d_Table) p_0.Name)).toNat) d_Idx).Col), .int .i64 ((((p_0.Ways.getD ((IntKind.wrap .i64 ((p_0.Ways.length : Int) - 1)).toNat) d_Table).Idxs).getD (((s_l24Idx (p_0.Ways.getD ((IntKind.wrap .i64 ((p_0.Ways.length : Int) - 1)).toNat) d_Table) p_0.Name)).toNat) d_Idx).Stage)] := eC245
       have hrf260 := rf_s_l24Idx (p_0.Ways.getD ((IntKind.wrap .i64 ((p_0.Ways.length : Int) - 1)).toNat) d_Table) p_0.Name
       refine CW.drawsI 17 (vgetI [DetI (.pointer (some ⟨b9, 0 + 1, none⟩)), DetI (.slice A1 p_0.Ways.length c1), DetI (.pointer (some ⟨eb26, eo26 + 0 * 3, none⟩)), DetI (.agg #[.string (bs ((p_0.Ways.getD 0 d_Table).Name)), .slice A27 (((p_0.Ways.getD 0 d_Table).Cols).length) c27, .slice A28 (((p_0.Ways.getD 0 d_Table).Idxs).length) c28]), DetI (.pointer (some ⟨b9, 0 + 0, none⟩)), DetI (.string (bs (p_0.Name))), DetI (.pointer (some ⟨b200, 0 + 2, none⟩)), DetI (.slice A199 (((p_0.Ways.getD ((IntKind.wrap .i64 ((p_0.Ways.length : Int) - 1)).toNat) d_Table).Idxs).length) c199), DetI (.agg #[.string (bs ((p_0.Ways.getD ((IntKind.wrap .i64 ((p_0.Ways.length : Int) - 1)).toNat) d_Table).Name)), .slice A198 (((p_0.Ways.getD ((IntKind.wrap .i64 ((p_0.Ways.length : Int) - 1)).toNat) d_Table).Cols).length) c198, .slice A199 (((p_0.Ways.getD ((IntKind.wrap .i64 ((p_0.Ways.length : Int) - 1)).toNat) d_Table).Idxs).length) c199]), DetI (.pointer (some ⟨b9, 0 + 0, none⟩)), DetI (.string (bs (p_0.Name))), DetI (.int .i64 ((s_l24Idx (p_0.Ways.getD ((IntKind.wrap .i64 ((p_0.Ways.length : Int) - 1)).toNat) d_Table) p_0.Name))), DetI (.pointer (some ⟨eb245, eo245 + (((s_l24Idx (p_0.Ways.getD ((IntKind.wrap .i64 ((p_0.Ways.length : Int) - 1)).toNat) d_Table) p_0.Name)).toNat) * 3, none⟩)), DetI (.pointer (some ⟨eb245, eo245 + (((s_l24Idx (p_0.Ways.getD ((IntKind.wrap .i64 ((p_0.Ways.length : Int) - 1)).toNat) d_Table) p_0.Name)).toNat) * 3 + 2, none⟩)), DetI (.int .i64 ((((p_0.Ways.getD ((IntKind.wrap .i64 ((p_0.Ways.length : Int) - 1)).toNat) d_Table).Idxs).getD (((s_l24Idx (p_0.Ways.getD ((IntKind.wrap .i64 ((p_0.Ways.length : Int) - 1)).toNat) d_Table) p_0.Name)).toNat) d_Idx).Stage)), fun lo hi v wq => ∃ A257 c257 lo257 hi257, v = .slice A257 ((s_l24Way (p_0.Ways.getD 0 d_Table) p_0.Name ((((p_0.Ways.getD ((IntKind.wrap .i64 ((p_0.Ways.length : Int) - 1)).toNat) d_Table).Idxs).getD (((s_l24Idx (p_0.Ways.getD ((IntKind.wrap .i64 ((p_0.Ways.length : Int) - 1)).toNat) d_Table) p_0.Name)).toNat) d_Idx).Stage)).length) c257 ∧ OwnL wq lo257 hi257 59 3 R_Table A257 ((s_l24Way (p_0.Ways.getD 0 d_Table) p_0.Name ((((p_0.Ways.getD ((IntKind.wrap .i64 ((p_0.Ways.length : Int) - 1)).toNat) d_Table).Idxs).getD (((s_l24Idx (p_0.Ways.getD ((IntKind.wrap .i64 ((p_0.Ways.length : Int) - 1)).toNat) d_Table) p_0.Name)).toNat) d_Idx).Stage)).length) c257 (s_l24Way (p_0.Ways.getD 0 d_Table) p_0.Name ((((p_0.Ways.getD ((IntKind.wrap .i64 ((p_0.Ways.length : Int) - 1)).toNat) d_Table).Idxs).getD (((s_l24Idx (p_0.Ways.getD ((IntKind.wrap .i64 ((p_0.Ways.length : Int) - 1)).toNat) d_Table) p_0.Name)).toNat) d_Idx).Stage)) ∧ (okL ok_Table) (s_l24Way (p_0.Ways.getD 0 d_Table) p_0.Name ((((p_0.Ways.getD ((IntKind.wrap .i64 ((p_0.Ways.length : Int) - 1)).toNat) d_Table).Idxs).getD (((s_l24Idx (p_0.Ways.getD ((IntKind.wrap .i64 ((p_0.Ways.length : Int) - 1)).toNat) d_Table) p_0.Name)).toNat) d_Idx).Stage)) ∧ (lo ≤ lo257 ∧ lo257 ≤ hi257 ∧ hi257 ≤ hi), fun lo hi v wq => ∃ A257 c257, v = .slice A257 ((s_l24Way (p_0.Ways.getD 0 d_Table) p_0.Name ((((p_0.Ways.getD ((IntKind.wrap .i64 ((p_0.Ways.length : Int) - 1)).toNat) d_Table).Idxs).getD (((s_l24Idx (p_0.Ways.getD ((IntKind.wrap .i64 ((p_0.Ways.length : Int) - 1)).toNat) d_Table) p_0.Name)).toNat) d_Idx).Stage)).length) c257 ∧ RdS wq (Ge w223.heap.size) R_Table 3 A257 (s_l24Way (p_0.Ways.getD 0 d_Table) p_0.Name ((((p_0.Ways.getD ((IntKind.wrap .i64 ((p_0.Ways.length : Int) - 1)).toNat) d_Table).Idxs).getD (((s_l24Idx (p_0.Ways.getD ((IntKind.wrap .i64 ((p_0.Ways.length : Int) - 1)).toNat) d_Table) p_0.Name)).toNat) d_Idx).Stage)).length c257 (s_l24Way (p_0.Ways.getD 0 d_Table) p_0.Name ((((p_0.Ways.getD ((IntKind.wrap .i64 ((p_0.Ways.length : Int) - 1)).toNat) d_Table).Idxs).getD (((s_l24Idx (p_0.Ways.getD ((IntKind.wrap .i64 ((p_0.Ways.length : Int) - 1)).toNat) d_Table) p_0.Name)).toNat) d_Idx).Stage))]) Try.follows rfl rfl rfl rfl rfl rfl (vgetI_stable ⟨StableI.det _, StableI.det _, StableI.det _, StableI.det _, StableI.det _, StableI.det _, StableI.det _, StableI.det _, StableI.det _, StableI.det _, StableI.det _, StableI.det _, StableI.det _, StableI.det _, StableI.det _, (fun _ _ _ _ _ ⟨A257, c257, lo257, hi257, hv, h257, ho258, hr0⟩ e => ⟨A257, c257, lo257, hi257, hv, OwnL.ex good_Table h257 e, ho258, hr0⟩), (fun _ _ _ _ _ ⟨A257, c257, hv, h259⟩ e => ⟨A257, c257, hv, RdS.ex good_Table h259 e⟩), trivial⟩) ⟨?_, ?_, ?_, ?_, ?_, ?_, ?_, ?_, ?_, ?_, ?_, ?_, ?_, ?_, ?_, ?_, ?_, trivial⟩ ?_
       ·exact fun _ _ h => os rfl ((yl_fieldAddr Try.fd91_1 rfl (h.old 1 _ rfl rfl) kI))
       ·exact fun _ _ h => os rfl ((yl_load1 Try.ty88 rfl (h.dt 0 47 rfl rfl rfl) (((Box.ex q235 h.ex).cell 1).trans rfl) kI))
       ·intro L272 w273 hi274
        have hE275 := hi274.ex
        have hE275z := Ex.size hE275
        exact os rfl ((yl_indexAddrN Try.un88 Try.ty59 rfl (hi274.dt 1 48 rfl rfl rfl) rfl eA26 (by first | omega | assumption | (simp only [IntKind.wrap_i64] at *; omega)) kI))
       ·intro L277 w278 hi279
        have hE280 := hi279.ex
        have hE280z := Ex.size hE280
        exact os rfl ((yl_loadN (cs := [.string (bs ((p_0.Ways.getD 0 d_Table).Name)), .slice A27 (((p_0.Ways.getD 0 d_Table).Cols).length) c27, .slice A28 (((p_0.Ways.getD 0 d_Table).Idxs).length) c28]) Try.ty59 rfl (hi279.dt 2 49 rfl rfl rfl) (Cells.ex (Cells.ex (Cells.ex (Cells.only (Cells.ex (Cells.ex eC26 hE188) hE205) hO208 (by omega)) hE215) hE225) hE280) rfl kI))
       ·exact fun _ _ h => os rfl ((yl_fieldAddr Try.fd91_0 rfl (h.old 1 _ rfl rfl) kI))
       ·exact fun _ _ h => os rfl ((yl_load1 Try.ty9 rfl (h.dt 4 51 rfl rfl rfl) (((Box.ex q235 h.ex).cell 0).trans rfl) kI))
       ·exact fun _ _ h => os rfl ((yl_fieldAddr Try.fd59_2 rfl (h.old 3 _ rfl rfl) kI))
       ·exact fun _ _ h => os rfl ((yl_load1 Try.ty57 rfl (h.dt 6 53 rfl rfl rfl) (((Box.ex q241 h.ex).cell 2).trans rfl) kI))
       ·exact fun _ _ h => os rfl ((yl_loadN (cs := [.string (bs ((p_0.Ways.getD ((IntKind.wrap .i64 ((p_0.Ways.length : Int) - 1)).toNat) d_Table).Name)), .slice A198 (((p_0.Ways.getD ((IntKind.wrap .i64 ((p_0.Ways.length : Int) - 1)).toNat) d_Table).Cols).length) c198, .slice A199 (((p_0.Ways.getD ((IntKind.wrap .i64 ((p_0.Ways.length : Int) - 1)).toNat) d_Table).Idxs).length) c199]) Try.ty59 rfl (h.old 3 _ rfl rfl) ((Box.ex q241 h.ex).cells (n := 3) rfl) rfl kI))
       ·exact fun _ _ h => os rfl ((yl_fieldAddr Try.fd91_0 rfl (h.old 1 _ rfl rfl) kI))
       ·exact fun _ _ h => os rfl ((yl_load1 Try.ty9 rfl (h.dt 9 56 rfl rfl rfl) (((Box.ex q235 h.ex).cell 0).trans rfl) kI))
       ·intro L322 w323 hi324
        have hE325 := hi324.ex
        refine OpR.op' rfl (yl_call Try.en159 rfl (opvs_cons (hi324.dt 8 55 rfl rfl rfl) (opvs_cons (hi324.dt 10 57 rfl rfl rfl) opvs_nil)) (Cal.mono (c_s_l24Idx (p_0.Ways.getD ((IntKind.wrap .i64 ((p_0.Ways.length : Int) - 1)).toNat) d_Table) p_0.Name (RdS.up (RdS.ex good_Str (RdS.ex good_Str q221 hE225) hE325) good_Str) (RdS.up (RdS.ex good_Idx q243 hE325) good_Idx) (okL.getD o4.2.1 ok_d_Table _) o4.1) ?_))
        rintro v331 w330 ⟨rfl, hE332⟩
        exact ⟨rfl, hE332⟩
       ·intro L333 w334 hi335
        have hE336 := hi335.ex
        have hE336z := Ex.size hE336
        exact os rfl ((yl_indexAddr Try.un57 Try.ty177 rfl (hi335.dt 7 54 rfl rfl rfl) (hi335.dt 11 58 rfl rfl rfl) eA245 (by first | omega | assumption | (simp only [IntKind.wrap_i64] at *; omega)) (by first | omega | assumption | (simp only [IntKind.wrap_i64] at *; omega)) kI))
       ·exact fun _ _ h => os rfl ((yl_fieldAddr Try.fd177_2 rfl (h.dt 12 59 rfl rfl rfl) kI))
       ·exact fun _ _ h => os rfl ((yl_load1 Try.ty3 rfl (h.dt 13 60 rfl rfl rfl) ((Cells.ex eC245 h.ex) 2 _ rfl) kI))
       ·intro L350 w351 hi352
        have hE353 := hi352.ex
        have hE353z := Ex.size hE353
        refine OpR.op' rfl (yl_call Try.en102 rfl (opvs_cons (hi352.dt 3 50 rfl rfl rfl) (opvs_cons (hi352.dt 5 52 rfl rfl rfl) (opvs_cons (hi352.dt 14 61 rfl rfl rfl) opvs_nil))) (Cal.mono (c_s_l24Way (p_0.Ways.getD 0 d_Table) p_0.Name ((((p_0.Ways.getD ((IntKind.wrap .i64 ((p_0.Ways.length : Int) - 1)).toNat) d_Table).Idxs).getD (((s_l24Idx (p_0.Ways.getD ((IntKind.wrap .i64 ((p_0.Ways.length : Int) - 1)).toNat) d_Table) p_0.Name)).toNat) d_Idx).Stage) (RdS.up (RdS.ex good_Str (RdS.ex good_Str (RdS.ex good_Str (RdS.only good_Str (RdS.ex good_Str (RdS.ex good_Str h27 hE188) hE205) hO208 (by simp only [Iv]; omega)) hE215) hE225) hE353) good_Str) (RdS.up (RdS.ex good_Idx (RdS.ex good_Idx (RdS.ex good_Idx (RdS.only good_Idx (RdS.ex good_Idx (RdS.ex good_Idx h28 hE188) hE205) hO208 (by simp only [Iv]; omega)) hE215) hE225) hE353) good_Idx) (okL.getD o4.2.1 ok_d_Table _) o4.1 (by first | omega | assumption | (simp only [IntKind.wrap_i64] at *; omega)) (stage_rng hb23 (by omega)) (stage_rng hb216 (by omega))) ?_))
        rintro v362 w359 ⟨A360, c360, lo360, hi360, rfl, h360, ho361, hrn364, hE363⟩
        exact ⟨⟨A360, c360, lo360, hi360, rfl, h360, ho361, hrn364⟩, hE363⟩
       ·intro L365 w366 hi367
        have hE368 := hi367.ex
        have hE368z := Ex.size hE368
        obtain ⟨lo370, hh371, _, hx369, hr372, hr373, hr374, A257_375, c257_376, lo257_377, hi257_378, rfl, h379, h380, hrn381⟩ := hi367.dep 15 62 rfl rfl
        exact os rfl ((yl_assign rfl hx369 ⟨fun _ _ => ⟨A257_375, c257_376, rfl, (RdS.ivG good_Table (OwnL.rd good_Table h379) (by omega))⟩, rfl⟩))
       ·intro fl385 fh386 L382 w383 hp384
        have hE387 := hp384.ex
        have hE387z := Ex.size hE387
        have hr390 := hp384.rng 15 rfl
        obtain ⟨_, hx389, A257_391, c257_392, lo257_393, hi257_394, rfl, h395, h396, hrn397⟩ := hp384.new 15 62 rfl rfl
        obtain ⟨_, hx398, A257_399, c257_400, rfl, h401⟩ := hp384.new 16 4 rfl rfl
        refine SeqR.done (tn (CW.sub (Sub.cons (d := 1) (hp384.old 1 _ rfl rfl) (Sub.cons (d := 4) hx398 (Sub.nil _))) (CW.seq (CW.seq (CW.region (sd rfl (yl_move rfl rfl (sd rfl (yl_len Try.un88 rfl rfl (sd rfl (yl_fieldAddr Try.fd91_1 rfl rfl ?_)))))))))))
        have q402 := Box.ex q235 hE387
        refine sd rfl (yl_load1 Try.ty88 rfl rfl ((q402.cell 1).trans rfl) (sd rfl (yl_len Try.un88 rfl rfl (sd rfl (yl_neq rfl rfl rfl (SeqR.done (tn (bcase (decide (((s_l24Way (p_0.Ways.getD 0 d_Table) p_0.Name ((((p_0.Ways.getD ((IntKind.wrap .i64 ((p_0.Ways.length : Int) - 1)).toNat) d_Table).Idxs).getD (((s_l24Idx (p_0.Ways.getD ((IntKind.wrap .i64 ((p_0.Ways.length : Int) - 1)).toNat) d_Table) p_0.Name)).toNat) d_Idx).Stage)).length : Int) = (p_0.Ways.length : Int))) (fun hb403 => ?_) (fun hb403 => ?_)))))))))
        ·have hb403p := dec_t hb403
         refine CW.cond_f rfl (not_t hb403) (CW.skip (tn (CW.seq (CW.seq (CW.region (sd rfl (yl_move rfl rfl (sd rfl (yl_len Try.un88 rfl rfl (sd rfl (yl_move rfl rfl ?_)))))))))))
         refine SeqR.done (tn (CW.block (CW.loop (fun m405 L406 w407 => ∃ (k404 : Nat), m405 = (s_l24Way (p_0.Ways.getD 0 d_Table) p_0.Name ((((p_0.Ways.getD ((IntKind.wrap .i64 ((p_0.Ways.length : Int) - 1)).toNat) d_Table).Idxs).getD (((s_l24Idx (p_0.Ways.getD ((IntKind.wrap .i64 ((p_0.Ways.length : Int) - 1)).toNat) d_Table) p_0.Name)).toNat) d_Idx).Stage)).length - k404 ∧ k404 ≤ (s_l24Way (p_0.Ways.getD 0 d_Table) p_0.Name ((((p_0.Ways.getD ((IntKind.wrap .i64 ((p_0.Ways.length : Int) - 1)).toNat) d_Table).Idxs).getD (((s_l24Idx (p_0.Ways.getD ((IntKind.wrap .i64 ((p_0.Ways.length : Int) - 1)).toNat) d_Table) p_0.Name)).toNat) d_Idx).Stage)).length ∧ w383.heap.size ≤ w407.heap.size ∧ lkp L406 1 = some (.pointer (some ⟨b9, 0, none⟩)) ∧ lkp L406 4 = some (.slice A257_399 ((s_l24Way (p_0.Ways.getD 0 d_Table) p_0.Name ((((p_0.Ways.getD ((IntKind.wrap .i64 ((p_0.Ways.length : Int) - 1)).toNat) d_Table).Idxs).getD (((s_l24Idx (p_0.Ways.getD ((IntKind.wrap .i64 ((p_0.Ways.length : Int) - 1)).toNat) d_Table) p_0.Name)).toNat) d_Idx).Stage)).length) c257_400) ∧ lkp L406 70 = some (.int .i64 (((s_l24Way (p_0.Ways.getD 0 d_Table) p_0.Name ((((p_0.Ways.getD ((IntKind.wrap .i64 ((p_0.Ways.length : Int) - 1)).toNat) d_Table).Idxs).getD (((s_l24Idx (p_0.Ways.getD ((IntKind.wrap .i64 ((p_0.Ways.length : Int) - 1)).toNat) d_Table) p_0.Name)).toNat) d_Idx).Stage)).length : Int))) ∧ lkp L406 71 = some (.int .i64 ((k404 : Int))) ∧ Box w407 b9 91 [.string (bs (p_0.Name)), .slice A1 p_0.Ways.length c1, .slice A2 p_0.At.length c2, .slice A3 p_0.Store.length c3] ∧ RdS w407 (Iv 0 w.heap.size) R_Table 3 A1 p_0.Ways.length c1 p_0.Ways ∧ RdS w407 (Iv 0 w.heap.size) (RF e_Int) 1 A2 p_0.At.length c2 p_0.At ∧ RdS w407 (Iv 0 w.heap.size) (RF e_Write) 3 A3 p_0.Store.length c3 p_0.Store ∧ RdS w407 (Ge w223.heap.size) R_Table 3 A257_399 (s_l24Way (p_0.Ways.getD 0 d_Table) p_0.Name ((((p_0.Ways.getD ((IntKind.wrap .i64 ((p_0.Ways.length : Int) - 1)).toNat) d_Table).Idxs).getD (((s_l24Idx (p_0.Ways.getD ((IntKind.wrap .i64 ((p_0.Ways.length : Int) - 1)).toNat) d_Table) p_0.Name)).toNat) d_Idx).Stage)).length c257_400 (s_l24Way (p_0.Ways.getD 0 d_Table) p_0.Name ((((p_0.Ways.getD ((IntKind.wrap .i64 ((p_0.Ways.length : Int) - 1)).toNat) d_Table).Idxs).getD (((s_l24Idx (p_0.Ways.getD ((IntKind.wrap .i64 ((p_0.Ways.length : Int) - 1)).toNat) d_Table) p_0.Name)).toNat) d_Idx).Stage)) ∧ Ex w w407 ∧ loopM (B_s_l27Ways_0 p_0) ((s_l24Way (p_0.Ways.getD 0 d_Table) p_0.Name ((((p_0.Ways.getD ((IntKind.wrap .i64 ((p_0.Ways.length : Int) - 1)).toNat) d_Table).Idxs).getD (((s_l24Idx (p_0.Ways.getD ((IntKind.wrap .i64 ((p_0.Ways.length : Int) - 1)).toNat) d_Table) p_0.Name)).toNat) d_Idx).Stage)).length - k404) k404 () = loopM (B_s_l27Ways_0 p_0) ((s_l24Way (p_0.Ways.getD 0 d_Table) p_0.Name ((((p_0.Ways.getD ((IntKind.wrap .i64 ((p_0.Ways.length : Int) - 1)).toNat) d_Table).Idxs).getD (((s_l24Idx (p_0.Ways.getD ((IntKind.wrap .i64 ((p_0.Ways.length : Int) - 1)).toNat) d_Table) p_0.Name)).toNat) d_Idx).Stage)).length - 0) 0 ()) ((s_l24Way (p_0.Ways.getD 0 d_Table) p_0.Name ((((p_0.Ways.getD ((IntKind.wrap .i64 ((p_0.Ways.length : Int) - 1)).toNat) d_Table).Idxs).getD (((s_l24Idx (p_0.Ways.getD ((IntKind.wrap .i64 ((p_0.Ways.length : Int) - 1)).toNat) d_Table) p_0.Name)).toNat) d_Idx).Stage)).length - 0) ?_ ?_)))
         ·exact ⟨0, rfl, (by omega), Nat.le_refl _, rfl, rfl, rfl, rfl, q402, (RdS.ex good_Table (RdS.ex good_Table (RdS.ex good_Table (RdS.only good_Table (RdS.ex good_Table q196 hE205) hO208 (by simp only [Iv]; omega)) hE215) hE225) hE387), (RdS.ex good_Int (RdS.ex good_Int (RdS.ex good_Int (RdS.only good_Int (RdS.ex good_Int (RdS.ex good_Int (RdS.ex good_Int h2 hE14) hE188) hE205) hO208 (by simp only [Iv]; omega)) hE215) hE225) hE387), (RdS.ex good_Write (RdS.ex good_Write (RdS.ex good_Write (RdS.only good_Write (RdS.ex good_Write (RdS.ex good_Write (RdS.ex good_Write h3 hE14) hE188) hE205) hO208 (by simp only [Iv]; omega)) hE215) hE225) hE387), h401, (Ex.trans (Ex.trans (Ex.trans (Below.only (Ex.trans (Ex.trans (Ex.trans (Ex.refl w) hE14) hE188) hE205) hO208 (by omega)) hE215) hE225) hE387), rfl⟩
         ·rintro m434 L435 w436 ⟨k404, rfl, hk437, hsz439, hl440, hl441, hl442, hl443, hf444, hf445, hf446, hf447, hf448, hf449, hI438⟩
          refine CW.sub (Sub.cons hl440 (Sub.cons hl441 (Sub.cons hl442 (Sub.cons hl443 (Sub.nil _))))) ?_
          have hf444z := Box.lt hf444
          have hf449z := Ex.size hf449
          have hbg450 := RdS.big hf448
          rcases Nat.lt_or_ge k404 ((s_l24Way (p_0.Ways.getD 0 d_Table) p_0.Name ((((p_0.Ways.getD ((IntKind.wrap .i64 ((p_0.Ways.length : Int) - 1)).toNat) d_Table).Idxs).getD (((s_l24Idx (p_0.Ways.getD ((IntKind.wrap .i64 ((p_0.Ways.length : Int) - 1)).toNat) d_Table) p_0.Name)).toNat) d_Idx).Stage)).length) with hlt451 | hlt451
          ·refine CW.seq (CW.region (sd rfl (yl_lss rfl rfl rfl (SeqR.done (tn (CW.seq (CW.cond_t rfl (lt_t hlt451) (CW.skip (tn ?_)))))))))
           refine CW.seq (CW.block (CW.seq (CW.region (sd rfl (yl_move rfl rfl (sd rfl (yl_assign rfl rfl (SeqR.done (tn (CW.seq ?_))))))))))
           obtain ⟨eb452, eo452, ec452, eA452, eS452, ebl452, el452, eR452, eC452⟩ := RdS.atD hf445 d_Table (i := k404) (by first | omega | assumption)
           obtain ⟨A453, c453, A454, c454, rfl, h453, h454⟩ := eR452
           have eC452 : Cells w436 eb452 (eo452 + k404 * 3) [.string (bs ((p_0.Ways.getD k404 d_Table).Name)), .slice A453 (((p_0.Ways.getD k404 d_Table).Cols).length) c453, .slice A454 (((p_0.Ways.getD k404 d_Table).Idxs).length) c454] := eC452
           refine bcase (s_GoodTable (p_0.Ways.getD k404 d_Table)) (fun hb456 => ?_) (fun hb456 => ?_)
           ·have hb456p := f_s_GoodTable hb456
            obtain ⟨eb457, eo457, ec457, eA457, eS457, ebl457, el457, eR457, eC457⟩ := RdS.atD hf445 d_Table (i := k404) (by first | omega | assumption)
            obtain ⟨A458, c458, A459, c459, rfl, h458, h459⟩ := eR457
            have eC457 : Cells w436 eb457 (eo457 + k404 * 3) [.string (bs ((p_0.Ways.getD k404 d_Table).Name)), .slice A458 (((p_0.Ways.getD k404 d_Table).Cols).length) c458, .slice A459 (((p_0.Ways.getD k404 d_Table).Idxs).length) c459] := eC457
            obtain ⟨eb461, eo461, ec461, eA461, eS461, ebl461, el461, eR461, eC461⟩ := RdS.atD hf448 d_Table (i := k404) (by first | omega | assumption)
            obtain ⟨A462, c462, A463, c463, rfl, h462, h463⟩ := eR461
            have eC461 : Cells w436 eb461 (eo461 + k404 * 3) [.string (bs (((s_l24Way (p_0.Ways.getD 0 d_Table) p_0.Name ((((p_0.Ways.getD ((IntKind.wrap .i64 ((p_0.Ways.length : Int) - 1)).toNat) d_Table).Idxs).getD (((s_l24Idx (p_0.Ways.getD ((IntKind.wrap .i64 ((p_0.Ways.length : Int) - 1)).toNat) d_Table) p_0.Name)).toNat) d_Idx).Stage)).getD k404 d_Table).Name)), .slice A462 ((((s_l24Way (p_0.Ways.getD 0 d_Table) p_0.Name ((((p_0.Ways.getD ((IntKind.wrap .i64 ((p_0.Ways.length : Int) - 1)).toNat) d_Table).Idxs).getD (((s_l24Idx (p_0.Ways.getD ((IntKind.wrap .i64 ((p_0.Ways.length : Int) - 1)).toNat) d_Table) p_0.Name)).toNat) d_Idx).Stage)).getD k404 d_Table).Cols).length) c462, .slice A463 ((((s_l24Way (p_0.Ways.getD 0 d_Table) p_0.Name ((((p_0.Ways.getD ((IntKind.wrap .i64 ((p_0.Ways.length : Int) - 1)).toNat) d_Table).Idxs).getD (((s_l24Idx (p_0.Ways.getD ((IntKind.wrap .i64 ((p_0.Ways.length : Int) - 1)).toNat) d_Table) p_0.Name)).toNat) d_Idx).Stage)).getD k404 d_Table).Idxs).length) c463] := eC461
            refine bcase (s_l24SameCols ((s_l24Way (p_0.Ways.getD 0 d_Table) p_0.Name ((((p_0.Ways.getD ((IntKind.wrap .i64 ((p_0.Ways.length : Int) - 1)).toNat) d_Table).Idxs).getD (((s_l24Idx (p_0.Ways.getD ((IntKind.wrap .i64 ((p_0.Ways.length : Int) - 1)).toNat) d_Table) p_0.Name)).toNat) d_Idx).Stage)).getD k404 d_Table) (p_0.Ways.getD k404 d_Table)) (fun hb465 => ?_) (fun hb465 => ?_)
            ·have hb465p := f_s_l24SameCols hb465
             obtain ⟨eb466, eo466, ec466, eA466, eS466, ebl466, el466, eR466, eC466⟩ := RdS.atD hf445 d_Table (i := k404) (by first | omega | assumption)
             obtain ⟨A467, c467, A468, c468, rfl, h467, h468⟩ := eR466
             have eC466 : Cells w436 eb466 (eo466 + k404 * 3) [.string (bs ((p_0.Ways.getD k404 d_Table).Name)), .slice A467 (((p_0.Ways.getD k404 d_Table).Cols).length) c467, .slice A468 (((p_0.Ways.getD k404 d_Table).Idxs).length) c468] := eC466
             obtain ⟨eb470, eo470, ec470, eA470, eS470, ebl470, el470, eR470, eC470⟩ := RdS.atD hf448 d_Table (i := k404) (by first | omega | assumption)
             obtain ⟨A471, c471, A472, c472, rfl, h471, h472⟩ := eR470
             have eC470 : Cells w436 eb470 (eo470 + k404 * 3) [.string (bs (((s_l24Way (p_0.Ways.getD 0 d_Table) p_0.Name ((((p_0.Ways.getD ((IntKind.wrap .i64 ((p_0.Ways.length : Int) - 1)).toNat) d_Table).Idxs).getD (((s_l24Idx (p_0.Ways.getD ((IntKind.wrap .i64 ((p_0.Ways.length : Int) - 1)).toNat) d_Table) p_0.Name)).toNat) d_Idx).Stage)).getD k404 d_Table).Name)), .slice A471 ((((s_l24Way (p_0.Ways.getD 0 d_Table) p_0.Name ((((p_0.Ways.getD ((IntKind.wrap .i64 ((p_0.Ways.length : Int) - 1)).toNat) d_Table).Idxs).getD (((s_l24Idx (p_0.Ways.getD ((IntKind.wrap .i64 ((p_0.Ways.length : Int) - 1)).toNat) d_Table) p_0.Name)).toNat) d_Idx).Stage)).getD k404 d_Table).Cols).length) c471, .slice A472 ((((s_l24Way (p_0.Ways.getD 0 d_Table) p_0.Name ((((p_0.Ways.getD ((IntKind.wrap .i64 ((p_0.Ways.length : Int) - 1)).toNat) d_Table).Idxs).getD (((s_l24Idx (p_0.Ways.getD ((IntKind.wrap .i64 ((p_0.Ways.length : Int) - 1)).toNat) d_Table) p_0.Name)).toNat) d_Idx).Stage)).getD k404 d_Table).Idxs).length) c472] := eC470
             refine CW.drawsI 33 (vgetI [DetI (.pointer (some ⟨b9, 0 + 1, none⟩)), DetI (.slice A1 p_0.Ways.length c1), DetI (.int .i64 ((k404 : Int))), DetI (.pointer (some ⟨eb466, eo466 + k404 * 3, none⟩)), DetI (.agg #[.string (bs ((p_0.Ways.getD k404 d_Table).Name)), .slice A467 (((p_0.Ways.getD k404 d_Table).Cols).length) c467, .slice A468 (((p_0.Ways.getD k404 d_Table).Idxs).length) c468]), DetI (.bool ((s_GoodTable (p_0.Ways.getD k404 d_Table)))), DetI (.bool (!(s_GoodTable (p_0.Ways.getD k404 d_Table)))), DetI (.bool (!(s_GoodTable (p_0.Ways.getD k404 d_Table)))), DetI (.slice A257_399 ((s_l24Way (p_0.Ways.getD 0 d_Table) p_0.Name ((((p_0.Ways.getD ((IntKind.wrap .i64 ((p_0.Ways.length : Int) - 1)).toNat) d_Table).Idxs).getD (((s_l24Idx (p_0.Ways.getD ((IntKind.wrap .i64 ((p_0.Ways.length : Int) - 1)).toNat) d_Table) p_0.Name)).toNat) d_Idx).Stage)).length) c257_400), DetI (.int .i64 ((k404 : Int))), DetI (.pointer (some ⟨eb470, eo470 + k404 * 3, none⟩)), DetI (.agg #[.string (bs (((s_l24Way (p_0.Ways.getD 0 d_Table) p_0.Name ((((p_0.Ways.getD ((IntKind.wrap .i64 ((p_0.Ways.length : Int) - 1)).toNat) d_Table).Idxs).getD (((s_l24Idx (p_0.Ways.getD ((IntKind.wrap .i64 ((p_0.Ways.length : Int) - 1)).toNat) d_Table) p_0.Name)).toNat) d_Idx).Stage)).getD k404 d_Table).Name)), .slice A471 ((((s_l24Way (p_0.Ways.getD 0 d_Table) p_0.Name ((((p_0.Ways.getD ((IntKind.wrap .i64 ((p_0.Ways.length : Int) - 1)).toNat) d_Table).Idxs).getD (((s_l24Idx (p_0.Ways.getD ((IntKind.wrap .i64 ((p_0.Ways.length : Int) - 1)).toNat) d_Table) p_0.Name)).toNat) d_Idx).Stage)).getD k404 d_Table).Cols).length) c471, .slice A472 ((((s_l24Way (p_0.Ways.getD 0 d_Table) p_0.Name ((((p_0.Ways.getD ((IntKind.wrap .i64 ((p_0.Ways.length : Int) - 1)).toNat) d_Table).Idxs).getD (((s_l24Idx (p_0.Ways.getD ((IntKind.wrap .i64 ((p_0.Ways.length : Int) - 1)).toNat) d_Table) p_0.Name)).toNat) d_Idx).Stage)).getD k404 d_Table).Idxs).length) c472]), DetI (.pointer (some ⟨b9, 0 + 1, none⟩)), DetI (.slice A1 p_0.Ways.length c1), DetI (.int .i64 ((k404 : Int))), DetI (.pointer (some ⟨eb466, eo466 + k404 * 3, none⟩)), DetI (.agg #[.string (bs ((p_0.Ways.getD k404 d_Table).Name)), .slice A467 (((p_0.Ways.getD k404 d_Table).Cols).length) c467, .slice A468 (((p_0.Ways.getD k404 d_Table).Idxs).length) c468]), DetI (.bool ((s_l24SameCols ((s_l24Way (p_0.Ways.getD 0 d_Table) p_0.Name ((((p_0.Ways.getD ((IntKind.wrap .i64 ((p_0.Ways.length : Int) - 1)).toNat) d_Table).Idxs).getD (((s_l24Idx (p_0.Ways.getD ((IntKind.wrap .i64 ((p_0.Ways.length : Int) - 1)).toNat) d_Table) p_0.Name)).toNat) d_Idx).Stage)).getD k404 d_Table) (p_0.Ways.getD k404 d_Table)))), DetI (.bool (!(s_l24SameCols ((s_l24Way (p_0.Ways.getD 0 d_Table) p_0.Name ((((p_0.Ways.getD ((IntKind.wrap .i64 ((p_0.Ways.length : Int) - 1)).toNat) d_Table).Idxs).getD (((s_l24Idx (p_0.Ways.getD ((IntKind.wrap .i64 ((p_0.Ways.length : Int) - 1)).toNat) d_Table) p_0.Name)).toNat) d_Idx).Stage)).getD k404 d_Table) (p_0.Ways.getD k404 d_Table)))), DetI (.bool (!(s_l24SameCols ((s_l24Way (p_0.Ways.getD 0 d_Table) p_0.Name ((((p_0.Ways.getD ((IntKind.wrap .i64 ((p_0.Ways.length : Int) - 1)).toNat) d_Table).Idxs).getD (((s_l24Idx (p_0.Ways.getD ((IntKind.wrap .i64 ((p_0.Ways.length : Int) - 1)).toNat) d_Table) p_0.Name)).toNat) d_Idx).Stage)).getD k404 d_Table) (p_0.Ways.getD k404 d_Table)))), DetI (.bool (!(s_l24SameCols ((s_l24Way (p_0.Ways.getD 0 d_Table) p_0.Name ((((p_0.Ways.getD ((IntKind.wrap .i64 ((p_0.Ways.length : Int) - 1)).toNat) d_Table).Idxs).getD (((s_l24Idx (p_0.Ways.getD ((IntKind.wrap .i64 ((p_0.Ways.length : Int) - 1)).toNat) d_Table) p_0.Name)).toNat) d_Idx).Stage)).getD k404 d_Table) (p_0.Ways.getD k404 d_Table)))), DetI (.slice A257_399 ((s_l24Way (p_0.Ways.getD 0 d_Table) p_0.Name ((((p_0.Ways.getD ((IntKind.wrap .i64 ((p_0.Ways.length : Int) - 1)).toNat) d_Table).Idxs).getD (((s_l24Idx (p_0.Ways.getD ((IntKind.wrap .i64 ((p_0.Ways.length : Int) - 1)).toNat) d_Table) p_0.Name)).toNat) d_Idx).Stage)).length) c257_400), DetI (.int .i64 ((k404 : Int))), DetI (.pointer (some ⟨eb470, eo470 + k404 * 3, none⟩)), DetI (.agg #[.string (bs (((s_l24Way (p_0.Ways.getD 0 d_Table) p_0.Name ((((p_0.Ways.getD ((IntKind.wrap .i64 ((p_0.Ways.length : Int) - 1)).toNat) d_Table).Idxs).getD (((s_l24Idx (p_0.Ways.getD ((IntKind.wrap .i64 ((p_0.Ways.length : Int) - 1)).toNat) d_Table) p_0.Name)).toNat) d_Idx).Stage)).getD k404 d_Table).Name)), .slice A471 ((((s_l24Way (p_0.Ways.getD 0 d_Table) p_0.Name ((((p_0.Ways.getD ((IntKind.wrap .i64 ((p_0.Ways.length : Int) - 1)).toNat) d_Table).Idxs).getD (((s_l24Idx (p_0.Ways.getD ((IntKind.wrap .i64 ((p_0.Ways.length : Int) - 1)).toNat) d_Table) p_0.Name)).toNat) d_Idx).Stage)).getD k404 d_Table).Cols).length) c471, .slice A472 ((((s_l24Way (p_0.Ways.getD 0 d_Table) p_0.Name ((((p_0.Ways.getD ((IntKind.wrap .i64 ((p_0.Ways.length : Int) - 1)).toNat) d_Table).Idxs).getD (((s_l24Idx (p_0.Ways.getD ((IntKind.wrap .i64 ((p_0.Ways.length : Int) - 1)).toNat) d_Table) p_0.Name)).toNat) d_Idx).Stage)).getD k404 d_Table).Idxs).length) c472]), DetI (.pointer (some ⟨b9, 0 + 1, none⟩)), DetI (.slice A1 p_0.Ways.length c1), DetI (.int .i64 ((k404 : Int))), DetI (.pointer (some ⟨eb466, eo466 + k404 * 3, none⟩)), DetI (.agg #[.string (bs ((p_0.Ways.getD k404 d_Table).Name)), .slice A467 (((p_0.Ways.getD k404 d_Table).Cols).length) c467, .slice A468 (((p_0.Ways.getD k404 d_Table).Idxs).length) c468]), DetI (.int .i64 ((s_l24Far ((s_l24Way (p_0.Ways.getD 0 d_Table) p_0.Name ((((p_0.Ways.getD ((IntKind.wrap .i64 ((p_0.Ways.length : Int) - 1)).toNat) d_Table).Idxs).getD (((s_l24Idx (p_0.Ways.getD ((IntKind.wrap .i64 ((p_0.Ways.length : Int) - 1)).toNat) d_Table) p_0.Name)).toNat) d_Idx).Stage)).getD k404 d_Table) (p_0.Ways.getD k404 d_Table)))), DetI (.bool (!(decide ((s_l24Far ((s_l24Way (p_0.Ways.getD 0 d_Table) p_0.Name ((((p_0.Ways.getD ((IntKind.wrap .i64 ((p_0.Ways.length : Int) - 1)).toNat) d_Table).Idxs).getD (((s_l24Idx (p_0.Ways.getD ((IntKind.wrap .i64 ((p_0.Ways.length : Int) - 1)).toNat) d_Table) p_0.Name)).toNat) d_Idx).Stage)).getD k404 d_Table) (p_0.Ways.getD k404 d_Table)) = 0)))), DetI (.bool (!(decide ((s_l24Far ((s_l24Way (p_0.Ways.getD 0 d_Table) p_0.Name ((((p_0.Ways.getD ((IntKind.wrap .i64 ((p_0.Ways.length : Int) - 1)).toNat) d_Table).Idxs).getD (((s_l24Idx (p_0.Ways.getD ((IntKind.wrap .i64 ((p_0.Ways.length : Int) - 1)).toNat) d_Table) p_0.Name)).toNat) d_Idx).Stage)).getD k404 d_Table) (p_0.Ways.getD k404 d_Table)) = 0))))]) Try.follows rfl rfl rfl rfl rfl rfl (vgetI_stable ⟨StableI.det _, StableI.det _, StableI.det _, StableI.det _, StableI.det _, StableI.det _, StableI.det _, StableI.det _, StableI.det _, StableI.det _, StableI.det _, StableI.det _, StableI.det _, StableI.det _, StableI.det _, StableI.det _, StableI.det _, StableI.det _, StableI.det _, StableI.det _, StableI.det _, StableI.det _, StableI.det _, StableI.det _, StableI.det _, StableI.det _, StableI.det _, StableI.det _, StableI.det _, StableI.det _, StableI.det _, StableI.det _, StableI.det _, trivial⟩) ⟨?_, ?_, ?_, ?_, ?_, ?_, ?_, ?_, ?_, ?_, ?_, ?_, ?_, ?_, ?_, ?_, ?_, ?_, ?_, ?_, ?_, ?_, ?_, ?_, ?_, ?_, ?_, ?_, ?_, ?_, ?_, ?_, ?_, trivial⟩ ?_
             ·exact fun _ _ h => os rfl ((yl_fieldAddr Try.fd91_1 rfl (h.old 1 _ rfl rfl) kI))
             ·exact fun _ _ h => os rfl ((yl_load1 Try.ty88 rfl (h.dt 0 74 rfl rfl rfl) (((Box.ex hf444 h.ex).cell 1).trans rfl) kI))
             ·exact fun _ _ h => os rfl ((yl_move rfl (h.old 5 _ rfl rfl) kI))
             ·intro L491 w492 hi493
              have hE494 := hi493.ex
              have hE494z := Ex.size hE494
              exact os rfl ((yl_indexAddrN Try.un88 Try.ty59 rfl (hi493.dt 1 75 rfl rfl rfl) (hi493.dt 2 76 rfl rfl rfl) eA466 (by first | omega | assumption | (simp only [IntKind.wrap_i64] at *; omega)) kI))
             ·exact fun _ _ h => os rfl ((yl_loadN (cs := [.string (bs ((p_0.Ways.getD k404 d_Table).Name)), .slice A467 (((p_0.Ways.getD k404 d_Table).Cols).length) c467, .slice A468 (((p_0.Ways.getD k404 d_Table).Idxs).length) c468]) Try.ty59 rfl (h.dt 3 77 rfl rfl rfl) (Cells.ex eC466 h.ex) rfl kI))
             ·intro L503 w504 hi505
              have hE506 := hi505.ex
              refine OpR.op' rfl (yl_call Try.en131 rfl (opvs_cons (hi505.dt 4 78 rfl rfl rfl) opvs_nil) (Cal.mono (c_s_GoodTable (p_0.Ways.getD k404 d_Table) (RdS.up (RdS.ex good_Str h467 hE506) good_Str) (RdS.up (RdS.ex good_Idx h468 hE506) good_Idx) (okL.getD o4.2.1 ok_d_Table _)) ?_))
              rintro v511 w510 ⟨rfl, hE512⟩
              exact ⟨rfl, hE512⟩
             ·exact fun _ _ h => os rfl ((yl_not rfl (h.dt 5 79 rfl rfl rfl) kI))
             ·exact fun _ _ h => os rfl ((yl_move rfl (h.dt 6 80 rfl rfl rfl) kI))
             ·exact fun _ _ h => OpR.want rfl rfl (h.dt 7 81 rfl rfl rfl) (not_t hb456) (Yl.sameI (yl_move rfl (h.old 4 _ rfl rfl) kI))
             ·exact fun _ _ h => OpR.want rfl rfl (h.dt 7 81 rfl rfl rfl) (not_t hb456) (Yl.sameI (yl_move rfl (h.old 5 _ rfl rfl) kI))
             ·intro L535 w536 hi537
              have hE538 := hi537.ex
              have hE538z := Ex.size hE538
              exact OpR.want rfl rfl (hi537.dt 7 81 rfl rfl rfl) (not_t hb456) (Yl.sameI (yl_indexAddrN Try.un88 Try.ty59 rfl (hi537.dt 8 82 rfl rfl rfl) (hi537.dt 9 83 rfl rfl rfl) eA470 (by first | omega | assumption | (simp only [IntKind.wrap_i64] at *; omega)) kI))
             ·exact fun _ _ h => OpR.want rfl rfl (h.dt 7 81 rfl rfl rfl) (not_t hb456) (Yl.sameI (yl_loadN (cs := [.string (bs (((s_l24Way (p_0.Ways.getD 0 d_Table) p_0.Name ((((p_0.Ways.getD ((IntKind.wrap .i64 ((p_0.Ways.length : Int) - 1)).toNat) d_Table).Idxs).getD (((s_l24Idx (p_0.Ways.getD ((IntKind.wrap .i64 ((p_0.Ways.length : Int) - 1)).toNat) d_Table) p_0.Name)).toNat) d_Idx).Stage)).getD k404 d_Table).Name)), .slice A471 ((((s_l24Way (p_0.Ways.getD 0 d_Table) p_0.Name ((((p_0.Ways.getD ((IntKind.wrap .i64 ((p_0.Ways.length : Int) - 1)).toNat) d_Table).Idxs).getD (((s_l24Idx (p_0.Ways.getD ((IntKind.wrap .i64 ((p_0.Ways.length : Int) - 1)).toNat) d_Table) p_0.Name)).toNat) d_Idx).Stage)).getD k404 d_Table).Cols).length) c471, .slice A472 ((((s_l24Way (p_0.Ways.getD 0 d_Table) p_0.Name ((((p_0.Ways.getD ((IntKind.wrap .i64 ((p_0.Ways.length : Int) - 1)).toNat) d_Table).Idxs).getD (((s_l24Idx (p_0.Ways.getD ((IntKind.wrap .i64 ((p_0.Ways.length : Int) - 1)).toNat) d_Table) p_0.Name)).toNat) d_Idx).Stage)).getD k404 d_Table).Idxs).length) c472]) Try.ty59 rfl (h.dt 10 84 rfl rfl rfl) (Cells.ex eC470 h.ex) rfl kI))
             ·exact fun _ _ h => OpR.want rfl rfl (h.dt 7 81 rfl rfl rfl) (not_t hb456) (Yl.sameI (yl_fieldAddr Try.fd91_1 rfl (h.old 1 _ rfl rfl) kI))
             ·exact fun _ _ h => OpR.want rfl rfl (h.dt 7 81 rfl rfl rfl) (not_t hb456) (Yl.sameI (yl_load1 Try.ty88 rfl (h.dt 12 86 rfl rfl rfl) (((Box.ex hf444 h.ex).cell 1).trans rfl) kI))
             ·exact fun _ _ h => OpR.want rfl rfl (h.dt 7 81 rfl rfl rfl) (not_t hb456) (Yl.sameI (yl_move rfl (h.old 5 _ rfl rfl) kI))
             ·intro L568 w569 hi570
              have hE571 := hi570.ex
              have hE571z := Ex.size hE571
              exact OpR.want rfl rfl (hi570.dt 7 81 rfl rfl rfl) (not_t hb456) (Yl.sameI (yl_indexAddrN Try.un88 Try.ty59 rfl (hi570.dt 13 87 rfl rfl rfl) (hi570.dt 14 88 rfl rfl rfl) eA466 (by first | omega | assumption | (simp only [IntKind.wrap_i64] at *; omega)) kI))
             ·exact fun _ _ h => OpR.want rfl rfl (h.dt 7 81 rfl rfl rfl) (not_t hb456) (Yl.sameI (yl_loadN (cs := [.string (bs ((p_0.Ways.getD k404 d_Table).Name)), .slice A467 (((p_0.Ways.getD k404 d_Table).Cols).length) c467, .slice A468 (((p_0.Ways.getD k404 d_Table).Idxs).length) c468]) Try.ty59 rfl (h.dt 15 89 rfl rfl rfl) (Cells.ex eC466 h.ex) rfl kI))
             ·intro L582 w583 hi584
              have hE585 := hi584.ex
              refine OpR.want rfl rfl (hi584.dt 7 81 rfl rfl rfl) (not_t hb456) (yl_call Try.en193 rfl (opvs_cons (hi584.dt 11 85 rfl rfl rfl) (opvs_cons (hi584.dt 16 90 rfl rfl rfl) opvs_nil)) (Cal.mono (c_s_l24SameCols ((s_l24Way (p_0.Ways.getD 0 d_Table) p_0.Name ((((p_0.Ways.getD ((IntKind.wrap .i64 ((p_0.Ways.length : Int) - 1)).toNat) d_Table).Idxs).getD (((s_l24Idx (p_0.Ways.getD ((IntKind.wrap .i64 ((p_0.Ways.length : Int) - 1)).toNat) d_Table) p_0.Name)).toNat) d_Idx).Stage)).getD k404 d_Table) (p_0.Ways.getD k404 d_Table) (RdS.up (RdS.ex good_Str h471 hE585) good_Str) (RdS.up (RdS.ex good_Idx h472 hE585) good_Idx) (RdS.up (RdS.ex good_Str h467 hE585) good_Str) (RdS.up (RdS.ex good_Idx h468 hE585) good_Idx) (okL.getD h396 ok_d_Table _) (okL.getD o4.2.1 ok_d_Table _)) ?_))
              rintro v594 w593 ⟨rfl, hE595⟩
              exact ⟨rfl, hE595⟩
             ·exact fun _ _ h => OpR.want rfl rfl (h.dt 7 81 rfl rfl rfl) (not_t hb456) (Yl.sameI (yl_not rfl (h.dt 17 91 rfl rfl rfl) kI))
             ·exact fun _ _ h => os rfl ((yl_pick_f rfl (h.dt 7 81 rfl rfl rfl) (not_t hb456) (h.dt 18 92 rfl rfl rfl) kI))
             ·exact fun _ _ h => os rfl ((yl_move rfl (h.dt 19 93 rfl rfl rfl) kI))
             ·exact fun _ _ h => OpR.want rfl rfl (h.dt 20 94 rfl rfl rfl) (not_t hb465) (Yl.sameI (yl_move rfl (h.old 4 _ rfl rfl) kI))
             ·exact fun _ _ h => OpR.want rfl rfl (h.dt 20 94 rfl rfl rfl) (not_t hb465) (Yl.sameI (yl_move rfl (h.old 5 _ rfl rfl) kI))
             ·intro L625 w626 hi627
              have hE628 := hi627.ex
              have hE628z := Ex.size hE628
              exact OpR.want rfl rfl (hi627.dt 20 94 rfl rfl rfl) (not_t hb465) (Yl.sameI (yl_indexAddrN Try.un88 Try.ty59 rfl (hi627.dt 21 95 rfl rfl rfl) (hi627.dt 22 96 rfl rfl rfl) eA470 (by first | omega | assumption | (simp only [IntKind.wrap_i64] at *; omega)) kI))
             ·exact fun _ _ h => OpR.want rfl rfl (h.dt 20 94 rfl rfl rfl) (not_t hb465) (Yl.sameI (yl_loadN (cs := [.string (bs (((s_l24Way (p_0.Ways.getD 0 d_Table) p_0.Name ((((p_0.Ways.getD ((IntKind.wrap .i64 ((p_0.Ways.length : Int) - 1)).toNat) d_Table).Idxs).getD (((s_l24Idx (p_0.Ways.getD ((IntKind.wrap .i64 ((p_0.Ways.length : Int) - 1)).toNat) d_Table) p_0.Name)).toNat) d_Idx).Stage)).getD k404 d_Table).Name)), .slice A471 ((((s_l24Way (p_0.Ways.getD 0 d_Table) p_0.Name ((((p_0.Ways.getD ((IntKind.wrap .i64 ((p_0.Ways.length : Int) - 1)).toNat) d_Table).Idxs).getD (((s_l24Idx (p_0.Ways.getD ((IntKind.wrap .i64 ((p_0.Ways.length : Int) - 1)).toNat) d_Table) p_0.Name)).toNat) d_Idx).Stage)).getD k404 d_Table).Cols).length) c471, .slice A472 ((((s_l24Way (p_0.Ways.getD 0 d_Table) p_0.Name ((((p_0.Ways.getD ((IntKind.wrap .i64 ((p_0.Ways.length : Int) - 1)).toNat) d_Table).Idxs).getD (((s_l24Idx (p_0.Ways.getD ((IntKind.wrap .i64 ((p_0.Ways.length : Int) - 1)).toNat) d_Table) p_0.Name)).toNat) d_Idx).Stage)).getD k404 d_Table).Idxs).length) c472]) Try.ty59 rfl (h.dt 23 97 rfl rfl rfl) (Cells.ex eC470 h.ex) rfl kI))
             ·exact fun _ _ h => OpR.want rfl rfl (h.dt 20 94 rfl rfl rfl) (not_t hb465) (Yl.sameI (yl_fieldAddr Try.fd91_1 rfl (h.old 1 _ rfl rfl) kI))
             ·exact fun _ _ h => OpR.want rfl rfl (h.dt 20 94 rfl rfl rfl) (not_t hb465) (Yl.sameI (yl_load1 Try.ty88 rfl (h.dt 25 99 rfl rfl rfl) (((Box.ex hf444 h.ex).cell 1).trans rfl) kI))
             ·exact fun _ _ h => OpR.want rfl rfl (h.dt 20 94 rfl rfl rfl) (not_t hb465) (Yl.sameI (yl_move rfl (h.old 5 _ rfl rfl) kI))
             ·intro L658 w659 hi660
              have hE661 := hi660.ex
              have hE661z := Ex.size hE661
              exact OpR.want rfl rfl (hi660.dt 20 94 rfl rfl rfl) (not_t hb465) (Yl.sameI (yl_indexAddrN Try.un88 Try.ty59 rfl (hi660.dt 26 100 rfl rfl rfl) (hi660.dt 27 101 rfl rfl rfl) eA466 (by first | omega | assumption | (simp only [IntKind.wrap_i64] at *; omega)) kI))
             ·exact fun _ _ h => OpR.want rfl rfl (h.dt 20 94 rfl rfl rfl) (not_t hb465) (Yl.sameI (yl_loadN (cs := [.string (bs ((p_0.Ways.getD k404 d_Table).Name)), .slice A467 (((p_0.Ways.getD k404 d_Table).Cols).length) c467, .slice A468 (((p_0.Ways.getD k404 d_Table).Idxs).length) c468]) Try.ty59 rfl (h.dt 28 102 rfl rfl rfl) (Cells.ex eC466 h.ex) rfl kI))
             ·intro L672 w673 hi674
              have hE675 := hi674.ex
              have hE675z := Ex.size hE675
              refine OpR.want rfl rfl (hi674.dt 20 94 rfl rfl rfl) (not_t hb465) (yl_call Try.en194 rfl (opvs_cons (hi674.dt 24 98 rfl rfl rfl) (opvs_cons (hi674.dt 29 103 rfl rfl rfl) opvs_nil)) (Cal.mono (c_s_l24Far ((s_l24Way (p_0.Ways.getD 0 d_Table) p_0.Name ((((p_0.Ways.getD ((IntKind.wrap .i64 ((p_0.Ways.length : Int) - 1)).toNat) d_Table).Idxs).getD (((s_l24Idx (p_0.Ways.getD ((IntKind.wrap .i64 ((p_0.Ways.length : Int) - 1)).toNat) d_Table) p_0.Name)).toNat) d_Idx).Stage)).getD k404 d_Table) (p_0.Ways.getD k404 d_Table) (RdS.up (RdS.ex good_Str h471 hE675) good_Str) (RdS.up (RdS.ex good_Idx h472 hE675) good_Idx) (RdS.up (RdS.ex good_Str h467 hE675) good_Str) (RdS.up (RdS.ex good_Idx h468 hE675) good_Idx) (okL.getD h396 ok_d_Table _) (okL.getD o4.2.1 ok_d_Table _) (by first | omega | assumption | (simp only [IntKind.wrap_i64] at *; omega))) ?_))
              rintro v684 w683 ⟨rfl, hE685⟩
              exact ⟨rfl, hE685⟩
             ·exact fun _ _ h => OpR.want rfl rfl (h.dt 20 94 rfl rfl rfl) (not_t hb465) (Yl.sameI (yl_neq rfl (h.dt 30 104 rfl rfl rfl) rfl kI))
             ·exact fun _ _ h => os rfl ((yl_pick_f rfl (h.dt 20 94 rfl rfl rfl) (not_t hb465) (h.dt 31 105 rfl rfl rfl) kI))
             ·intro fl701 fh702 L698 w699 hp700
              have hE703 := hp700.ex
              have hE703z := Ex.size hE703
              refine SeqR.done (tn (CW.sub (Sub.cons (d := 1) (hp700.old 1 _ rfl rfl) (Sub.cons (d := 4) (hp700.old 4 _ rfl rfl) (Sub.cons (d := 70) (hp700.old 70 _ rfl rfl) (Sub.cons (d := 71) (hp700.old 71 _ rfl rfl) (Sub.cons (d := 82) (hp700.nt 8 82 rfl rfl rfl) (Sub.cons (d := 83) (hp700.nt 9 83 rfl rfl rfl) (Sub.cons (d := 84) (hp700.nt 10 84 rfl rfl rfl) (Sub.cons (d := 85) (hp700.nt 11 85 rfl rfl rfl) (Sub.cons (d := 86) (hp700.nt 12 86 rfl rfl rfl) (Sub.cons (d := 87) (hp700.nt 13 87 rfl rfl rfl) (Sub.cons (d := 88) (hp700.nt 14 88 rfl rfl rfl) (Sub.cons (d := 89) (hp700.nt 15 89 rfl rfl rfl) (Sub.cons (d := 90) (hp700.nt 16 90 rfl rfl rfl) (Sub.cons (d := 91) (hp700.nt 17 91 rfl rfl rfl) (Sub.cons (d := 92) (hp700.nt 18 92 rfl rfl rfl) (Sub.cons (d := 95) (hp700.nt 21 95 rfl rfl rfl) (Sub.cons (d := 96) (hp700.nt 22 96 rfl rfl rfl) (Sub.cons (d := 97) (hp700.nt 23 97 rfl rfl rfl) (Sub.cons (d := 98) (hp700.nt 24 98 rfl rfl rfl) (Sub.cons (d := 99) (hp700.nt 25 99 rfl rfl rfl) (Sub.cons (d := 100) (hp700.nt 26 100 rfl rfl rfl) (Sub.cons (d := 101) (hp700.nt 27 101 rfl rfl rfl) (Sub.cons (d := 102) (hp700.nt 28 102 rfl rfl rfl) (Sub.cons (d := 103) (hp700.nt 29 103 rfl rfl rfl) (Sub.cons (d := 104) (hp700.nt 30 104 rfl rfl rfl) (Sub.cons (d := 105) (hp700.nt 31 105 rfl rfl rfl) (Sub.cons (d := 106) (hp700.nt 32 106 rfl rfl rfl) (Sub.nil _)))))))))))))))))))))))))))) (bcase (decide ((s_l24Far ((s_l24Way (p_0.Ways.getD 0 d_Table) p_0.Name ((((p_0.Ways.getD ((IntKind.wrap .i64 ((p_0.Ways.length : Int) - 1)).toNat) d_Table).Idxs).getD (((s_l24Idx (p_0.Ways.getD ((IntKind.wrap .i64 ((p_0.Ways.length : Int) - 1)).toNat) d_Table) p_0.Name)).toNat) d_Idx).Stage)).getD k404 d_Table) (p_0.Ways.getD k404 d_Table)) = 0)) (fun hb731 => ?_) (fun hb731 => ?_))))
              ·have hb731p := dec_t hb731
               refine CW.cond_f rfl (not_t hb731) (CW.skip (bn (tn (CW.region (sd rfl (yl_inc rfl rfl rfl (by omega) (sd rfl (yl_move rfl rfl (SeqR.done (tn ?_))))))))))
               have hB732 : B_s_l27Ways_0 p_0 k404 () = .cont () := by simp only [B_s_l27Ways_0, hb16, hb23, hb191, hb216, hb227, hb403, hb456, hb465, hb731, cond_true, cond_false, loopE_done, loopE_ret]
               exact ⟨(s_l24Way (p_0.Ways.getD 0 d_Table) p_0.Name ((((p_0.Ways.getD ((IntKind.wrap .i64 ((p_0.Ways.length : Int) - 1)).toNat) d_Table).Idxs).getD (((s_l24Idx (p_0.Ways.getD ((IntKind.wrap .i64 ((p_0.Ways.length : Int) - 1)).toNat) d_Table) p_0.Name)).toNat) d_Idx).Stage)).length - (k404 + 1), by omega, k404 + 1, rfl, hlt451, (by omega), rfl, rfl, rfl, rfl, (Box.ex hf444 hE703), (RdS.ex good_Table hf445 hE703), (RdS.ex good_Int hf446 hE703), (RdS.ex good_Write hf447 hE703), (RdS.ex good_Table hf448 hE703), (Ex.trans hf449 hE703), (loopM.cont hlt451 hB732).symm.trans hI438⟩
              ·have hb731p := dec_f hb731
               refine CW.cond_t rfl (not_f hb731) (CW.seq (CW.region (sd rfl (yl_assign rfl rfl (SeqR.done (tn (CW.ret (br (tr ?_)))))))))
               refine tr ?_
               have hB740 : B_s_l27Ways_0 p_0 k404 () = .ret false := by simp only [B_s_l27Ways_0, hb16, hb23, hb191, hb216, hb227, hb403, hb456, hb465, hb731, cond_true, cond_false, loopE_done, loopE_ret]
               have hL739 : loopM (B_s_l27Ways_0 p_0) ((s_l24Way (p_0.Ways.getD 0 d_Table) p_0.Name ((((p_0.Ways.getD ((IntKind.wrap .i64 ((p_0.Ways.length : Int) - 1)).toNat) d_Table).Idxs).getD (((s_l24Idx (p_0.Ways.getD ((IntKind.wrap .i64 ((p_0.Ways.length : Int) - 1)).toNat) d_Table) p_0.Name)).toNat) d_Idx).Stage)).length - 0) 0 () = .ret false := hI438.symm.trans (loopM.ret hlt451 hB740)
               refine br (tr (rr rfl (.cons rfl .nil) ?_))
               have hM741 : (s_l27Ways p_0) = (false) := by simp only [s_l27Ways, hb16, hb23, hb191, hb216, hb227, hb403, hb456, hb465, hb731, hL739, cond_true, cond_false, loopE_done, loopE_ret]
               rw [hM741]
               exact ⟨rfl, (Ex.trans hf449 hE703)⟩
            ·obtain ⟨eb743, eo743, ec743, eA743, eS743, ebl743, el743, eR743, eC743⟩ := RdS.atD hf445 d_Table (i := k404) (by first | omega | assumption)
             obtain ⟨A744, c744, A745, c745, rfl, h744, h745⟩ := eR743
             have eC743 : Cells w436 eb743 (eo743 + k404 * 3) [.string (bs ((p_0.Ways.getD k404 d_Table).Name)), .slice A744 (((p_0.Ways.getD k404 d_Table).Cols).length) c744, .slice A745 (((p_0.Ways.getD k404 d_Table).Idxs).length) c745] := eC743
             obtain ⟨eb747, eo747, ec747, eA747, eS747, ebl747, el747, eR747, eC747⟩ := RdS.atD hf448 d_Table (i := k404) (by first | omega | assumption)
             obtain ⟨A748, c748, A749, c749, rfl, h748, h749⟩ := eR747
             have eC747 : Cells w436 eb747 (eo747 + k404 * 3) [.string (bs (((s_l24Way (p_0.Ways.getD 0 d_Table) p_0.Name ((((p_0.Ways.getD ((IntKind.wrap .i64 ((p_0.Ways.length : Int) - 1)).toNat) d_Table).Idxs).getD (((s_l24Idx (p_0.Ways.getD ((IntKind.wrap .i64 ((p_0.Ways.length : Int) - 1)).toNat) d_Table) p_0.Name)).toNat) d_Idx).Stage)).getD k404 d_Table).Name)), .slice A748 ((((s_l24Way (p_0.Ways.getD 0 d_Table) p_0.Name ((((p_0.Ways.getD ((IntKind.wrap .i64 ((p_0.Ways.length : Int) - 1)).toNat) d_Table).Idxs).getD (((s_l24Idx (p_0.Ways.getD ((IntKind.wrap .i64 ((p_0.Ways.length : Int) - 1)).toNat) d_Table) p_0.Name)).toNat) d_Idx).Stage)).getD k404 d_Table).Cols).length) c748, .slice A749 ((((s_l24Way (p_0.Ways.getD 0 d_Table) p_0.Name ((((p_0.Ways.getD ((IntKind.wrap .i64 ((p_0.Ways.length : Int) - 1)).toNat) d_Table).Idxs).getD (((s_l24Idx (p_0.Ways.getD ((IntKind.wrap .i64 ((p_0.Ways.length : Int) - 1)).toNat) d_Table) p_0.Name)).toNat) d_Idx).Stage)).getD k404 d_Table).Idxs).length) c749] := eC747
             refine CW.drawsI 33 (vgetI [DetI (.pointer (some ⟨b9, 0 + 1, none⟩)), DetI (.slice A1 p_0.Ways.length c1), DetI (.int .i64 ((k404 : Int))), DetI (.pointer (some ⟨eb743, eo743 + k404 * 3, none⟩)), DetI (.agg #[.string (bs ((p_0.Ways.getD k404 d_Table).Name)), .slice A744 (((p_0.Ways.getD k404 d_Table).Cols).length) c744, .slice A745 (((p_0.Ways.getD k404 d_Table).Idxs).length) c745]), DetI (.bool ((s_GoodTable (p_0.Ways.getD k404 d_Table)))), DetI (.bool (!(s_GoodTable (p_0.Ways.getD k404 d_Table)))), DetI (.bool (!(s_GoodTable (p_0.Ways.getD k404 d_Table)))), DetI (.slice A257_399 ((s_l24Way (p_0.Ways.getD 0 d_Table) p_0.Name ((((p_0.Ways.getD ((IntKind.wrap .i64 ((p_0.Ways.length : Int) - 1)).toNat) d_Table).Idxs).getD (((s_l24Idx (p_0.Ways.getD ((IntKind.wrap .i64 ((p_0.Ways.length : Int) - 1)).toNat) d_Table) p_0.Name)).toNat) d_Idx).Stage)).length) c257_400), DetI (.int .i64 ((k404 : Int))), DetI (.pointer (some ⟨eb747, eo747 + k404 * 3, none⟩)), DetI (.agg #[.string (bs (((s_l24Way (p_0.Ways.getD 0 d_Table) p_0.Name ((((p_0.Ways.getD ((IntKind.wrap .i64 ((p_0.Ways.length : Int) - 1)).toNat) d_Table).Idxs).getD (((s_l24Idx (p_0.Ways.getD ((IntKind.wrap .i64 ((p_0.Ways.length : Int) - 1)).toNat) d_Table) p_0.Name)).toNat) d_Idx).Stage)).getD k404 d_Table).Name)), .slice A748 ((((s_l24Way (p_0.Ways.getD 0 d_Table) p_0.Name ((((p_0.Ways.getD ((IntKind.wrap .i64 ((p_0.Ways.length : Int) - 1)).toNat) d_Table).Idxs).getD (((s_l24Idx (p_0.Ways.getD ((IntKind.wrap .i64 ((p_0.Ways.length : Int) - 1)).toNat) d_Table) p_0.Name)).toNat) d_Idx).Stage)).getD k404 d_Table).Cols).length) c748, .slice A749 ((((s_l24Way (p_0.Ways.getD 0 d_Table) p_0.Name ((((p_0.Ways.getD ((IntKind.wrap .i64 ((p_0.Ways.length : Int) - 1)).toNat) d_Table).Idxs).getD (((s_l24Idx (p_0.Ways.getD ((IntKind.wrap .i64 ((p_0.Ways.length : Int) - 1)).toNat) d_Table) p_0.Name)).toNat) d_Idx).Stage)).getD k404 d_Table).Idxs).length) c749]), DetI (.pointer (some ⟨b9, 0 + 1, none⟩)), DetI (.slice A1 p_0.Ways.length c1), DetI (.int .i64 ((k404 : Int))), DetI (.pointer (some ⟨eb743, eo743 + k404 * 3, none⟩)), DetI (.agg #[.string (bs ((p_0.Ways.getD k404 d_Table).Name)), .slice A744 (((p_0.Ways.getD k404 d_Table).Cols).length) c744, .slice A745 (((p_0.Ways.getD k404 d_Table).Idxs).length) c745]), DetI (.bool ((s_l24SameCols ((s_l24Way (p_0.Ways.getD 0 d_Table) p_0.Name ((((p_0.Ways.getD ((IntKind.wrap .i64 ((p_0.Ways.length : Int) - 1)).toNat) d_Table).Idxs).getD (((s_l24Idx (p_0.Ways.getD ((IntKind.wrap .i64 ((p_0.Ways.length : Int) - 1)).toNat) d_Table) p_0.Name)).toNat) d_Idx).Stage)).getD k404 d_Table) (p_0.Ways.getD k404 d_Table)))), DetI (.bool (!(s_l24SameCols ((s_l24Way (p_0.Ways.getD 0 d_Table) p_0.Name ((((p_0.Ways.getD ((IntKind.wrap .i64 ((p_0.Ways.length : Int) - 1)).toNat) d_Table).Idxs).getD (((s_l24Idx (p_0.Ways.getD ((IntKind.wrap .i64 ((p_0.Ways.length : Int) - 1)).toNat) d_Table) p_0.Name)).toNat) d_Idx).Stage)).getD k404 d_Table) (p_0.Ways.getD k404 d_Table)))), DetI (.bool (!(s_l24SameCols ((s_l24Way (p_0.Ways.getD 0 d_Table) p_0.Name ((((p_0.Ways.getD ((IntKind.wrap .i64 ((p_0.Ways.length : Int) - 1)).toNat) d_Table).Idxs).getD (((s_l24Idx (p_0.Ways.getD ((IntKind.wrap .i64 ((p_0.Ways.length : Int) - 1)).toNat) d_Table) p_0.Name)).toNat) d_Idx).Stage)).getD k404 d_Table) (p_0.Ways.getD k404 d_Table)))), DetI (.bool (!(s_l24SameCols ((s_l24Way (p_0.Ways.getD 0 d_Table) p_0.Name ((((p_0.Ways.getD ((IntKind.wrap .i64 ((p_0.Ways.length : Int) - 1)).toNat) d_Table).Idxs).getD (((s_l24Idx (p_0.Ways.getD ((IntKind.wrap .i64 ((p_0.Ways.length : Int) - 1)).toNat) d_Table) p_0.Name)).toNat) d_Idx).Stage)).getD k404 d_Table) (p_0.Ways.getD k404 d_Table)))), DetI (undef), DetI (undef), DetI (undef), DetI (undef), DetI (undef), DetI (undef), DetI (undef), DetI (undef), DetI (undef), DetI (undef), DetI (undef), DetI (.bool (true))]) Try.follows rfl rfl rfl rfl rfl rfl (vgetI_stable ⟨StableI.det _, StableI.det _, StableI.det _, StableI.det _, StableI.det _, StableI.det _, StableI.det _, StableI.det _, StableI.det _, StableI.det _, StableI.det _, StableI.det _, StableI.det _, StableI.det _, StableI.det _, StableI.det _, StableI.det _, StableI.det _, StableI.det _, StableI.det _, StableI.det _, StableI.det _, StableI.det _, StableI.det _, StableI.det _, StableI.det _, StableI.det _, StableI.det _, StableI.det _, StableI.det _, StableI.det _, StableI.det _, StableI.det _, trivial⟩) ⟨?_, ?_, ?_, ?_, ?_, ?_, ?_, ?_, ?_, ?_, ?_, ?_, ?_, ?_, ?_, ?_, ?_, ?_, ?_, ?_, ?_, ?_, ?_, ?_, ?_, ?_, ?_, ?_, ?_, ?_, ?_, ?_, ?_, trivial⟩ ?_
             ·exact fun _ _ h => os rfl ((yl_fieldAddr Try.fd91_1 rfl (h.old 1 _ rfl rfl) kI))
             ·exact fun _ _ h => os rfl ((yl_load1 Try.ty88 rfl (h.dt 0 74 rfl rfl rfl) (((Box.ex hf444 h.ex).cell 1).trans rfl) kI))
             ·exact fun _ _ h => os rfl ((yl_move rfl (h.old 5 _ rfl rfl) kI))
             ·intro L767 w768 hi769
              have hE770 := hi769.ex
              have hE770z := Ex.size hE770
              exact os rfl ((yl_indexAddrN Try.un88 Try.ty59 rfl (hi769.dt 1 75 rfl rfl rfl) (hi769.dt 2 76 rfl rfl rfl) eA743 (by first | omega | assumption | (simp only [IntKind.wrap_i64] at *; omega)) kI))
             ·exact fun _ _ h => os rfl ((yl_loadN (cs := [.string (bs ((p_0.Ways.getD k404 d_Table).Name)), .slice A744 (((p_0.Ways.getD k404 d_Table).Cols).length) c744, .slice A745 (((p_0.Ways.getD k404 d_Table).Idxs).length) c745]) Try.ty59 rfl (h.dt 3 77 rfl rfl rfl) (Cells.ex eC743 h.ex) rfl kI))
             ·intro L779 w780 hi781
              have hE782 := hi781.ex
              refine OpR.op' rfl (yl_call Try.en131 rfl (opvs_cons (hi781.dt 4 78 rfl rfl rfl) opvs_nil) (Cal.mono (c_s_GoodTable (p_0.Ways.getD k404 d_Table) (RdS.up (RdS.ex good_Str h744 hE782) good_Str) (RdS.up (RdS.ex good_Idx h745 hE782) good_Idx) (okL.getD o4.2.1 ok_d_Table _)) ?_))
              rintro v787 w786 ⟨rfl, hE788⟩
              exact ⟨rfl, hE788⟩
             ·exact fun _ _ h => os rfl ((yl_not rfl (h.dt 5 79 rfl rfl rfl) kI))
             ·exact fun _ _ h => os rfl ((yl_move rfl (h.dt 6 80 rfl rfl rfl) kI))
             ·exact fun _ _ h => OpR.want rfl rfl (h.dt 7 81 rfl rfl rfl) (not_t hb456) (Yl.sameI (yl_move rfl (h.old 4 _ rfl rfl) kI))
             ·exact fun _ _ h => OpR.want rfl rfl (h.dt 7 81 rfl rfl rfl) (not_t hb456) (Yl.sameI (yl_move rfl (h.old 5 _ rfl rfl) kI))
             ·intro L811 w812 hi813
              have hE814 := hi813.ex
              have hE814z := Ex.size hE814
              exact OpR.want rfl rfl (hi813.dt 7 81 rfl rfl rfl) (not_t hb456) (Yl.sameI (yl_indexAddrN Try.un88 Try.ty59 rfl (hi813.dt 8 82 rfl rfl rfl) (hi813.dt 9 83 rfl rfl rfl) eA747 (by first | omega | assumption | (simp only [IntKind.wrap_i64] at *; omega)) kI))
             ·exact fun _ _ h => OpR.want rfl rfl (h.dt 7 81 rfl rfl rfl) (not_t hb456) (Yl.sameI (yl_loadN (cs := [.string (bs (((s_l24Way (p_0.Ways.getD 0 d_Table) p_0.Name ((((p_0.Ways.getD ((IntKind.wrap .i64 ((p_0.Ways.length : Int) - 1)).toNat) d_Table).Idxs).getD (((s_l24Idx (p_0.Ways.getD ((IntKind.wrap .i64 ((p_0.Ways.length : Int) - 1)).toNat) d_Table) p_0.Name)).toNat) d_Idx).Stage)).getD k404 d_Table).Name)), .slice A748 ((((s_l24Way (p_0.Ways.getD 0 d_Table) p_0.Name ((((p_0.Ways.getD ((IntKind.wrap .i64 ((p_0.Ways.length : Int) - 1)).toNat) d_Table).Idxs).getD (((s_l24Idx (p_0.Ways.getD ((IntKind.wrap .i64 ((p_0.Ways.length : Int) - 1)).toNat) d_Table) p_0.Name)).toNat) d_Idx).Stage)).getD k404 d_Table).Cols).length) c748, .slice A749 ((((s_l24Way (p_0.Ways.getD 0 d_Table) p_0.Name ((((p_0.Ways.getD ((IntKind.wrap .i64 ((p_0.Ways.length : Int) - 1)).toNat) d_Table).Idxs).getD (((s_l24Idx (p_0.Ways.getD ((IntKind.wrap .i64 ((p_0.Ways.length : Int) - 1)).toNat) d_Table) p_0.Name)).toNat) d_Idx).Stage)).getD k404 d_Table).Idxs).length) c749]) Try.ty59 rfl (h.dt 10 84 rfl rfl rfl) (Cells.ex eC747 h.ex) rfl kI))
             ·exact fun _ _ h => OpR.want rfl rfl (h.dt 7 81 rfl rfl rfl) (not_t hb456) (Yl.sameI (yl_fieldAddr Try.fd91_1 rfl (h.old 1 _ rfl rfl) kI))
             ·exact fun _ _ h => OpR.want rfl rfl (h.dt 7 81 rfl rfl rfl) (not_t hb456) (Yl.sameI (yl_load1 Try.ty88 rfl (h.dt 12 86 rfl rfl rfl) (((Box.ex hf444 h.ex).cell 1).trans rfl) kI))
             ·exact fun _ _ h => OpR.want rfl rfl (h.dt 7 81 rfl rfl rfl) (not_t hb456) (Yl.sameI (yl_move rfl (h.old 5 _ rfl rfl) kI))
             ·intro L844 w845 hi846
              have hE847 := hi846.ex
              have hE847z := Ex.size hE847
              exact OpR.want rfl rfl (hi846.dt 7 81 rfl rfl rfl) (not_t hb456) (Yl.sameI (yl_indexAddrN Try.un88 Try.ty59 rfl (hi846.dt 13 87 rfl rfl rfl) (hi846.dt 14 88 rfl rfl rfl) eA743 (by first | omega | assumption | (simp only [IntKind.wrap_i64] at *; omega)) kI))
             ·exact fun _ _ h => OpR.want rfl rfl (h.dt 7 81 rfl rfl rfl) (not_t hb456) (Yl.sameI (yl_loadN (cs := [.string (bs ((p_0.Ways.getD k404 d_Table).Name)), .slice A744 (((p_0.Ways.getD k404 d_Table).Cols).length) c744, .slice A745 (((p_0.Ways.getD k404 d_Table).Idxs).length) c745]) Try.ty59 rfl (h.dt 15 89 rfl rfl rfl) (Cells.ex eC743 h.ex) rfl kI))
             ·intro L858 w859 hi860
              have hE861 := hi860.ex
              refine OpR.want rfl rfl (hi860.dt 7 81 rfl rfl rfl) (not_t hb456) (yl_call Try.en193 rfl (opvs_cons (hi860.dt 11 85 rfl rfl rfl) (opvs_cons (hi860.dt 16 90 rfl rfl rfl) opvs_nil)) (Cal.mono (c_s_l24SameCols ((s_l24Way (p_0.Ways.getD 0 d_Table) p_0.Name ((((p_0.Ways.getD ((IntKind.wrap .i64 ((p_0.Ways.length : Int) - 1)).toNat) d_Table).Idxs).getD (((s_l24Idx (p_0.Ways.getD ((IntKind.wrap .i64 ((p_0.Ways.length : Int) - 1)).toNat) d_Table) p_0.Name)).toNat) d_Idx).Stage)).getD k404 d_Table) (p_0.Ways.getD k404 d_Table) (RdS.up (RdS.ex good_Str h748 hE861) good_Str) (RdS.up (RdS.ex good_Idx h749 hE861) good_Idx) (RdS.up (RdS.ex good_Str h744 hE861) good_Str) (RdS.up (RdS.ex good_Idx h745 hE861) good_Idx) (okL.getD h396 ok_d_Table _) (okL.getD o4.2.1 ok_d_Table _)) ?_))
              rintro v870 w869 ⟨rfl, hE871⟩
              exact ⟨rfl, hE871⟩
             ·exact fun _ _ h => OpR.want rfl rfl (h.dt 7 81 rfl rfl rfl) (not_t hb456) (Yl.sameI (yl_not rfl (h.dt 17 91 rfl rfl rfl) kI))
             ·exact fun _ _ h => os rfl ((yl_pick_f rfl (h.dt 7 81 rfl rfl rfl) (not_t hb456) (h.dt 18 92 rfl rfl rfl) kI))
             ·exact fun _ _ h => os rfl ((yl_move rfl (h.dt 19 93 rfl rfl rfl) kI))
             ·exact fun _ _ h => OpR.skip rfl rfl (h.dt 20 94 rfl rfl rfl) (not_f hb465) ⟨rfl, Ex.refl _⟩
             ·exact fun _ _ h => OpR.skip rfl rfl (h.dt 20 94 rfl rfl rfl) (not_f hb465) ⟨rfl, Ex.refl _⟩
             ·exact fun _ _ h => OpR.skip rfl rfl (h.dt 20 94 rfl rfl rfl) (not_f hb465) ⟨rfl, Ex.refl _⟩
             ·exact fun _ _ h => OpR.skip rfl rfl (h.dt 20 94 rfl rfl rfl) (not_f hb465) ⟨rfl, Ex.refl _⟩
             ·exact fun _ _ h => OpR.skip rfl rfl (h.dt 20 94 rfl rfl rfl) (not_f hb465) ⟨rfl, Ex.refl _⟩
             ·exact fun _ _ h => OpR.skip rfl rfl (h.dt 20 94 rfl rfl rfl) (not_f hb465) ⟨rfl, Ex.refl _⟩
             ·exact fun _ _ h => OpR.skip rfl rfl (h.dt 20 94 rfl rfl rfl) (not_f hb465) ⟨rfl, Ex.refl _⟩
             ·exact fun _ _ h => OpR.skip rfl rfl (h.dt 20 94 rfl rfl rfl) (not_f hb465) ⟨rfl, Ex.refl _⟩
             ·exact fun _ _ h => OpR.skip rfl rfl (h.dt 20 94 rfl rfl rfl) (not_f hb465) ⟨rfl, Ex.refl _⟩
             ·exact fun _ _ h => OpR.skip rfl rfl (h.dt 20 94 rfl rfl rfl) (not_f hb465) ⟨rfl, Ex.refl _⟩
             ·exact fun _ _ h => OpR.skip rfl rfl (h.dt 20 94 rfl rfl rfl) (not_f hb465) ⟨rfl, Ex.refl _⟩
             ·exact fun _ _ h => os rfl ((yl_pick_t rfl (h.dt 20 94 rfl rfl rfl) (not_f hb465) rfl kI))
             ·intro fl953 fh954 L950 w951 hp952
              have hE955 := hp952.ex
              have hE955z := Ex.size hE955
              refine SeqR.done (tn (CW.sub (Sub.cons (d := 1) (hp952.old 1 _ rfl rfl) (Sub.cons (d := 4) (hp952.old 4 _ rfl rfl) (Sub.cons (d := 70) (hp952.old 70 _ rfl rfl) (Sub.cons (d := 71) (hp952.old 71 _ rfl rfl) (Sub.cons (d := 82) (hp952.nt 8 82 rfl rfl rfl) (Sub.cons (d := 83) (hp952.nt 9 83 rfl rfl rfl) (Sub.cons (d := 84) (hp952.nt 10 84 rfl rfl rfl) (Sub.cons (d := 85) (hp952.nt 11 85 rfl rfl rfl) (Sub.cons (d := 86) (hp952.nt 12 86 rfl rfl rfl) (Sub.cons (d := 87) (hp952.nt 13 87 rfl rfl rfl) (Sub.cons (d := 88) (hp952.nt 14 88 rfl rfl rfl) (Sub.cons (d := 89) (hp952.nt 15 89 rfl rfl rfl) (Sub.cons (d := 90) (hp952.nt 16 90 rfl rfl rfl) (Sub.cons (d := 91) (hp952.nt 17 91 rfl rfl rfl) (Sub.cons (d := 92) (hp952.nt 18 92 rfl rfl rfl) (Sub.cons (d := 95) (hp952.nt 21 95 rfl rfl rfl) (Sub.cons (d := 96) (hp952.nt 22 96 rfl rfl rfl) (Sub.cons (d := 97) (hp952.nt 23 97 rfl rfl rfl) (Sub.cons (d := 98) (hp952.nt 24 98 rfl rfl rfl) (Sub.cons (d := 99) (hp952.nt 25 99 rfl rfl rfl) (Sub.cons (d := 100) (hp952.nt 26 100 rfl rfl rfl) (Sub.cons (d := 101) (hp952.nt 27 101 rfl rfl rfl) (Sub.cons (d := 102) (hp952.nt 28 102 rfl rfl rfl) (Sub.cons (d := 103) (hp952.nt 29 103 rfl rfl rfl) (Sub.cons (d := 104) (hp952.nt 30 104 rfl rfl rfl) (Sub.cons (d := 105) (hp952.nt 31 105 rfl rfl rfl) (Sub.cons (d := 106) (hp952.nt 32 106 rfl rfl rfl) (Sub.nil _)))))))))))))))))))))))))))) (CW.cond_t rfl rfl (CW.seq (CW.region (sd rfl (yl_assign rfl rfl (SeqR.done (tn ?_)))))))))
              refine CW.ret (br (tr (tr ?_)))
              have hB984 : B_s_l27Ways_0 p_0 k404 () = .ret false := by simp only [B_s_l27Ways_0, hb16, hb23, hb191, hb216, hb227, hb403, hb456, hb465, cond_true, cond_false, loopE_done, loopE_ret]
              have hL983 : loopM (B_s_l27Ways_0 p_0) ((s_l24Way (p_0.Ways.getD 0 d_Table) p_0.Name ((((p_0.Ways.getD ((IntKind.wrap .i64 ((p_0.Ways.length : Int) - 1)).toNat) d_Table).Idxs).getD (((s_l24Idx (p_0.Ways.getD ((IntKind.wrap .i64 ((p_0.Ways.length : Int) - 1)).toNat) d_Table) p_0.Name)).toNat) d_Idx).Stage)).length - 0) 0 () = .ret false := hI438.symm.trans (loopM.ret hlt451 hB984)
              refine br (tr (rr rfl (.cons rfl .nil) ?_))
              have hM985 : (s_l27Ways p_0) = (false) := by simp only [s_l27Ways, hb16, hb23, hb191, hb216, hb227, hb403, hb456, hb465, hL983, cond_true, cond_false, loopE_done, loopE_ret]
              rw [hM985]
              exact ⟨rfl, (Ex.trans hf449 hE955)⟩
           ·obtain ⟨eb987, eo987, ec987, eA987, eS987, ebl987, el987, eR987, eC987⟩ := RdS.atD hf445 d_Table (i := k404) (by first | omega | assumption)
            obtain ⟨A988, c988, A989, c989, rfl, h988, h989⟩ := eR987
            have eC987 : Cells w436 eb987 (eo987 + k404 * 3) [.string (bs ((p_0.Ways.getD k404 d_Table).Name)), .slice A988 (((p_0.Ways.getD k404 d_Table).Cols).length) c988, .slice A989 (((p_0.Ways.getD k404 d_Table).Idxs).length) c989] := eC987
            refine CW.drawsI 33 (vgetI [DetI (.pointer (some ⟨b9, 0 + 1, none⟩)), DetI (.slice A1 p_0.Ways.length c1), DetI (.int .i64 ((k404 : Int))), DetI (.pointer (some ⟨eb987, eo987 + k404 * 3, none⟩)), DetI (.agg #[.string (bs ((p_0.Ways.getD k404 d_Table).Name)), .slice A988 (((p_0.Ways.getD k404 d_Table).Cols).length) c988, .slice A989 (((p_0.Ways.getD k404 d_Table).Idxs).length) c989]), DetI (.bool ((s_GoodTable (p_0.Ways.getD k404 d_Table)))), DetI (.bool (!(s_GoodTable (p_0.Ways.getD k404 d_Table)))), DetI (.bool (!(s_GoodTable (p_0.Ways.getD k404 d_Table)))), DetI (undef), DetI (undef), DetI (undef), DetI (undef), DetI (undef), DetI (undef), DetI (undef), DetI (undef), DetI (undef), DetI (undef), DetI (undef), DetI (.bool (true)), DetI (.bool (true)), DetI (undef), DetI (undef), DetI (undef), DetI (undef), DetI (undef), DetI (undef), DetI (undef), DetI (undef), DetI (undef), DetI (undef), DetI (undef), DetI (.bool (true))]) Try.follows rfl rfl rfl rfl rfl rfl (vgetI_stable ⟨StableI.det _, StableI.det _, StableI.det _, StableI.det _, StableI.det _, StableI.det _, StableI.det _, StableI.det _, StableI.det _, StableI.det _, StableI.det _, StableI.det _, StableI.det _, StableI.det _, StableI.det _, StableI.det _, StableI.det _, StableI.det _, StableI.det _, StableI.det _, StableI.det _, StableI.det _, StableI.det _, StableI.det _, StableI.det _, StableI.det _, StableI.det _, StableI.det _, StableI.det _, StableI.det _, StableI.det _, StableI.det _, StableI.det _, trivial⟩) ⟨?_, ?_, ?_, ?_, ?_, ?_, ?_, ?_, ?_, ?_, ?_, ?_, ?_, ?_, ?_, ?_, ?_, ?_, ?_, ?_, ?_, ?_, ?_, ?_, ?_, ?_, ?_, ?_, ?_, ?_, ?_, ?_, ?_, trivial⟩ ?_
            ·exact fun _ _ h => os rfl ((yl_fieldAddr Try.fd91_1 rfl (h.old 1 _ rfl rfl) kI))
            ·exact fun _ _ h => os rfl ((yl_load1 Try.ty88 rfl (h.dt 0 74 rfl rfl rfl) (((Box.ex hf444 h.ex).cell 1).trans rfl) kI))
            ·exact fun _ _ h => os rfl ((yl_move rfl (h.old 5 _ rfl rfl) kI))
            ·intro L1007 w1008 hi1009
             have hE1010 := hi1009.ex
             have hE1010z := Ex.size hE1010
             exact os rfl ((yl_indexAddrN Try.un88 Try.ty59 rfl (hi1009.dt 1 75 rfl rfl rfl) (hi1009.dt 2 76 rfl rfl rfl) eA987 (by first | omega | assumption | (simp only [IntKind.wrap_i64] at *; omega)) kI))
            ·exact fun _ _ h => os rfl ((yl_loadN (cs := [.string (bs ((p_0.Ways.getD k404 d_Table).Name)), .slice A988 (((p_0.Ways.getD k404 d_Table).Cols).length) c988, .slice A989 (((p_0.Ways.getD k404 d_Table).Idxs).length) c989]) Try.ty59 rfl (h.dt 3 77 rfl rfl rfl) (Cells.ex eC987 h.ex) rfl kI))
            ·intro L1019 w1020 hi1021
             have hE1022 := hi1021.ex
             refine OpR.op' rfl (yl_call Try.en131 rfl (opvs_cons (hi1021.dt 4 78 rfl rfl rfl) opvs_nil) (Cal.mono (c_s_GoodTable (p_0.Ways.getD k404 d_Table) (RdS.up (RdS.ex good_Str h988 hE1022) good_Str) (RdS.up (RdS.ex good_Idx h989 hE1022) good_Idx) (okL.getD o4.2.1 ok_d_Table _)) ?_))
             rintro v1027 w1026 ⟨rfl, hE1028⟩
             exact ⟨rfl, hE1028⟩
            ·exact fun _ _ h => os rfl ((yl_not rfl (h.dt 5 79 rfl rfl rfl) kI))
            ·exact fun _ _ h => os rfl ((yl_move rfl (h.dt 6 80 rfl rfl rfl) kI))
            ·exact fun _ _ h => OpR.skip rfl rfl (h.dt 7 81 rfl rfl rfl) (not_f hb456) ⟨rfl, Ex.refl _⟩
            ·exact fun _ _ h => OpR.skip rfl rfl (h.dt 7 81 rfl rfl rfl) (not_f hb456) ⟨rfl, Ex.refl _⟩
            ·exact fun _ _ h => OpR.skip rfl rfl (h.dt 7 81 rfl rfl rfl) (not_f hb456) ⟨rfl, Ex.refl _⟩
            ·exact fun _ _ h => OpR.skip rfl rfl (h.dt 7 81 rfl rfl rfl) (not_f hb456) ⟨rfl, Ex.refl _⟩
            ·exact fun _ _ h => OpR.skip rfl rfl (h.dt 7 81 rfl rfl rfl) (not_f hb456) ⟨rfl, Ex.refl _⟩
            ·exact fun _ _ h => OpR.skip rfl rfl (h.dt 7 81 rfl rfl rfl) (not_f hb456) ⟨rfl, Ex.refl _⟩
            ·exact fun _ _ h => OpR.skip rfl rfl (h.dt 7 81 rfl rfl rfl) (not_f hb456) ⟨rfl, Ex.refl _⟩
            ·exact fun _ _ h => OpR.skip rfl rfl (h.dt 7 81 rfl rfl rfl) (not_f hb456) ⟨rfl, Ex.refl _⟩
            ·exact fun _ _ h => OpR.skip rfl rfl (h.dt 7 81 rfl rfl rfl) (not_f hb456) ⟨rfl, Ex.refl _⟩
            ·exact fun _ _ h => OpR.skip rfl rfl (h.dt 7 81 rfl rfl rfl) (not_f hb456) ⟨rfl, Ex.refl _⟩
            ·exact fun _ _ h => OpR.skip rfl rfl (h.dt 7 81 rfl rfl rfl) (not_f hb456) ⟨rfl, Ex.refl _⟩
            ·exact fun _ _ h => os rfl ((yl_pick_t rfl (h.dt 7 81 rfl rfl rfl) (not_f hb456) rfl kI))
            ·exact fun _ _ h => os rfl ((yl_move rfl (h.dt 19 93 rfl rfl rfl) kI))
            ·exact fun _ _ h => OpR.skip rfl rfl (h.dt 20 94 rfl rfl rfl) rfl ⟨rfl, Ex.refl _⟩
            ·exact fun _ _ h => OpR.skip rfl rfl (h.dt 20 94 rfl rfl rfl) rfl ⟨rfl, Ex.refl _⟩
            ·exact fun _ _ h => OpR.skip rfl rfl (h.dt 20 94 rfl rfl rfl) rfl ⟨rfl, Ex.refl _⟩
            ·exact fun _ _ h => OpR.skip rfl rfl (h.dt 20 94 rfl rfl rfl) rfl ⟨rfl, Ex.refl _⟩
            ·exact fun _ _ h => OpR.skip rfl rfl (h.dt 20 94 rfl rfl rfl) rfl ⟨rfl, Ex.refl _⟩
            ·exact fun _ _ h => OpR.skip rfl rfl (h.dt 20 94 rfl rfl rfl) rfl ⟨rfl, Ex.refl _⟩
            ·exact fun _ _ h => OpR.skip rfl rfl (h.dt 20 94 rfl rfl rfl) rfl ⟨rfl, Ex.refl _⟩
            ·exact fun _ _ h => OpR.skip rfl rfl (h.dt 20 94 rfl rfl rfl) rfl ⟨rfl, Ex.refl _⟩
            ·exact fun _ _ h => OpR.skip rfl rfl (h.dt 20 94 rfl rfl rfl) rfl ⟨rfl, Ex.refl _⟩
            ·exact fun _ _ h => OpR.skip rfl rfl (h.dt 20 94 rfl rfl rfl) rfl ⟨rfl, Ex.refl _⟩
            ·exact fun _ _ h => OpR.skip rfl rfl (h.dt 20 94 rfl rfl rfl) rfl ⟨rfl, Ex.refl _⟩
            ·exact fun _ _ h => os rfl ((yl_pick_t rfl (h.dt 20 94 rfl rfl rfl) rfl rfl kI))
            ·intro fl1169 fh1170 L1166 w1167 hp1168
             have hE1171 := hp1168.ex
             have hE1171z := Ex.size hE1171
             refine SeqR.done (tn (CW.sub (Sub.cons (d := 1) (hp1168.old 1 _ rfl rfl) (Sub.cons (d := 4) (hp1168.old 4 _ rfl rfl) (Sub.cons (d := 70) (hp1168.old 70 _ rfl rfl) (Sub.cons (d := 71) (hp1168.old 71 _ rfl rfl) (Sub.cons (d := 82) (hp1168.nt 8 82 rfl rfl rfl) (Sub.cons (d := 83) (hp1168.nt 9 83 rfl rfl rfl) (Sub.cons (d := 84) (hp1168.nt 10 84 rfl rfl rfl) (Sub.cons (d := 85) (hp1168.nt 11 85 rfl rfl rfl) (Sub.cons (d := 86) (hp1168.nt 12 86 rfl rfl rfl) (Sub.cons (d := 87) (hp1168.nt 13 87 rfl rfl rfl) (Sub.cons (d := 88) (hp1168.nt 14 88 rfl rfl rfl) (Sub.cons (d := 89) (hp1168.nt 15 89 rfl rfl rfl) (Sub.cons (d := 90) (hp1168.nt 16 90 rfl rfl rfl) (Sub.cons (d := 91) (hp1168.nt 17 91 rfl rfl rfl) (Sub.cons (d := 92) (hp1168.nt 18 92 rfl rfl rfl) (Sub.cons (d := 95) (hp1168.nt 21 95 rfl rfl rfl) (Sub.cons (d := 96) (hp1168.nt 22 96 rfl rfl rfl) (Sub.cons (d := 97) (hp1168.nt 23 97 rfl rfl rfl) (Sub.cons (d := 98) (hp1168.nt 24 98 rfl rfl rfl) (Sub.cons (d := 99) (hp1168.nt 25 99 rfl rfl rfl) (Sub.cons (d := 100) (hp1168.nt 26 100 rfl rfl rfl) (Sub.cons (d := 101) (hp1168.nt 27 101 rfl rfl rfl) (Sub.cons (d := 102) (hp1168.nt 28 102 rfl rfl rfl) (Sub.cons (d := 103) (hp1168.nt 29 103 rfl rfl rfl) (Sub.cons (d := 104) (hp1168.nt 30 104 rfl rfl rfl) (Sub.cons (d := 105) (hp1168.nt 31 105 rfl rfl rfl) (Sub.cons (d := 106) (hp1168.nt 32 106 rfl rfl rfl) (Sub.nil _)))))))))))))))))))))))))))) (CW.cond_t rfl rfl (CW.seq (CW.region (sd rfl (yl_assign rfl rfl (SeqR.done (tn ?_)))))))))
             refine CW.ret (br (tr (tr ?_)))
             have hB1200 : B_s_l27Ways_0 p_0 k404 () = .ret false := by simp only [B_s_l27Ways_0, hb16, hb23, hb191, hb216, hb227, hb403, hb456, cond_true, cond_false, loopE_done, loopE_ret]
             have hL1199 : loopM (B_s_l27Ways_0 p_0) ((s_l24Way (p_0.Ways.getD 0 d_Table) p_0.Name ((((p_0.Ways.getD ((IntKind.wrap .i64 ((p_0.Ways.length : Int) - 1)).toNat) d_Table).Idxs).getD (((s_l24Idx (p_0.Ways.getD ((IntKind.wrap .i64 ((p_0.Ways.length : Int) - 1)).toNat) d_Table) p_0.Name)).toNat) d_Idx).Stage)).length - 0) 0 () = .ret false := hI438.symm.trans (loopM.ret hlt451 hB1200)
             refine br (tr (rr rfl (.cons rfl .nil) ?_))
             have hM1201 : (s_l27Ways p_0) = (false) := by simp only [s_l27Ways, hb16, hb23, hb191, hb216, hb227, hb403, hb456, hL1199, cond_true, cond_false, loopE_done, loopE_ret]
             rw [hM1201]
             exact ⟨rfl, (Ex.trans hf449 hE1171)⟩
          ·refine CW.seq (CW.region (sd rfl (yl_lss rfl rfl rfl (SeqR.done (tn (CW.seq (CW.cond_f rfl (lt_f hlt451) (CW.exit (tx ?_)))))))))
           refine tx ?_
           have hL1203 : loopM (B_s_l27Ways_0 p_0) ((s_l24Way (p_0.Ways.getD 0 d_Table) p_0.Name ((((p_0.Ways.getD ((IntKind.wrap .i64 ((p_0.Ways.length : Int) - 1)).toNat) d_Table).Idxs).getD (((s_l24Idx (p_0.Ways.getD ((IntKind.wrap .i64 ((p_0.Ways.length : Int) - 1)).toNat) d_Table) p_0.Name)).toNat) d_Idx).Stage)).length - 0) 0 () = .done () := hI438.symm.trans (loopM.stop hlt451)
           refine bx (tn (CW.seq (CW.region (sd rfl (yl_assign rfl rfl (SeqR.done (tn (CW.ret (rr rfl (.cons rfl .nil) ?_)))))))))
           have hM1204 : (s_l27Ways p_0) = (true) := by simp only [s_l27Ways, hb16, hb23, hb191, hb216, hb227, hb403, hL1203, cond_true, cond_false, loopE_done, loopE_ret]
           rw [hM1204]
           exact ⟨rfl, hf449⟩
        ·have hb403p := dec_f hb403
         refine CW.cond_t rfl (not_f hb403) (CW.seq (CW.region (sd rfl (yl_assign rfl rfl (SeqR.done (tn (CW.ret (tr (rr rfl (.cons rfl .nil) ?_)))))))))
         have hM1205 : (s_l27Ways p_0) = (false) := by simp only [s_l27Ways, hb16, hb23, hb191, hb216, hb227, hb403, cond_true, cond_false, loopE_done, loopE_ret]
         rw [hM1205]
         exact ⟨rfl, (Ex.trans (Ex.trans (Ex.trans (Below.only (Ex.trans (Ex.trans (Ex.trans (Ex.refl w) hE14) hE188) hE205) hO208 (by omega)) hE215) hE225) hE387)⟩
     ·refine sz rfl rfl (not_f hb216) (sz rfl rfl (not_f hb216) (sz rfl rfl (not_f hb216) (sz rfl rfl (not_f hb216) (sz rfl rfl (not_f hb216) (sd rfl (yl_pick_t rfl rfl (not_f hb216) rfl (SeqR.done (tn (CW.cond_t rfl rfl ?_)))))))))
      refine CW.seq (CW.region (sd rfl (yl_assign rfl rfl (SeqR.done (tn (CW.ret (tr (rr rfl (.cons rfl .nil) ?_))))))))
      have hM1213 : (s_l27Ways p_0) = (false) := by simp only [s_l27Ways, hb16, hb23, hb191, hb216, cond_true, cond_false, loopE_done, loopE_ret]
      rw [hM1213]
      exact ⟨rfl, (Ex.trans (Below.only (Ex.trans (Ex.trans (Ex.trans (Ex.refl w) hE14) hE188) hE205) hO208 (by omega)) hE215)⟩
  ·obtain ⟨eb1221, eo1221, ec1221, eA1221, eS1221, ebl1221, el1221, eR1221, eC1221⟩ := RdS.atD (RdS.ex good_Table h1 hE14) d_Table (i := 0) (by first | omega | assumption)
   obtain ⟨A1222, c1222, A1223, c1223, rfl, h1222, h1223⟩ := eR1221
   have eC1221 : Cells w10 eb1221 (eo1221 + 0 * 3) [.string (bs ((p_0.Ways.getD 0 d_Table).Name)), .slice A1222 (((p_0.Ways.getD 0 d_Table).Cols).length) c1222, .slice A1223 (((p_0.Ways.getD 0 d_Table).Idxs).length) c1223] := eC1221
   refine CW.drawsI 23 (vgetI [DetI (.pointer (some ⟨b9, 0 + 1, none⟩)), DetI (.slice A1 p_0.Ways.length c1), DetI (.int .i64 ((p_0.Ways.length : Int))), DetI (.bool ((s_l1In (p_0.Ways.length : Int) 1 4))), DetI (.bool (!(s_l1In (p_0.Ways.length : Int) 1 4))), DetI (.bool (!(s_l1In (p_0.Ways.length : Int) 1 4))), DetI (.pointer (some ⟨b9, 0 + 1, none⟩)), DetI (.slice A1 p_0.Ways.length c1), DetI (.pointer (some ⟨eb1221, eo1221 + 0 * 3, none⟩)), DetI (.agg #[.string (bs ((p_0.Ways.getD 0 d_Table).Name)), .slice A1222 (((p_0.Ways.getD 0 d_Table).Cols).length) c1222, .slice A1223 (((p_0.Ways.getD 0 d_Table).Idxs).length) c1223]), DetI (.bool ((s_GoodTable (p_0.Ways.getD 0 d_Table)))), DetI (.bool (!(s_GoodTable (p_0.Ways.getD 0 d_Table)))), DetI (.bool (!(s_GoodTable (p_0.Ways.getD 0 d_Table)))), DetI (.bool (!(s_GoodTable (p_0.Ways.getD 0 d_Table)))), DetI (undef), DetI (undef), DetI (undef), DetI (undef), DetI (undef), DetI (undef), DetI (undef), DetI (undef), DetI (.bool (true))]) Try.follows rfl rfl rfl rfl rfl rfl (vgetI_stable ⟨StableI.det _, StableI.det _, StableI.det _, StableI.det _, StableI.det _, StableI.det _, StableI.det _, StableI.det _, StableI.det _, StableI.det _, StableI.det _, StableI.det _, StableI.det _, StableI.det _, StableI.det _, StableI.det _, StableI.det _, StableI.det _, StableI.det _, StableI.det _, StableI.det _, StableI.det _, StableI.det _, trivial⟩) ⟨?_, ?_, ?_, ?_, ?_, ?_, ?_, ?_, ?_, ?_, ?_, ?_, ?_, ?_, ?_, ?_, ?_, ?_, ?_, ?_, ?_, ?_, ?_, trivial⟩ ?_
   ·exact fun _ _ h => os rfl ((yl_fieldAddr Try.fd91_1 rfl (h.old 1 _ rfl rfl) kI))
   ·exact fun _ _ h => os rfl ((yl_load1 Try.ty88 rfl (h.dt 0 6 rfl rfl rfl) (((Box.ex hB13 h.ex).cell 1).trans rfl) kI))
   ·exact fun _ _ h => os rfl ((yl_len Try.un88 rfl (h.dt 1 7 rfl rfl rfl) kI))
   ·intro L1241 w1242 hi1243
    refine OpR.op' rfl (yl_call Try.en50 rfl (opvs_cons (hi1243.dt 2 8 rfl rfl rfl) (opvs_cons rfl (opvs_cons rfl opvs_nil))) (Cal.mono (c_s_l1In (p_0.Ways.length : Int) 1 4) ?_))
    rintro v1247 w1246 ⟨rfl, hE1248⟩
    exact ⟨rfl, hE1248⟩
   ·exact fun _ _ h => os rfl ((yl_not rfl (h.dt 3 9 rfl rfl rfl) kI))
   ·exact fun _ _ h => os rfl ((yl_move rfl (h.dt 4 10 rfl rfl rfl) kI))
   ·exact fun _ _ h => OpR.want rfl rfl (h.dt 5 11 rfl rfl rfl) (not_t hb16) (Yl.sameI (yl_fieldAddr Try.fd91_1 rfl (h.old 1 _ rfl rfl) kI))
   ·exact fun _ _ h => OpR.want rfl rfl (h.dt 5 11 rfl rfl rfl) (not_t hb16) (Yl.sameI (yl_load1 Try.ty88 rfl (h.dt 6 12 rfl rfl rfl) (((Box.ex hB13 h.ex).cell 1).trans rfl) kI))
   ·intro L1272 w1273 hi1274
    have hE1275 := hi1274.ex
    have hE1275z := Ex.size hE1275
    exact OpR.want rfl rfl (hi1274.dt 5 11 rfl rfl rfl) (not_t hb16) (Yl.sameI (yl_indexAddrN Try.un88 Try.ty59 rfl (hi1274.dt 7 13 rfl rfl rfl) rfl eA1221 (by first | omega | assumption | (simp only [IntKind.wrap_i64] at *; omega)) kI))
   ·exact fun _ _ h => OpR.want rfl rfl (h.dt 5 11 rfl rfl rfl) (not_t hb16) (Yl.sameI (yl_loadN (cs := [.string (bs ((p_0.Ways.getD 0 d_Table).Name)), .slice A1222 (((p_0.Ways.getD 0 d_Table).Cols).length) c1222, .slice A1223 (((p_0.Ways.getD 0 d_Table).Idxs).length) c1223]) Try.ty59 rfl (h.dt 8 14 rfl rfl rfl) (Cells.ex eC1221 h.ex) rfl kI))
   ·intro L1285 w1286 hi1287
    have hE1288 := hi1287.ex
    refine OpR.want rfl rfl (hi1287.dt 5 11 rfl rfl rfl) (not_t hb16) (yl_call Try.en131 rfl (opvs_cons (hi1287.dt 9 15 rfl rfl rfl) opvs_nil) (Cal.mono (c_s_GoodTable (p_0.Ways.getD 0 d_Table) (RdS.up (RdS.ex good_Str h1222 hE1288) good_Str) (RdS.up (RdS.ex good_Idx h1223 hE1288) good_Idx) (okL.getD o4.2.1 ok_d_Table _)) ?_))
    rintro v1294 w1293 ⟨rfl, hE1295⟩
    exact ⟨rfl, hE1295⟩
   ·exact fun _ _ h => OpR.want rfl rfl (h.dt 5 11 rfl rfl rfl) (not_t hb16) (Yl.sameI (yl_not rfl (h.dt 10 16 rfl rfl rfl) kI))
   ·exact fun _ _ h => os rfl ((yl_pick_f rfl (h.dt 5 11 rfl rfl rfl) (not_t hb16) (h.dt 11 17 rfl rfl rfl) kI))
   ·exact fun _ _ h => os rfl ((yl_move rfl (h.dt 12 18 rfl rfl rfl) kI))
   ·exact fun _ _ h => OpR.skip rfl rfl (h.dt 13 19 rfl rfl rfl) (not_f hb23) ⟨rfl, Ex.refl _⟩
   ·exact fun _ _ h => OpR.skip rfl rfl (h.dt 13 19 rfl rfl rfl) (not_f hb23) ⟨rfl, Ex.refl _⟩
   ·exact fun _ _ h => OpR.skip rfl rfl (h.dt 13 19 rfl rfl rfl) (not_f hb23) ⟨rfl, Ex.refl _⟩
   ·exact fun _ _ h => OpR.skip rfl rfl (h.dt 13 19 rfl rfl rfl) (not_f hb23) ⟨rfl, Ex.refl _⟩
   ·exact fun _ _ h => OpR.skip rfl rfl (h.dt 13 19 rfl rfl rfl) (not_f hb23) ⟨rfl, Ex.refl _⟩
   ·exact fun _ _ h => OpR.skip rfl rfl (h.dt 13 19 rfl rfl rfl) (not_f hb23) ⟨rfl, Ex.refl _⟩
   ·exact fun _ _ h => OpR.skip rfl rfl (h.dt 13 19 rfl rfl rfl) (not_f hb23) ⟨rfl, Ex.refl _⟩
   ·exact fun _ _ h => OpR.skip rfl rfl (h.dt 13 19 rfl rfl rfl) (not_f hb23) ⟨rfl, Ex.refl _⟩
   ·exact fun _ _ h => os rfl ((yl_pick_t rfl (h.dt 13 19 rfl rfl rfl) (not_f hb23) rfl kI))
   ·intro fl1362 fh1363 L1359 w1360 hp1361
    have hE1364 := hp1361.ex
    have hE1364z := Ex.size hE1364
    refine SeqR.done (tn (CW.sub (Sub.cons (d := 1) (hp1361.old 1 _ rfl rfl) (Sub.cons (d := 28) (hp1361.nt 22 28 rfl rfl rfl) (Sub.nil _))) (CW.cond_t rfl rfl (CW.seq (CW.region (sd rfl (yl_assign rfl rfl (SeqR.done (tn ?_)))))))))
    refine CW.ret (tr (rr rfl (.cons rfl .nil) ?_))
    have hM1367 : (s_l27Ways p_0) = (false) := by simp only [s_l27Ways, hb16, hb23, cond_true, cond_false, loopE_done, loopE_ret]
    rw [hM1367]
    exact ⟨rfl, (Ex.trans (Ex.trans (Ex.refl w) hE14) hE1364)⟩
 ·refine CW.drawsI 23 (vgetI [DetI (.pointer (some ⟨b9, 0 + 1, none⟩)), DetI (.slice A1 p_0.Ways.length c1), DetI (.int .i64 ((p_0.Ways.length : Int))), DetI (.bool ((s_l1In (p_0.Ways.length : Int) 1 4))), DetI (.bool (!(s_l1In (p_0.Ways.length : Int) 1 4))), DetI (.bool (!(s_l1In (p_0.Ways.length : Int) 1 4))), DetI (undef), DetI (undef), DetI (undef), DetI (undef), DetI (undef), DetI (undef), DetI (.bool (true)), DetI (.bool (true)), DetI (undef), DetI (undef), DetI (undef), DetI (undef), DetI (undef), DetI (undef), DetI (undef), DetI (undef), DetI (.bool (true))]) Try.follows rfl rfl rfl rfl rfl rfl (vgetI_stable ⟨StableI.det _, StableI.det _, StableI.det _, StableI.det _, StableI.det _, StableI.det _, StableI.det _, StableI.det _, StableI.det _, StableI.det _, StableI.det _, StableI.det _, StableI.det _, StableI.det _, StableI.det _, StableI.det _, StableI.det _, StableI.det _, StableI.det _, StableI.det _, StableI.det _, StableI.det _, StableI.det _, trivial⟩) ⟨?_, ?_, ?_, ?_, ?_, ?_, ?_, ?_, ?_, ?_, ?_, ?_, ?_, ?_, ?_, ?_, ?_, ?_, ?_, ?_, ?_, ?_, ?_, trivial⟩ ?_
  ·exact fun _ _ h => os rfl ((yl_fieldAddr Try.fd91_1 rfl (h.old 1 _ rfl rfl) kI))
  ·exact fun _ _ h => os rfl ((yl_load1 Try.ty88 rfl (h.dt 0 6 rfl rfl rfl) (((Box.ex hB13 h.ex).cell 1).trans rfl) kI))
  ·exact fun _ _ h => os rfl ((yl_len Try.un88 rfl (h.dt 1 7 rfl rfl rfl) kI))
  ·intro L1387 w1388 hi1389
   refine OpR.op' rfl (yl_call Try.en50 rfl (opvs_cons (hi1389.dt 2 8 rfl rfl rfl) (opvs_cons rfl (opvs_cons rfl opvs_nil))) (Cal.mono (c_s_l1In (p_0.Ways.length : Int) 1 4) ?_))
   rintro v1393 w1392 ⟨rfl, hE1394⟩
   exact ⟨rfl, hE1394⟩
  ·exact fun _ _ h => os rfl ((yl_not rfl (h.dt 3 9 rfl rfl rfl) kI))
  ·exact fun _ _ h => os rfl ((yl_move rfl (h.dt 4 10 rfl rfl rfl) kI))
  ·exact fun _ _ h => OpR.skip rfl rfl (h.dt 5 11 rfl rfl rfl) (not_f hb16) ⟨rfl, Ex.refl _⟩
  ·exact fun _ _ h => OpR.skip rfl rfl (h.dt 5 11 rfl rfl rfl) (not_f hb16) ⟨rfl, Ex.refl _⟩
  ·exact fun _ _ h => OpR.skip rfl rfl (h.dt 5 11 rfl rfl rfl) (not_f hb16) ⟨rfl, Ex.refl _⟩
  ·exact fun _ _ h => OpR.skip rfl rfl (h.dt 5 11 rfl rfl rfl) (not_f hb16) ⟨rfl, Ex.refl _⟩
  ·exact fun _ _ h => OpR.skip rfl rfl (h.dt 5 11 rfl rfl rfl) (not_f hb16) ⟨rfl, Ex.refl _⟩
  ·exact fun _ _ h => OpR.skip rfl rfl (h.dt 5 11 rfl rfl rfl) (not_f hb16) ⟨rfl, Ex.refl _⟩
  ·exact fun _ _ h => os rfl ((yl_pick_t rfl (h.dt 5 11 rfl rfl rfl) (not_f hb16) rfl kI))
  ·exact fun _ _ h => os rfl ((yl_move rfl (h.dt 12 18 rfl rfl rfl) kI))
  ·exact fun _ _ h => OpR.skip rfl rfl (h.dt 13 19 rfl rfl rfl) rfl ⟨rfl, Ex.refl _⟩
  ·exact fun _ _ h => OpR.skip rfl rfl (h.dt 13 19 rfl rfl rfl) rfl ⟨rfl, Ex.refl _⟩
  ·exact fun _ _ h => OpR.skip rfl rfl (h.dt 13 19 rfl rfl rfl) rfl ⟨rfl, Ex.refl _⟩
  ·exact fun _ _ h => OpR.skip rfl rfl (h.dt 13 19 rfl rfl rfl) rfl ⟨rfl, Ex.refl _⟩
  ·exact fun _ _ h => OpR.skip rfl rfl (h.dt 13 19 rfl rfl rfl) rfl ⟨rfl, Ex.refl _⟩
  ·exact fun _ _ h => OpR.skip rfl rfl (h.dt 13 19 rfl rfl rfl) rfl ⟨rfl, Ex.refl _⟩
  ·exact fun _ _ h => OpR.skip rfl rfl (h.dt 13 19 rfl rfl rfl) rfl ⟨rfl, Ex.refl _⟩
  ·exact fun _ _ h => OpR.skip rfl rfl (h.dt 13 19 rfl rfl rfl) rfl ⟨rfl, Ex.refl _⟩
  ·exact fun _ _ h => os rfl ((yl_pick_t rfl (h.dt 13 19 rfl rfl rfl) rfl rfl kI))
  ·intro fl1495 fh1496 L1492 w1493 hp1494
   have hE1497 := hp1494.ex
   have hE1497z := Ex.size hE1497
   refine SeqR.done (tn (CW.sub (Sub.cons (d := 1) (hp1494.old 1 _ rfl rfl) (Sub.cons (d := 28) (hp1494.nt 22 28 rfl rfl rfl) (Sub.nil _))) (CW.cond_t rfl rfl (CW.seq (CW.region (sd rfl (yl_assign rfl rfl (SeqR.done (tn ?_)))))))))
   refine CW.ret (tr (rr rfl (.cons rfl .nil) ?_))
   have hM1500 : (s_l27Ways p_0) = (false) := by simp only [s_l27Ways, hb16, cond_true, cond_false, loopE_done, loopE_ret]
   rw [hM1500]
   exact ⟨rfl, (Ex.trans (Ex.trans (Ex.refl w) hE14) hE1497)⟩
set_option maxRecDepth 100000 in
set_option maxHeartbeats 2000000 in
theorem c_s_l1All {A1 : Option Addr} {c1 : Nat} {w : World} (p_l : List Int) (p_lo : Int) (p_hi : Int) (h1 : RdS w (Iv 0 w.heap.size) (RF e_Int) 1 A1 p_l.length c1 p_l) (o2 : (okL okT) p_l) : Cal Try.prog 144 #[.slice A1 p_l.length c1, .int .i64 (p_lo), .int .i64 (p_hi)] w fun v w' => v = .bool ((s_l1All p_l p_lo p_hi)) ∧ Ex w w' := by
 have hol3 := o2.1
 refine Cal.of (vs := [.slice A1 p_l.length c1, .int .i64 (p_lo), .int .i64 (p_hi)]) Try.func144 rfl Try.ntmps144 rfl (CW.seq (CW.region (sd rfl (yl_assign rfl rfl (SeqR.done (tn (CW.seq (CW.seq (CW.region ?_)))))))))
 refine sd rfl (yl_move rfl rfl (sd rfl (yl_len Try.un81 rfl rfl (sd rfl (yl_move rfl rfl (SeqR.done (tn (CW.block (CW.loop (fun m5 L6 w7 => ∃ (k4 : Nat), m5 = p_l.length - k4 ∧ k4 ≤ p_l.length ∧ w.heap.size ≤ w7.heap.size ∧ lkp L6 1 = some (.int .i64 (p_lo)) ∧ lkp L6 2 = some (.int .i64 (p_hi)) ∧ lkp L6 9 = some (.slice A1 p_l.length c1) ∧ lkp L6 10 = some (.int .i64 ((p_l.length : Int))) ∧ lkp L6 11 = some (.int .i64 ((k4 : Int))) ∧ RdS w7 (Iv 0 w.heap.size) (RF e_Int) 1 A1 p_l.length c1 p_l ∧ Ex w w7 ∧ loopM (B_s_l1All_0 p_l p_lo p_hi) (p_l.length - k4) k4 () = loopM (B_s_l1All_0 p_l p_lo p_hi) (p_l.length - 0) 0 ()) (p_l.length - 0) ?_ ?_)))))))))
 ·exact ⟨0, rfl, (by omega), Nat.le_refl _, rfl, rfl, rfl, rfl, rfl, h1, (Ex.refl w), rfl⟩
 ·rintro m8 L9 w10 ⟨k4, rfl, hk11, hsz13, hl14, hl15, hl16, hl17, hl18, hf19, hf20, hI12⟩
  refine CW.sub (Sub.cons hl14 (Sub.cons hl15 (Sub.cons hl16 (Sub.cons hl17 (Sub.cons hl18 (Sub.nil _)))))) ?_
  have hf20z := Ex.size hf20
  have hbg21 := RdS.big hf19
  rcases Nat.lt_or_ge k4 p_l.length with hlt22 | hlt22
  ·refine CW.seq (CW.region (sd rfl (yl_lss rfl rfl rfl (SeqR.done (tn (CW.seq (CW.cond_t rfl (lt_t hlt22) (CW.skip (tn ?_)))))))))
   refine CW.seq (CW.block (CW.seq (CW.region ?_)))
   obtain ⟨eb23, eo23, ec23, eA23, eS23, ebl23, el23, eR23, eC23⟩ := RdS.atD hf19 d_Int (i := k4) (by first | omega | assumption)
   obtain rfl := eR23
   have eC23 : Cells w10 eb23 (eo23 + k4 * 1) [.int .i64 ((p_l.getD k4 d_Int))] := eC23
   refine sd rfl (yl_indexAddrN Try.un81 Try.ty3 rfl rfl rfl eA23 (by first | omega | assumption | (simp only [IntKind.wrap_i64] at *; omega)) (sd rfl (yl_load1 Try.ty3 rfl rfl (eC23 0 _ rfl) (sd rfl (yl_assign rfl rfl (SeqR.done (tn (CW.seq (CW.region (sd rfl (yl_move rfl rfl (sd rfl (yl_move rfl rfl ?_)))))))))))))
   refine sd rfl (yl_move rfl rfl (sd rfl (yl_call Try.en50 rfl (opvs_cons rfl (opvs_cons rfl (opvs_cons rfl opvs_nil))) (Cal.mono (c_s_l1In (p_l.getD k4 d_Int) p_lo p_hi) ?_))))
   rintro v25 w24 ⟨rfl, hE26⟩
   have hE26z := Ex.size hE26
   refine sd rfl (yl_not rfl rfl (SeqR.done (tn (bcase (s_l1In (p_l.getD k4 d_Int) p_lo p_hi) (fun hb27 => ?_) (fun hb27 => ?_)))))
   ·have hb27p := f_l1In hb27
    refine CW.cond_f rfl (not_t hb27) (CW.skip (bn (tn (CW.region (sd rfl (yl_inc rfl rfl rfl (by omega) (sd rfl (yl_move rfl rfl (SeqR.done (tn ?_))))))))))
    have hB28 : B_s_l1All_0 p_l p_lo p_hi k4 () = .cont () := by simp only [B_s_l1All_0, hb27, cond_true, cond_false, loopE_done, loopE_ret]
    exact ⟨p_l.length - (k4 + 1), by omega, k4 + 1, rfl, hlt22, (by omega), rfl, rfl, rfl, rfl, rfl, (RdS.ex good_Int hf19 hE26), (Ex.trans hf20 hE26), (loopM.cont hlt22 hB28).symm.trans hI12⟩
   ·refine CW.cond_t rfl (not_f hb27) (CW.seq (CW.region (sd rfl (yl_assign rfl rfl (SeqR.done (tn (CW.ret (br (tr ?_)))))))))
    refine tr ?_
    have hB32 : B_s_l1All_0 p_l p_lo p_hi k4 () = .ret false := by simp only [B_s_l1All_0, hb27, cond_true, cond_false, loopE_done, loopE_ret]
    have hL31 : loopM (B_s_l1All_0 p_l p_lo p_hi) (p_l.length - 0) 0 () = .ret false := hI12.symm.trans (loopM.ret hlt22 hB32)
    refine br (tr (rr rfl (.cons rfl .nil) ?_))
    have hM33 : (s_l1All p_l p_lo p_hi) = (false) := by simp only [s_l1All, hb27, hL31, cond_true, cond_false, loopE_done, loopE_ret]
    rw [hM33]
    exact ⟨rfl, (Ex.trans hf20 hE26)⟩
  ·refine CW.seq (CW.region (sd rfl (yl_lss rfl rfl rfl (SeqR.done (tn (CW.seq (CW.cond_f rfl (lt_f hlt22) (CW.exit (tx ?_)))))))))
   refine tx ?_
   have hL35 : loopM (B_s_l1All_0 p_l p_lo p_hi) (p_l.length - 0) 0 () = .done () := hI12.symm.trans (loopM.stop hlt22)
   refine bx (tn (CW.seq (CW.region (sd rfl (yl_assign rfl rfl (SeqR.done (tn (CW.ret (rr rfl (.cons rfl .nil) ?_)))))))))
   have hM36 : (s_l1All p_l p_lo p_hi) = (true) := by simp only [s_l1All, hL35, cond_true, cond_false, loopE_done, loopE_ret]
   rw [hM36]
   exact ⟨rfl, hf20⟩
set_option maxRecDepth 100000 in
set_option maxHeartbeats 2000000 in
theorem c_s_GoodShift {A1 : Option Addr} {c1 : Nat} {A2 : Option Addr} {c2 : Nat} {A3 : Option Addr} {c3 : Nat} {w : World} (p_c : DShift) (h1 : RdS w (Iv 0 w.heap.size) R_Table 3 A1 p_c.Ways.length c1 p_c.Ways) (h2 : RdS w (Iv 0 w.heap.size) (RF e_Int) 1 A2 p_c.At.length c2 p_c.At) (h3 : RdS w (Iv 0 w.heap.size) (RF e_Write) 3 A3 p_c.Store.length c3 p_c.Store) (o4 : ok_Shift p_c) : Cal Try.prog 88 #[.agg #[.string (bs (p_c.Name)), .slice A1 p_c.Ways.length c1, .slice A2 p_c.At.length c2, .slice A3 p_c.Store.length c3]] w fun v w' => v = .bool ((s_GoodShift p_c)) ∧ Ex w w' := by
 have hol5 : p_c.Name.length ≤ 1073741824 := o4.1
 have hol6 := o4.2.1.1
 have hol7 := o4.2.2.1.1
 have hol8 := o4.2.2.2.1
 refine Cal.of (vs := [.agg #[.string (bs (p_c.Name)), .slice A1 p_c.Ways.length c1, .slice A2 p_c.At.length c2, .slice A3 p_c.Store.length c3]]) Try.func88 rfl Try.ntmps88 rfl (CW.seq (CW.region (sd rfl (yl_box (cs := [.string (bs (p_c.Name)), .slice A1 p_c.Ways.length c1, .slice A2 p_c.At.length c2, .slice A3 p_c.Store.length c3]) rfl rfl rfl ?_))))
 intro b9 w10 hs11 hz12 hB13 hE14
 refine sd rfl (yl_assign rfl rfl (SeqR.done (tn (CW.seq (CW.region (sd rfl (yl_loadN (cs := [.string (bs (p_c.Name)), .slice A1 p_c.Ways.length c1, .slice A2 p_c.At.length c2, .slice A3 p_c.Store.length c3]) Try.ty91 rfl rfl (hB13.cells (n := 4) rfl) rfl ?_)))))))
 have q16 := RdS.ex good_Int h2 hE14
 have q17 := RdS.ex good_Write h3 hE14
 refine sd rfl (yl_call Try.en143 rfl (opvs_cons rfl opvs_nil) (Cal.mono (c_s_l27Ways p_c (RdS.up (RdS.ex good_Table h1 hE14) good_Table) (RdS.up q16 good_Int) (RdS.up q17 good_Write) o4) ?_))
 rintro v19 w18 ⟨rfl, hE20⟩
 have hE20z := Ex.size hE20
 refine sd rfl (yl_move rfl rfl (bcase (s_l27Ways p_c) (fun hb21 => ?_) (fun hb21 => ?_)))
 ·refine sy rfl rfl hb21 (yl_fieldAddr Try.fd91_2 rfl rfl ?_)
  have q22 := Box.ex hB13 hE20
  refine sy rfl rfl hb21 (yl_load1 Try.ty81 rfl rfl ((q22.cell 2).trans rfl) (sy rfl rfl hb21 (yl_len Try.un81 rfl rfl (sy rfl rfl hb21 (yl_call Try.en50 rfl (opvs_cons rfl (opvs_cons rfl (opvs_cons rfl opvs_nil))) (Cal.mono (c_s_l1In (p_c.At.length : Int) 1 3) ?_))))))
  rintro v24 w23 ⟨rfl, hE25⟩
  have hE25z := Ex.size hE25
  refine sd rfl (yl_pick_t rfl rfl hb21 rfl (sd rfl (yl_move rfl rfl (bcase (s_l1In (p_c.At.length : Int) 1 3) (fun hb26 => ?_) (fun hb26 => ?_)))))
  ·have hb26p := f_l1In hb26
   refine sy rfl rfl hb26 (yl_fieldAddr Try.fd91_2 rfl rfl ?_)
   have q27 := Box.ex q22 hE25
   refine sy rfl rfl hb26 (yl_load1 Try.ty81 rfl rfl ((q27.cell 2).trans rfl) (sy rfl rfl hb26 (yl_fieldAddr Try.fd91_1 rfl rfl (sy rfl rfl hb26 (yl_load1 Try.ty88 rfl rfl ((q27.cell 1).trans rfl) (sy rfl rfl hb26 (yl_len Try.un88 rfl rfl (sy rfl rfl hb26 (yl_sub rfl rfl rfl (sy rfl rfl hb26 (yl_call Try.en144 rfl (opvs_cons rfl (opvs_cons rfl (opvs_cons rfl opvs_nil))) (Cal.mono (c_s_l1All p_c.At 0 (IntKind.wrap .i64 ((p_c.Ways.length : Int) - 1)) (RdS.up (RdS.ex good_Int (RdS.ex good_Int q16 hE20) hE25) good_Int) o4.2.2.1) ?_))))))))))))
   rintro v31 w30 ⟨rfl, hE32⟩
   have hE32z := Ex.size hE32
   refine sd rfl (yl_pick_t rfl rfl hb26 rfl (sd rfl (yl_move rfl rfl (bcase (s_l1All p_c.At 0 (IntKind.wrap .i64 ((p_c.Ways.length : Int) - 1))) (fun hb33 => ?_) (fun hb33 => ?_)))))
   ·refine sy rfl rfl hb33 (yl_fieldAddr Try.fd91_3 rfl rfl (sy rfl rfl hb33 (yl_load1 Try.ty89 rfl rfl (((Box.ex q27 hE32).cell 3).trans rfl) (sy rfl rfl hb33 (yl_call Try.en100 rfl (opvs_cons rfl opvs_nil) (Cal.mono (c_s_l5Rows p_c.Store (RdS.up (RdS.ex good_Write (RdS.ex good_Write (RdS.ex good_Write q17 hE20) hE25) hE32) good_Write) o4.2.2.2) ?_))))))
    rintro v39 w38 ⟨rfl, hE40⟩
    have hE40z := Ex.size hE40
    refine sd rfl (yl_pick_t rfl rfl hb33 rfl (sd rfl (yl_assign rfl rfl (SeqR.done (tn (CW.ret (rr rfl (.cons rfl .nil) ?_)))))))
    have hM41 : (s_GoodShift p_c) = ((s_l5Rows p_c.Store)) := by simp only [s_GoodShift, hb21, hb26, hb33, cond_true, cond_false, loopE_done, loopE_ret]
    rw [hM41]
    exact ⟨rfl, (Ex.trans (Ex.trans (Ex.trans (Ex.trans (Ex.trans (Ex.refl w) hE14) hE20) hE25) hE32) hE40)⟩
   ·refine sz rfl rfl hb33 (sz rfl rfl hb33 (sz rfl rfl hb33 (sd rfl (yl_pick_f rfl rfl hb33 rfl (sd rfl (yl_assign rfl rfl (SeqR.done (tn (CW.ret (rr rfl (.cons rfl .nil) ?_))))))))))
    have hM47 : (s_GoodShift p_c) = (false) := by simp only [s_GoodShift, hb21, hb26, hb33, cond_true, cond_false, loopE_done, loopE_ret]
    rw [hM47]
    exact ⟨rfl, (Ex.trans (Ex.trans (Ex.trans (Ex.trans (Ex.refl w) hE14) hE20) hE25) hE32)⟩
  ·refine sz rfl rfl hb26 (sz rfl rfl hb26 (sz rfl rfl hb26 (sz rfl rfl hb26 (sz rfl rfl hb26 (sz rfl rfl hb26 (sz rfl rfl hb26 (sd rfl (yl_pick_f rfl rfl hb26 rfl (sd rfl (yl_move rfl rfl ?_))))))))))
   refine sz rfl rfl rfl (sz rfl rfl rfl (sz rfl rfl rfl (sd rfl (yl_pick_f rfl rfl rfl rfl (sd rfl (yl_assign rfl rfl (SeqR.done (tn (CW.ret (rr rfl (.cons rfl .nil) ?_))))))))))
   have hM52 : (s_GoodShift p_c) = (false) := by simp only [s_GoodShift, hb21, hb26, cond_true, cond_false, loopE_done, loopE_ret]
   rw [hM52]
   exact ⟨rfl, (Ex.trans (Ex.trans (Ex.trans (Ex.refl w) hE14) hE20) hE25)⟩
 ·refine sz rfl rfl hb21 (sz rfl rfl hb21 (sz rfl rfl hb21 (sz rfl rfl hb21 (sd rfl (yl_pick_f rfl rfl hb21 rfl (sd rfl (yl_move rfl rfl (sz rfl rfl rfl (sz rfl rfl rfl (sz rfl rfl rfl ?_))))))))))
  refine sz rfl rfl rfl (sz rfl rfl rfl (sz rfl rfl rfl (sz rfl rfl rfl (sd rfl (yl_pick_f rfl rfl rfl rfl (sd rfl (yl_move rfl rfl (sz rfl rfl rfl (sz rfl rfl rfl (sz rfl rfl rfl ?_))))))))))
  refine sd rfl (yl_pick_f rfl rfl rfl rfl (sd rfl (yl_assign rfl rfl (SeqR.done (tn (CW.ret (rr rfl (.cons rfl .nil) ?_)))))))
  have hM56 : (s_GoodShift p_c) = (false) := by simp only [s_GoodShift, hb21, cond_true, cond_false, loopE_done, loopE_ret]
  rw [hM56]
  exact ⟨rfl, (Ex.trans (Ex.trans (Ex.refl w) hE14) hE20)⟩
set_option maxRecDepth 100000 in
set_option maxHeartbeats 2000000 in
theorem c_s_l27Stages {A1 : Option Addr} {c1 : Nat} {A2 : Option Addr} {c2 : Nat} {A3 : Option Addr} {c3 : Nat} {w : World} (p_c : DShift) (h1 : RdS w (Iv 0 w.heap.size) R_Table 3 A1 p_c.Ways.length c1 p_c.Ways) (h2 : RdS w (Iv 0 w.heap.size) (RF e_Int) 1 A2 p_c.At.length c2 p_c.At) (h3 : RdS w (Iv 0 w.heap.size) (RF e_Write) 3 A3 p_c.Store.length c3 p_c.Store) (o4 : ok_Shift p_c) (pre0 : ShiftOk p_c) : Cal Try.prog 156 #[.agg #[.string (bs (p_c.Name)), .slice A1 p_c.Ways.length c1, .slice A2 p_c.At.length c2, .slice A3 p_c.Store.length c3]] w fun v w' => ∃ A_1 c_1 lo_1 hi_1, v = .slice A_1 ((s_l27Stages p_c).length) c_1 ∧ OwnL w' lo_1 hi_1 3 1 (RF e_Int) A_1 ((s_l27Stages p_c).length) c_1 (s_l27Stages p_c) ∧ (okL okT) (s_l27Stages p_c) ∧ (w.heap.size ≤ lo_1 ∧ lo_1 ≤ hi_1 ∧ hi_1 ≤ w'.heap.size) ∧ Ex w w' := by
 have hol5 : p_c.Name.length ≤ 1073741824 := o4.1
 have hol6 := o4.2.1.1
 have hol7 := o4.2.2.1.1
 have hol8 := o4.2.2.2.1
 refine Cal.of (vs := [.agg #[.string (bs (p_c.Name)), .slice A1 p_c.Ways.length c1, .slice A2 p_c.At.length c2, .slice A3 p_c.Store.length c3]]) Try.func156 rfl Try.ntmps156 rfl (CW.seq (CW.region (sd rfl (yl_box (cs := [.string (bs (p_c.Name)), .slice A1 p_c.Ways.length c1, .slice A2 p_c.At.length c2, .slice A3 p_c.Store.length c3]) rfl rfl rfl ?_))))
 intro b9 w10 hs11 hz12 hB13 hE14
 refine sd rfl (yl_assign rfl rfl (SeqR.done (tn (CW.seq (CW.region (sd rfl (yl_assign rfl rfl (SeqR.done (tn (CW.seq ?_))))))))))
 refine CW.seq (CW.region (sd rfl (yl_fieldAddr Try.fd91_2 rfl rfl (sd rfl (yl_load1 Try.ty81 rfl rfl ((hB13.cell 2).trans rfl) (sd rfl (yl_len Try.un81 rfl rfl (sd rfl (yl_move rfl rfl (SeqR.done (tn (CW.block ?_))))))))))))
 refine CW.loop (fun m42 L43 w44 => ∃ (k15 : Nat) (x38 : List Int) (A39 : Option Addr) (c40 : Nat) (u41 : Nat), m42 = p_c.At.length - k15 ∧ k15 ≤ p_c.At.length ∧ w10.heap.size ≤ w44.heap.size ∧ lkp L43 1 = some (.pointer (some ⟨b9, 0, none⟩)) ∧ lkp L43 3 = some (.slice A39 x38.length c40) ∧ lkp L43 7 = some (.slice A2 p_c.At.length c2) ∧ lkp L43 8 = some (.int .i64 ((p_c.At.length : Int))) ∧ lkp L43 9 = some (.int .i64 ((k15 : Int))) ∧ Box w44 b9 91 [.string (bs (p_c.Name)), .slice A1 p_c.Ways.length c1, .slice A2 p_c.At.length c2, .slice A3 p_c.Store.length c3] ∧ RdS w44 (Iv 0 w.heap.size) R_Table 3 A1 p_c.Ways.length c1 p_c.Ways ∧ RdS w44 (Iv 0 w.heap.size) (RF e_Int) 1 A2 p_c.At.length c2 p_c.At ∧ RdS w44 (Iv 0 w.heap.size) (RF e_Write) 3 A3 p_c.Store.length c3 p_c.Store ∧ OwnL w44 w10.heap.size u41 3 1 (RF e_Int) A39 x38.length c40 x38 ∧ Ex w w44 ∧ (w10.heap.size ≤ u41 ∧ u41 ≤ w44.heap.size) ∧ x38.length ≤ 0 + 1 * (k15 - 0) ∧ loopM (B_s_l27Stages_0 p_c) (p_c.At.length - k15) k15 (x38) = loopM (B_s_l27Stages_0 p_c) (p_c.At.length - 0) 0 (([] : List Int))) (p_c.At.length - 0) ?_ ?_
 ·exact ⟨0, ([] : List Int), none, 0, w10.heap.size, rfl, (by omega), Nat.le_refl _, rfl, rfl, rfl, rfl, rfl, hB13, (RdS.ex good_Table h1 hE14), (RdS.ex good_Int h2 hE14), (RdS.ex good_Write h3 hE14), (OwnL.nil w10 w10.heap.size w10.heap.size 3 1 (RF e_Int)), (Ex.trans (Ex.refl w) hE14), (by omega), (by first | (simp; done) | (first | omega | (simp only [List.length_append, List.length_cons, List.length_nil, List.length_set, toS_length]; omega))), rfl⟩
 ·rintro m49 L50 w51 ⟨k15, x38, A39, c40, u41, rfl, hk52, hsz54, hl55, hl56, hl57, hl58, hl59, hf60, hf61, hf62, hf63, hf64, hf65, hu66, hln67, hI53⟩
  refine CW.sub (Sub.cons hl55 (Sub.cons hl56 (Sub.cons hl57 (Sub.cons hl58 (Sub.cons hl59 (Sub.nil _)))))) ?_
  have hf60z := Box.lt hf60
  have hf65z := Ex.size hf65
  have hbg68 := RdS.big hf62
  rcases Nat.lt_or_ge k15 p_c.At.length with hlt69 | hlt69
  ·have hso := ShiftOk.at_ pre0 hlt69
   refine CW.seq (CW.region (sd rfl (yl_lss rfl rfl rfl (SeqR.done (tn (CW.seq (CW.cond_t rfl (lt_t hlt69) (CW.skip (tn ?_)))))))))
   refine CW.seq (CW.block (CW.seq (CW.region ?_)))
   obtain ⟨eb70, eo70, ec70, eA70, eS70, ebl70, el70, eR70, eC70⟩ := RdS.atD hf62 d_Int (i := k15) (by first | omega | assumption)
   obtain rfl := eR70
   have eC70 : Cells w51 eb70 (eo70 + k15 * 1) [.int .i64 ((p_c.At.getD k15 d_Int))] := eC70
   refine sd rfl (yl_indexAddrN Try.un81 Try.ty3 rfl rfl rfl eA70 (by first | omega | assumption | (simp only [IntKind.wrap_i64] at *; omega)) (sd rfl (yl_load1 Try.ty3 rfl rfl (eC70 0 _ rfl) (sd rfl (yl_assign rfl rfl (SeqR.done (tn ?_)))))))
   obtain ⟨eb71, eo71, ec71, eA71, eS71, ebl71, el71, eR71, eC71⟩ := RdS.atD hf61 d_Table (i := ((p_c.At.getD k15 d_Int)).toNat) (by first | omega | assumption | (simp only [IntKind.wrap_i64] at *; omega))
   obtain ⟨A72, c72, A73, c73, rfl, h72, h73⟩ := eR71
   have eC71 : Cells w51 eb71 (eo71 + (((p_c.At.getD k15 d_Int)).toNat) * 3) [.string (bs ((p_c.Ways.getD (((p_c.At.getD k15 d_Int)).toNat) d_Table).Name)), .slice A72 (((p_c.Ways.getD (((p_c.At.getD k15 d_Int)).toNat) d_Table).Cols).length) c72, .slice A73 (((p_c.Ways.getD (((p_c.At.getD k15 d_Int)).toNat) d_Table).Idxs).length) c73] := eC71
   obtain ⟨eb75, eo75, ec75, eA75, eS75, ebl75, el75, eR75, eC75⟩ := RdS.atD h73 d_Idx (i := ((s_l24Idx (p_c.Ways.getD (((p_c.At.getD k15 d_Int)).toNat) d_Table) p_c.Name)).toNat) (by first | omega | assumption | (simp only [IntKind.wrap_i64] at *; omega))
   obtain rfl := eR75
   have eC75 : Cells w51 eb75 (eo75 + (((s_l24Idx (p_c.Ways.getD (((p_c.At.getD k15 d_Int)).toNat) d_Table) p_c.Name)).toNat) * 3) [.string (bs ((((p_c.Ways.getD (((p_c.At.getD k15 d_Int)).toNat) d_Table).Idxs).getD (((s_l24Idx (p_c.Ways.getD (((p_c.At.getD k15 d_Int)).toNat) d_Table) p_c.Name)).toNat) d_Idx).Name)), .int .i64 ((((p_c.Ways.getD (((p_c.At.getD k15 d_Int)).toNat) d_Table).Idxs).getD (((s_l24Idx (p_c.Ways.getD (((p_c.At.getD k15 d_Int)).toNat) d_Table) p_c.Name)).toNat) d_Idx).Col), .int .i64 ((((p_c.Ways.getD (((p_c.At.getD k15 d_Int)).toNat) d_Table).Idxs).getD (((s_l24Idx (p_c.Ways.getD (((p_c.At.getD k15 d_Int)).toNat) d_Table) p_c.Name)).toNat) d_Idx).Stage)] := eC75
   have hrf79 := rf_s_l24Idx (p_c.Ways.getD (((p_c.At.getD k15 d_Int)).toNat) d_Table) p_c.Name
   refine CW.drawsI 19 (vgetI [DetI (.slice A39 x38.length c40), DetI (.pointer (some ⟨b9, 0 + 1, none⟩)), DetI (.slice A1 p_c.Ways.length c1), DetI (.int .i64 ((p_c.At.getD k15 d_Int))), DetI (.pointer (some ⟨eb71, eo71 + (((p_c.At.getD k15 d_Int)).toNat) * 3, none⟩)), DetI (.pointer (some ⟨eb71, eo71 + (((p_c.At.getD k15 d_Int)).toNat) * 3 + 2, none⟩)), DetI (.slice A73 (((p_c.Ways.getD (((p_c.At.getD k15 d_Int)).toNat) d_Table).Idxs).length) c73), DetI (.pointer (some ⟨b9, 0 + 1, none⟩)), DetI (.slice A1 p_c.Ways.length c1), DetI (.int .i64 ((p_c.At.getD k15 d_Int))), DetI (.pointer (some ⟨eb71, eo71 + (((p_c.At.getD k15 d_Int)).toNat) * 3, none⟩)), DetI (.agg #[.string (bs ((p_c.Ways.getD (((p_c.At.getD k15 d_Int)).toNat) d_Table).Name)), .slice A72 (((p_c.Ways.getD (((p_c.At.getD k15 d_Int)).toNat) d_Table).Cols).length) c72, .slice A73 (((p_c.Ways.getD (((p_c.At.getD k15 d_Int)).toNat) d_Table).Idxs).length) c73]), DetI (.pointer (some ⟨b9, 0 + 0, none⟩)), DetI (.string (bs (p_c.Name))), DetI (.int .i64 ((s_l24Idx (p_c.Ways.getD (((p_c.At.getD k15 d_Int)).toNat) d_Table) p_c.Name))), DetI (.pointer (some ⟨eb75, eo75 + (((s_l24Idx (p_c.Ways.getD (((p_c.At.getD k15 d_Int)).toNat) d_Table) p_c.Name)).toNat) * 3, none⟩)), DetI (.pointer (some ⟨eb75, eo75 + (((s_l24Idx (p_c.Ways.getD (((p_c.At.getD k15 d_Int)).toNat) d_Table) p_c.Name)).toNat) * 3 + 2, none⟩)), DetI (.int .i64 ((((p_c.Ways.getD (((p_c.At.getD k15 d_Int)).toNat) d_Table).Idxs).getD (((s_l24Idx (p_c.Ways.getD (((p_c.At.getD k15 d_Int)).toNat) d_Table) p_c.Name)).toNat) d_Idx).Stage)), fun lo hi v wq => ∃ A76 c77, v = .slice A76 1 c77 ∧ OwnL wq lo hi 3 1 (RF e_Int) A76 1 c77 ([(((p_c.Ways.getD (((p_c.At.getD k15 d_Int)).toNat) d_Table).Idxs).getD (((s_l24Idx (p_c.Ways.getD (((p_c.At.getD k15 d_Int)).toNat) d_Table) p_c.Name)).toNat) d_Idx).Stage] : List Int)]) Try.follows rfl rfl rfl rfl rfl rfl (vgetI_stable ⟨StableI.det _, StableI.det _, StableI.det _, StableI.det _, StableI.det _, StableI.det _, StableI.det _, StableI.det _, StableI.det _, StableI.det _, StableI.det _, StableI.det _, StableI.det _, StableI.det _, StableI.det _, StableI.det _, StableI.det _, StableI.det _, (fun _ _ _ _ _ ⟨A76, c77, hv, hO⟩ e => ⟨A76, c77, hv, OwnL.ex good_Int hO e⟩), trivial⟩) ⟨?_, ?_, ?_, ?_, ?_, ?_, ?_, ?_, ?_, ?_, ?_, ?_, ?_, ?_, ?_, ?_, ?_, ?_, ?_, trivial⟩ ?_
   ·exact fun _ _ h => os rfl ((yl_move rfl (h.old 3 _ rfl rfl) kI))
   ·exact fun _ _ h => os rfl ((yl_fieldAddr Try.fd91_1 rfl (h.old 1 _ rfl rfl) kI))
   ·exact fun _ _ h => os rfl ((yl_load1 Try.ty88 rfl (h.dt 1 14 rfl rfl rfl) (((Box.ex hf60 h.ex).cell 1).trans rfl) kI))
   ·exact fun _ _ h => os rfl ((yl_move rfl (h.old 5 _ rfl rfl) kI))
   ·intro L101 w102 hi103
    have hE104 := hi103.ex
    have hE104z := Ex.size hE104
    exact os rfl ((yl_indexAddr Try.un88 Try.ty59 rfl (hi103.dt 2 15 rfl rfl rfl) (hi103.dt 3 16 rfl rfl rfl) eA71 (by first | omega | assumption | (simp only [IntKind.wrap_i64] at *; omega)) (by first | omega | assumption | (simp only [IntKind.wrap_i64] at *; omega)) kI))
   ·exact fun _ _ h => os rfl ((yl_fieldAddr Try.fd59_2 rfl (h.dt 4 17 rfl rfl rfl) kI))
   ·exact fun _ _ h => os rfl ((yl_load1 Try.ty57 rfl (h.dt 5 18 rfl rfl rfl) ((Cells.ex eC71 h.ex) 2 _ rfl) kI))
   ·exact fun _ _ h => os rfl ((yl_fieldAddr Try.fd91_1 rfl (h.old 1 _ rfl rfl) kI))
   ·exact fun _ _ h => os rfl ((yl_load1 Try.ty88 rfl (h.dt 7 20 rfl rfl rfl) (((Box.ex hf60 h.ex).cell 1).trans rfl) kI))
   ·exact fun _ _ h => os rfl ((yl_move rfl (h.old 5 _ rfl rfl) kI))
   ·intro L134 w135 hi136
    have hE137 := hi136.ex
    have hE137z := Ex.size hE137
    exact os rfl ((yl_indexAddr Try.un88 Try.ty59 rfl (hi136.dt 8 21 rfl rfl rfl) (hi136.dt 9 22 rfl rfl rfl) eA71 (by first | omega | assumption | (simp only [IntKind.wrap_i64] at *; omega)) (by first | omega | assumption | (simp only [IntKind.wrap_i64] at *; omega)) kI))
   ·exact fun _ _ h => os rfl ((yl_loadN (cs := [.string (bs ((p_c.Ways.getD (((p_c.At.getD k15 d_Int)).toNat) d_Table).Name)), .slice A72 (((p_c.Ways.getD (((p_c.At.getD k15 d_Int)).toNat) d_Table).Cols).length) c72, .slice A73 (((p_c.Ways.getD (((p_c.At.getD k15 d_Int)).toNat) d_Table).Idxs).length) c73]) Try.ty59 rfl (h.dt 10 23 rfl rfl rfl) (Cells.ex eC71 h.ex) rfl kI))
   ·exact fun _ _ h => os rfl ((yl_fieldAddr Try.fd91_0 rfl (h.old 1 _ rfl rfl) kI))
   ·exact fun _ _ h => os rfl ((yl_load1 Try.ty9 rfl (h.dt 12 25 rfl rfl rfl) (((Box.ex hf60 h.ex).cell 0).trans rfl) kI))
   ·intro L157 w158 hi159
    have hE160 := hi159.ex
    refine OpR.op' rfl (yl_call Try.en159 rfl (opvs_cons (hi159.dt 11 24 rfl rfl rfl) (opvs_cons (hi159.dt 13 26 rfl rfl rfl) opvs_nil)) (Cal.mono (c_s_l24Idx (p_c.Ways.getD (((p_c.At.getD k15 d_Int)).toNat) d_Table) p_c.Name (RdS.up (RdS.ex good_Str h72 hE160) good_Str) (RdS.up (RdS.ex good_Idx h73 hE160) good_Idx) (okL.getD o4.2.1 ok_d_Table _) o4.1) ?_))
    rintro v166 w165 ⟨rfl, hE167⟩
    exact ⟨rfl, hE167⟩
   ·intro L168 w169 hi170
    have hE171 := hi170.ex
    have hE171z := Ex.size hE171
    exact os rfl ((yl_indexAddr Try.un57 Try.ty177 rfl (hi170.dt 6 19 rfl rfl rfl) (hi170.dt 14 27 rfl rfl rfl) eA75 (by first | omega | assumption | (simp only [IntKind.wrap_i64] at *; omega)) (by first | omega | assumption | (simp only [IntKind.wrap_i64] at *; omega)) kI))
   ·exact fun _ _ h => os rfl ((yl_fieldAddr Try.fd177_2 rfl (h.dt 15 28 rfl rfl rfl) kI))
   ·exact fun _ _ h => os rfl ((yl_load1 Try.ty3 rfl (h.dt 16 29 rfl rfl rfl) ((Cells.ex eC75 h.ex) 2 _ rfl) kI))
   ·intro L185 w186 hi187
    have hE188 := hi187.ex
    have hE188z := Ex.size hE188
    refine OpR.op' rfl (yl_buildSlice (cs := [.int .i64 ((((p_c.Ways.getD (((p_c.At.getD k15 d_Int)).toNat) d_Table).Idxs).getD (((s_l24Idx (p_c.Ways.getD (((p_c.At.getD k15 d_Int)).toNat) d_Table) p_c.Name)).toNat) d_Idx).Stage)]) Try.un81 Try.ty3 (by decide) rfl (opvs_cons (hi187.dt 17 30 rfl rfl rfl) opvs_nil) (by kernel_rfl) ?_)
    intro b190 w191 hs192 hz193 hB194 hE195
    have hO196 : OwnL w191 b190 (b190 + 1) 3 1 (RF e_Int) (some ⟨b190, 0, none⟩) 1 1 ([(((p_c.Ways.getD (((p_c.At.getD k15 d_Int)).toNat) d_Table).Idxs).getD (((s_l24Idx (p_c.Ways.getD (((p_c.At.getD k15 d_Int)).toNat) d_Table) p_c.Name)).toNat) d_Idx).Stage] : List Int) := OwnL.of_box (S := fun _ => False) hB194 (Nat.le_refl _) (Nat.lt_succ_self _) (EncL.cons (c := [.int .i64 ((((p_c.Ways.getD (((p_c.At.getD k15 d_Int)).toNat) d_Table).Idxs).getD (((s_l24Idx (p_c.Ways.getD (((p_c.At.getD k15 d_Int)).toNat) d_Table) p_c.Name)).toNat) d_Idx).Stage)]) rfl rfl EncL.nil) (Nat.le_of_ble_eq_true rfl) (fun h => h) (fun _ h => False.elim h)
    exact ⟨⟨(some ⟨b190, 0, none⟩), 1, rfl, OwnL.more hO196 (by omega) (by omega)⟩, hE195⟩
   ·intro fl200 fh201 L197 w198 hp199
    have hE202 := hp199.ex
    have hE202z := Ex.size hE202
    have hr209 := hp199.rng 18 rfl
    obtain ⟨_, hx208, A76_210, c77_211, rfl, h212⟩ := hp199.new 18 31 rfl rfl
    have q214 := OwnL.rd good_Int h212
    obtain ⟨nw215, he216, hs217⟩ := RdS.src q214
    refine sd rfl (yl_appendL (S := (fun _ => False)) (lo := w10.heap.size) (hi := u41) (xs := x38) (ys := ([(((p_c.Ways.getD (((p_c.At.getD k15 d_Int)).toNat) d_Table).Idxs).getD (((s_l24Idx (p_c.Ways.getD (((p_c.At.getD k15 d_Int)).toNat) d_Table) p_c.Name)).toNat) d_Idx).Stage] : List Int)) good_Int Try.un81 Try.ty3 rfl (Nat.le_of_ble_eq_true rfl) rfl (hp199.nt 0 13 rfl rfl rfl) hx208 (OwnL.ex good_Int hf64 hE202) he216 hs217 (RdS.len q214) (by first | omega | (simp only [List.length_append, List.length_cons, List.length_nil, List.length_take, List.length_drop, List.length_replicate, List.length_set, toS_length]; omega)) (by first | omega | (simp only [List.length_append, List.length_cons, List.length_nil, List.length_take, List.length_drop, List.length_replicate, List.length_set, toS_length]; omega)) (by omega) (by omega) (fun _ h _ => False.elim h) (by omega) ?_)
    intro A218 c219 w220 row221 hO222 hG223 hrg224
    have hG223z := hG223.size
    refine sd rfl (yl_assign rfl rfl (SeqR.done (bn (tn (CW.sub (Sub.cons (d := 1) (hp199.old 1 _ rfl rfl) (Sub.cons (d := 3) rfl (Sub.cons (d := 7) (hp199.old 7 _ rfl rfl) (Sub.cons (d := 8) (hp199.old 8 _ rfl rfl) (Sub.cons (d := 9) (hp199.old 9 _ rfl rfl) (Sub.nil _)))))) (CW.region (sd rfl (yl_inc rfl rfl rfl (by omega) (sd rfl (yl_move rfl rfl (SeqR.done ?_)))))))))))
    refine tn ?_
    have hB225 : B_s_l27Stages_0 p_c k15 (x38) = .cont ((x38 ++ ([(((p_c.Ways.getD (((p_c.At.getD k15 d_Int)).toNat) d_Table).Idxs).getD (((s_l24Idx (p_c.Ways.getD (((p_c.At.getD k15 d_Int)).toNat) d_Table) p_c.Name)).toNat) d_Idx).Stage] : List Int))) := by simp only [B_s_l27Stages_0, cond_true, cond_false, loopE_done, loopE_ret]
    exact ⟨p_c.At.length - (k15 + 1), by omega, k15 + 1, (x38 ++ ([(((p_c.Ways.getD (((p_c.At.getD k15 d_Int)).toNat) d_Table).Idxs).getD (((s_l24Idx (p_c.Ways.getD (((p_c.At.getD k15 d_Int)).toNat) d_Table) p_c.Name)).toNat) d_Idx).Stage] : List Int)), A218, c219, w220.heap.size, rfl, hlt69, (by omega), rfl, rfl, rfl, rfl, rfl, (Box.grown (Box.ex hf60 hE202) hG223 (fun k hk => by have := hrg224 k hk; omega)), (RdS.grown good_Table (RdS.ex good_Table hf61 hE202) hG223 (fun k hk => by have := hrg224 k hk; simp only [Iv]; omega)), (RdS.grown good_Int (RdS.ex good_Int hf62 hE202) hG223 (fun k hk => by have := hrg224 k hk; simp only [Iv]; omega)), (RdS.grown good_Write (RdS.ex good_Write hf63 hE202) hG223 (fun k hk => by have := hrg224 k hk; simp only [Iv]; omega)), hO222, (Below.grown (Ex.trans hf65 hE202) hG223 (by omega) (fun k hk => by have := hrg224 k hk; omega)), (by omega), (by first | omega | (simp only [List.length_append, List.length_cons, List.length_nil, List.length_set, toS_length]; omega)), (loopM.cont hlt69 hB225).symm.trans hI53⟩
  ·refine CW.seq (CW.region (sd rfl (yl_lss rfl rfl rfl (SeqR.done (tn (CW.seq (CW.cond_f rfl (lt_f hlt69) (CW.exit (tx ?_)))))))))
   refine tx ?_
   have hL236 : loopM (B_s_l27Stages_0 p_c) (p_c.At.length - 0) 0 (([] : List Int)) = .done (x38) := hI53.symm.trans (loopM.stop hlt69)
   refine bx (tn (CW.seq (CW.region (sd rfl (yl_move rfl rfl (sd rfl (yl_assign rfl rfl (SeqR.done (tn (CW.ret ?_))))))))))
   refine rr rfl (.cons rfl .nil) ?_
   have hM237 : (s_l27Stages p_c) = (x38) := by simp only [s_l27Stages, hL236, cond_true, cond_false, loopE_done, loopE_ret]
   rw [hM237]
   exact ⟨A39, c40, w10.heap.size, u41, rfl, hf64, (okL.mk (xs := x38) (by first | omega | (simp only [List.length_append, List.length_cons, List.length_nil, List.length_take, List.length_drop, List.length_replicate, List.length_set]; omega)) fun _ _ => trivial), (by omega), hf65⟩
end Go.Proofs.Ytfmepgbpbbneaaa
