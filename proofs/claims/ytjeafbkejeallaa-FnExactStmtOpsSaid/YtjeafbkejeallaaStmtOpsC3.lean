/- Stmt Ops: what each call returns, part 3. -/
import Derived.Test.YtjeafbkejeallaaStmtOpsC2
set_option linter.unusedVariables false
set_option linter.unusedSimpArgs false
namespace Go.Proofs.Ytjeafbkejeallaa
open Go.RowKit Go.X
set_option maxRecDepth 100000 in
set_option maxHeartbeats 2000000 in
theorem c_s_l26Good {A1 : Option Addr} {c1 : Nat} {A2 : Option Addr} {c2 : Nat} {A4 : Option Addr} {c4 : Nat} {A5 : Option Addr} {c5 : Nat} {w : World} (p_t : DTable) (p_a : DRowAct) (h1 : RdS w (Iv 0 w.heap.size) (RF e_Str) 1 A1 p_t.Cols.length c1 p_t.Cols) (h2 : RdS w (Iv 0 w.heap.size) (RF e_Idx) 3 A2 p_t.Idxs.length c2 p_t.Idxs) (h4 : RdS w (Iv 0 w.heap.size) (RF e_Str) 1 A4 p_a.Old.Vals.length c4 p_a.Old.Vals) (h5 : RdS w (Iv 0 w.heap.size) (RF e_Str) 1 A5 p_a.New.Vals.length c5 p_a.New.Vals) (o3 : ok_Table p_t) (o6 : ok_RowAct p_a) (pre0 : 0 < p_t.Cols.length) : Cal Try.prog 175 #[.agg #[.string (bs (p_t.Name)), .slice A1 p_t.Cols.length c1, .slice A2 p_t.Idxs.length c2], .agg #[.int .i64 (p_a.Kind), .slice A4 p_a.Old.Vals.length c4, .slice A5 p_a.New.Vals.length c5]] w fun v w' => v = .bool ((s_l26Good p_t p_a)) ∧ Ex w w' := by
 have hol7 : p_t.Name.length ≤ 1073741824 := o3.1
 have hol8 := o3.2.1.1
 have hol9 := o3.2.2.1
 have hol10 := o6.1.1
 have hol11 := o6.2.1
 refine Cal.of (vs := [.agg #[.string (bs (p_t.Name)), .slice A1 p_t.Cols.length c1, .slice A2 p_t.Idxs.length c2], .agg #[.int .i64 (p_a.Kind), .slice A4 p_a.Old.Vals.length c4, .slice A5 p_a.New.Vals.length c5]]) Try.func175 rfl Try.ntmps175 rfl (CW.seq (CW.region (sd rfl (yl_box (cs := [.string (bs (p_t.Name)), .slice A1 p_t.Cols.length c1, .slice A2 p_t.Idxs.length c2]) rfl rfl rfl ?_))))
 intro b12 w13 hs14 hz15 hB16 hE17
 refine sd rfl (yl_box (cs := [.int .i64 (p_a.Kind), .slice A4 p_a.Old.Vals.length c4, .slice A5 p_a.New.Vals.length c5]) rfl rfl rfl ?_)
 intro b18 w19 hs20 hz21 hB22 hE23
 refine sd rfl (yl_assign rfl rfl (SeqR.done (tn (CW.seq (CW.seq (CW.region (sd rfl (yl_fieldAddr Try.fd93_0 rfl rfl (sd rfl (yl_load1 Try.ty3 rfl rfl ((hB22.cell 0).trans rfl) (SeqR.done ?_)))))))))))
 refine tn (CW.block (CW.seq (CW.region (sd rfl (yl_eql rfl rfl rfl (sd rfl (yl_assign rfl rfl (SeqR.done (tn (bcase (decide (p_a.Kind = 1)) (fun hb24 => ?_) (fun hb24 => ?_)))))))))))
 ·have hb24p := dec_t hb24
  refine CW.cond_t rfl hb24 (CW.seq (CW.region (sd rfl (yl_fieldAddr Try.fd93_1 rfl rfl (sd rfl (yl_fieldAddr Try.fd67_0 rfl rfl (sd rfl (yl_load1 Try.ty52 rfl rfl ((hB22.cell 1).trans rfl) (sd rfl (yl_len Try.un52 rfl rfl (sd rfl (yl_eql rfl rfl rfl (sd rfl (yl_move rfl rfl ?_))))))))))))))
  refine bcase (decide ((p_a.Old.Vals.length : Int) = 0)) (fun hb25 => ?_) (fun hb25 => ?_)
  ·have hb25p := dec_t hb25
   refine sy rfl rfl hb25 (yl_loadN (cs := [.string (bs (p_t.Name)), .slice A1 p_t.Cols.length c1, .slice A2 p_t.Idxs.length c2]) Try.ty65 rfl rfl ((Box.ex hB16 hE23).cells (n := 3) rfl) rfl (sy rfl rfl hb25 (yl_fieldAddr Try.fd93_2 rfl rfl (sy rfl rfl hb25 (yl_loadN (cs := [.slice A5 p_a.New.Vals.length c5]) Try.ty67 rfl rfl (hB22.cells (n := 1) rfl) rfl (sy rfl rfl hb25 (yl_call Try.en104 rfl (opvs_cons rfl (opvs_cons rfl opvs_nil)) (Cal.mono (c_s_l25Good p_t p_a.New (RdS.up (RdS.ex good_Str (RdS.ex good_Str h1 hE17) hE23) good_Str) (RdS.up (RdS.ex good_Idx (RdS.ex good_Idx h2 hE17) hE23) good_Idx) (RdS.up (RdS.ex good_Str (RdS.ex good_Str h5 hE17) hE23) good_Str) o3 o6.2) ?_))))))))
   rintro v34 w33 ⟨rfl, hE35⟩
   have hE35z := Ex.size hE35
   refine sd rfl (yl_pick_t rfl rfl hb25 rfl (sd rfl (yl_assign rfl rfl (SeqR.done (tn (CW.ret (br (tr (rr rfl (.cons rfl .nil) ?_)))))))))
   have hM36 : (s_l26Good p_t p_a) = ((s_l25Good p_t p_a.New)) := by simp only [s_l26Good, hb24, hb25, cond_true, cond_false, loopE_done, loopE_ret]
   rw [hM36]
   exact ⟨rfl, (Ex.trans (Ex.trans (Ex.trans (Ex.refl w) hE17) hE23) hE35)⟩
  ·have hb25p := dec_f hb25
   refine sz rfl rfl hb25 (sz rfl rfl hb25 (sz rfl rfl hb25 (sz rfl rfl hb25 (sd rfl (yl_pick_f rfl rfl hb25 rfl (sd rfl (yl_assign rfl rfl (SeqR.done (tn (CW.ret ?_))))))))))
   refine br (tr (rr rfl (.cons rfl .nil) ?_))
   have hM40 : (s_l26Good p_t p_a) = (false) := by simp only [s_l26Good, hb24, hb25, cond_true, cond_false, loopE_done, loopE_ret]
   rw [hM40]
   exact ⟨rfl, (Ex.trans (Ex.trans (Ex.refl w) hE17) hE23)⟩
 ·have hb24p := dec_f hb24
  refine CW.cond_f rfl hb24 (CW.seq (CW.region (sd rfl (yl_eql rfl rfl rfl (sd rfl (yl_assign rfl rfl (SeqR.done (tn (bcase (decide (p_a.Kind = 2)) (fun hb43 => ?_) (fun hb43 => ?_))))))))))
  ·have hb43p := dec_t hb43
   refine CW.cond_t rfl hb43 (CW.seq (CW.region (sd rfl (yl_fieldAddr Try.fd93_2 rfl rfl (sd rfl (yl_fieldAddr Try.fd67_0 rfl rfl (sd rfl (yl_load1 Try.ty52 rfl rfl ((hB22.cell 2).trans rfl) (sd rfl (yl_len Try.un52 rfl rfl (sd rfl (yl_eql rfl rfl rfl (sd rfl (yl_move rfl rfl ?_))))))))))))))
   refine bcase (decide ((p_a.New.Vals.length : Int) = 0)) (fun hb44 => ?_) (fun hb44 => ?_)
   ·have hb44p := dec_t hb44
    refine sy rfl rfl hb44 (yl_loadN (cs := [.string (bs (p_t.Name)), .slice A1 p_t.Cols.length c1, .slice A2 p_t.Idxs.length c2]) Try.ty65 rfl rfl ((Box.ex hB16 hE23).cells (n := 3) rfl) rfl (sy rfl rfl hb44 (yl_fieldAddr Try.fd93_1 rfl rfl (sy rfl rfl hb44 (yl_loadN (cs := [.slice A4 p_a.Old.Vals.length c4]) Try.ty67 rfl rfl (hB22.cells (n := 1) rfl) rfl (sy rfl rfl hb44 (yl_call Try.en104 rfl (opvs_cons rfl (opvs_cons rfl opvs_nil)) (Cal.mono (c_s_l25Good p_t p_a.Old (RdS.up (RdS.ex good_Str (RdS.ex good_Str h1 hE17) hE23) good_Str) (RdS.up (RdS.ex good_Idx (RdS.ex good_Idx h2 hE17) hE23) good_Idx) (RdS.up (RdS.ex good_Str (RdS.ex good_Str h4 hE17) hE23) good_Str) o3 o6.1) ?_))))))))
    rintro v53 w52 ⟨rfl, hE54⟩
    have hE54z := Ex.size hE54
    refine sd rfl (yl_pick_t rfl rfl hb44 rfl (sd rfl (yl_assign rfl rfl (SeqR.done (tn (CW.ret (br (tr (rr rfl (.cons rfl .nil) ?_)))))))))
    have hM55 : (s_l26Good p_t p_a) = ((s_l25Good p_t p_a.Old)) := by simp only [s_l26Good, hb24, hb43, hb44, cond_true, cond_false, loopE_done, loopE_ret]
    rw [hM55]
    exact ⟨rfl, (Ex.trans (Ex.trans (Ex.trans (Ex.refl w) hE17) hE23) hE54)⟩
   ·have hb44p := dec_f hb44
    refine sz rfl rfl hb44 (sz rfl rfl hb44 (sz rfl rfl hb44 (sz rfl rfl hb44 (sd rfl (yl_pick_f rfl rfl hb44 rfl (sd rfl (yl_assign rfl rfl (SeqR.done (tn (CW.ret ?_))))))))))
    refine br (tr (rr rfl (.cons rfl .nil) ?_))
    have hM59 : (s_l26Good p_t p_a) = (false) := by simp only [s_l26Good, hb24, hb43, hb44, cond_true, cond_false, loopE_done, loopE_ret]
    rw [hM59]
    exact ⟨rfl, (Ex.trans (Ex.trans (Ex.refl w) hE17) hE23)⟩
  ·have hb43p := dec_f hb43
   refine CW.cond_f rfl hb43 (CW.seq (CW.region (sd rfl (yl_eql rfl rfl rfl (sd rfl (yl_assign rfl rfl (SeqR.done (tn (bcase (decide (p_a.Kind = 3)) (fun hb62 => ?_) (fun hb62 => ?_))))))))))
   ·have hb62p := dec_t hb62
    refine CW.cond_t rfl hb62 (CW.seq (bcase (s_l25Good p_t p_a.Old) (fun hb71 => ?_) (fun hb71 => ?_)))
    ·obtain ⟨hb71p0, hb71p1⟩ := f_s_l25Good hb71
     refine bcase (s_l25Good p_t p_a.New) (fun hb83 => ?_) (fun hb83 => ?_)
     ·obtain ⟨hb83p0, hb83p1⟩ := f_s_l25Good hb83
      have q84 := Box.ex hB16 hE23
      have q86 := RdS.ex good_Str (RdS.ex good_Str h1 hE17) hE23
      have q88 := RdS.ex good_Idx (RdS.ex good_Idx h2 hE17) hE23
      have q90 := RdS.ex good_Str (RdS.ex good_Str h4 hE17) hE23
      have q93 := RdS.ex good_Str (RdS.ex good_Str h5 hE17) hE23
      obtain ⟨eb95, eo95, ec95, eA95, eS95, ebl95, el95, eR95, eC95⟩ := RdS.atD q90 d_Str (i := 0) (by first | omega | assumption)
      obtain rfl := eR95
      have eC95 : Cells w19 eb95 (eo95 + 0 * 1) [.string (bs ((p_a.Old.Vals.getD 0 d_Str)))] := eC95
      obtain ⟨eb96, eo96, ec96, eA96, eS96, ebl96, el96, eR96, eC96⟩ := RdS.atD q93 d_Str (i := 0) (by first | omega | assumption)
      obtain rfl := eR96
      have eC96 : Cells w19 eb96 (eo96 + 0 * 1) [.string (bs ((p_a.New.Vals.getD 0 d_Str)))] := eC96
      refine CW.drawsI 24 (vgetI [DetI (.agg #[.string (bs (p_t.Name)), .slice A1 p_t.Cols.length c1, .slice A2 p_t.Idxs.length c2]), DetI (.pointer (some ⟨b18, 0 + 1, none⟩)), DetI (.agg #[.slice A4 p_a.Old.Vals.length c4]), DetI (.bool ((s_l25Good p_t p_a.Old))), DetI (.bool ((s_l25Good p_t p_a.Old))), DetI (.agg #[.string (bs (p_t.Name)), .slice A1 p_t.Cols.length c1, .slice A2 p_t.Idxs.length c2]), DetI (.pointer (some ⟨b18, 0 + 2, none⟩)), DetI (.agg #[.slice A5 p_a.New.Vals.length c5]), DetI (.bool ((s_l25Good p_t p_a.New))), DetI (.bool ((s_l25Good p_t p_a.New))), DetI (.bool ((s_l25Good p_t p_a.New))), DetI (.pointer (some ⟨b18, 0 + 1, none⟩)), DetI (.pointer (some ⟨b18, 0 + 1 + 0, none⟩)), DetI (.slice A4 p_a.Old.Vals.length c4), DetI (.pointer (some ⟨eb95, eo95 + 0 * 1, none⟩)), DetI (.string (bs ((p_a.Old.Vals.getD 0 d_Str)))), DetI (.pointer (some ⟨b18, 0 + 2, none⟩)), DetI (.pointer (some ⟨b18, 0 + 2 + 0, none⟩)), DetI (.slice A5 p_a.New.Vals.length c5), DetI (.pointer (some ⟨eb96, eo96 + 0 * 1, none⟩)), DetI (.string (bs ((p_a.New.Vals.getD 0 d_Str)))), DetI (.bool ((p_a.Old.Vals.getD 0 d_Str) == (p_a.New.Vals.getD 0 d_Str))), DetI (.bool ((p_a.Old.Vals.getD 0 d_Str) == (p_a.New.Vals.getD 0 d_Str))), DetI (.bool ((p_a.Old.Vals.getD 0 d_Str) == (p_a.New.Vals.getD 0 d_Str)))]) Try.follows rfl rfl rfl rfl rfl rfl (vgetI_stable ⟨StableI.det _, StableI.det _, StableI.det _, StableI.det _, StableI.det _, StableI.det _, StableI.det _, StableI.det _, StableI.det _, StableI.det _, StableI.det _, StableI.det _, StableI.det _, StableI.det _, StableI.det _, StableI.det _, StableI.det _, StableI.det _, StableI.det _, StableI.det _, StableI.det _, StableI.det _, StableI.det _, StableI.det _, trivial⟩) ⟨?_, ?_, ?_, ?_, ?_, ?_, ?_, ?_, ?_, ?_, ?_, ?_, ?_, ?_, ?_, ?_, ?_, ?_, ?_, ?_, ?_, ?_, ?_, ?_, trivial⟩ ?_
      ·exact fun _ _ h => os rfl ((yl_loadN (cs := [.string (bs (p_t.Name)), .slice A1 p_t.Cols.length c1, .slice A2 p_t.Idxs.length c2]) Try.ty65 rfl (h.old 2 _ rfl rfl) ((Box.ex q84 h.ex).cells (n := 3) rfl) rfl kI))
      ·exact fun _ _ h => os rfl ((yl_fieldAddr Try.fd93_1 rfl (h.old 3 _ rfl rfl) kI))
      ·exact fun _ _ h => os rfl ((yl_loadN (cs := [.slice A4 p_a.Old.Vals.length c4]) Try.ty67 rfl (h.dt 1 36 rfl rfl rfl) ((Box.ex hB22 h.ex).cells (n := 1) rfl) rfl kI))
      ·intro L114 w115 hi116
       have hE117 := hi116.ex
       refine OpR.op' rfl (yl_call Try.en104 rfl (opvs_cons (hi116.dt 0 35 rfl rfl rfl) (opvs_cons (hi116.dt 2 37 rfl rfl rfl) opvs_nil)) (Cal.mono (c_s_l25Good p_t p_a.Old (RdS.up (RdS.ex good_Str q86 hE117) good_Str) (RdS.up (RdS.ex good_Idx q88 hE117) good_Idx) (RdS.up (RdS.ex good_Str q90 hE117) good_Str) o3 o6.1) ?_))
       rintro v124 w123 ⟨rfl, hE125⟩
       exact ⟨rfl, hE125⟩
      ·exact fun _ _ h => os rfl ((yl_move rfl (h.dt 3 38 rfl rfl rfl) kI))
      ·exact fun _ _ h => OpR.want rfl rfl (h.dt 4 39 rfl rfl rfl) hb71 (Yl.sameI (yl_loadN (cs := [.string (bs (p_t.Name)), .slice A1 p_t.Cols.length c1, .slice A2 p_t.Idxs.length c2]) Try.ty65 rfl (h.old 2 _ rfl rfl) ((Box.ex q84 h.ex).cells (n := 3) rfl) rfl kI))
      ·exact fun _ _ h => OpR.want rfl rfl (h.dt 4 39 rfl rfl rfl) hb71 (Yl.sameI (yl_fieldAddr Try.fd93_2 rfl (h.old 3 _ rfl rfl) kI))
      ·exact fun _ _ h => OpR.want rfl rfl (h.dt 4 39 rfl rfl rfl) hb71 (Yl.sameI (yl_loadN (cs := [.slice A5 p_a.New.Vals.length c5]) Try.ty67 rfl (h.dt 6 41 rfl rfl rfl) ((Box.ex hB22 h.ex).cells (n := 1) rfl) rfl kI))
      ·intro L151 w152 hi153
       have hE154 := hi153.ex
       refine OpR.want rfl rfl (hi153.dt 4 39 rfl rfl rfl) hb71 (yl_call Try.en104 rfl (opvs_cons (hi153.dt 5 40 rfl rfl rfl) (opvs_cons (hi153.dt 7 42 rfl rfl rfl) opvs_nil)) (Cal.mono (c_s_l25Good p_t p_a.New (RdS.up (RdS.ex good_Str q86 hE154) good_Str) (RdS.up (RdS.ex good_Idx q88 hE154) good_Idx) (RdS.up (RdS.ex good_Str q93 hE154) good_Str) o3 o6.2) ?_))
       rintro v162 w161 ⟨rfl, hE163⟩
       exact ⟨rfl, hE163⟩
      ·exact fun _ _ h => os rfl ((yl_pick_t rfl (h.dt 4 39 rfl rfl rfl) hb71 (h.dt 8 43 rfl rfl rfl) kI))
      ·exact fun _ _ h => os rfl ((yl_move rfl (h.dt 9 44 rfl rfl rfl) kI))
      ·exact fun _ _ h => OpR.want rfl rfl (h.dt 10 45 rfl rfl rfl) hb83 (Yl.sameI (yl_fieldAddr Try.fd93_1 rfl (h.old 3 _ rfl rfl) kI))
      ·exact fun _ _ h => OpR.want rfl rfl (h.dt 10 45 rfl rfl rfl) hb83 (Yl.sameI (yl_fieldAddr Try.fd67_0 rfl (h.dt 11 46 rfl rfl rfl) kI))
      ·exact fun _ _ h => OpR.want rfl rfl (h.dt 10 45 rfl rfl rfl) hb83 (Yl.sameI (yl_load1 Try.ty52 rfl (h.dt 12 47 rfl rfl rfl) (((Box.ex hB22 h.ex).cell 1).trans rfl) kI))
      ·intro L194 w195 hi196
       have hE197 := hi196.ex
       have hE197z := Ex.size hE197
       exact OpR.want rfl rfl (hi196.dt 10 45 rfl rfl rfl) hb83 (Yl.sameI (yl_indexAddrN Try.un52 Try.ty9 rfl (hi196.dt 13 48 rfl rfl rfl) rfl eA95 (by first | omega | assumption | (simp only [IntKind.wrap_i64] at *; omega)) kI))
      ·exact fun _ _ h => OpR.want rfl rfl (h.dt 10 45 rfl rfl rfl) hb83 (Yl.sameI (yl_load1 Try.ty9 rfl (h.dt 14 49 rfl rfl rfl) ((Cells.ex eC95 h.ex) 0 _ rfl) kI))
      ·exact fun _ _ h => OpR.want rfl rfl (h.dt 10 45 rfl rfl rfl) hb83 (Yl.sameI (yl_fieldAddr Try.fd93_2 rfl (h.old 3 _ rfl rfl) kI))
      ·exact fun _ _ h => OpR.want rfl rfl (h.dt 10 45 rfl rfl rfl) hb83 (Yl.sameI (yl_fieldAddr Try.fd67_0 rfl (h.dt 16 51 rfl rfl rfl) kI))
      ·exact fun _ _ h => OpR.want rfl rfl (h.dt 10 45 rfl rfl rfl) hb83 (Yl.sameI (yl_load1 Try.ty52 rfl (h.dt 17 52 rfl rfl rfl) (((Box.ex hB22 h.ex).cell 2).trans rfl) kI))
      ·intro L226 w227 hi228
       have hE229 := hi228.ex
       have hE229z := Ex.size hE229
       exact OpR.want rfl rfl (hi228.dt 10 45 rfl rfl rfl) hb83 (Yl.sameI (yl_indexAddrN Try.un52 Try.ty9 rfl (hi228.dt 18 53 rfl rfl rfl) rfl eA96 (by first | omega | assumption | (simp only [IntKind.wrap_i64] at *; omega)) kI))
      ·exact fun _ _ h => OpR.want rfl rfl (h.dt 10 45 rfl rfl rfl) hb83 (Yl.sameI (yl_load1 Try.ty9 rfl (h.dt 19 54 rfl rfl rfl) ((Cells.ex eC96 h.ex) 0 _ rfl) kI))
      ·exact fun _ _ h => OpR.want rfl rfl (h.dt 10 45 rfl rfl rfl) hb83 (Yl.sameI (yl_seql (a := (p_a.Old.Vals.getD 0 d_Str)) (b := (p_a.New.Vals.getD 0 d_Str)) rfl (h.dt 15 50 rfl rfl rfl) (h.dt 20 55 rfl rfl rfl) kI))
      ·exact fun _ _ h => os rfl ((yl_pick_t rfl (h.dt 10 45 rfl rfl rfl) hb83 (h.dt 21 56 rfl rfl rfl) kI))
      ·exact fun _ _ h => os rfl ((yl_assign rfl (h.dt 22 57 rfl rfl rfl) kI))
      ·intro fl260 fh261 L257 w258 hp259
       have hE262 := hp259.ex
       have hE262z := Ex.size hE262
       refine SeqR.done (tn (CW.sub (Sub.cons (d := 4) (hp259.nt 23 4 rfl rfl rfl) (Sub.nil _)) (CW.ret (br (tr (rr rfl (.cons rfl .nil) ?_))))))
       have hM264 : (s_l26Good p_t p_a) = ((p_a.Old.Vals.getD 0 d_Str) == (p_a.New.Vals.getD 0 d_Str)) := by simp only [s_l26Good, hb24, hb43, hb62, hb71, hb83, cond_true, cond_false, loopE_done, loopE_ret]
       rw [hM264]
       exact ⟨rfl, (Ex.trans (Ex.trans (Ex.trans (Ex.refl w) hE17) hE23) hE262)⟩
     ·have q268 := Box.ex hB16 hE23
      have q270 := RdS.ex good_Str (RdS.ex good_Str h1 hE17) hE23
      have q272 := RdS.ex good_Idx (RdS.ex good_Idx h2 hE17) hE23
      refine CW.drawsI 24 (vgetI [DetI (.agg #[.string (bs (p_t.Name)), .slice A1 p_t.Cols.length c1, .slice A2 p_t.Idxs.length c2]), DetI (.pointer (some ⟨b18, 0 + 1, none⟩)), DetI (.agg #[.slice A4 p_a.Old.Vals.length c4]), DetI (.bool ((s_l25Good p_t p_a.Old))), DetI (.bool ((s_l25Good p_t p_a.Old))), DetI (.agg #[.string (bs (p_t.Name)), .slice A1 p_t.Cols.length c1, .slice A2 p_t.Idxs.length c2]), DetI (.pointer (some ⟨b18, 0 + 2, none⟩)), DetI (.agg #[.slice A5 p_a.New.Vals.length c5]), DetI (.bool ((s_l25Good p_t p_a.New))), DetI (.bool ((s_l25Good p_t p_a.New))), DetI (.bool ((s_l25Good p_t p_a.New))), DetI (undef), DetI (undef), DetI (undef), DetI (undef), DetI (undef), DetI (undef), DetI (undef), DetI (undef), DetI (undef), DetI (undef), DetI (undef), DetI (.bool (false)), DetI (.bool (false))]) Try.follows rfl rfl rfl rfl rfl rfl (vgetI_stable ⟨StableI.det _, StableI.det _, StableI.det _, StableI.det _, StableI.det _, StableI.det _, StableI.det _, StableI.det _, StableI.det _, StableI.det _, StableI.det _, StableI.det _, StableI.det _, StableI.det _, StableI.det _, StableI.det _, StableI.det _, StableI.det _, StableI.det _, StableI.det _, StableI.det _, StableI.det _, StableI.det _, StableI.det _, trivial⟩) ⟨?_, ?_, ?_, ?_, ?_, ?_, ?_, ?_, ?_, ?_, ?_, ?_, ?_, ?_, ?_, ?_, ?_, ?_, ?_, ?_, ?_, ?_, ?_, ?_, trivial⟩ ?_
      ·exact fun _ _ h => os rfl ((yl_loadN (cs := [.string (bs (p_t.Name)), .slice A1 p_t.Cols.length c1, .slice A2 p_t.Idxs.length c2]) Try.ty65 rfl (h.old 2 _ rfl rfl) ((Box.ex q268 h.ex).cells (n := 3) rfl) rfl kI))
      ·exact fun _ _ h => os rfl ((yl_fieldAddr Try.fd93_1 rfl (h.old 3 _ rfl rfl) kI))
      ·exact fun _ _ h => os rfl ((yl_loadN (cs := [.slice A4 p_a.Old.Vals.length c4]) Try.ty67 rfl (h.dt 1 36 rfl rfl rfl) ((Box.ex hB22 h.ex).cells (n := 1) rfl) rfl kI))
      ·intro L296 w297 hi298
       have hE299 := hi298.ex
       refine OpR.op' rfl (yl_call Try.en104 rfl (opvs_cons (hi298.dt 0 35 rfl rfl rfl) (opvs_cons (hi298.dt 2 37 rfl rfl rfl) opvs_nil)) (Cal.mono (c_s_l25Good p_t p_a.Old (RdS.up (RdS.ex good_Str q270 hE299) good_Str) (RdS.up (RdS.ex good_Idx q272 hE299) good_Idx) (RdS.up (RdS.ex good_Str (RdS.ex good_Str (RdS.ex good_Str h4 hE17) hE23) hE299) good_Str) o3 o6.1) ?_))
       rintro v306 w305 ⟨rfl, hE307⟩
       exact ⟨rfl, hE307⟩
      ·exact fun _ _ h => os rfl ((yl_move rfl (h.dt 3 38 rfl rfl rfl) kI))
      ·exact fun _ _ h => OpR.want rfl rfl (h.dt 4 39 rfl rfl rfl) hb71 (Yl.sameI (yl_loadN (cs := [.string (bs (p_t.Name)), .slice A1 p_t.Cols.length c1, .slice A2 p_t.Idxs.length c2]) Try.ty65 rfl (h.old 2 _ rfl rfl) ((Box.ex q268 h.ex).cells (n := 3) rfl) rfl kI))
      ·exact fun _ _ h => OpR.want rfl rfl (h.dt 4 39 rfl rfl rfl) hb71 (Yl.sameI (yl_fieldAddr Try.fd93_2 rfl (h.old 3 _ rfl rfl) kI))
      ·exact fun _ _ h => OpR.want rfl rfl (h.dt 4 39 rfl rfl rfl) hb71 (Yl.sameI (yl_loadN (cs := [.slice A5 p_a.New.Vals.length c5]) Try.ty67 rfl (h.dt 6 41 rfl rfl rfl) ((Box.ex hB22 h.ex).cells (n := 1) rfl) rfl kI))
      ·intro L333 w334 hi335
       have hE336 := hi335.ex
       refine OpR.want rfl rfl (hi335.dt 4 39 rfl rfl rfl) hb71 (yl_call Try.en104 rfl (opvs_cons (hi335.dt 5 40 rfl rfl rfl) (opvs_cons (hi335.dt 7 42 rfl rfl rfl) opvs_nil)) (Cal.mono (c_s_l25Good p_t p_a.New (RdS.up (RdS.ex good_Str q270 hE336) good_Str) (RdS.up (RdS.ex good_Idx q272 hE336) good_Idx) (RdS.up (RdS.ex good_Str (RdS.ex good_Str (RdS.ex good_Str h5 hE17) hE23) hE336) good_Str) o3 o6.2) ?_))
       rintro v344 w343 ⟨rfl, hE345⟩
       exact ⟨rfl, hE345⟩
      ·exact fun _ _ h => os rfl ((yl_pick_t rfl (h.dt 4 39 rfl rfl rfl) hb71 (h.dt 8 43 rfl rfl rfl) kI))
      ·exact fun _ _ h => os rfl ((yl_move rfl (h.dt 9 44 rfl rfl rfl) kI))
      ·exact fun _ _ h => OpR.skip rfl rfl (h.dt 10 45 rfl rfl rfl) hb83 ⟨rfl, Ex.refl _⟩
      ·exact fun _ _ h => OpR.skip rfl rfl (h.dt 10 45 rfl rfl rfl) hb83 ⟨rfl, Ex.refl _⟩
      ·exact fun _ _ h => OpR.skip rfl rfl (h.dt 10 45 rfl rfl rfl) hb83 ⟨rfl, Ex.refl _⟩
      ·exact fun _ _ h => OpR.skip rfl rfl (h.dt 10 45 rfl rfl rfl) hb83 ⟨rfl, Ex.refl _⟩
      ·exact fun _ _ h => OpR.skip rfl rfl (h.dt 10 45 rfl rfl rfl) hb83 ⟨rfl, Ex.refl _⟩
      ·exact fun _ _ h => OpR.skip rfl rfl (h.dt 10 45 rfl rfl rfl) hb83 ⟨rfl, Ex.refl _⟩
      ·exact fun _ _ h => OpR.skip rfl rfl (h.dt 10 45 rfl rfl rfl) hb83 ⟨rfl, Ex.refl _⟩
      ·exact fun _ _ h => OpR.skip rfl rfl (h.dt 10 45 rfl rfl rfl) hb83 ⟨rfl, Ex.refl _⟩
      ·exact fun _ _ h => OpR.skip rfl rfl (h.dt 10 45 rfl rfl rfl) hb83 ⟨rfl, Ex.refl _⟩
      ·exact fun _ _ h => OpR.skip rfl rfl (h.dt 10 45 rfl rfl rfl) hb83 ⟨rfl, Ex.refl _⟩
      ·exact fun _ _ h => OpR.skip rfl rfl (h.dt 10 45 rfl rfl rfl) hb83 ⟨rfl, Ex.refl _⟩
      ·exact fun _ _ h => os rfl ((yl_pick_f rfl (h.dt 10 45 rfl rfl rfl) hb83 rfl kI))
      ·exact fun _ _ h => os rfl ((yl_assign rfl (h.dt 22 57 rfl rfl rfl) kI))
      ·intro fl426 fh427 L423 w424 hp425
       have hE428 := hp425.ex
       have hE428z := Ex.size hE428
       refine SeqR.done (tn (CW.sub (Sub.cons (d := 4) (hp425.nt 23 4 rfl rfl rfl) (Sub.nil _)) (CW.ret (br (tr (rr rfl (.cons rfl .nil) ?_))))))
       have hM430 : (s_l26Good p_t p_a) = (false) := by simp only [s_l26Good, hb24, hb43, hb62, hb71, hb83, cond_true, cond_false, loopE_done, loopE_ret]
       rw [hM430]
       exact ⟨rfl, (Ex.trans (Ex.trans (Ex.trans (Ex.refl w) hE17) hE23) hE428)⟩
    ·refine CW.drawsI 24 (vgetI [DetI (.agg #[.string (bs (p_t.Name)), .slice A1 p_t.Cols.length c1, .slice A2 p_t.Idxs.length c2]), DetI (.pointer (some ⟨b18, 0 + 1, none⟩)), DetI (.agg #[.slice A4 p_a.Old.Vals.length c4]), DetI (.bool ((s_l25Good p_t p_a.Old))), DetI (.bool ((s_l25Good p_t p_a.Old))), DetI (undef), DetI (undef), DetI (undef), DetI (undef), DetI (.bool (false)), DetI (.bool (false)), DetI (undef), DetI (undef), DetI (undef), DetI (undef), DetI (undef), DetI (undef), DetI (undef), DetI (undef), DetI (undef), DetI (undef), DetI (undef), DetI (.bool (false)), DetI (.bool (false))]) Try.follows rfl rfl rfl rfl rfl rfl (vgetI_stable ⟨StableI.det _, StableI.det _, StableI.det _, StableI.det _, StableI.det _, StableI.det _, StableI.det _, StableI.det _, StableI.det _, StableI.det _, StableI.det _, StableI.det _, StableI.det _, StableI.det _, StableI.det _, StableI.det _, StableI.det _, StableI.det _, StableI.det _, StableI.det _, StableI.det _, StableI.det _, StableI.det _, StableI.det _, trivial⟩) ⟨?_, ?_, ?_, ?_, ?_, ?_, ?_, ?_, ?_, ?_, ?_, ?_, ?_, ?_, ?_, ?_, ?_, ?_, ?_, ?_, ?_, ?_, ?_, ?_, trivial⟩ ?_
     ·exact fun _ _ h => os rfl ((yl_loadN (cs := [.string (bs (p_t.Name)), .slice A1 p_t.Cols.length c1, .slice A2 p_t.Idxs.length c2]) Try.ty65 rfl (h.old 2 _ rfl rfl) ((Box.ex (Box.ex hB16 hE23) h.ex).cells (n := 3) rfl) rfl kI))
     ·exact fun _ _ h => os rfl ((yl_fieldAddr Try.fd93_1 rfl (h.old 3 _ rfl rfl) kI))
     ·exact fun _ _ h => os rfl ((yl_loadN (cs := [.slice A4 p_a.Old.Vals.length c4]) Try.ty67 rfl (h.dt 1 36 rfl rfl rfl) ((Box.ex hB22 h.ex).cells (n := 1) rfl) rfl kI))
     ·intro L459 w460 hi461
      have hE462 := hi461.ex
      refine OpR.op' rfl (yl_call Try.en104 rfl (opvs_cons (hi461.dt 0 35 rfl rfl rfl) (opvs_cons (hi461.dt 2 37 rfl rfl rfl) opvs_nil)) (Cal.mono (c_s_l25Good p_t p_a.Old (RdS.up (RdS.ex good_Str (RdS.ex good_Str (RdS.ex good_Str h1 hE17) hE23) hE462) good_Str) (RdS.up (RdS.ex good_Idx (RdS.ex good_Idx (RdS.ex good_Idx h2 hE17) hE23) hE462) good_Idx) (RdS.up (RdS.ex good_Str (RdS.ex good_Str (RdS.ex good_Str h4 hE17) hE23) hE462) good_Str) o3 o6.1) ?_))
      rintro v469 w468 ⟨rfl, hE470⟩
      exact ⟨rfl, hE470⟩
     ·exact fun _ _ h => os rfl ((yl_move rfl (h.dt 3 38 rfl rfl rfl) kI))
     ·exact fun _ _ h => OpR.skip rfl rfl (h.dt 4 39 rfl rfl rfl) hb71 ⟨rfl, Ex.refl _⟩
     ·exact fun _ _ h => OpR.skip rfl rfl (h.dt 4 39 rfl rfl rfl) hb71 ⟨rfl, Ex.refl _⟩
     ·exact fun _ _ h => OpR.skip rfl rfl (h.dt 4 39 rfl rfl rfl) hb71 ⟨rfl, Ex.refl _⟩
     ·exact fun _ _ h => OpR.skip rfl rfl (h.dt 4 39 rfl rfl rfl) hb71 ⟨rfl, Ex.refl _⟩
     ·exact fun _ _ h => os rfl ((yl_pick_f rfl (h.dt 4 39 rfl rfl rfl) hb71 rfl kI))
     ·exact fun _ _ h => os rfl ((yl_move rfl (h.dt 9 44 rfl rfl rfl) kI))
     ·exact fun _ _ h => OpR.skip rfl rfl (h.dt 10 45 rfl rfl rfl) rfl ⟨rfl, Ex.refl _⟩
     ·exact fun _ _ h => OpR.skip rfl rfl (h.dt 10 45 rfl rfl rfl) rfl ⟨rfl, Ex.refl _⟩
     ·exact fun _ _ h => OpR.skip rfl rfl (h.dt 10 45 rfl rfl rfl) rfl ⟨rfl, Ex.refl _⟩
     ·exact fun _ _ h => OpR.skip rfl rfl (h.dt 10 45 rfl rfl rfl) rfl ⟨rfl, Ex.refl _⟩
     ·exact fun _ _ h => OpR.skip rfl rfl (h.dt 10 45 rfl rfl rfl) rfl ⟨rfl, Ex.refl _⟩
     ·exact fun _ _ h => OpR.skip rfl rfl (h.dt 10 45 rfl rfl rfl) rfl ⟨rfl, Ex.refl _⟩
     ·exact fun _ _ h => OpR.skip rfl rfl (h.dt 10 45 rfl rfl rfl) rfl ⟨rfl, Ex.refl _⟩
     ·exact fun _ _ h => OpR.skip rfl rfl (h.dt 10 45 rfl rfl rfl) rfl ⟨rfl, Ex.refl _⟩
     ·exact fun _ _ h => OpR.skip rfl rfl (h.dt 10 45 rfl rfl rfl) rfl ⟨rfl, Ex.refl _⟩
     ·exact fun _ _ h => OpR.skip rfl rfl (h.dt 10 45 rfl rfl rfl) rfl ⟨rfl, Ex.refl _⟩
     ·exact fun _ _ h => OpR.skip rfl rfl (h.dt 10 45 rfl rfl rfl) rfl ⟨rfl, Ex.refl _⟩
     ·exact fun _ _ h => os rfl ((yl_pick_f rfl (h.dt 10 45 rfl rfl rfl) rfl rfl kI))
     ·exact fun _ _ h => os rfl ((yl_assign rfl (h.dt 22 57 rfl rfl rfl) kI))
     ·intro fl576 fh577 L573 w574 hp575
      have hE578 := hp575.ex
      have hE578z := Ex.size hE578
      refine SeqR.done (tn (CW.sub (Sub.cons (d := 4) (hp575.nt 23 4 rfl rfl rfl) (Sub.nil _)) (CW.ret (br (tr (rr rfl (.cons rfl .nil) ?_))))))
      have hM580 : (s_l26Good p_t p_a) = (false) := by simp only [s_l26Good, hb24, hb43, hb62, hb71, cond_true, cond_false, loopE_done, loopE_ret]
      rw [hM580]
      exact ⟨rfl, (Ex.trans (Ex.trans (Ex.trans (Ex.refl w) hE17) hE23) hE578)⟩
   ·have hb62p := dec_f hb62
    refine CW.cond_f rfl hb62 (CW.skip (bn (tn (CW.seq (CW.region (sd rfl (yl_assign rfl rfl (SeqR.done (tn ?_)))))))))
    refine CW.ret (rr rfl (.cons rfl .nil) ?_)
    have hM584 : (s_l26Good p_t p_a) = (false) := by simp only [s_l26Good, hb24, hb43, hb62, cond_true, cond_false, loopE_done, loopE_ret]
    rw [hM584]
    exact ⟨rfl, (Ex.trans (Ex.trans (Ex.refl w) hE17) hE23)⟩
set_option maxRecDepth 100000 in
set_option maxHeartbeats 2000000 in
theorem c_s_l27Empty {A1 : Option Addr} {c1 : Nat} {A2 : Option Addr} {c2 : Nat} {w : World} (p_a : DRowAct) (h1 : RdS w (Iv 0 w.heap.size) (RF e_Str) 1 A1 p_a.Old.Vals.length c1 p_a.Old.Vals) (h2 : RdS w (Iv 0 w.heap.size) (RF e_Str) 1 A2 p_a.New.Vals.length c2 p_a.New.Vals) (o3 : ok_RowAct p_a) : Cal Try.prog 224 #[.agg #[.int .i64 (p_a.Kind), .slice A1 p_a.Old.Vals.length c1, .slice A2 p_a.New.Vals.length c2]] w fun v w' => v = .bool ((s_l27Empty p_a)) ∧ Ex w w' := by
 have hol4 := o3.1.1
 have hol5 := o3.2.1
 refine Cal.of (vs := [.agg #[.int .i64 (p_a.Kind), .slice A1 p_a.Old.Vals.length c1, .slice A2 p_a.New.Vals.length c2]]) Try.func224 rfl Try.ntmps224 rfl (CW.seq (CW.region (sd rfl (yl_box (cs := [.int .i64 (p_a.Kind), .slice A1 p_a.Old.Vals.length c1, .slice A2 p_a.New.Vals.length c2]) rfl rfl rfl ?_))))
 intro b6 w7 hs8 hz9 hB10 hE11
 refine sd rfl (yl_assign rfl rfl (SeqR.done (tn (CW.seq (CW.region (sd rfl (yl_fieldAddr Try.fd93_0 rfl rfl (sd rfl (yl_load1 Try.ty3 rfl rfl ((hB10.cell 0).trans rfl) (sd rfl (yl_eql rfl rfl rfl (sd rfl (yl_move rfl rfl ?_)))))))))))))
 refine bcase (decide (p_a.Kind = 0)) (fun hb12 => ?_) (fun hb12 => ?_)
 ·have hb12p := dec_t hb12
  refine sy rfl rfl hb12 (yl_fieldAddr Try.fd93_1 rfl rfl (sy rfl rfl hb12 (yl_fieldAddr Try.fd67_0 rfl rfl (sy rfl rfl hb12 (yl_load1 Try.ty52 rfl rfl ((hB10.cell 1).trans rfl) (sy rfl rfl hb12 (yl_len Try.un52 rfl rfl (sy rfl rfl hb12 (yl_eql rfl rfl rfl (sd rfl (yl_pick_t rfl rfl hb12 rfl (sd rfl (yl_move rfl rfl (bcase (decide ((p_a.Old.Vals.length : Int) = 0)) (fun hb13 => ?_) (fun hb13 => ?_)))))))))))))))
  ·have hb13p := dec_t hb13
   refine sy rfl rfl hb13 (yl_fieldAddr Try.fd93_2 rfl rfl (sy rfl rfl hb13 (yl_fieldAddr Try.fd67_0 rfl rfl (sy rfl rfl hb13 (yl_load1 Try.ty52 rfl rfl ((hB10.cell 2).trans rfl) (sy rfl rfl hb13 (yl_len Try.un52 rfl rfl (sy rfl rfl hb13 (yl_eql rfl rfl rfl (sd rfl (yl_pick_t rfl rfl hb13 rfl (sd rfl (yl_assign rfl rfl (SeqR.done (tn ?_)))))))))))))))
   refine CW.ret (rr rfl (.cons rfl .nil) ?_)
   have hM14 : (s_l27Empty p_a) = (decide ((p_a.New.Vals.length : Int) = 0)) := by simp only [s_l27Empty, hb12, hb13, cond_true, cond_false, loopE_done, loopE_ret]
   rw [hM14]
   exact ⟨rfl, (Ex.trans (Ex.refl w) hE11)⟩
  ·have hb13p := dec_f hb13
   refine sz rfl rfl hb13 (sz rfl rfl hb13 (sz rfl rfl hb13 (sz rfl rfl hb13 (sz rfl rfl hb13 (sd rfl (yl_pick_f rfl rfl hb13 rfl (sd rfl (yl_assign rfl rfl (SeqR.done (tn ?_))))))))))
   refine CW.ret (rr rfl (.cons rfl .nil) ?_)
   have hM16 : (s_l27Empty p_a) = (false) := by simp only [s_l27Empty, hb12, hb13, cond_true, cond_false, loopE_done, loopE_ret]
   rw [hM16]
   exact ⟨rfl, (Ex.trans (Ex.refl w) hE11)⟩
 ·have hb12p := dec_f hb12
  refine sz rfl rfl hb12 (sz rfl rfl hb12 (sz rfl rfl hb12 (sz rfl rfl hb12 (sz rfl rfl hb12 (sd rfl (yl_pick_f rfl rfl hb12 rfl (sd rfl (yl_move rfl rfl (sz rfl rfl rfl (sz rfl rfl rfl ?_))))))))))
  refine sz rfl rfl rfl (sz rfl rfl rfl (sz rfl rfl rfl (sd rfl (yl_pick_f rfl rfl rfl rfl (sd rfl (yl_assign rfl rfl (SeqR.done (tn (CW.ret (rr rfl (.cons rfl .nil) ?_))))))))))
  have hM18 : (s_l27Empty p_a) = (false) := by simp only [s_l27Empty, hb12, cond_true, cond_false, loopE_done, loopE_ret]
  rw [hM18]
  exact ⟨rfl, (Ex.trans (Ex.refl w) hE11)⟩
set_option maxRecDepth 100000 in
set_option maxHeartbeats 2000000 in
theorem c_s_l30Good {A1 : Option Addr} {c1 : Nat} {A2 : Option Addr} {c2 : Nat} {A4 : Option Addr} {c4 : Nat} {A5 : Option Addr} {c5 : Nat} {w : World} (p_0 : DTable) (p_1 : DStmt) (h1 : RdS w (Iv 0 w.heap.size) (RF e_Str) 1 A1 p_0.Cols.length c1 p_0.Cols) (h2 : RdS w (Iv 0 w.heap.size) (RF e_Idx) 3 A2 p_0.Idxs.length c2 p_0.Idxs) (h4 : RdS w (Iv 0 w.heap.size) (RF e_Str) 1 A4 p_1.Act.Old.Vals.length c4 p_1.Act.Old.Vals) (h5 : RdS w (Iv 0 w.heap.size) (RF e_Str) 1 A5 p_1.Act.New.Vals.length c5 p_1.Act.New.Vals) (o3 : ok_Table p_0) (o6 : ok_Stmt p_1) (pre0 : 0 < p_0.Cols.length) : Cal Try.prog 182 #[.agg #[.string (bs (p_0.Name)), .slice A1 p_0.Cols.length c1, .slice A2 p_0.Idxs.length c2], .agg #[.int .i64 (p_1.Kind), .int .i64 (p_1.Act.Kind), .slice A4 p_1.Act.Old.Vals.length c4, .slice A5 p_1.Act.New.Vals.length c5, .string (bs (p_1.Idx)), .string (bs (p_1.Low)), .string (bs (p_1.High))]] w fun v w' => v = .bool ((s_l30Good p_0 p_1)) ∧ Ex w w' := by
 have hol7 : p_0.Name.length ≤ 1073741824 := o3.1
 have hol8 := o3.2.1.1
 have hol9 := o3.2.2.1
 have hol10 := o6.1.1.1
 have hol11 := o6.1.2.1
 have hol12 : p_1.Idx.length ≤ 1073741824 := o6.2.1
 have hol13 : p_1.Low.length ≤ 1073741824 := o6.2.2.1
 have hol14 : p_1.High.length ≤ 1073741824 := o6.2.2.2
 refine Cal.of (vs := [.agg #[.string (bs (p_0.Name)), .slice A1 p_0.Cols.length c1, .slice A2 p_0.Idxs.length c2], .agg #[.int .i64 (p_1.Kind), .int .i64 (p_1.Act.Kind), .slice A4 p_1.Act.Old.Vals.length c4, .slice A5 p_1.Act.New.Vals.length c5, .string (bs (p_1.Idx)), .string (bs (p_1.Low)), .string (bs (p_1.High))]]) Try.func182 rfl Try.ntmps182 rfl (CW.seq (CW.region (sd rfl (yl_box (cs := [.string (bs (p_0.Name)), .slice A1 p_0.Cols.length c1, .slice A2 p_0.Idxs.length c2]) rfl rfl rfl ?_))))
 intro b15 w16 hs17 hz18 hB19 hE20
 refine sd rfl (yl_box (cs := [.int .i64 (p_1.Kind), .int .i64 (p_1.Act.Kind), .slice A4 p_1.Act.Old.Vals.length c4, .slice A5 p_1.Act.New.Vals.length c5, .string (bs (p_1.Idx)), .string (bs (p_1.Low)), .string (bs (p_1.High))]) rfl rfl rfl ?_)
 intro b21 w22 hs23 hz24 hB25 hE26
 refine sd rfl (yl_assign rfl rfl (SeqR.done (tn (CW.seq (CW.seq (CW.region (sd rfl (yl_fieldAddr Try.fd103_0 rfl rfl (sd rfl (yl_load1 Try.ty3 rfl rfl ((hB25.cell 0).trans rfl) (SeqR.done ?_)))))))))))
 refine tn (CW.block (CW.seq (CW.region (sd rfl (yl_eql rfl rfl rfl (sd rfl (yl_assign rfl rfl (SeqR.done (tn (bcase (decide (p_1.Kind = 1)) (fun hb27 => ?_) (fun hb27 => ?_)))))))))))
 ·have hb27p := dec_t hb27
  refine CW.cond_t rfl hb27 (CW.seq (CW.region (sd rfl (yl_loadN (cs := [.string (bs (p_0.Name)), .slice A1 p_0.Cols.length c1, .slice A2 p_0.Idxs.length c2]) Try.ty65 rfl rfl ((Box.ex hB19 hE26).cells (n := 3) rfl) rfl (sd rfl (yl_fieldAddr Try.fd103_1 rfl rfl (sd rfl (yl_loadN (cs := [.int .i64 (p_1.Act.Kind), .slice A4 p_1.Act.Old.Vals.length c4, .slice A5 p_1.Act.New.Vals.length c5]) Try.ty93 rfl rfl (hB25.cells (n := 3) rfl) rfl (sd rfl (yl_call Try.en175 rfl (opvs_cons rfl (opvs_cons rfl opvs_nil)) (Cal.mono (c_s_l26Good p_0 p_1.Act (RdS.up (RdS.ex good_Str (RdS.ex good_Str h1 hE20) hE26) good_Str) (RdS.up (RdS.ex good_Idx (RdS.ex good_Idx h2 hE20) hE26) good_Idx) (RdS.up (RdS.ex good_Str (RdS.ex good_Str h4 hE20) hE26) good_Str) (RdS.up (RdS.ex good_Str (RdS.ex good_Str h5 hE20) hE26) good_Str) o3 o6.1 (by first | omega | assumption | (simp only [IntKind.wrap_i64] at *; omega))) ?_)))))))))))
  rintro v38 w37 ⟨rfl, hE39⟩
  have hE39z := Ex.size hE39
  refine sd rfl (yl_move rfl rfl (bcase (s_l26Good p_0 p_1.Act) (fun hb40 => ?_) (fun hb40 => ?_)))
  ·refine sy rfl rfl hb40 (yl_fieldAddr Try.fd103_2 rfl rfl ?_)
   have q41 := Box.ex hB25 hE39
   refine sy rfl rfl hb40 (yl_load1 Try.ty9 rfl rfl ((q41.cell 4).trans rfl) (sy rfl rfl hb40 (yl_seql (a := p_1.Idx) (b := ([] : Str)) rfl rfl rfl (sd rfl (yl_pick_t rfl rfl hb40 rfl (sd rfl (yl_move rfl rfl (bcase (p_1.Idx == ([] : Str)) (fun hb42 => ?_) (fun hb42 => ?_)))))))))
   ·refine sy rfl rfl hb42 (yl_fieldAddr Try.fd103_3 rfl rfl (sy rfl rfl hb42 (yl_load1 Try.ty9 rfl rfl ((q41.cell 5).trans rfl) (sy rfl rfl hb42 (yl_seql (a := p_1.Low) (b := ([] : Str)) rfl rfl rfl (sd rfl (yl_pick_t rfl rfl hb42 rfl (sd rfl (yl_move rfl rfl (bcase (p_1.Low == ([] : Str)) (fun hb43 => ?_) (fun hb43 => ?_)))))))))))
    ·refine sy rfl rfl hb43 (yl_fieldAddr Try.fd103_4 rfl rfl (sy rfl rfl hb43 (yl_load1 Try.ty9 rfl rfl ((q41.cell 6).trans rfl) (sy rfl rfl hb43 (yl_seql (a := p_1.High) (b := ([] : Str)) rfl rfl rfl (sd rfl (yl_pick_t rfl rfl hb43 rfl (sd rfl (yl_assign rfl rfl (SeqR.done (tn (CW.ret (br ?_)))))))))))))
     refine tr (rr rfl (.cons rfl .nil) ?_)
     have hM44 : (s_l30Good p_0 p_1) = (p_1.High == ([] : Str)) := by simp only [s_l30Good, hb27, hb40, hb42, hb43, cond_true, cond_false, loopE_done, loopE_ret]
     rw [hM44]
     exact ⟨rfl, (Ex.trans (Ex.trans (Ex.trans (Ex.refl w) hE20) hE26) hE39)⟩
    ·refine sz rfl rfl hb43 (sz rfl rfl hb43 (sz rfl rfl hb43 (sd rfl (yl_pick_f rfl rfl hb43 rfl (sd rfl (yl_assign rfl rfl (SeqR.done (tn (CW.ret (br ?_))))))))))
     refine tr (rr rfl (.cons rfl .nil) ?_)
     have hM48 : (s_l30Good p_0 p_1) = (false) := by simp only [s_l30Good, hb27, hb40, hb42, hb43, cond_true, cond_false, loopE_done, loopE_ret]
     rw [hM48]
     exact ⟨rfl, (Ex.trans (Ex.trans (Ex.trans (Ex.refl w) hE20) hE26) hE39)⟩
   ·refine sz rfl rfl hb42 (sz rfl rfl hb42 (sz rfl rfl hb42 (sd rfl (yl_pick_f rfl rfl hb42 rfl (sd rfl (yl_move rfl rfl (sz rfl rfl rfl (sz rfl rfl rfl (sz rfl rfl rfl (sd rfl (yl_pick_f rfl rfl rfl rfl ?_)))))))))))
    refine sd rfl (yl_assign rfl rfl (SeqR.done (tn (CW.ret (br (tr (rr rfl (.cons rfl .nil) ?_)))))))
    have hM52 : (s_l30Good p_0 p_1) = (false) := by simp only [s_l30Good, hb27, hb40, hb42, cond_true, cond_false, loopE_done, loopE_ret]
    rw [hM52]
    exact ⟨rfl, (Ex.trans (Ex.trans (Ex.trans (Ex.refl w) hE20) hE26) hE39)⟩
  ·refine sz rfl rfl hb40 (sz rfl rfl hb40 (sz rfl rfl hb40 (sd rfl (yl_pick_f rfl rfl hb40 rfl (sd rfl (yl_move rfl rfl (sz rfl rfl rfl (sz rfl rfl rfl (sz rfl rfl rfl (sd rfl (yl_pick_f rfl rfl rfl rfl ?_)))))))))))
   refine sd rfl (yl_move rfl rfl (sz rfl rfl rfl (sz rfl rfl rfl (sz rfl rfl rfl (sd rfl (yl_pick_f rfl rfl rfl rfl (sd rfl (yl_assign rfl rfl (SeqR.done (tn (CW.ret ?_)))))))))))
   refine br (tr (rr rfl (.cons rfl .nil) ?_))
   have hM56 : (s_l30Good p_0 p_1) = (false) := by simp only [s_l30Good, hb27, hb40, cond_true, cond_false, loopE_done, loopE_ret]
   rw [hM56]
   exact ⟨rfl, (Ex.trans (Ex.trans (Ex.trans (Ex.refl w) hE20) hE26) hE39)⟩
 ·have hb27p := dec_f hb27
  refine CW.cond_f rfl hb27 (CW.seq (CW.region (sd rfl (yl_eql rfl rfl rfl (sd rfl (yl_assign rfl rfl (SeqR.done (tn (bcase (decide (p_1.Kind = 2)) (fun hb60 => ?_) (fun hb60 => ?_))))))))))
  ·have hb60p := dec_t hb60
   refine CW.cond_t rfl hb60 (CW.seq (CW.region (sd rfl (yl_fieldAddr Try.fd103_1 rfl rfl (sd rfl (yl_loadN (cs := [.int .i64 (p_1.Act.Kind), .slice A4 p_1.Act.Old.Vals.length c4, .slice A5 p_1.Act.New.Vals.length c5]) Try.ty93 rfl rfl (hB25.cells (n := 3) rfl) rfl (sd rfl (yl_call Try.en224 rfl (opvs_cons rfl opvs_nil) (Cal.mono (c_s_l27Empty p_1.Act (RdS.up (RdS.ex good_Str (RdS.ex good_Str h4 hE20) hE26) good_Str) (RdS.up (RdS.ex good_Str (RdS.ex good_Str h5 hE20) hE26) good_Str) o6.1) ?_)))))))))
   rintro v66 w65 ⟨rfl, hE67⟩
   have hE67z := Ex.size hE67
   refine sd rfl (yl_move rfl rfl (bcase (s_l27Empty p_1.Act) (fun hb68 => ?_) (fun hb68 => ?_)))
   ·refine sy rfl rfl hb68 (yl_fieldAddr Try.fd103_2 rfl rfl ?_)
    have q69 := Box.ex hB25 hE67
    refine sy rfl rfl hb68 (yl_load1 Try.ty9 rfl rfl ((q69.cell 4).trans rfl) (sy rfl rfl hb68 (yl_seql (a := p_1.Idx) (b := ([] : Str)) rfl rfl rfl (sd rfl (yl_pick_t rfl rfl hb68 rfl (sd rfl (yl_move rfl rfl (bcase (p_1.Idx == ([] : Str)) (fun hb70 => ?_) (fun hb70 => ?_)))))))))
    ·refine sy rfl rfl hb70 (yl_fieldAddr Try.fd103_3 rfl rfl (sy rfl rfl hb70 (yl_load1 Try.ty9 rfl rfl ((q69.cell 5).trans rfl) (sy rfl rfl hb70 (yl_call Try.en162 rfl (opvs_cons rfl opvs_nil) (Cal.mono (c_s_l25Field p_1.Low o6.2.2.1) ?_))))))
     rintro v72 w71 ⟨rfl, hE73⟩
     have hE73z := Ex.size hE73
     refine sd rfl (yl_pick_t rfl rfl hb70 rfl (sd rfl (yl_move rfl rfl (bcase (s_l25Field p_1.Low) (fun hb74 => ?_) (fun hb74 => ?_)))))
     ·refine sy rfl rfl hb74 (yl_fieldAddr Try.fd103_4 rfl rfl (sy rfl rfl hb74 (yl_load1 Try.ty9 rfl rfl (((Box.ex q69 hE73).cell 6).trans rfl) (sy rfl rfl hb74 (yl_seql (a := p_1.High) (b := ([] : Str)) rfl rfl rfl (sd rfl (yl_pick_t rfl rfl hb74 rfl (sd rfl (yl_assign rfl rfl (SeqR.done (tn (CW.ret (br ?_)))))))))))))
      refine tr (rr rfl (.cons rfl .nil) ?_)
      have hM76 : (s_l30Good p_0 p_1) = (p_1.High == ([] : Str)) := by simp only [s_l30Good, hb27, hb60, hb68, hb70, hb74, cond_true, cond_false, loopE_done, loopE_ret]
      rw [hM76]
      exact ⟨rfl, (Ex.trans (Ex.trans (Ex.trans (Ex.trans (Ex.refl w) hE20) hE26) hE67) hE73)⟩
     ·refine sz rfl rfl hb74 (sz rfl rfl hb74 (sz rfl rfl hb74 (sd rfl (yl_pick_f rfl rfl hb74 rfl (sd rfl (yl_assign rfl rfl (SeqR.done (tn (CW.ret (br ?_))))))))))
      refine tr (rr rfl (.cons rfl .nil) ?_)
      have hM81 : (s_l30Good p_0 p_1) = (false) := by simp only [s_l30Good, hb27, hb60, hb68, hb70, hb74, cond_true, cond_false, loopE_done, loopE_ret]
      rw [hM81]
      exact ⟨rfl, (Ex.trans (Ex.trans (Ex.trans (Ex.trans (Ex.refl w) hE20) hE26) hE67) hE73)⟩
    ·refine sz rfl rfl hb70 (sz rfl rfl hb70 (sz rfl rfl hb70 (sd rfl (yl_pick_f rfl rfl hb70 rfl (sd rfl (yl_move rfl rfl (sz rfl rfl rfl (sz rfl rfl rfl (sz rfl rfl rfl (sd rfl (yl_pick_f rfl rfl rfl rfl ?_)))))))))))
     refine sd rfl (yl_assign rfl rfl (SeqR.done (tn (CW.ret (br (tr (rr rfl (.cons rfl .nil) ?_)))))))
     have hM86 : (s_l30Good p_0 p_1) = (false) := by simp only [s_l30Good, hb27, hb60, hb68, hb70, cond_true, cond_false, loopE_done, loopE_ret]
     rw [hM86]
     exact ⟨rfl, (Ex.trans (Ex.trans (Ex.trans (Ex.refl w) hE20) hE26) hE67)⟩
   ·refine sz rfl rfl hb68 (sz rfl rfl hb68 (sz rfl rfl hb68 (sd rfl (yl_pick_f rfl rfl hb68 rfl (sd rfl (yl_move rfl rfl (sz rfl rfl rfl (sz rfl rfl rfl (sz rfl rfl rfl (sd rfl (yl_pick_f rfl rfl rfl rfl ?_)))))))))))
    refine sd rfl (yl_move rfl rfl (sz rfl rfl rfl (sz rfl rfl rfl (sz rfl rfl rfl (sd rfl (yl_pick_f rfl rfl rfl rfl (sd rfl (yl_assign rfl rfl (SeqR.done (tn (CW.ret ?_)))))))))))
    refine br (tr (rr rfl (.cons rfl .nil) ?_))
    have hM90 : (s_l30Good p_0 p_1) = (false) := by simp only [s_l30Good, hb27, hb60, hb68, cond_true, cond_false, loopE_done, loopE_ret]
    rw [hM90]
    exact ⟨rfl, (Ex.trans (Ex.trans (Ex.trans (Ex.refl w) hE20) hE26) hE67)⟩
  ·have hb60p := dec_f hb60
   refine CW.cond_f rfl hb60 (CW.seq (CW.region (sd rfl (yl_eql rfl rfl rfl (sd rfl (yl_assign rfl rfl (SeqR.done (tn (bcase (decide (p_1.Kind = 3)) (fun hb94 => ?_) (fun hb94 => ?_))))))))))
   ·have hb94p := dec_t hb94
    refine CW.cond_t rfl hb94 (CW.seq (CW.region (sd rfl (yl_fieldAddr Try.fd103_1 rfl rfl (sd rfl (yl_loadN (cs := [.int .i64 (p_1.Act.Kind), .slice A4 p_1.Act.Old.Vals.length c4, .slice A5 p_1.Act.New.Vals.length c5]) Try.ty93 rfl rfl (hB25.cells (n := 3) rfl) rfl (sd rfl (yl_call Try.en224 rfl (opvs_cons rfl opvs_nil) (Cal.mono (c_s_l27Empty p_1.Act (RdS.up (RdS.ex good_Str (RdS.ex good_Str h4 hE20) hE26) good_Str) (RdS.up (RdS.ex good_Str (RdS.ex good_Str h5 hE20) hE26) good_Str) o6.1) ?_)))))))))
    rintro v100 w99 ⟨rfl, hE101⟩
    have hE101z := Ex.size hE101
    refine sd rfl (yl_move rfl rfl (bcase (s_l27Empty p_1.Act) (fun hb102 => ?_) (fun hb102 => ?_)))
    ·refine sy rfl rfl hb102 (yl_loadN (cs := [.string (bs (p_0.Name)), .slice A1 p_0.Cols.length c1, .slice A2 p_0.Idxs.length c2]) Try.ty65 rfl rfl ((Box.ex (Box.ex hB19 hE26) hE101).cells (n := 3) rfl) rfl (sy rfl rfl hb102 (yl_fieldAddr Try.fd103_2 rfl rfl ?_)))
     have q105 := Box.ex hB25 hE101
     refine sy rfl rfl hb102 (yl_load1 Try.ty9 rfl rfl ((q105.cell 4).trans rfl) (sy rfl rfl hb102 (yl_call Try.en160 rfl (opvs_cons rfl (opvs_cons rfl opvs_nil)) (Cal.mono (c_s_l24Idx p_0 p_1.Idx (RdS.up (RdS.ex good_Str (RdS.ex good_Str (RdS.ex good_Str h1 hE20) hE26) hE101) good_Str) (RdS.up (RdS.ex good_Idx (RdS.ex good_Idx (RdS.ex good_Idx h2 hE20) hE26) hE101) good_Idx) o3 o6.2.1) ?_))))
     rintro v113 w112 ⟨rfl, hE114⟩
     have hE114z := Ex.size hE114
     have hrf115 := rf_s_l24Idx p_0 p_1.Idx
     refine sy rfl rfl hb102 (yl_geq rfl rfl rfl (sd rfl (yl_pick_t rfl rfl hb102 rfl (sd rfl (yl_move rfl rfl (bcase (decide (0 ≤ (s_l24Idx p_0 p_1.Idx))) (fun hb116 => ?_) (fun hb116 => ?_)))))))
     ·have hb116p := dec_t hb116
      refine sy rfl rfl hb116 (yl_fieldAddr Try.fd103_3 rfl rfl ?_)
      have q117 := Box.ex q105 hE114
      refine sy rfl rfl hb116 (yl_load1 Try.ty9 rfl rfl ((q117.cell 5).trans rfl) (sy rfl rfl hb116 (yl_call Try.en162 rfl (opvs_cons rfl opvs_nil) (Cal.mono (c_s_l25Field p_1.Low o6.2.2.1) ?_))))
      rintro v119 w118 ⟨rfl, hE120⟩
      have hE120z := Ex.size hE120
      refine sd rfl (yl_pick_t rfl rfl hb116 rfl (sd rfl (yl_move rfl rfl (bcase (s_l25Field p_1.Low) (fun hb121 => ?_) (fun hb121 => ?_)))))
      ·refine sy rfl rfl hb121 (yl_fieldAddr Try.fd103_4 rfl rfl (sy rfl rfl hb121 (yl_load1 Try.ty9 rfl rfl (((Box.ex q117 hE120).cell 6).trans rfl) (sy rfl rfl hb121 (yl_call Try.en162 rfl (opvs_cons rfl opvs_nil) (Cal.mono (c_s_l25Field p_1.High o6.2.2.2) ?_))))))
       rintro v124 w123 ⟨rfl, hE125⟩
       have hE125z := Ex.size hE125
       refine sd rfl (yl_pick_t rfl rfl hb121 rfl (sd rfl (yl_assign rfl rfl (SeqR.done (tn (CW.ret (br (tr (rr rfl (.cons rfl .nil) ?_)))))))))
       have hM126 : (s_l30Good p_0 p_1) = ((s_l25Field p_1.High)) := by simp only [s_l30Good, hb27, hb60, hb94, hb102, hb116, hb121, cond_true, cond_false, loopE_done, loopE_ret]
       rw [hM126]
       exact ⟨rfl, (Ex.trans (Ex.trans (Ex.trans (Ex.trans (Ex.trans (Ex.trans (Ex.refl w) hE20) hE26) hE101) hE114) hE120) hE125)⟩
      ·refine sz rfl rfl hb121 (sz rfl rfl hb121 (sz rfl rfl hb121 (sd rfl (yl_pick_f rfl rfl hb121 rfl (sd rfl (yl_assign rfl rfl (SeqR.done (tn (CW.ret (br ?_))))))))))
       refine tr (rr rfl (.cons rfl .nil) ?_)
       have hM133 : (s_l30Good p_0 p_1) = (false) := by simp only [s_l30Good, hb27, hb60, hb94, hb102, hb116, hb121, cond_true, cond_false, loopE_done, loopE_ret]
       rw [hM133]
       exact ⟨rfl, (Ex.trans (Ex.trans (Ex.trans (Ex.trans (Ex.trans (Ex.refl w) hE20) hE26) hE101) hE114) hE120)⟩
     ·have hb116p := dec_f hb116
      refine sz rfl rfl hb116 (sz rfl rfl hb116 (sz rfl rfl hb116 (sd rfl (yl_pick_f rfl rfl hb116 rfl (sd rfl (yl_move rfl rfl (sz rfl rfl rfl (sz rfl rfl rfl (sz rfl rfl rfl (sd rfl (yl_pick_f rfl rfl rfl rfl ?_)))))))))))
      refine sd rfl (yl_assign rfl rfl (SeqR.done (tn (CW.ret (br (tr (rr rfl (.cons rfl .nil) ?_)))))))
      have hM139 : (s_l30Good p_0 p_1) = (false) := by simp only [s_l30Good, hb27, hb60, hb94, hb102, hb116, cond_true, cond_false, loopE_done, loopE_ret]
      rw [hM139]
      exact ⟨rfl, (Ex.trans (Ex.trans (Ex.trans (Ex.trans (Ex.refl w) hE20) hE26) hE101) hE114)⟩
    ·refine sz rfl rfl hb102 (sz rfl rfl hb102 (sz rfl rfl hb102 (sz rfl rfl hb102 (sz rfl rfl hb102 (sd rfl (yl_pick_f rfl rfl hb102 rfl (sd rfl (yl_move rfl rfl (sz rfl rfl rfl (sz rfl rfl rfl ?_))))))))))
     refine sz rfl rfl rfl (sd rfl (yl_pick_f rfl rfl rfl rfl (sd rfl (yl_move rfl rfl (sz rfl rfl rfl (sz rfl rfl rfl (sz rfl rfl rfl (sd rfl (yl_pick_f rfl rfl rfl rfl (sd rfl (yl_assign rfl rfl (SeqR.done ?_))))))))))))
     refine tn (CW.ret (br (tr (rr rfl (.cons rfl .nil) ?_))))
     have hM144 : (s_l30Good p_0 p_1) = (false) := by simp only [s_l30Good, hb27, hb60, hb94, hb102, cond_true, cond_false, loopE_done, loopE_ret]
     rw [hM144]
     exact ⟨rfl, (Ex.trans (Ex.trans (Ex.trans (Ex.refl w) hE20) hE26) hE101)⟩
   ·have hb94p := dec_f hb94
    refine CW.cond_f rfl hb94 (CW.skip (bn (tn (CW.seq (CW.region (sd rfl (yl_assign rfl rfl (SeqR.done (tn ?_)))))))))
    refine CW.ret (rr rfl (.cons rfl .nil) ?_)
    have hM148 : (s_l30Good p_0 p_1) = (false) := by simp only [s_l30Good, hb27, hb60, hb94, cond_true, cond_false, loopE_done, loopE_ret]
    rw [hM148]
    exact ⟨rfl, (Ex.trans (Ex.trans (Ex.refl w) hE20) hE26)⟩
set_option maxRecDepth 100000 in
set_option maxHeartbeats 2000000 in
theorem c_s_GoodStmt {A1 : Option Addr} {c1 : Nat} {A2 : Option Addr} {c2 : Nat} {A4 : Option Addr} {c4 : Nat} {A5 : Option Addr} {c5 : Nat} {w : World} (p_t : DTable) (p_s : DStmt) (h1 : RdS w (Iv 0 w.heap.size) (RF e_Str) 1 A1 p_t.Cols.length c1 p_t.Cols) (h2 : RdS w (Iv 0 w.heap.size) (RF e_Idx) 3 A2 p_t.Idxs.length c2 p_t.Idxs) (h4 : RdS w (Iv 0 w.heap.size) (RF e_Str) 1 A4 p_s.Act.Old.Vals.length c4 p_s.Act.Old.Vals) (h5 : RdS w (Iv 0 w.heap.size) (RF e_Str) 1 A5 p_s.Act.New.Vals.length c5 p_s.Act.New.Vals) (o3 : ok_Table p_t) (o6 : ok_Stmt p_s) : Cal Try.prog 127 #[.agg #[.string (bs (p_t.Name)), .slice A1 p_t.Cols.length c1, .slice A2 p_t.Idxs.length c2], .agg #[.int .i64 (p_s.Kind), .int .i64 (p_s.Act.Kind), .slice A4 p_s.Act.Old.Vals.length c4, .slice A5 p_s.Act.New.Vals.length c5, .string (bs (p_s.Idx)), .string (bs (p_s.Low)), .string (bs (p_s.High))]] w fun v w' => v = .bool ((s_GoodStmt p_t p_s)) ∧ Ex w w' := by
 have hol7 : p_t.Name.length ≤ 1073741824 := o3.1
 have hol8 := o3.2.1.1
 have hol9 := o3.2.2.1
 have hol10 := o6.1.1.1
 have hol11 := o6.1.2.1
 have hol12 : p_s.Idx.length ≤ 1073741824 := o6.2.1
 have hol13 : p_s.Low.length ≤ 1073741824 := o6.2.2.1
 have hol14 : p_s.High.length ≤ 1073741824 := o6.2.2.2
 refine Cal.of (vs := [.agg #[.string (bs (p_t.Name)), .slice A1 p_t.Cols.length c1, .slice A2 p_t.Idxs.length c2], .agg #[.int .i64 (p_s.Kind), .int .i64 (p_s.Act.Kind), .slice A4 p_s.Act.Old.Vals.length c4, .slice A5 p_s.Act.New.Vals.length c5, .string (bs (p_s.Idx)), .string (bs (p_s.Low)), .string (bs (p_s.High))]]) Try.func127 rfl Try.ntmps127 rfl (CW.seq (CW.region (sd rfl (yl_box (cs := [.string (bs (p_t.Name)), .slice A1 p_t.Cols.length c1, .slice A2 p_t.Idxs.length c2]) rfl rfl rfl ?_))))
 intro b15 w16 hs17 hz18 hB19 hE20
 refine sd rfl (yl_box (cs := [.int .i64 (p_s.Kind), .int .i64 (p_s.Act.Kind), .slice A4 p_s.Act.Old.Vals.length c4, .slice A5 p_s.Act.New.Vals.length c5, .string (bs (p_s.Idx)), .string (bs (p_s.Low)), .string (bs (p_s.High))]) rfl rfl rfl ?_)
 intro b21 w22 hs23 hz24 hB25 hE26
 refine sd rfl (yl_assign rfl rfl (SeqR.done (tn (CW.seq (CW.region ?_)))))
 have q27 := Box.ex hB19 hE26
 refine sd rfl (yl_loadN (cs := [.string (bs (p_t.Name)), .slice A1 p_t.Cols.length c1, .slice A2 p_t.Idxs.length c2]) Try.ty65 rfl rfl (q27.cells (n := 3) rfl) rfl ?_)
 have q29 := RdS.ex good_Str (RdS.ex good_Str h1 hE20) hE26
 have q31 := RdS.ex good_Idx (RdS.ex good_Idx h2 hE20) hE26
 refine sd rfl (yl_call Try.en161 rfl (opvs_cons rfl opvs_nil) (Cal.mono (c_s_GoodTable p_t (RdS.up q29 good_Str) (RdS.up q31 good_Idx) o3) ?_))
 rintro v33 w32 ⟨rfl, hE34⟩
 have hE34z := Ex.size hE34
 refine sd rfl (yl_move rfl rfl (bcase (s_GoodTable p_t) (fun hb35 => ?_) (fun hb35 => ?_)))
 ·have hb35p := f_s_GoodTable hb35
  refine sy rfl rfl hb35 (yl_loadN (cs := [.string (bs (p_t.Name)), .slice A1 p_t.Cols.length c1, .slice A2 p_t.Idxs.length c2]) Try.ty65 rfl rfl ((Box.ex q27 hE34).cells (n := 3) rfl) rfl (sy rfl rfl hb35 (yl_loadN (cs := [.int .i64 (p_s.Kind), .int .i64 (p_s.Act.Kind), .slice A4 p_s.Act.Old.Vals.length c4, .slice A5 p_s.Act.New.Vals.length c5, .string (bs (p_s.Idx)), .string (bs (p_s.Low)), .string (bs (p_s.High))]) Try.ty103 rfl rfl ((Box.ex hB25 hE34).cells (n := 7) rfl) rfl (sy rfl rfl hb35 (yl_call Try.en182 rfl (opvs_cons rfl (opvs_cons rfl opvs_nil)) (Cal.mono (c_s_l30Good p_t p_s (RdS.up (RdS.ex good_Str q29 hE34) good_Str) (RdS.up (RdS.ex good_Idx q31 hE34) good_Idx) (RdS.up (RdS.ex good_Str (RdS.ex good_Str (RdS.ex good_Str h4 hE20) hE26) hE34) good_Str) (RdS.up (RdS.ex good_Str (RdS.ex good_Str (RdS.ex good_Str h5 hE20) hE26) hE34) good_Str) o3 o6 (by first | omega | assumption | (simp only [IntKind.wrap_i64] at *; omega))) ?_))))))
  rintro v47 w46 ⟨rfl, hE48⟩
  have hE48z := Ex.size hE48
  refine sd rfl (yl_pick_t rfl rfl hb35 rfl (sd rfl (yl_assign rfl rfl (SeqR.done (tn (CW.ret (rr rfl (.cons rfl .nil) ?_)))))))
  have hM49 : (s_GoodStmt p_t p_s) = ((s_l30Good p_t p_s)) := by simp only [s_GoodStmt, hb35, cond_true, cond_false, loopE_done, loopE_ret]
  rw [hM49]
  exact ⟨rfl, (Ex.trans (Ex.trans (Ex.trans (Ex.trans (Ex.refl w) hE20) hE26) hE34) hE48)⟩
 ·refine sz rfl rfl hb35 (sz rfl rfl hb35 (sz rfl rfl hb35 (sd rfl (yl_pick_f rfl rfl hb35 rfl (sd rfl (yl_assign rfl rfl (SeqR.done (tn (CW.ret (rr rfl (.cons rfl .nil) ?_))))))))))
  have hM54 : (s_GoodStmt p_t p_s) = (false) := by simp only [s_GoodStmt, hb35, cond_true, cond_false, loopE_done, loopE_ret]
  rw [hM54]
  exact ⟨rfl, (Ex.trans (Ex.trans (Ex.trans (Ex.refl w) hE20) hE26) hE34)⟩
set_option maxRecDepth 100000 in
set_option maxHeartbeats 2000000 in
theorem c_s_StmtOps {A1 : Option Addr} {c1 : Nat} {A2 : Option Addr} {c2 : Nat} {A4 : Option Addr} {c4 : Nat} {A5 : Option Addr} {c5 : Nat} {w : World} (p_t : DTable) (p_s : DStmt) (h1 : RdS w (Iv 0 w.heap.size) (RF e_Str) 1 A1 p_t.Cols.length c1 p_t.Cols) (h2 : RdS w (Iv 0 w.heap.size) (RF e_Idx) 3 A2 p_t.Idxs.length c2 p_t.Idxs) (h4 : RdS w (Iv 0 w.heap.size) (RF e_Str) 1 A4 p_s.Act.Old.Vals.length c4 p_s.Act.Old.Vals) (h5 : RdS w (Iv 0 w.heap.size) (RF e_Str) 1 A5 p_s.Act.New.Vals.length c5 p_s.Act.New.Vals) (o3 : ok_Table p_t) (o6 : ok_Stmt p_s) : Cal Try.prog 63 #[.agg #[.string (bs (p_t.Name)), .slice A1 p_t.Cols.length c1, .slice A2 p_t.Idxs.length c2], .agg #[.int .i64 (p_s.Kind), .int .i64 (p_s.Act.Kind), .slice A4 p_s.Act.Old.Vals.length c4, .slice A5 p_s.Act.New.Vals.length c5, .string (bs (p_s.Idx)), .string (bs (p_s.Low)), .string (bs (p_s.High))]] w fun v w' => ∃ A_1 c_1 lo_1 hi_1, v = .tuple #[.slice A_1 (((s_StmtOps p_t p_s).1).length) c_1, .bool ((s_StmtOps p_t p_s).2)] ∧ OwnL w' lo_1 hi_1 163 4 (RF e_Op) A_1 (((s_StmtOps p_t p_s).1).length) c_1 ((s_StmtOps p_t p_s).1) ∧ (w.heap.size ≤ lo_1 ∧ lo_1 ≤ hi_1 ∧ hi_1 ≤ w'.heap.size) ∧ Ex w w' := by
 have hol7 : p_t.Name.length ≤ 1073741824 := o3.1
 have hol8 := o3.2.1.1
 have hol9 := o3.2.2.1
 have hol10 := o6.1.1.1
 have hol11 := o6.1.2.1
 have hol12 : p_s.Idx.length ≤ 1073741824 := o6.2.1
 have hol13 : p_s.Low.length ≤ 1073741824 := o6.2.2.1
 have hol14 : p_s.High.length ≤ 1073741824 := o6.2.2.2
 refine Cal.of (vs := [.agg #[.string (bs (p_t.Name)), .slice A1 p_t.Cols.length c1, .slice A2 p_t.Idxs.length c2], .agg #[.int .i64 (p_s.Kind), .int .i64 (p_s.Act.Kind), .slice A4 p_s.Act.Old.Vals.length c4, .slice A5 p_s.Act.New.Vals.length c5, .string (bs (p_s.Idx)), .string (bs (p_s.Low)), .string (bs (p_s.High))]]) Try.func63 rfl Try.ntmps63 rfl (CW.seq (CW.region (sd rfl (yl_box (cs := [.string (bs (p_t.Name)), .slice A1 p_t.Cols.length c1, .slice A2 p_t.Idxs.length c2]) rfl rfl rfl ?_))))
 intro b15 w16 hs17 hz18 hB19 hE20
 refine sd rfl (yl_box (cs := [.int .i64 (p_s.Kind), .int .i64 (p_s.Act.Kind), .slice A4 p_s.Act.Old.Vals.length c4, .slice A5 p_s.Act.New.Vals.length c5, .string (bs (p_s.Idx)), .string (bs (p_s.Low)), .string (bs (p_s.High))]) rfl rfl rfl ?_)
 intro b21 w22 hs23 hz24 hB25 hE26
 refine sd rfl (yl_assign rfl rfl (sd rfl (yl_assign rfl rfl (SeqR.done (tn (CW.seq (CW.seq (CW.region ?_))))))))
 have q27 := Box.ex hB19 hE26
 refine sd rfl (yl_loadN (cs := [.string (bs (p_t.Name)), .slice A1 p_t.Cols.length c1, .slice A2 p_t.Idxs.length c2]) Try.ty65 rfl rfl (q27.cells (n := 3) rfl) rfl (sd rfl (yl_loadN (cs := [.int .i64 (p_s.Kind), .int .i64 (p_s.Act.Kind), .slice A4 p_s.Act.Old.Vals.length c4, .slice A5 p_s.Act.New.Vals.length c5, .string (bs (p_s.Idx)), .string (bs (p_s.Low)), .string (bs (p_s.High))]) Try.ty103 rfl rfl (hB25.cells (n := 7) rfl) rfl ?_)))
 have q29 := RdS.ex good_Str (RdS.ex good_Str h1 hE20) hE26
 have q31 := RdS.ex good_Idx (RdS.ex good_Idx h2 hE20) hE26
 have q33 := RdS.ex good_Str (RdS.ex good_Str h4 hE20) hE26
 have q35 := RdS.ex good_Str (RdS.ex good_Str h5 hE20) hE26
 refine sd rfl (yl_call Try.en127 rfl (opvs_cons rfl (opvs_cons rfl opvs_nil)) (Cal.mono (c_s_GoodStmt p_t p_s (RdS.up q29 good_Str) (RdS.up q31 good_Idx) (RdS.up q33 good_Str) (RdS.up q35 good_Str) o3 o6) ?_))
 rintro v37 w36 ⟨rfl, hE38⟩
 have hE38z := Ex.size hE38
 refine sd rfl (yl_not rfl rfl (sd rfl (yl_move rfl rfl (bcase (s_GoodStmt p_t p_s) (fun hb39 => ?_) (fun hb39 => ?_)))))
 ·have hb39p := (fun h => stmt_lin (f2_s_GoodStmt h)) hb39
  refine sy rfl rfl (not_t hb39) (yl_fieldAddr Try.fd103_0 rfl rfl ?_)
  have q40 := Box.ex hB25 hE38
  refine sy rfl rfl (not_t hb39) (yl_load1 Try.ty3 rfl rfl ((q40.cell 0).trans rfl) (sy rfl rfl (not_t hb39) (yl_eql rfl rfl rfl (sd rfl (yl_pick_f rfl rfl (not_t hb39) rfl (SeqR.done (tn (bcase (decide (p_s.Kind = 3)) (fun hb41 => ?_) (fun hb41 => ?_)))))))))
  ·have hb41p := dec_t hb41
   refine CW.cond_t rfl hb41 (CW.seq (CW.region (sd rfl (yl_assign rfl rfl (sd rfl (yl_assign rfl rfl (SeqR.done (tn (CW.ret (tr ?_))))))))))
   refine rr rfl (.cons rfl (.cons rfl .nil)) ?_
   have hM42 : (s_StmtOps p_t p_s) = ((([] : List DOp), false)) := by simp only [s_StmtOps, hb39, hb41, cond_true, cond_false, loopE_done, loopE_ret]
   rw [hM42]
   exact ⟨none, 0, w36.heap.size, w36.heap.size, rfl, (OwnL.nil _ _ _ _ _ _), (by omega), (Ex.trans (Ex.trans (Ex.trans (Ex.refl w) hE20) hE26) hE38)⟩
  ·have hb41p := dec_f hb41
   refine CW.cond_f rfl hb41 (CW.skip (tn (CW.seq (CW.seq (CW.region (sd rfl (yl_fieldAddr Try.fd103_0 rfl rfl (sd rfl (yl_load1 Try.ty3 rfl rfl ((q40.cell 0).trans rfl) (sd rfl (yl_eql rfl rfl rfl ?_)))))))))))
   refine SeqR.done (tn (bcase (decide (p_s.Kind = 2)) (fun hb46 => ?_) (fun hb46 => ?_)))
   ·have hb46p := dec_t hb46
    refine CW.cond_t rfl hb46 (CW.seq (CW.region (sd rfl (yl_fieldAddr Try.fd65_0 rfl rfl (sd rfl (yl_load1 Try.ty9 rfl rfl (((Box.ex q27 hE38).cell 0).trans rfl) ?_))))))
    have hol48 : p_t.Name.length ≤ 1073741824 := o3.1
    refine sd rfl (yl_sadd (a := p_t.Name) (b := ([47] : Str)) rfl rfl rfl (by first | omega | (simp only [List.length_append, List.length_cons, List.length_nil, List.length_take, List.length_drop, toS_length]; omega)) (sd rfl (yl_fieldAddr Try.fd103_3 rfl rfl (sd rfl (yl_load1 Try.ty9 rfl rfl ((q40.cell 5).trans rfl) ?_)))))
    have hol49 : p_t.Name.length ≤ 1073741824 := o3.1
    have hol50 : p_s.Low.length ≤ 1073741824 := o6.2.2.1
    refine sd rfl (yl_sadd (a := (p_t.Name ++ ([47] : Str))) (b := p_s.Low) rfl rfl rfl (by first | omega | (simp only [List.length_append, List.length_cons, List.length_nil, List.length_take, List.length_drop, toS_length]; omega)) (sd rfl (yl_build (cs := [.int .i64 (1), .string (bs ((p_t.Name ++ ([47] : Str)) ++ p_s.Low)), .string (bs (([] : Str))), .int .i64 (0)]) rfl (opvs_cons rfl (opvs_cons rfl opvs_nil)) (by kernel_rfl) (sd rfl (yl_buildSlice (cs := [.int .i64 (1), .string (bs ((p_t.Name ++ ([47] : Str)) ++ p_s.Low)), .string (bs (([] : Str))), .int .i64 (0)]) Try.un60 Try.ty163 (by decide) rfl (opvs_cons rfl opvs_nil) (by kernel_rfl) ?_)))))
    intro b51 w52 hs53 hz54 hB55 hE56
    have hO57 : OwnL w52 b51 (b51 + 1) 163 4 (RF e_Op) (some ⟨b51, 0, none⟩) 1 1 ([(⟨1, (p_t.Name ++ ([47] : Str)) ++ p_s.Low, ([] : Str), 0⟩ : DOp)] : List DOp) := OwnL.of_box (S := fun _ => False) hB55 (Nat.le_refl _) (Nat.lt_succ_self _) (EncL.cons (c := [.int .i64 (1), .string (bs ((p_t.Name ++ ([47] : Str)) ++ p_s.Low)), .string (bs (([] : Str))), .int .i64 (0)]) rfl rfl EncL.nil) (Nat.le_of_ble_eq_true rfl) (fun h => h) (fun _ h => False.elim h)
    refine sd rfl (yl_assign rfl rfl (sd rfl (yl_assign rfl rfl (SeqR.done (tn (CW.ret (tr (rr rfl (.cons rfl (.cons rfl .nil)) ?_))))))))
    have hM58 : (s_StmtOps p_t p_s) = ((([(⟨1, (p_t.Name ++ ([47] : Str)) ++ p_s.Low, ([] : Str), 0⟩ : DOp)] : List DOp), true)) := by simp only [s_StmtOps, hb39, hb41, hb46, cond_true, cond_false, loopE_done, loopE_ret]
    have hfx59 := (hO57).1
    rw [hM58]
    exact ⟨(some ⟨b51, 0, none⟩), 1, b51, (b51 + 1), (by first | rfl | (simp only [List.length_replicate, List.length_set]; done) | (simp only [List.length_replicate, List.length_set]; rfl) | rw [hfx59]), (OwnL.fix hO57), (by omega), (Ex.trans (Ex.trans (Ex.trans (Ex.trans (Ex.refl w) hE20) hE26) hE38) hE56)⟩
   ·have hb46p := dec_f hb46
    refine CW.cond_f rfl hb46 (CW.skip (tn (CW.seq (CW.region (sd rfl (yl_loadN (cs := [.string (bs (p_t.Name)), .slice A1 p_t.Cols.length c1, .slice A2 p_t.Idxs.length c2]) Try.ty65 rfl rfl ((Box.ex q27 hE38).cells (n := 3) rfl) rfl (sd rfl (yl_fieldAddr Try.fd103_1 rfl rfl (sd rfl (yl_loadN (cs := [.int .i64 (p_s.Act.Kind), .slice A4 p_s.Act.Old.Vals.length c4, .slice A5 p_s.Act.New.Vals.length c5]) Try.ty93 rfl rfl (q40.cells (n := 3) rfl) rfl (sd rfl (yl_call Try.en124 rfl (opvs_cons rfl (opvs_cons rfl opvs_nil)) (Cal.mono (c_s_l26Ops p_t p_s.Act (RdS.up (RdS.ex good_Str q29 hE38) good_Str) (RdS.up (RdS.ex good_Idx q31 hE38) good_Idx) (RdS.up (RdS.ex good_Str q33 hE38) good_Str) (RdS.up (RdS.ex good_Str q35 hE38) good_Str) o3 o6.1 (f2_s_GoodStmt hb39).1 ((f2_s_GoodStmt hb39).2.2.2 (by omega) (by omega))) ?_)))))))))))))
    rintro v71 w69 ⟨A70, c70, lo70, hi70, rfl, h70, hrn73, hE72⟩
    have hE72z := Ex.size hE72
    refine sd rfl (yl_assign rfl rfl (sd rfl (yl_assign rfl rfl (SeqR.done (tn (CW.ret (rr rfl (.cons rfl (.cons rfl .nil)) ?_)))))))
    have hM74 : (s_StmtOps p_t p_s) = (((s_l26Ops p_t p_s.Act), true)) := by simp only [s_StmtOps, hb39, hb41, hb46, cond_true, cond_false, loopE_done, loopE_ret]
    rw [hM74]
    exact ⟨A70, c70, lo70, hi70, rfl, h70, (by omega), (Ex.trans (Ex.trans (Ex.trans (Ex.trans (Ex.refl w) hE20) hE26) hE38) hE72)⟩
 ·refine sz rfl rfl (not_f hb39) (sz rfl rfl (not_f hb39) (sz rfl rfl (not_f hb39) (sd rfl (yl_pick_t rfl rfl (not_f hb39) rfl (SeqR.done (tn (CW.cond_t rfl rfl (CW.seq (CW.region ?_)))))))))
  refine sd rfl (yl_assign rfl rfl (sd rfl (yl_assign rfl rfl (SeqR.done (tn (CW.ret (tr (rr rfl (.cons rfl (.cons rfl .nil)) ?_))))))))
  have hM79 : (s_StmtOps p_t p_s) = ((([] : List DOp), false)) := by simp only [s_StmtOps, hb39, cond_true, cond_false, loopE_done, loopE_ret]
  rw [hM79]
  exact ⟨none, 0, w36.heap.size, w36.heap.size, rfl, (OwnL.nil _ _ _ _ _ _), (by omega), (Ex.trans (Ex.trans (Ex.trans (Ex.refl w) hE20) hE26) hE38)⟩
set_option maxRecDepth 100000 in
set_option maxHeartbeats 2000000 in
theorem c_l_toRow {A1 : Option Addr} {c1 : Nat} {w : World} (p_a : DRow) (h1 : RdS w (Iv 0 w.heap.size) (RF e_Str) 1 A1 p_a.Vals.length c1 p_a.Vals) (o2 : ok_Row p_a) : Cal Try.prog 36 #[.agg #[.slice A1 p_a.Vals.length c1]] w fun v w' => ∃ A_1 c_1 lo_1 hi_1, v = .agg #[.slice A_1 p_a.Vals.length c_1] ∧ OwnL w' lo_1 hi_1 9 1 (RF e_Str) A_1 p_a.Vals.length c_1 p_a.Vals ∧ (w.heap.size ≤ lo_1 ∧ lo_1 ≤ hi_1 ∧ hi_1 ≤ w'.heap.size) ∧ Ex w w' := by
 have hol3 := o2.1
 refine Cal.of (vs := [.agg #[.slice A1 p_a.Vals.length c1]]) Try.func36 rfl Try.ntmps36 rfl (CW.seq (CW.region (sd rfl (yl_box (cs := [.slice A1 p_a.Vals.length c1]) rfl rfl rfl ?_))))
 intro b4 w5 hs6 hz7 hB8 hE9
 refine sd rfl (yl_alloc Try.ty67 (cs := [.slice none 0 0]) rfl rfl ?_)
 intro b10 w11 hs12 hz13 hB14 hE15
 refine SeqR.done (tn (CW.seq (CW.region (sd rfl (yl_alloc Try.ty67 (cs := [.slice none 0 0]) rfl rfl ?_)))))
 intro b16 w17 hs18 hz19 hB20 hE21
 refine SeqR.done (tn (CW.seq (CW.region (sd rfl (yl_fieldAddr Try.fd57_0 rfl rfl (sd rfl (yl_load1 Try.ty52 rfl rfl (((Box.ex (Box.ex hB8 hE15) hE21).cell 0).trans rfl) (sd rfl (yl_call Try.en106 rfl (opvs_cons rfl opvs_nil) (Cal.mono (c_l_toStringS p_a.Vals (RdS.up (RdS.ex good_Str (RdS.ex good_Str (RdS.ex good_Str h1 hE9) hE15) hE21) good_Str) o2) ?_))))))))))
 rintro v29 w27 ⟨A28, c28, lo28, hi28, rfl, h28, hrn31, hE30⟩
 have hE30z := Ex.size hE30
 refine sd rfl (yl_fieldAddr Try.fd67_0 rfl rfl (SeqR.u rfl rfl (yl_store (vs := [.slice A28 p_a.Vals.length c28]) Try.ty52 rfl rfl rfl rfl rfl rfl (Box.ex hB20 hE30) (Nat.le_of_ble_eq_true rfl) ?_)))
 intro w33 hB34 hO35
 have hB34 : Box w33 b16 67 [.slice A28 p_a.Vals.length c28] := hB34
 have hO35z := hO35.size
 refine SeqR.done (tn (CW.seq (CW.region (sd rfl (yl_loadN (cs := [.slice A28 p_a.Vals.length c28]) Try.ty67 rfl rfl (hB34.cells (n := 1) rfl) rfl (SeqR.u rfl rfl (yl_store (vs := [.slice A28 p_a.Vals.length c28]) Try.ty67 rfl rfl rfl rfl rfl rfl (Box.only (Box.ex (Box.ex hB14 hE21) hE30) hO35 (by omega)) (Nat.le_of_ble_eq_true rfl) ?_)))))))
 intro w39 hB40 hO41
 have hB40 : Box w39 b10 67 [.slice A28 p_a.Vals.length c28] := hB40
 have hO41z := hO41.size
 refine SeqR.done (tn (CW.ret (rr rfl (.cons ⟨_, rfl, run_loadN Try.ty67 (cs := [.slice A28 p_a.Vals.length c28]) rfl (hB40.cells (n := 1) rfl)⟩ .nil) ?_)))
 have hM42 : p_a = (p_a) := (to_Row _).symm.trans <| by simp only [l_toRow, cond_true, cond_false, loopE_done, loopE_ret]
 rw [hM42]
 exact ⟨A28, c28, lo28, hi28, rfl, (OwnL.only good_Str (OwnL.only good_Str h28 hO35 (by omega)) hO41 (by omega)), (by omega), (Below.only (Below.only (Ex.trans (Ex.trans (Ex.trans (Ex.trans (Ex.refl w) hE9) hE15) hE21) hE30) hO35 (by omega)) hO41 (by omega))⟩
set_option maxRecDepth 100000 in
set_option maxHeartbeats 2000000 in
theorem c_l_toRowAct {A1 : Option Addr} {c1 : Nat} {A2 : Option Addr} {c2 : Nat} {w : World} (p_a : DRowAct) (h1 : RdS w (Iv 0 w.heap.size) (RF e_Str) 1 A1 p_a.Old.Vals.length c1 p_a.Old.Vals) (h2 : RdS w (Iv 0 w.heap.size) (RF e_Str) 1 A2 p_a.New.Vals.length c2 p_a.New.Vals) (o3 : ok_RowAct p_a) : Cal Try.prog 58 #[.agg #[.int .i64 (p_a.Kind), .slice A1 p_a.Old.Vals.length c1, .slice A2 p_a.New.Vals.length c2]] w fun v w' => ∃ A_1 c_1 lo_1 hi_1 A_2 c_2 lo_2 hi_2, v = .agg #[.int .i64 (p_a.Kind), .slice A_1 p_a.Old.Vals.length c_1, .slice A_2 p_a.New.Vals.length c_2] ∧ OwnL w' lo_1 hi_1 9 1 (RF e_Str) A_1 p_a.Old.Vals.length c_1 p_a.Old.Vals ∧ OwnL w' lo_2 hi_2 9 1 (RF e_Str) A_2 p_a.New.Vals.length c_2 p_a.New.Vals ∧ (w.heap.size ≤ lo_1 ∧ lo_1 ≤ hi_1 ∧ hi_1 ≤ w'.heap.size) ∧ (w.heap.size ≤ lo_2 ∧ lo_2 ≤ hi_2 ∧ hi_2 ≤ w'.heap.size) ∧ (hi_1 ≤ lo_2 ∨ hi_2 ≤ lo_1) ∧ Ex w w' := by
 have hol4 := o3.1.1
 have hol5 := o3.2.1
 refine Cal.of (vs := [.agg #[.int .i64 (p_a.Kind), .slice A1 p_a.Old.Vals.length c1, .slice A2 p_a.New.Vals.length c2]]) Try.func58 rfl Try.ntmps58 rfl (CW.seq (CW.region (sd rfl (yl_box (cs := [.int .i64 (p_a.Kind), .slice A1 p_a.Old.Vals.length c1, .slice A2 p_a.New.Vals.length c2]) rfl rfl rfl ?_))))
 intro b6 w7 hs8 hz9 hB10 hE11
 refine sd rfl (yl_alloc Try.ty93 (cs := [.int .i64 (0), .slice none 0 0, .slice none 0 0]) rfl rfl ?_)
 intro b12 w13 hs14 hz15 hB16 hE17
 refine SeqR.done (tn (CW.seq (CW.region (sd rfl (yl_alloc Try.ty93 (cs := [.int .i64 (0), .slice none 0 0, .slice none 0 0]) rfl rfl ?_)))))
 intro b18 w19 hs20 hz21 hB22 hE23
 refine SeqR.done (tn (CW.seq (CW.region (sd rfl (yl_fieldAddr Try.fd89_0 rfl rfl ?_)))))
 have q25 := Box.ex (Box.ex hB10 hE17) hE23
 refine sd rfl (yl_load1 Try.ty3 rfl rfl ((q25.cell 0).trans rfl) (sd rfl (yl_fieldAddr Try.fd93_0 rfl rfl (SeqR.u rfl rfl (yl_store (vs := [.int .i64 (p_a.Kind)]) Try.ty3 rfl rfl rfl rfl rfl rfl hB22 (Nat.le_of_ble_eq_true rfl) ?_)))))
 intro w26 hB27 hO28
 have hB27 : Box w26 b18 93 [.int .i64 (p_a.Kind), .slice none 0 0, .slice none 0 0] := hB27
 have hO28z := hO28.size
 refine SeqR.done (tn (CW.seq (CW.region (sd rfl (yl_fieldAddr Try.fd89_1 rfl rfl ?_)))))
 have q29 := Box.only q25 hO28 (by omega)
 refine sd rfl (yl_loadN (cs := [.slice A1 p_a.Old.Vals.length c1]) Try.ty57 rfl rfl (q29.cells (n := 1) rfl) rfl (sd rfl (yl_call Try.en36 rfl (opvs_cons rfl opvs_nil) (Cal.mono (c_l_toRow p_a.Old (RdS.up (RdS.only good_Str (RdS.ex good_Str (RdS.ex good_Str (RdS.ex good_Str h1 hE11) hE17) hE23) hO28 (by simp only [Iv]; omega)) good_Str) o3.1) ?_))))
 rintro v36 w34 ⟨A35, c35, lo35, hi35, rfl, h35, hrn38, hE37⟩
 have hE37z := Ex.size hE37
 refine sd rfl (yl_fieldAddr Try.fd93_1 rfl rfl (SeqR.u rfl rfl (yl_store (vs := [.slice A35 p_a.Old.Vals.length c35]) Try.ty67 rfl rfl rfl rfl rfl rfl (Box.ex hB27 hE37) (Nat.le_of_ble_eq_true rfl) ?_)))
 intro w40 hB41 hO42
 have hB41 : Box w40 b18 93 [.int .i64 (p_a.Kind), .slice A35 p_a.Old.Vals.length c35, .slice none 0 0] := hB41
 have hO42z := hO42.size
 refine SeqR.done (tn (CW.seq (CW.region (sd rfl (yl_fieldAddr Try.fd89_2 rfl rfl (sd rfl (yl_loadN (cs := [.slice A2 p_a.New.Vals.length c2]) Try.ty57 rfl rfl ((Box.only (Box.ex q29 hE37) hO42 (by omega)).cells (n := 1) rfl) rfl (sd rfl (yl_call Try.en36 rfl (opvs_cons rfl opvs_nil) (Cal.mono (c_l_toRow p_a.New (RdS.up (RdS.only good_Str (RdS.ex good_Str (RdS.only good_Str (RdS.ex good_Str (RdS.ex good_Str (RdS.ex good_Str h2 hE11) hE17) hE23) hO28 (by simp only [Iv]; omega)) hE37) hO42 (by simp only [Iv]; omega)) good_Str) o3.2) ?_))))))))))
 rintro v53 w51 ⟨A52, c52, lo52, hi52, rfl, h52, hrn55, hE54⟩
 have hE54z := Ex.size hE54
 refine sd rfl (yl_fieldAddr Try.fd93_2 rfl rfl (SeqR.u rfl rfl (yl_store (vs := [.slice A52 p_a.New.Vals.length c52]) Try.ty67 rfl rfl rfl rfl rfl rfl (Box.ex hB41 hE54) (Nat.le_of_ble_eq_true rfl) ?_)))
 intro w57 hB58 hO59
 have hB58 : Box w57 b18 93 [.int .i64 (p_a.Kind), .slice A35 p_a.Old.Vals.length c35, .slice A52 p_a.New.Vals.length c52] := hB58
 have hO59z := hO59.size
 refine SeqR.done (tn (CW.seq (CW.region (sd rfl (yl_loadN (cs := [.int .i64 (p_a.Kind), .slice A35 p_a.Old.Vals.length c35, .slice A52 p_a.New.Vals.length c52]) Try.ty93 rfl rfl (hB58.cells (n := 3) rfl) rfl (SeqR.u rfl rfl (yl_store (vs := [.int .i64 (p_a.Kind), .slice A35 p_a.Old.Vals.length c35, .slice A52 p_a.New.Vals.length c52]) Try.ty93 rfl rfl rfl rfl rfl rfl (Box.only (Box.ex (Box.only (Box.ex (Box.only (Box.ex hB16 hE23) hO28 (by omega)) hE37) hO42 (by omega)) hE54) hO59 (by omega)) (Nat.le_of_ble_eq_true rfl) ?_)))))))
 intro w66 hB67 hO68
 have hB67 : Box w66 b12 93 [.int .i64 (p_a.Kind), .slice A35 p_a.Old.Vals.length c35, .slice A52 p_a.New.Vals.length c52] := hB67
 have hO68z := hO68.size
 refine SeqR.done (tn (CW.ret (rr rfl (.cons ⟨_, rfl, run_loadN Try.ty93 (cs := [.int .i64 (p_a.Kind), .slice A35 p_a.Old.Vals.length c35, .slice A52 p_a.New.Vals.length c52]) rfl (hB67.cells (n := 3) rfl)⟩ .nil) ?_)))
 have hM69 : p_a = (p_a) := (to_RowAct _).symm.trans <| by simp only [l_toRowAct, cond_true, cond_false, loopE_done, loopE_ret]
 rw [hM69]
 exact ⟨A35, c35, lo35, hi35, A52, c52, lo52, hi52, rfl, (OwnL.only good_Str (OwnL.only good_Str (OwnL.ex good_Str (OwnL.only good_Str h35 hO42 (by omega)) hE54) hO59 (by omega)) hO68 (by omega)), (OwnL.only good_Str (OwnL.only good_Str h52 hO59 (by omega)) hO68 (by omega)), (by omega), (by omega), (by omega), (Below.only (Below.only (Ex.trans (Below.only (Ex.trans (Below.only (Ex.trans (Ex.trans (Ex.trans (Ex.refl w) hE11) hE17) hE23) hO28 (by omega)) hE37) hO42 (by omega)) hE54) hO59 (by omega)) hO68 (by omega))⟩
set_option maxRecDepth 100000 in
set_option maxHeartbeats 2000000 in
theorem c_l_toStmt {A1 : Option Addr} {c1 : Nat} {A2 : Option Addr} {c2 : Nat} {w : World} (p_a : DStmt) (h1 : RdS w (Iv 0 w.heap.size) (RF e_Str) 1 A1 p_a.Act.Old.Vals.length c1 p_a.Act.Old.Vals) (h2 : RdS w (Iv 0 w.heap.size) (RF e_Str) 1 A2 p_a.Act.New.Vals.length c2 p_a.Act.New.Vals) (o3 : ok_Stmt p_a) : Cal Try.prog 64 #[.agg #[.int .i64 (p_a.Kind), .int .i64 (p_a.Act.Kind), .slice A1 p_a.Act.Old.Vals.length c1, .slice A2 p_a.Act.New.Vals.length c2, .string (bs (p_a.Idx)), .string (bs (p_a.Low)), .string (bs (p_a.High))]] w fun v w' => ∃ A_1 c_1 lo_1 hi_1 A_2 c_2 lo_2 hi_2, v = .agg #[.int .i64 (p_a.Kind), .int .i64 (p_a.Act.Kind), .slice A_1 p_a.Act.Old.Vals.length c_1, .slice A_2 p_a.Act.New.Vals.length c_2, .string (bs (p_a.Idx)), .string (bs (p_a.Low)), .string (bs (p_a.High))] ∧ OwnL w' lo_1 hi_1 9 1 (RF e_Str) A_1 p_a.Act.Old.Vals.length c_1 p_a.Act.Old.Vals ∧ OwnL w' lo_2 hi_2 9 1 (RF e_Str) A_2 p_a.Act.New.Vals.length c_2 p_a.Act.New.Vals ∧ (w.heap.size ≤ lo_1 ∧ lo_1 ≤ hi_1 ∧ hi_1 ≤ w'.heap.size) ∧ (w.heap.size ≤ lo_2 ∧ lo_2 ≤ hi_2 ∧ hi_2 ≤ w'.heap.size) ∧ (hi_1 ≤ lo_2 ∨ hi_2 ≤ lo_1) ∧ Ex w w' := by
 have hol4 := o3.1.1.1
 have hol5 := o3.1.2.1
 have hol6 : p_a.Idx.length ≤ 1073741824 := o3.2.1
 have hol7 : p_a.Low.length ≤ 1073741824 := o3.2.2.1
 have hol8 : p_a.High.length ≤ 1073741824 := o3.2.2.2
 refine Cal.of (vs := [.agg #[.int .i64 (p_a.Kind), .int .i64 (p_a.Act.Kind), .slice A1 p_a.Act.Old.Vals.length c1, .slice A2 p_a.Act.New.Vals.length c2, .string (bs (p_a.Idx)), .string (bs (p_a.Low)), .string (bs (p_a.High))]]) Try.func64 rfl Try.ntmps64 rfl (CW.seq (CW.region (sd rfl (yl_box (cs := [.int .i64 (p_a.Kind), .int .i64 (p_a.Act.Kind), .slice A1 p_a.Act.Old.Vals.length c1, .slice A2 p_a.Act.New.Vals.length c2, .string (bs (p_a.Idx)), .string (bs (p_a.Low)), .string (bs (p_a.High))]) rfl rfl rfl ?_))))
 intro b9 w10 hs11 hz12 hB13 hE14
 refine sd rfl (yl_alloc Try.ty103 (cs := [.int .i64 (0), .int .i64 (0), .slice none 0 0, .slice none 0 0, .string (bs (([] : Str))), .string (bs (([] : Str))), .string (bs (([] : Str)))]) rfl rfl ?_)
 intro b15 w16 hs17 hz18 hB19 hE20
 refine SeqR.done (tn (CW.seq (CW.region (sd rfl (yl_alloc Try.ty103 (cs := [.int .i64 (0), .int .i64 (0), .slice none 0 0, .slice none 0 0, .string (bs (([] : Str))), .string (bs (([] : Str))), .string (bs (([] : Str)))]) rfl rfl ?_)))))
 intro b21 w22 hs23 hz24 hB25 hE26
 refine SeqR.done (tn (CW.seq (CW.region (sd rfl (yl_fieldAddr Try.fd99_0 rfl rfl ?_)))))
 have q28 := Box.ex (Box.ex hB13 hE20) hE26
 refine sd rfl (yl_load1 Try.ty3 rfl rfl ((q28.cell 0).trans rfl) (sd rfl (yl_fieldAddr Try.fd103_0 rfl rfl (SeqR.u rfl rfl (yl_store (vs := [.int .i64 (p_a.Kind)]) Try.ty3 rfl rfl rfl rfl rfl rfl hB25 (Nat.le_of_ble_eq_true rfl) ?_)))))
 intro w29 hB30 hO31
 have hB30 : Box w29 b21 103 [.int .i64 (p_a.Kind), .int .i64 (0), .slice none 0 0, .slice none 0 0, .string (bs (([] : Str))), .string (bs (([] : Str))), .string (bs (([] : Str)))] := hB30
 have hO31z := hO31.size
 refine SeqR.done (tn (CW.seq (CW.region (sd rfl (yl_fieldAddr Try.fd99_1 rfl rfl ?_)))))
 have q32 := Box.only q28 hO31 (by omega)
 refine sd rfl (yl_loadN (cs := [.int .i64 (p_a.Act.Kind), .slice A1 p_a.Act.Old.Vals.length c1, .slice A2 p_a.Act.New.Vals.length c2]) Try.ty89 rfl rfl (q32.cells (n := 3) rfl) rfl (sd rfl (yl_call Try.en58 rfl (opvs_cons rfl opvs_nil) (Cal.mono (c_l_toRowAct p_a.Act (RdS.up (RdS.only good_Str (RdS.ex good_Str (RdS.ex good_Str (RdS.ex good_Str h1 hE14) hE20) hE26) hO31 (by simp only [Iv]; omega)) good_Str) (RdS.up (RdS.only good_Str (RdS.ex good_Str (RdS.ex good_Str (RdS.ex good_Str h2 hE14) hE20) hE26) hO31 (by simp only [Iv]; omega)) good_Str) o3.1) ?_))))
 rintro v44 w41 ⟨A42, c42, lo42, hi42, A43, c43, lo43, hi43, rfl, h42, h43, hrn46, hrn47, hrn48, hE45⟩
 have hE45z := Ex.size hE45
 refine sd rfl (yl_fieldAddr Try.fd103_1 rfl rfl (SeqR.u rfl rfl (yl_store (vs := [.int .i64 (p_a.Act.Kind), .slice A42 p_a.Act.Old.Vals.length c42, .slice A43 p_a.Act.New.Vals.length c43]) Try.ty93 rfl rfl rfl rfl rfl rfl (Box.ex hB30 hE45) (Nat.le_of_ble_eq_true rfl) ?_)))
 intro w50 hB51 hO52
 have hB51 : Box w50 b21 103 [.int .i64 (p_a.Kind), .int .i64 (p_a.Act.Kind), .slice A42 p_a.Act.Old.Vals.length c42, .slice A43 p_a.Act.New.Vals.length c43, .string (bs (([] : Str))), .string (bs (([] : Str))), .string (bs (([] : Str)))] := hB51
 have hO52z := hO52.size
 refine SeqR.done (tn (CW.seq (CW.region (sd rfl (yl_fieldAddr Try.fd99_2 rfl rfl ?_)))))
 have q54 := Box.only (Box.ex q32 hE45) hO52 (by omega)
 refine sd rfl (yl_load1 Try.ty9 rfl rfl ((q54.cell 4).trans rfl) (sd rfl (yl_fieldAddr Try.fd103_2 rfl rfl (SeqR.u rfl rfl (yl_store (vs := [.string (bs (p_a.Idx))]) Try.ty9 rfl rfl rfl rfl rfl rfl hB51 (Nat.le_of_ble_eq_true rfl) ?_)))))
 intro w55 hB56 hO57
 have hB56 : Box w55 b21 103 [.int .i64 (p_a.Kind), .int .i64 (p_a.Act.Kind), .slice A42 p_a.Act.Old.Vals.length c42, .slice A43 p_a.Act.New.Vals.length c43, .string (bs (p_a.Idx)), .string (bs (([] : Str))), .string (bs (([] : Str)))] := hB56
 have hO57z := hO57.size
 refine SeqR.done (tn (CW.seq (CW.region (sd rfl (yl_fieldAddr Try.fd99_3 rfl rfl ?_)))))
 have q58 := Box.only q54 hO57 (by omega)
 refine sd rfl (yl_load1 Try.ty9 rfl rfl ((q58.cell 5).trans rfl) (sd rfl (yl_fieldAddr Try.fd103_3 rfl rfl (SeqR.u rfl rfl (yl_store (vs := [.string (bs (p_a.Low))]) Try.ty9 rfl rfl rfl rfl rfl rfl hB56 (Nat.le_of_ble_eq_true rfl) ?_)))))
 intro w59 hB60 hO61
 have hB60 : Box w59 b21 103 [.int .i64 (p_a.Kind), .int .i64 (p_a.Act.Kind), .slice A42 p_a.Act.Old.Vals.length c42, .slice A43 p_a.Act.New.Vals.length c43, .string (bs (p_a.Idx)), .string (bs (p_a.Low)), .string (bs (([] : Str)))] := hB60
 have hO61z := hO61.size
 refine SeqR.done (tn (CW.seq (CW.region (sd rfl (yl_fieldAddr Try.fd99_4 rfl rfl (sd rfl (yl_load1 Try.ty9 rfl rfl (((Box.only q58 hO61 (by omega)).cell 6).trans rfl) (sd rfl (yl_fieldAddr Try.fd103_4 rfl rfl (SeqR.u rfl rfl (yl_store (vs := [.string (bs (p_a.High))]) Try.ty9 rfl rfl rfl rfl rfl rfl hB60 (Nat.le_of_ble_eq_true rfl) ?_)))))))))))
 intro w63 hB64 hO65
 have hB64 : Box w63 b21 103 [.int .i64 (p_a.Kind), .int .i64 (p_a.Act.Kind), .slice A42 p_a.Act.Old.Vals.length c42, .slice A43 p_a.Act.New.Vals.length c43, .string (bs (p_a.Idx)), .string (bs (p_a.Low)), .string (bs (p_a.High))] := hB64
 have hO65z := hO65.size
 refine SeqR.done (tn (CW.seq (CW.region (sd rfl (yl_loadN (cs := [.int .i64 (p_a.Kind), .int .i64 (p_a.Act.Kind), .slice A42 p_a.Act.Old.Vals.length c42, .slice A43 p_a.Act.New.Vals.length c43, .string (bs (p_a.Idx)), .string (bs (p_a.Low)), .string (bs (p_a.High))]) Try.ty103 rfl rfl (hB64.cells (n := 7) rfl) rfl (SeqR.u rfl rfl (yl_store (vs := [.int .i64 (p_a.Kind), .int .i64 (p_a.Act.Kind), .slice A42 p_a.Act.Old.Vals.length c42, .slice A43 p_a.Act.New.Vals.length c43, .string (bs (p_a.Idx)), .string (bs (p_a.Low)), .string (bs (p_a.High))]) Try.ty103 rfl rfl rfl rfl rfl rfl (Box.only (Box.only (Box.only (Box.only (Box.ex (Box.only (Box.ex hB19 hE26) hO31 (by omega)) hE45) hO52 (by omega)) hO57 (by omega)) hO61 (by omega)) hO65 (by omega)) (Nat.le_of_ble_eq_true rfl) ?_)))))))
 intro w73 hB74 hO75
 have hB74 : Box w73 b15 103 [.int .i64 (p_a.Kind), .int .i64 (p_a.Act.Kind), .slice A42 p_a.Act.Old.Vals.length c42, .slice A43 p_a.Act.New.Vals.length c43, .string (bs (p_a.Idx)), .string (bs (p_a.Low)), .string (bs (p_a.High))] := hB74
 have hO75z := hO75.size
 refine SeqR.done (tn (CW.ret (rr rfl (.cons ⟨_, rfl, run_loadN Try.ty103 (cs := [.int .i64 (p_a.Kind), .int .i64 (p_a.Act.Kind), .slice A42 p_a.Act.Old.Vals.length c42, .slice A43 p_a.Act.New.Vals.length c43, .string (bs (p_a.Idx)), .string (bs (p_a.Low)), .string (bs (p_a.High))]) rfl (hB74.cells (n := 7) rfl)⟩ .nil) ?_)))
 have hM76 : p_a = (p_a) := (to_Stmt _).symm.trans <| by simp only [l_toStmt, cond_true, cond_false, loopE_done, loopE_ret]
 rw [hM76]
 exact ⟨A42, c42, lo42, hi42, A43, c43, lo43, hi43, rfl, (OwnL.only good_Str (OwnL.only good_Str (OwnL.only good_Str (OwnL.only good_Str (OwnL.only good_Str h42 hO52 (by omega)) hO57 (by omega)) hO61 (by omega)) hO65 (by omega)) hO75 (by omega)), (OwnL.only good_Str (OwnL.only good_Str (OwnL.only good_Str (OwnL.only good_Str (OwnL.only good_Str h43 hO52 (by omega)) hO57 (by omega)) hO61 (by omega)) hO65 (by omega)) hO75 (by omega)), (by omega), (by omega), (by omega), (Below.only (Below.only (Below.only (Below.only (Below.only (Ex.trans (Below.only (Ex.trans (Ex.trans (Ex.trans (Ex.refl w) hE14) hE20) hE26) hO31 (by omega)) hE45) hO52 (by omega)) hO57 (by omega)) hO61 (by omega)) hO65 (by omega)) hO75 (by omega))⟩
set_option maxRecDepth 100000 in
set_option maxHeartbeats 2000000 in
theorem c_i_Table_rowWrite {A1 : Option Addr} {c1 : Nat} {A2 : Option Addr} {c2 : Nat} {A4 : Option Addr} {c4 : Nat} {w : World} (p_t : DTable) (p_r : DRow) (h1 : RdS w (Iv 0 w.heap.size) (RF e_Str) 1 A1 p_t.Cols.length c1 p_t.Cols) (h2 : RdS w (Iv 0 w.heap.size) (RF e_Idx) 3 A2 p_t.Idxs.length c2 p_t.Idxs) (h4 : RdS w (Iv 0 w.heap.size) (RF e_Str) 1 A4 p_r.Vals.length c4 p_r.Vals) (o3 : ok_Table p_t) (o5 : ok_Row p_r) (pre0 : 0 < p_r.Vals.length) (pre1 : p_r.Vals.length ≤ 4) (pre2 : rowShort p_r) : Cal Try.prog 169 #[.agg #[.string (bs (p_t.Name)), .slice A1 p_t.Cols.length c1, .slice A2 p_t.Idxs.length c2], .agg #[.slice A4 p_r.Vals.length c4]] w fun v w' => v = .agg #[.string (bs ((i_Table_rowWrite p_t p_r).Key)), .string (bs ((i_Table_rowWrite p_t p_r).Val)), .bool ((i_Table_rowWrite p_t p_r).Gone)] ∧ Ex w w' := by
 have hol6 : p_t.Name.length ≤ 1073741824 := o3.1
 have hol7 := o3.2.1.1
 have hol8 := o3.2.2.1
 have hol9 := o5.1
 refine Cal.of (vs := [.agg #[.string (bs (p_t.Name)), .slice A1 p_t.Cols.length c1, .slice A2 p_t.Idxs.length c2], .agg #[.slice A4 p_r.Vals.length c4]]) Try.func169 rfl Try.ntmps169 rfl (CW.seq (CW.region (sd rfl (yl_box (cs := [.string (bs (p_t.Name)), .slice A1 p_t.Cols.length c1, .slice A2 p_t.Idxs.length c2]) rfl rfl rfl ?_))))
 intro b10 w11 hs12 hz13 hB14 hE15
 refine sd rfl (yl_box (cs := [.slice A4 p_r.Vals.length c4]) rfl rfl rfl ?_)
 intro b16 w17 hs18 hz19 hB20 hE21
 refine sd rfl (yl_alloc Try.ty125 (cs := [.string (bs (([] : Str))), .string (bs (([] : Str))), .bool (false)]) rfl rfl ?_)
 intro b22 w23 hs24 hz25 hB26 hE27
 refine SeqR.done (tn (CW.seq ?_))
 have hol30 : p_t.Name.length ≤ 1073741824 := o3.1
 have q31 := Box.ex hB20 hE27
 have q34 := RdS.ex good_Str (RdS.ex good_Str (RdS.ex good_Str h4 hE15) hE21) hE27
 obtain ⟨eb35, eo35, ec35, eA35, eS35, ebl35, el35, eR35, eC35⟩ := RdS.atD q34 d_Str (i := 0) (by first | omega | assumption)
 obtain rfl := eR35
 have eC35 : Cells w23 eb35 (eo35 + 0 * 1) [.string (bs ((p_r.Vals.getD 0 d_Str)))] := eC35
 have hol36 : p_t.Name.length ≤ 1073741824 := o3.1
 have hol37 : (p_r.Vals.getD 0 d_Str).length ≤ 1073741824 := (okL.getD o5 ok_d_Str _)
 obtain ⟨A38, c39, he42, h41⟩ := RdS.sl (RdS.drop q34 (k := 1) (by omega))
 have hrc43 := (q34).2.1
 refine CW.drawsI 12 (vgetI [DetI (.pointer (some ⟨b10, 0 + 0, none⟩)), DetI (.string (bs (p_t.Name))), DetI (.string (bs (p_t.Name ++ ([47] : Str)))), DetI (.pointer (some ⟨b16, 0 + 0, none⟩)), DetI (.slice A4 p_r.Vals.length c4), DetI (.pointer (some ⟨eb35, eo35 + 0 * 1, none⟩)), DetI (.string (bs ((p_r.Vals.getD 0 d_Str)))), DetI (.string (bs ((p_t.Name ++ ([47] : Str)) ++ (p_r.Vals.getD 0 d_Str)))), DetI (.pointer (some ⟨b16, 0 + 0, none⟩)), DetI (.slice A4 p_r.Vals.length c4), fun lo hi v wq => ∃ A38 c39, v = .slice A38 ((p_r.Vals.drop 1).length) c39 ∧ RdS wq (Iv 0 w.heap.size) (RF e_Str) 1 A38 (p_r.Vals.drop 1).length c39 (p_r.Vals.drop 1), fun lo hi v wq => v = .string (bs ((g_strings_Join (p_r.Vals.drop 1) ([44] : Str)))) ∧ okS (g_strings_Join (p_r.Vals.drop 1) ([44] : Str))]) Try.follows rfl rfl rfl rfl rfl rfl (vgetI_stable ⟨StableI.det _, StableI.det _, StableI.det _, StableI.det _, StableI.det _, StableI.det _, StableI.det _, StableI.det _, StableI.det _, StableI.det _, (fun _ _ _ _ _ ⟨A38, c39, hv, h44⟩ e => ⟨A38, c39, hv, RdS.ex good_Str h44 e⟩), (fun _ _ _ _ _ ⟨hv, ho46⟩ e => ⟨hv, ho46⟩), trivial⟩) ⟨?_, ?_, ?_, ?_, ?_, ?_, ?_, ?_, ?_, ?_, ?_, ?_, trivial⟩ ?_
 ·exact fun _ _ h => os rfl ((yl_fieldAddr Try.fd65_0 rfl (h.old 2 _ rfl rfl) kI))
 ·exact fun _ _ h => os rfl ((yl_load1 Try.ty9 rfl (h.dt 0 5 rfl rfl rfl) (((Box.ex (Box.ex (Box.ex hB14 hE21) hE27) h.ex).cell 0).trans rfl) kI))
 ·intro L58 w59 hi60
  have hE61 := hi60.ex
  have hE61z := Ex.size hE61
  have hol63 : p_t.Name.length ≤ 1073741824 := o3.1
  exact os rfl ((yl_sadd (a := p_t.Name) (b := ([47] : Str)) rfl (hi60.dt 1 6 rfl rfl rfl) rfl (by first | omega | (simp only [List.length_append, List.length_cons, List.length_nil, List.length_take, List.length_drop, toS_length]; omega)) kI))
 ·exact fun _ _ h => os rfl ((yl_fieldAddr Try.fd67_0 rfl (h.old 3 _ rfl rfl) kI))
 ·exact fun _ _ h => os rfl ((yl_load1 Try.ty52 rfl (h.dt 3 8 rfl rfl rfl) (((Box.ex q31 h.ex).cell 0).trans rfl) kI))
 ·intro L75 w76 hi77
  have hE78 := hi77.ex
  have hE78z := Ex.size hE78
  exact os rfl ((yl_indexAddrN Try.un52 Try.ty9 rfl (hi77.dt 4 9 rfl rfl rfl) rfl eA35 (by first | omega | assumption | (simp only [IntKind.wrap_i64] at *; omega)) kI))
 ·exact fun _ _ h => os rfl ((yl_load1 Try.ty9 rfl (h.dt 5 10 rfl rfl rfl) ((Cells.ex eC35 h.ex) 0 _ rfl) kI))
 ·intro L86 w87 hi88
  have hE89 := hi88.ex
  have hE89z := Ex.size hE89
  have hol92 : p_t.Name.length ≤ 1073741824 := o3.1
  have hol93 : (p_r.Vals.getD 0 d_Str).length ≤ 1073741824 := (okL.getD o5 ok_d_Str _)
  exact os rfl ((yl_sadd (a := (p_t.Name ++ ([47] : Str))) (b := (p_r.Vals.getD 0 d_Str)) rfl (hi88.dt 2 7 rfl rfl rfl) (hi88.dt 6 11 rfl rfl rfl) (by first | omega | (simp only [List.length_append, List.length_cons, List.length_nil, List.length_take, List.length_drop, toS_length]; omega)) kI))
 ·exact fun _ _ h => os rfl ((yl_fieldAddr Try.fd67_0 rfl (h.old 3 _ rfl rfl) kI))
 ·exact fun _ _ h => os rfl ((yl_load1 Try.ty52 rfl (h.dt 8 13 rfl rfl rfl) (((Box.ex q31 h.ex).cell 0).trans rfl) kI))
 ·intro L105 w106 hi107
  have hE108 := hi107.ex
  have hE108z := Ex.size hE108
  have q110 := RdS.ex good_Str q34 hE108
  obtain ⟨A111, c112, he115, h114⟩ := RdS.sl (RdS.drop q110 (k := 1) (by omega))
  have hrc116 := (q110).2.1
  exact os rfl ((yl_sliceR (kh := .i64) (l := 1) (h := p_r.Vals.length) Try.un52 Try.ty9 rfl (hi107.dt 9 14 rfl rfl rfl) (.inr ⟨_, rfl, rfl⟩) (.inl ⟨rfl, rfl⟩) (by omega) (by omega) he115 ⟨fun _ _ => ⟨A111, c112, rfl, h114⟩, rfl⟩))
 ·intro L117 w118 hi119
  obtain ⟨lo122, hh123, _, hx121, hr124, hr125, hr126, A38_127, c39_128, rfl, h129⟩ := hi119.dep 10 15 rfl rfl
  refine OpR.op' rfl (yl_call Try.en218 rfl (opvs_cons hx121 (opvs_cons rfl opvs_nil)) (Cal.mono (c_g_strings_Join (p_r.Vals.drop 1) ([44] : Str) (RdS.up h129 good_Str) (okL.drop o5 _) (okS.lit rfl) (join_drop pre1 pre2)) ?_))
  rintro v132 w130 ⟨rfl, ho131, hE133⟩
  exact ⟨⟨rfl, ho131⟩, hE133⟩
 ·intro fl137 fh138 L134 w135 hp136
  have hE139 := hp136.ex
  have hE139z := Ex.size hE139
  have hx140 := hp136.old 4 _ rfl rfl
  obtain ⟨_, hx142, rfl, h143⟩ := hp136.new 11 16 rfl rfl
  refine sd rfl (yl_build (cs := [.string (bs ((p_t.Name ++ ([47] : Str)) ++ (p_r.Vals.getD 0 d_Str))), .string (bs ((g_strings_Join (p_r.Vals.drop 1) ([44] : Str)))), .bool (false)]) rfl (opvs_cons (hp136.nt 7 12 rfl rfl rfl) (opvs_cons hx142 opvs_nil)) (by kernel_rfl) (SeqR.u rfl rfl (yl_store (vs := [.string (bs ((p_t.Name ++ ([47] : Str)) ++ (p_r.Vals.getD 0 d_Str))), .string (bs ((g_strings_Join (p_r.Vals.drop 1) ([44] : Str)))), .bool (false)]) Try.ty125 rfl hx140 rfl rfl rfl rfl (Box.ex hB26 hE139) (Nat.le_of_ble_eq_true rfl) ?_)))
  intro w145 hB146 hO147
  have hB146 : Box w145 b22 125 [.string (bs ((p_t.Name ++ ([47] : Str)) ++ (p_r.Vals.getD 0 d_Str))), .string (bs ((g_strings_Join (p_r.Vals.drop 1) ([44] : Str)))), .bool (false)] := hB146
  have hO147z := hO147.size
  refine SeqR.done (tn (CW.sub (Sub.cons (d := 4) hx140 (Sub.nil _)) (CW.ret (rr rfl (.cons ⟨_, rfl, run_loadN Try.ty125 (cs := [.string (bs ((p_t.Name ++ ([47] : Str)) ++ (p_r.Vals.getD 0 d_Str))), .string (bs ((g_strings_Join (p_r.Vals.drop 1) ([44] : Str)))), .bool (false)]) rfl (hB146.cells (n := 3) rfl)⟩ .nil) ?_))))
  have hM148 : (i_Table_rowWrite p_t p_r) = ((⟨(p_t.Name ++ ([47] : Str)) ++ (p_r.Vals.getD 0 d_Str), (g_strings_Join (p_r.Vals.drop 1) ([44] : Str)), false⟩ : DWrite)) := by simp only [i_Table_rowWrite, cond_true, cond_false, loopE_done, loopE_ret]
  rw [hM148]
  exact ⟨rfl, (Below.only (Ex.trans (Ex.trans (Ex.trans (Ex.trans (Ex.refl w) hE15) hE21) hE27) hE139) hO147 (by omega))⟩
set_option maxRecDepth 100000 in
set_option maxHeartbeats 2000000 in
theorem c_i_Table_idxHead {A1 : Option Addr} {c1 : Nat} {A2 : Option Addr} {c2 : Nat} {w : World} (p_t : DTable) (p_name : Str) (h1 : RdS w (Iv 0 w.heap.size) (RF e_Str) 1 A1 p_t.Cols.length c1 p_t.Cols) (h2 : RdS w (Iv 0 w.heap.size) (RF e_Idx) 3 A2 p_t.Idxs.length c2 p_t.Idxs) (o3 : ok_Table p_t) (o4 : okS p_name) : Cal Try.prog 219 #[.agg #[.string (bs (p_t.Name)), .slice A1 p_t.Cols.length c1, .slice A2 p_t.Idxs.length c2], .string (bs (p_name))] w fun v w' => v = .string (bs ((i_Table_idxHead p_t p_name))) ∧ Ex w w' := by
 have hol5 : p_t.Name.length ≤ 1073741824 := o3.1
 have hol6 := o3.2.1.1
 have hol7 := o3.2.2.1
 have hol8 : p_name.length ≤ 1073741824 := o4
 refine Cal.of (vs := [.agg #[.string (bs (p_t.Name)), .slice A1 p_t.Cols.length c1, .slice A2 p_t.Idxs.length c2], .string (bs (p_name))]) Try.func219 rfl Try.ntmps219 rfl (CW.seq (CW.region (sd rfl (yl_box (cs := [.string (bs (p_t.Name)), .slice A1 p_t.Cols.length c1, .slice A2 p_t.Idxs.length c2]) rfl rfl rfl ?_))))
 intro b9 w10 hs11 hz12 hB13 hE14
 refine sd rfl (yl_assign rfl rfl (SeqR.done (tn (CW.seq (CW.region (sd rfl (yl_fieldAddr Try.fd65_0 rfl rfl (sd rfl (yl_load1 Try.ty9 rfl rfl ((hB13.cell 0).trans rfl) ?_)))))))))
 have hol15 : p_t.Name.length ≤ 1073741824 := o3.1
 refine sd rfl (yl_sadd (a := p_t.Name) (b := ([46] : Str)) rfl rfl rfl (by first | omega | (simp only [List.length_append, List.length_cons, List.length_nil, List.length_take, List.length_drop, toS_length]; omega)) (sd rfl (yl_move rfl rfl ?_)))
 have hol16 : p_t.Name.length ≤ 1073741824 := o3.1
 have hol17 : p_name.length ≤ 1073741824 := o4
 refine sd rfl (yl_sadd (a := (p_t.Name ++ ([46] : Str))) (b := p_name) rfl rfl rfl (by first | omega | (simp only [List.length_append, List.length_cons, List.length_nil, List.length_take, List.length_drop, toS_length]; omega)) ?_)
 have hol18 : p_t.Name.length ≤ 1073741824 := o3.1
 have hol19 : p_name.length ≤ 1073741824 := o4
 refine sd rfl (yl_sadd (a := ((p_t.Name ++ ([46] : Str)) ++ p_name)) (b := ([47] : Str)) rfl rfl rfl (by first | omega | (simp only [List.length_append, List.length_cons, List.length_nil, List.length_take, List.length_drop, toS_length]; omega)) (sd rfl (yl_assign rfl rfl (SeqR.done (tn (CW.ret (rr rfl (.cons rfl .nil) ?_)))))))
 have hM20 : (i_Table_idxHead p_t p_name) = (((p_t.Name ++ ([46] : Str)) ++ p_name) ++ ([47] : Str)) := by simp only [i_Table_idxHead, cond_true, cond_false, loopE_done, loopE_ret]
 rw [hM20]
 exact ⟨rfl, (Ex.trans (Ex.refl w) hE14)⟩
set_option maxRecDepth 100000 in
set_option maxHeartbeats 2000000 in
theorem c_g_slices_IndexFunc_Idx {A1 : Option Addr} {c1 : Nat} {g3 : Nat} {cp4 : List Value} {w : World} (p_s : List DIdx) (p_f : DIdx → Bool) (h1 : RdS w (Iv 0 w.heap.size) (RF e_Idx) 3 A1 p_s.length c1 p_s) (hen5 : Go.X.Enters Try.prog g3) (hfn6 : ∀ (w1 : World) (y0 : DIdx), Ex w w1 → y0 ∈ p_s → ok_Idx y0 → Cal Try.prog g3 (([.agg #[.string (bs (y0.Name)), .int .i64 (y0.Col), .int .i64 (y0.Stage)]] : List Value) ++ cp4).toArray w1 fun v w2 => v = .bool (p_f y0) ∧ Ex w1 w2) (o2 : (okL ok_Idx) p_s) : Cal Try.prog 216 #[.slice A1 p_s.length c1, .func (.func g3) #[] cp4.toArray] w fun v w' => v = .int .i64 ((g_slices_IndexFunc_Idx p_s p_f)) ∧ Ex w w' := by
 have hol7 := o2.1
 refine Cal.of (vs := [.slice A1 p_s.length c1, .func (.func g3) #[] cp4.toArray]) Try.func216 rfl Try.ntmps216 rfl (CW.seq (CW.region (sd rfl (yl_assign rfl rfl (SeqR.done (tn (CW.seq (CW.seq (CW.region ?_)))))))))
 refine sd rfl (yl_move rfl rfl (sd rfl (yl_len Try.un63 rfl rfl (sd rfl (yl_move rfl rfl (SeqR.done (tn (CW.block (CW.loop (fun m9 L10 w11 => ∃ (k8 : Nat), m9 = p_s.length - k8 ∧ k8 ≤ p_s.length ∧ w.heap.size ≤ w11.heap.size ∧ lkp L10 0 = some (.slice A1 p_s.length c1) ∧ lkp L10 1 = some (.func (.func g3) #[] cp4.toArray) ∧ lkp L10 7 = some (.int .i64 ((p_s.length : Int))) ∧ lkp L10 8 = some (.int .i64 ((k8 : Int))) ∧ RdS w11 (Iv 0 w.heap.size) (RF e_Idx) 3 A1 p_s.length c1 p_s ∧ Ex w w11 ∧ loopM (B_g_slices_IndexFunc_Idx_0 p_s p_f) (p_s.length - k8) k8 () = loopM (B_g_slices_IndexFunc_Idx_0 p_s p_f) (p_s.length - 0) 0 ()) (p_s.length - 0) ?_ ?_)))))))))
 ·exact ⟨0, rfl, (by omega), Nat.le_refl _, rfl, rfl, rfl, rfl, h1, (Ex.refl w), rfl⟩
 ·rintro m12 L13 w14 ⟨k8, rfl, hk15, hsz17, hl18, hl19, hl20, hl21, hf22, hf23, hI16⟩
  refine CW.sub (Sub.cons hl18 (Sub.cons hl19 (Sub.cons hl20 (Sub.cons hl21 (Sub.nil _))))) ?_
  have hf23z := Ex.size hf23
  have hbg24 := RdS.big hf22
  rcases Nat.lt_or_ge k8 p_s.length with hlt25 | hlt25
  ·refine CW.seq (CW.region (sd rfl (yl_lss rfl rfl rfl (SeqR.done (tn (CW.seq (CW.cond_t rfl (lt_t hlt25) (CW.skip (tn ?_)))))))))
   refine CW.seq (CW.block (CW.seq (CW.region (sd rfl (yl_move rfl rfl (sd rfl (yl_assign rfl rfl (SeqR.done (tn (CW.seq ?_))))))))))
   refine CW.region (sd rfl (yl_move rfl rfl (sd rfl (yl_move rfl rfl (sd rfl (yl_move rfl rfl ?_))))))
   obtain ⟨eb26, eo26, ec26, eA26, eS26, ebl26, el26, eR26, eC26⟩ := RdS.atD hf22 d_Idx (i := k8) (by first | omega | assumption)
   obtain rfl := eR26
   have eC26 : Cells w14 eb26 (eo26 + k8 * 3) [.string (bs ((p_s.getD k8 d_Idx).Name)), .int .i64 ((p_s.getD k8 d_Idx).Col), .int .i64 ((p_s.getD k8 d_Idx).Stage)] := eC26
   refine sd rfl (yl_indexAddrN Try.un63 Try.ty152 rfl rfl rfl eA26 (by first | omega | assumption | (simp only [IntKind.wrap_i64] at *; omega)) (sd rfl (yl_loadN (cs := [.string (bs ((p_s.getD k8 d_Idx).Name)), .int .i64 ((p_s.getD k8 d_Idx).Col), .int .i64 ((p_s.getD k8 d_Idx).Stage)]) Try.ty152 rfl rfl eC26 rfl (sd rfl (yl_callv hen5 rfl rfl (opvs_cons rfl opvs_nil) (Cal.mono (hfn6 w14 (p_s.getD k8 d_Idx) hf23 (getD_mem (by omega)) (okL.getD o2 ok_d_Idx _)) ?_))))))
   rintro v28 w27 ⟨rfl, hE29⟩
   have hE29z := Ex.size hE29
   refine SeqR.done (tn (bcase (p_f (p_s.getD k8 d_Idx)) (fun hb30 => ?_) (fun hb30 => ?_)))
   ·refine CW.cond_t rfl hb30 (CW.seq (CW.region (sd rfl (yl_move rfl rfl (sd rfl (yl_assign rfl rfl (SeqR.done (tn (CW.ret (br ?_))))))))))
    refine tr (tr ?_)
    have hB32 : B_g_slices_IndexFunc_Idx_0 p_s p_f k8 () = .ret (k8 : Int) := by simp only [B_g_slices_IndexFunc_Idx_0, hb30, cond_true, cond_false, loopE_done, loopE_ret]
    have hL31 : loopM (B_g_slices_IndexFunc_Idx_0 p_s p_f) (p_s.length - 0) 0 () = .ret (k8 : Int) := hI16.symm.trans (loopM.ret hlt25 hB32)
    refine br (tr (rr rfl (.cons rfl .nil) ?_))
    have hM33 : (g_slices_IndexFunc_Idx p_s p_f) = ((k8 : Int)) := by simp only [g_slices_IndexFunc_Idx, hb30, hL31, cond_true, cond_false, loopE_done, loopE_ret]
    rw [hM33]
    exact ⟨rfl, (Ex.trans hf23 hE29)⟩
   ·refine CW.cond_f rfl hb30 (CW.skip (bn (tn (CW.region (sd rfl (yl_inc rfl rfl rfl (by omega) (sd rfl (yl_move rfl rfl (SeqR.done (tn ?_))))))))))
    have hB35 : B_g_slices_IndexFunc_Idx_0 p_s p_f k8 () = .cont () := by simp only [B_g_slices_IndexFunc_Idx_0, hb30, cond_true, cond_false, loopE_done, loopE_ret]
    exact ⟨p_s.length - (k8 + 1), by omega, k8 + 1, rfl, hlt25, (by omega), rfl, rfl, rfl, rfl, (RdS.ex good_Idx hf22 hE29), (Ex.trans hf23 hE29), (loopM.cont hlt25 hB35).symm.trans hI16⟩
  ·refine CW.seq (CW.region (sd rfl (yl_lss rfl rfl rfl (SeqR.done (tn (CW.seq (CW.cond_f rfl (lt_f hlt25) (CW.exit (tx ?_)))))))))
   refine tx ?_
   have hL38 : loopM (B_g_slices_IndexFunc_Idx_0 p_s p_f) (p_s.length - 0) 0 () = .done () := hI16.symm.trans (loopM.stop hlt25)
   refine bx (tn (CW.seq (CW.region (sd rfl (yl_assign rfl rfl (SeqR.done (tn (CW.ret (rr rfl (.cons rfl .nil) ?_)))))))))
   have hM39 : (g_slices_IndexFunc_Idx p_s p_f) = (-1) := by simp only [g_slices_IndexFunc_Idx, hL38, cond_true, cond_false, loopE_done, loopE_ret]
   rw [hM39]
   exact ⟨rfl, hf23⟩
set_option maxRecDepth 100000 in
set_option maxHeartbeats 2000000 in
theorem c_i_Table_findIdx_c1 {b2 : Nat} {w : World} (p_x : DIdx) (p_cap0 : Str) (h3 : Box w b2 9 [.string (bs (p_cap0))]) (o1 : ok_Idx p_x) (o4 : okS p_cap0) : Cal Try.prog 217 #[.agg #[.string (bs (p_x.Name)), .int .i64 (p_x.Col), .int .i64 (p_x.Stage)], .pointer (some ⟨b2, 0, none⟩)] w fun v w' => v = .bool ((i_Table_findIdx_c1 p_x p_cap0)) ∧ Ex w w' := by
 have hol5 : p_x.Name.length ≤ 1073741824 := o1
 have hol6 : p_cap0.length ≤ 1073741824 := o4
 refine Cal.of (vs := [.agg #[.string (bs (p_x.Name)), .int .i64 (p_x.Col), .int .i64 (p_x.Stage)], .pointer (some ⟨b2, 0, none⟩)]) Try.func217 rfl Try.ntmps217 rfl (CW.seq (CW.region (sd rfl (yl_box (cs := [.string (bs (p_x.Name)), .int .i64 (p_x.Col), .int .i64 (p_x.Stage)]) rfl rfl rfl ?_))))
 intro b7 w8 hs9 hz10 hB11 hE12
 refine sd rfl (yl_assign rfl rfl (SeqR.done (tn (CW.seq (CW.region (sd rfl (yl_fieldAddr Try.fd152_0 rfl rfl (sd rfl (yl_load1 Try.ty9 rfl rfl ((hB11.cell 0).trans rfl) (sd rfl (yl_load1 Try.ty9 rfl rfl (((Box.ex h3 hE12).cell 0).trans rfl) (sd rfl (yl_seql (a := p_x.Name) (b := p_cap0) rfl rfl rfl ?_)))))))))))))
 refine sd rfl (yl_assign rfl rfl (SeqR.done (tn (CW.ret (rr rfl (.cons rfl .nil) ?_)))))
 have hM14 : (i_Table_findIdx_c1 p_x p_cap0) = (p_x.Name == p_cap0) := by simp only [i_Table_findIdx_c1, cond_true, cond_false, loopE_done, loopE_ret]
 rw [hM14]
 exact ⟨rfl, (Ex.trans (Ex.refl w) hE12)⟩
set_option maxRecDepth 100000 in
set_option maxHeartbeats 2000000 in
theorem c_i_Table_findIdx {A1 : Option Addr} {c1 : Nat} {A2 : Option Addr} {c2 : Nat} {w : World} (p_t : DTable) (p_name : Str) (h1 : RdS w (Iv 0 w.heap.size) (RF e_Str) 1 A1 p_t.Cols.length c1 p_t.Cols) (h2 : RdS w (Iv 0 w.heap.size) (RF e_Idx) 3 A2 p_t.Idxs.length c2 p_t.Idxs) (o3 : ok_Table p_t) (o4 : okS p_name) : Cal Try.prog 168 #[.agg #[.string (bs (p_t.Name)), .slice A1 p_t.Cols.length c1, .slice A2 p_t.Idxs.length c2], .string (bs (p_name))] w fun v w' => v = .int .i64 ((i_Table_findIdx p_t p_name)) ∧ Ex w w' := by
 have hol5 : p_t.Name.length ≤ 1073741824 := o3.1
 have hol6 := o3.2.1.1
 have hol7 := o3.2.2.1
 have hol8 : p_name.length ≤ 1073741824 := o4
 refine Cal.of (vs := [.agg #[.string (bs (p_t.Name)), .slice A1 p_t.Cols.length c1, .slice A2 p_t.Idxs.length c2], .string (bs (p_name))]) Try.func168 rfl Try.ntmps168 rfl (CW.seq (CW.region (sd rfl (yl_box (cs := [.string (bs (p_t.Name)), .slice A1 p_t.Cols.length c1, .slice A2 p_t.Idxs.length c2]) rfl rfl rfl ?_))))
 intro b9 w10 hs11 hz12 hB13 hE14
 refine sd rfl (yl_box (cs := [.string (bs (p_name))]) rfl rfl rfl ?_)
 intro b15 w16 hs17 hz18 hB19 hE20
 refine sd rfl (yl_assign rfl rfl (SeqR.done (tn (CW.seq (CW.region (sd rfl (yl_fieldAddr Try.fd65_2 rfl rfl (sd rfl (yl_load1 Try.ty63 rfl rfl (((Box.ex hB13 hE20).cell 2).trans rfl) (sd rfl (yl_makeFunc rfl (opvs_cons rfl opvs_nil) (sd rfl (yl_call Try.en216 rfl (opvs_cons rfl (opvs_cons rfl opvs_nil)) (Cal.mono (c_g_slices_IndexFunc_Idx p_t.Idxs (fun y0 => i_Table_findIdx_c1 y0 p_name) (RdS.up (RdS.ex good_Idx (RdS.ex good_Idx h2 hE14) hE20) good_Idx) Try.en217 (fun _ y0 => fun hE hm0 ov0 => c_i_Table_findIdx_c1 y0 p_name (Box.ex hB19 hE) ov0 o4) o3.2.2) ?_))))))))))))))
 rintro v25 w24 ⟨rfl, hE26⟩
 have hE26z := Ex.size hE26
 refine sd rfl (yl_assign rfl rfl (SeqR.done (tn (CW.ret (rr rfl (.cons rfl .nil) ?_)))))
 have hM27 : (i_Table_findIdx p_t p_name) = ((g_slices_IndexFunc_Idx p_t.Idxs (fun y0 => i_Table_findIdx_c1 y0 p_name))) := by simp only [i_Table_findIdx, cond_true, cond_false, loopE_done, loopE_ret]
 rw [hM27]
 exact ⟨rfl, (Ex.trans (Ex.trans (Ex.trans (Ex.refl w) hE14) hE20) hE26)⟩
set_option maxRecDepth 100000 in
set_option maxHeartbeats 2000000 in
theorem c_i_Table_idx {A1 : Option Addr} {c1 : Nat} {A2 : Option Addr} {c2 : Nat} {w : World} (p_t : DTable) (p_name : Str) (h1 : RdS w (Iv 0 w.heap.size) (RF e_Str) 1 A1 p_t.Cols.length c1 p_t.Cols) (h2 : RdS w (Iv 0 w.heap.size) (RF e_Idx) 3 A2 p_t.Idxs.length c2 p_t.Idxs) (o3 : ok_Table p_t) (o4 : okS p_name) (pre0 : (0 ≤ i_Table_findIdx p_t p_name ∧ i_Table_findIdx p_t p_name < (p_t.Idxs.length : Int))) : Cal Try.prog 220 #[.agg #[.string (bs (p_t.Name)), .slice A1 p_t.Cols.length c1, .slice A2 p_t.Idxs.length c2], .string (bs (p_name))] w fun v w' => v = .agg #[.string (bs ((i_Table_idx p_t p_name).Name)), .int .i64 ((i_Table_idx p_t p_name).Col), .int .i64 ((i_Table_idx p_t p_name).Stage)] ∧ ok_Idx (i_Table_idx p_t p_name) ∧ Ex w w' := by
 have hol5 : p_t.Name.length ≤ 1073741824 := o3.1
 have hol6 := o3.2.1.1
 have hol7 := o3.2.2.1
 have hol8 : p_name.length ≤ 1073741824 := o4
 refine Cal.of (vs := [.agg #[.string (bs (p_t.Name)), .slice A1 p_t.Cols.length c1, .slice A2 p_t.Idxs.length c2], .string (bs (p_name))]) Try.func220 rfl Try.ntmps220 rfl (CW.seq (CW.region (sd rfl (yl_box (cs := [.string (bs (p_t.Name)), .slice A1 p_t.Cols.length c1, .slice A2 p_t.Idxs.length c2]) rfl rfl rfl ?_))))
 intro b9 w10 hs11 hz12 hB13 hE14
 refine sd rfl (yl_alloc Try.ty152 (cs := [.string (bs (([] : Str))), .int .i64 (0), .int .i64 (0)]) rfl rfl ?_)
 intro b15 w16 hs17 hz18 hB19 hE20
 refine SeqR.done (tn (CW.seq ?_))
 have q21 := Box.ex hB13 hE20
 have q25 := RdS.ex good_Idx (RdS.ex good_Idx h2 hE14) hE20
 have hrf27 := rf_i_findIdx p_t p_name
 refine CW.drawsI 5 (vgetI [DetI (.pointer (some ⟨b9, 0 + 2, none⟩)), DetI (.slice A2 p_t.Idxs.length c2), DetI (.agg #[.string (bs (p_t.Name)), .slice A1 p_t.Cols.length c1, .slice A2 p_t.Idxs.length c2]), DetI (.string (bs (p_name))), DetI (.int .i64 ((i_Table_findIdx p_t p_name)))]) Try.follows rfl rfl rfl rfl rfl rfl (vgetI_stable ⟨StableI.det _, StableI.det _, StableI.det _, StableI.det _, StableI.det _, trivial⟩) ⟨?_, ?_, ?_, ?_, ?_, trivial⟩ ?_
 ·exact fun _ _ h => os rfl ((yl_fieldAddr Try.fd65_2 rfl (h.old 2 _ rfl rfl) kI))
 ·exact fun _ _ h => os rfl ((yl_load1 Try.ty63 rfl (h.dt 0 5 rfl rfl rfl) (((Box.ex q21 h.ex).cell 2).trans rfl) kI))
 ·exact fun _ _ h => os rfl ((yl_loadN (cs := [.string (bs (p_t.Name)), .slice A1 p_t.Cols.length c1, .slice A2 p_t.Idxs.length c2]) Try.ty65 rfl (h.old 2 _ rfl rfl) ((Box.ex q21 h.ex).cells (n := 3) rfl) rfl kI))
 ·exact fun _ _ h => os rfl ((yl_move rfl (h.old 1 _ rfl rfl) kI))
 ·intro L50 w51 hi52
  have hE53 := hi52.ex
  refine OpR.op' rfl (yl_call Try.en168 rfl (opvs_cons (hi52.dt 2 7 rfl rfl rfl) (opvs_cons (hi52.dt 3 8 rfl rfl rfl) opvs_nil)) (Cal.mono (c_i_Table_findIdx p_t p_name (RdS.up (RdS.ex good_Str (RdS.ex good_Str (RdS.ex good_Str h1 hE14) hE20) hE53) good_Str) (RdS.up (RdS.ex good_Idx q25 hE53) good_Idx) o3 o4) ?_))
  rintro v59 w58 ⟨rfl, hE60⟩
  exact ⟨rfl, hE60⟩
 ·intro fl64 fh65 L61 w62 hp63
  have hE66 := hp63.ex
  have hE66z := Ex.size hE66
  have hx67 := hp63.old 4 _ rfl rfl
  obtain ⟨eb71, eo71, ec71, eA71, eS71, ebl71, el71, eR71, eC71⟩ := RdS.atD (RdS.ex good_Idx q25 hE66) d_Idx (i := ((i_Table_findIdx p_t p_name)).toNat) (by first | omega | assumption | (simp only [IntKind.wrap_i64] at *; omega))
  obtain rfl := eR71
  have eC71 : Cells w62 eb71 (eo71 + (((i_Table_findIdx p_t p_name)).toNat) * 3) [.string (bs ((p_t.Idxs.getD (((i_Table_findIdx p_t p_name)).toNat) d_Idx).Name)), .int .i64 ((p_t.Idxs.getD (((i_Table_findIdx p_t p_name)).toNat) d_Idx).Col), .int .i64 ((p_t.Idxs.getD (((i_Table_findIdx p_t p_name)).toNat) d_Idx).Stage)] := eC71
  refine sd rfl (yl_indexAddr Try.un63 Try.ty152 rfl (hp63.nt 1 6 rfl rfl rfl) (hp63.nt 4 9 rfl rfl rfl) eA71 (by first | omega | assumption | (simp only [IntKind.wrap_i64] at *; omega)) (by first | omega | assumption | (simp only [IntKind.wrap_i64] at *; omega)) (sd rfl (yl_loadN (cs := [.string (bs ((p_t.Idxs.getD (((i_Table_findIdx p_t p_name)).toNat) d_Idx).Name)), .int .i64 ((p_t.Idxs.getD (((i_Table_findIdx p_t p_name)).toNat) d_Idx).Col), .int .i64 ((p_t.Idxs.getD (((i_Table_findIdx p_t p_name)).toNat) d_Idx).Stage)]) Try.ty152 rfl rfl eC71 rfl (SeqR.u rfl rfl (yl_store (vs := [.string (bs ((p_t.Idxs.getD (((i_Table_findIdx p_t p_name)).toNat) d_Idx).Name)), .int .i64 ((p_t.Idxs.getD (((i_Table_findIdx p_t p_name)).toNat) d_Idx).Col), .int .i64 ((p_t.Idxs.getD (((i_Table_findIdx p_t p_name)).toNat) d_Idx).Stage)]) Try.ty152 rfl hx67 rfl rfl rfl rfl (Box.ex hB19 hE66) (Nat.le_of_ble_eq_true rfl) ?_)))))
  intro w73 hB74 hO75
  have hB74 : Box w73 b15 152 [.string (bs ((p_t.Idxs.getD (((i_Table_findIdx p_t p_name)).toNat) d_Idx).Name)), .int .i64 ((p_t.Idxs.getD (((i_Table_findIdx p_t p_name)).toNat) d_Idx).Col), .int .i64 ((p_t.Idxs.getD (((i_Table_findIdx p_t p_name)).toNat) d_Idx).Stage)] := hB74
  have hO75z := hO75.size
  refine SeqR.done (tn (CW.sub (Sub.cons (d := 4) hx67 (Sub.nil _)) (CW.ret (rr rfl (.cons ⟨_, rfl, run_loadN Try.ty152 (cs := [.string (bs ((p_t.Idxs.getD (((i_Table_findIdx p_t p_name)).toNat) d_Idx).Name)), .int .i64 ((p_t.Idxs.getD (((i_Table_findIdx p_t p_name)).toNat) d_Idx).Col), .int .i64 ((p_t.Idxs.getD (((i_Table_findIdx p_t p_name)).toNat) d_Idx).Stage)]) rfl (hB74.cells (n := 3) rfl)⟩ .nil) ?_))))
  have hM76 : (i_Table_idx p_t p_name) = ((p_t.Idxs.getD (((i_Table_findIdx p_t p_name)).toNat) d_Idx)) := by simp only [i_Table_idx, cond_true, cond_false, loopE_done, loopE_ret]
  rw [hM76]
  exact ⟨rfl, (okL.getD o3.2.2 ok_d_Idx _), (Below.only (Ex.trans (Ex.trans (Ex.trans (Ex.refl w) hE14) hE20) hE66) hO75 (by omega))⟩
set_option maxRecDepth 100000 in
set_option maxHeartbeats 2000000 in
theorem c_i_Table_idxKey {A1 : Option Addr} {c1 : Nat} {A2 : Option Addr} {c2 : Nat} {A5 : Option Addr} {c5 : Nat} {w : World} (p_t : DTable) (p_name : Str) (p_r : DRow) (h1 : RdS w (Iv 0 w.heap.size) (RF e_Str) 1 A1 p_t.Cols.length c1 p_t.Cols) (h2 : RdS w (Iv 0 w.heap.size) (RF e_Idx) 3 A2 p_t.Idxs.length c2 p_t.Idxs) (h5 : RdS w (Iv 0 w.heap.size) (RF e_Str) 1 A5 p_r.Vals.length c5 p_r.Vals) (o3 : ok_Table p_t) (o4 : okS p_name) (o6 : ok_Row p_r) (pre0 : (0 ≤ i_Table_findIdx p_t p_name ∧ i_Table_findIdx p_t p_name < (p_t.Idxs.length : Int))) (pre1 : (0 ≤ (i_Table_idx p_t p_name).Col ∧ (i_Table_idx p_t p_name).Col < (p_r.Vals.length : Int))) (pre2 : (p_t.Name.length ≤ 1 ∧ p_name.length ≤ 1)) (pre3 : rowShort p_r) : Cal Try.prog 170 #[.agg #[.string (bs (p_t.Name)), .slice A1 p_t.Cols.length c1, .slice A2 p_t.Idxs.length c2], .string (bs (p_name)), .agg #[.slice A5 p_r.Vals.length c5]] w fun v w' => v = .string (bs ((i_Table_idxKey p_t p_name p_r))) ∧ okS (i_Table_idxKey p_t p_name p_r) ∧ Ex w w' := by
 have hol7 : p_t.Name.length ≤ 1073741824 := o3.1
 have hol8 := o3.2.1.1
 have hol9 := o3.2.2.1
 have hol10 : p_name.length ≤ 1073741824 := o4
 have hol11 := o6.1
 refine Cal.of (vs := [.agg #[.string (bs (p_t.Name)), .slice A1 p_t.Cols.length c1, .slice A2 p_t.Idxs.length c2], .string (bs (p_name)), .agg #[.slice A5 p_r.Vals.length c5]]) Try.func170 rfl Try.ntmps170 rfl (CW.seq (CW.region (sd rfl (yl_box (cs := [.string (bs (p_t.Name)), .slice A1 p_t.Cols.length c1, .slice A2 p_t.Idxs.length c2]) rfl rfl rfl ?_))))
 intro b12 w13 hs14 hz15 hB16 hE17
 refine sd rfl (yl_box (cs := [.slice A5 p_r.Vals.length c5]) rfl rfl rfl ?_)
 intro b18 w19 hs20 hz21 hB22 hE23
 refine sd rfl (yl_assign rfl rfl (SeqR.done (tn (CW.seq ?_))))
 have q24 := Box.ex hB16 hE23
 have q26 := RdS.ex good_Str (RdS.ex good_Str h1 hE17) hE23
 have q28 := RdS.ex good_Idx (RdS.ex good_Idx h2 hE17) hE23
 have q33 := RdS.ex good_Str (RdS.ex good_Str h5 hE17) hE23
 obtain ⟨eb34, eo34, ec34, eA34, eS34, ebl34, el34, eR34, eC34⟩ := RdS.atD q33 d_Str (i := ((i_Table_idx p_t p_name).Col).toNat) (by first | omega | assumption | (simp only [IntKind.wrap_i64] at *; omega))
 obtain rfl := eR34
 have eC34 : Cells w19 eb34 (eo34 + (((i_Table_idx p_t p_name).Col).toNat) * 1) [.string (bs ((p_r.Vals.getD (((i_Table_idx p_t p_name).Col).toNat) d_Str)))] := eC34
 have hol35 : (p_r.Vals.getD (((i_Table_idx p_t p_name).Col).toNat) d_Str).length ≤ 1073741824 := (okL.getD o6 ok_d_Str _)
 have hol36 : (p_r.Vals.getD (((i_Table_idx p_t p_name).Col).toNat) d_Str).length ≤ 1073741824 := (okL.getD o6 ok_d_Str _)
 obtain ⟨eb37, eo37, ec37, eA37, eS37, ebl37, el37, eR37, eC37⟩ := RdS.atD q33 d_Str (i := 0) (by first | omega | assumption)
 obtain rfl := eR37
 have eC37 : Cells w19 eb37 (eo37 + 0 * 1) [.string (bs ((p_r.Vals.getD 0 d_Str)))] := eC37
 have hol38 : (p_r.Vals.getD (((i_Table_idx p_t p_name).Col).toNat) d_Str).length ≤ 1073741824 := (okL.getD o6 ok_d_Str _)
 have hol39 : (p_r.Vals.getD 0 d_Str).length ≤ 1073741824 := (okL.getD o6 ok_d_Str _)
 have hrf40 := rf_idxHead p_t p_name
 refine CW.drawsI 19 (vgetI [DetI (.agg #[.string (bs (p_t.Name)), .slice A1 p_t.Cols.length c1, .slice A2 p_t.Idxs.length c2]), DetI (.string (bs (p_name))), DetI (.string (bs ((i_Table_idxHead p_t p_name)))), DetI (.pointer (some ⟨b18, 0 + 0, none⟩)), DetI (.slice A5 p_r.Vals.length c5), DetI (.agg #[.string (bs (p_t.Name)), .slice A1 p_t.Cols.length c1, .slice A2 p_t.Idxs.length c2]), DetI (.string (bs (p_name))), fun lo hi v wq => v = .agg #[.string (bs ((i_Table_idx p_t p_name).Name)), .int .i64 ((i_Table_idx p_t p_name).Col), .int .i64 ((i_Table_idx p_t p_name).Stage)] ∧ ok_Idx (i_Table_idx p_t p_name), DetI (.int .i64 ((i_Table_idx p_t p_name).Col)), DetI (.pointer (some ⟨eb34, eo34 + (((i_Table_idx p_t p_name).Col).toNat) * 1, none⟩)), DetI (.string (bs ((p_r.Vals.getD (((i_Table_idx p_t p_name).Col).toNat) d_Str)))), DetI (.string (bs ((i_Table_idxHead p_t p_name) ++ (p_r.Vals.getD (((i_Table_idx p_t p_name).Col).toNat) d_Str)))), DetI (.string (bs (((i_Table_idxHead p_t p_name) ++ (p_r.Vals.getD (((i_Table_idx p_t p_name).Col).toNat) d_Str)) ++ ([47] : Str)))), DetI (.pointer (some ⟨b18, 0 + 0, none⟩)), DetI (.slice A5 p_r.Vals.length c5), DetI (.pointer (some ⟨eb37, eo37 + 0 * 1, none⟩)), DetI (.string (bs ((p_r.Vals.getD 0 d_Str)))), DetI (.string (bs ((((i_Table_idxHead p_t p_name) ++ (p_r.Vals.getD (((i_Table_idx p_t p_name).Col).toNat) d_Str)) ++ ([47] : Str)) ++ (p_r.Vals.getD 0 d_Str)))), DetI (.string (bs ((((i_Table_idxHead p_t p_name) ++ (p_r.Vals.getD (((i_Table_idx p_t p_name).Col).toNat) d_Str)) ++ ([47] : Str)) ++ (p_r.Vals.getD 0 d_Str))))]) Try.follows rfl rfl rfl rfl rfl rfl (vgetI_stable ⟨StableI.det _, StableI.det _, StableI.det _, StableI.det _, StableI.det _, StableI.det _, StableI.det _, (fun _ _ _ _ _ ⟨hv, ho31⟩ e => ⟨hv, ho31⟩), StableI.det _, StableI.det _, StableI.det _, StableI.det _, StableI.det _, StableI.det _, StableI.det _, StableI.det _, StableI.det _, StableI.det _, StableI.det _, trivial⟩) ⟨?_, ?_, ?_, ?_, ?_, ?_, ?_, ?_, ?_, ?_, ?_, ?_, ?_, ?_, ?_, ?_, ?_, ?_, ?_, trivial⟩ ?_
 ·exact fun _ _ h => os rfl ((yl_loadN (cs := [.string (bs (p_t.Name)), .slice A1 p_t.Cols.length c1, .slice A2 p_t.Idxs.length c2]) Try.ty65 rfl (h.old 3 _ rfl rfl) ((Box.ex q24 h.ex).cells (n := 3) rfl) rfl kI))
 ·exact fun _ _ h => os rfl ((yl_move rfl (h.old 1 _ rfl rfl) kI))
 ·intro L52 w53 hi54
  have hE55 := hi54.ex
  refine OpR.op' rfl (yl_call Try.en219 rfl (opvs_cons (hi54.dt 0 7 rfl rfl rfl) (opvs_cons (hi54.dt 1 8 rfl rfl rfl) opvs_nil)) (Cal.mono (c_i_Table_idxHead p_t p_name (RdS.up (RdS.ex good_Str q26 hE55) good_Str) (RdS.up (RdS.ex good_Idx q28 hE55) good_Idx) o3 o4) ?_))
  rintro v61 w60 ⟨rfl, hE62⟩
  exact ⟨rfl, hE62⟩
 ·exact fun _ _ h => os rfl ((yl_fieldAddr Try.fd67_0 rfl (h.old 5 _ rfl rfl) kI))
 ·exact fun _ _ h => os rfl ((yl_load1 Try.ty52 rfl (h.dt 3 10 rfl rfl rfl) (((Box.ex hB22 h.ex).cell 0).trans rfl) kI))
 ·exact fun _ _ h => os rfl ((yl_loadN (cs := [.string (bs (p_t.Name)), .slice A1 p_t.Cols.length c1, .slice A2 p_t.Idxs.length c2]) Try.ty65 rfl (h.old 3 _ rfl rfl) ((Box.ex q24 h.ex).cells (n := 3) rfl) rfl kI))
 ·exact fun _ _ h => os rfl ((yl_move rfl (h.old 1 _ rfl rfl) kI))
 ·intro L85 w86 hi87
  have hE88 := hi87.ex
  have hE88z := Ex.size hE88
  refine OpR.op' rfl (yl_call Try.en220 rfl (opvs_cons (hi87.dt 5 12 rfl rfl rfl) (opvs_cons (hi87.dt 6 13 rfl rfl rfl) opvs_nil)) (Cal.mono (c_i_Table_idx p_t p_name (RdS.up (RdS.ex good_Str q26 hE88) good_Str) (RdS.up (RdS.ex good_Idx q28 hE88) good_Idx) o3 o4 (by first | omega | assumption | (simp only [IntKind.wrap_i64] at *; omega))) ?_))
  rintro v95 w93 ⟨rfl, ho94, hE96⟩
  exact ⟨⟨rfl, ho94⟩, hE96⟩
 ·intro L97 w98 hi99
  obtain ⟨lo102, hh103, _, hx101, hr104, hr105, hr106, rfl, h107⟩ := hi99.dep 7 14 rfl rfl
  exact os rfl ((yl_field1 Try.fd152_1 rfl hx101 rfl kI))
 ·intro L108 w109 hi110
  have hE111 := hi110.ex
  have hE111z := Ex.size hE111
  exact os rfl ((yl_indexAddr Try.un52 Try.ty9 rfl (hi110.dt 4 11 rfl rfl rfl) (hi110.dt 8 15 rfl rfl rfl) eA34 (by first | omega | assumption | (simp only [IntKind.wrap_i64] at *; omega)) (by first | omega | assumption | (simp only [IntKind.wrap_i64] at *; omega)) kI))
 ·exact fun _ _ h => os rfl ((yl_load1 Try.ty9 rfl (h.dt 9 16 rfl rfl rfl) ((Cells.ex eC34 h.ex) 0 _ rfl) kI))
 ·intro L120 w121 hi122
  have hE123 := hi122.ex
  have hE123z := Ex.size hE123
  have hol126 : (p_r.Vals.getD (((i_Table_idx p_t p_name).Col).toNat) d_Str).length ≤ 1073741824 := (okL.getD o6 ok_d_Str _)
  exact os rfl ((yl_sadd (a := (i_Table_idxHead p_t p_name)) (b := (p_r.Vals.getD (((i_Table_idx p_t p_name).Col).toNat) d_Str)) rfl (hi122.dt 2 9 rfl rfl rfl) (hi122.dt 10 17 rfl rfl rfl) (by first | omega | (simp only [List.length_append, List.length_cons, List.length_nil, List.length_take, List.length_drop, toS_length]; omega)) kI))
 ·intro L127 w128 hi129
  have hE130 := hi129.ex
  have hE130z := Ex.size hE130
  have hol132 : (p_r.Vals.getD (((i_Table_idx p_t p_name).Col).toNat) d_Str).length ≤ 1073741824 := (okL.getD o6 ok_d_Str _)
  exact os rfl ((yl_sadd (a := ((i_Table_idxHead p_t p_name) ++ (p_r.Vals.getD (((i_Table_idx p_t p_name).Col).toNat) d_Str))) (b := ([47] : Str)) rfl (hi129.dt 11 18 rfl rfl rfl) rfl (by first | omega | (simp only [List.length_append, List.length_cons, List.length_nil, List.length_take, List.length_drop, toS_length]; omega)) kI))
 ·exact fun _ _ h => os rfl ((yl_fieldAddr Try.fd67_0 rfl (h.old 5 _ rfl rfl) kI))
 ·exact fun _ _ h => os rfl ((yl_load1 Try.ty52 rfl (h.dt 13 20 rfl rfl rfl) (((Box.ex hB22 h.ex).cell 0).trans rfl) kI))
 ·intro L144 w145 hi146
  have hE147 := hi146.ex
  have hE147z := Ex.size hE147
  exact os rfl ((yl_indexAddrN Try.un52 Try.ty9 rfl (hi146.dt 14 21 rfl rfl rfl) rfl eA37 (by first | omega | assumption | (simp only [IntKind.wrap_i64] at *; omega)) kI))
 ·exact fun _ _ h => os rfl ((yl_load1 Try.ty9 rfl (h.dt 15 22 rfl rfl rfl) ((Cells.ex eC37 h.ex) 0 _ rfl) kI))
 ·intro L155 w156 hi157
  have hE158 := hi157.ex
  have hE158z := Ex.size hE158
  have hol161 : (p_r.Vals.getD (((i_Table_idx p_t p_name).Col).toNat) d_Str).length ≤ 1073741824 := (okL.getD o6 ok_d_Str _)
  have hol162 : (p_r.Vals.getD 0 d_Str).length ≤ 1073741824 := (okL.getD o6 ok_d_Str _)
  exact os rfl ((yl_sadd (a := (((i_Table_idxHead p_t p_name) ++ (p_r.Vals.getD (((i_Table_idx p_t p_name).Col).toNat) d_Str)) ++ ([47] : Str))) (b := (p_r.Vals.getD 0 d_Str)) rfl (hi157.dt 12 19 rfl rfl rfl) (hi157.dt 16 23 rfl rfl rfl) (by first | omega | (simp only [List.length_append, List.length_cons, List.length_nil, List.length_take, List.length_drop, toS_length]; omega)) kI))
 ·exact fun _ _ h => os rfl ((yl_assign rfl (h.dt 17 24 rfl rfl rfl) kI))
 ·intro fl171 fh172 L168 w169 hp170
  have hE173 := hp170.ex
  have hE173z := Ex.size hE173
  refine SeqR.done (tn (CW.sub (Sub.cons (d := 6) (hp170.nt 18 6 rfl rfl rfl) (Sub.nil _)) (CW.ret (rr rfl (.cons rfl .nil) ?_))))
  have hM175 : (i_Table_idxKey p_t p_name p_r) = ((((i_Table_idxHead p_t p_name) ++ (p_r.Vals.getD (((i_Table_idx p_t p_name).Col).toNat) d_Str)) ++ ([47] : Str)) ++ (p_r.Vals.getD 0 d_Str)) := by simp only [i_Table_idxKey, cond_true, cond_false, loopE_done, loopE_ret]
  rw [hM175]
  exact ⟨rfl, (okS_idxKey pre2 pre3), (Ex.trans (Ex.trans (Ex.trans (Ex.refl w) hE17) hE23) hE173)⟩
set_option maxRecDepth 100000 in
set_option maxHeartbeats 2000000 in
theorem c_i_deletes {w : World} (p_stage : Int) : Cal Try.prog 180 #[.int .i64 (p_stage)] w fun v w' => v = .bool ((i_deletes p_stage)) ∧ Ex w w' := by
 refine Cal.of (vs := [.int .i64 (p_stage)]) Try.func180 rfl Try.ntmps180 rfl (CW.seq (CW.region (sd rfl (yl_assign rfl rfl (SeqR.done (tn (CW.seq (CW.region (sd rfl (yl_move rfl rfl ?_))))))))))
 refine sd rfl (yl_geq rfl rfl rfl (sd rfl (yl_assign rfl rfl (SeqR.done (tn (CW.ret (rr rfl (.cons rfl .nil) ?_)))))))
 have hM1 : (i_deletes p_stage) = (decide (1 ≤ p_stage)) := by simp only [i_deletes, cond_true, cond_false, loopE_done, loopE_ret]
 rw [hM1]
 exact ⟨rfl, (Ex.refl w)⟩
set_option maxRecDepth 100000 in
set_option maxHeartbeats 2000000 in
theorem c_i_inserts {w : World} (p_stage : Int) : Cal Try.prog 181 #[.int .i64 (p_stage)] w fun v w' => v = .bool ((i_inserts p_stage)) ∧ Ex w w' := by
 refine Cal.of (vs := [.int .i64 (p_stage)]) Try.func181 rfl Try.ntmps181 rfl (CW.seq (CW.region (sd rfl (yl_assign rfl rfl (SeqR.done (tn (CW.seq (CW.region (sd rfl (yl_move rfl rfl ?_))))))))))
 refine sd rfl (yl_geq rfl rfl rfl (sd rfl (yl_assign rfl rfl (SeqR.done (tn (CW.ret (rr rfl (.cons rfl .nil) ?_)))))))
 have hM1 : (i_inserts p_stage) = (decide (2 ≤ p_stage)) := by simp only [i_inserts, cond_true, cond_false, loopE_done, loopE_ret]
 rw [hM1]
 exact ⟨rfl, (Ex.refl w)⟩
end Go.Proofs.Ytjeafbkejeallaa
