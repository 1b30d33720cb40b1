/- Fn Tables: what each call returns, part 4. -/
import Derived.Test.YtgfkmgjpannelaaGreatDoorFnTablesC3
set_option maxRecDepth 100000
set_option maxHeartbeats 2000000
open Go.Proofs.Tryz Go.Proofs.YtgfkmgjpannelaaGreatDoor.Tryz
set_option linter.unusedVariables false
set_option linter.unusedSimpArgs false
namespace Go.Proofs.YtgfkmgjpannelaaGreatDoor
open Go.RowKit Go.X
theorem c_s_l24Join {A1 : Option Addr} {c1 : Nat} {w : World} (p_l : List Str) (p_by : Str) (h1 : RdS w (Iv 0 w.heap.size) (RF e_Str) 1 A1 p_l.length c1 p_l) (o2 : (okL okS) p_l) (o3 : okS p_by) : Cal Tryz.prog 72 #[.slice A1 p_l.length c1, .string (bs (p_by))] w fun v w' => v = .string (bs ((s_l24Join p_l p_by))) ∧ Ex w w' := by
 have hol4 := o2.1
 have hol5 : p_by.length ≤ 1073741824 := o3
 refine Cal.of func72 rfl ntmps72 rfl (cR (sA rfl (dn (cR (sA rfl ?_)))))
 refine dn (CW.seq (cR (sM rfl (sd rfl (yL un23 rfl rfl (sM rfl (SeqR.done ?_)))))))
 refine tn (CW.block (CW.loop (fun m15 L16 w17 => ∃ (k6 : Nat) (x14 : Str), m15 = p_l.length - k6 ∧ k6 ≤ p_l.length ∧ w.heap.size ≤ w17.heap.size ∧ lkp L16 1 = some (.string (bs (p_by))) ∧ lkp L16 5 = some (.string (bs (x14))) ∧ lkp L16 8 = some (.slice A1 p_l.length c1) ∧ lkp L16 9 = some (.int .i64 ((p_l.length : Int))) ∧ lkp L16 10 = some (.int .i64 ((k6 : Int))) ∧ RdS w17 (Iv 0 w.heap.size) (RF e_Str) 1 A1 p_l.length c1 p_l ∧ Ex w w17 ∧ x14.length ≤ 0 + 2147483648 * (k6 - 0) ∧ loopM (B_s_l24Join_0 p_l p_by) (p_l.length - k6) k6 (x14) = loopM (B_s_l24Join_0 p_l p_by) (p_l.length - 0) 0 (([] : Str))) (p_l.length - 0) ?_ ?_))
 ·exact ⟨0, ([] : Str), rfl, oM, Nat.le_refl _, rfl, rfl, rfl, rfl, rfl, h1, (Ex.refl w), (by first | (simp; done) | (first | omega | (simp only [lN, toS_length]; omega))), rfl⟩
 ·rintro m18 L19 w20 ⟨k6, x14, rfl, hk21, hsz23, hl24, hl25, hl26, hl27, hl28, hf29, hf30, hln31, hI22⟩
  refine CW.sub (Sub.cons hl24 (Sub.cons hl25 (Sub.cons hl26 (Sub.cons hl27 (Sub.cons hl28 (Sub.nil _)))))) ?_
  have hf30z := Ex.size hf30
  have hbg32 := RdS.big hf29
  rcases Nat.lt_or_ge k6 p_l.length with hlt33 | hlt33
  ·refine cR (sd rfl (yl_lss rfl rfl rfl (dn (CW.seq (CW.cond_t rfl (lt_t hlt33) (CW.skip (tn ?_)))))))
   refine CW.seq (CW.block (cR (sM rfl ?_)))
   obtain ⟨eb34, eo34, _, eA34, _, ebl34, _, eR34, eC34⟩ := RdS.aD hf29 d_Str (i := k6)
   obtain rfl := eR34
   have eC34 : Cells w20 eb34 (eo34 + k6 * 1) [.string (bs ((p_l.getD k6 d_Str)))] := eC34
   refine sd rfl (yl_ixN un23 ty9 rfl rfl rfl eA34 (sd rfl (yl_load1 ty9 rfl rfl (eC34 0 _ rfl) (sA rfl (sA rfl (dn (CW.seq (cR ?_))))))))
   refine sM rfl (sd rfl (yl_gtr rfl rfl rfl (dn (bcase (decide (0 < (k6 : Int))) (fun hb35 => ?_) (fun hb35 => ?_)))))
   ·have hb35p := dec_t hb35
    refine CW.cond_t rfl hb35 (CW.region (sM rfl (sM rfl ?_)))
    have hol36 : p_by.length ≤ 1073741824 := o3
    refine sd rfl (yl_sadd (a := x14) (b := p_by) rfl rfl rfl Bl (sA rfl (dn (CW.region (sM rfl (sM rfl ?_))))))
    have hol37 : p_by.length ≤ 1073741824 := o3
    have hol38 : (p_l.getD k6 d_Str).length ≤ 1073741824 := (okL.getD o2 ok_d_Str _)
    refine sd rfl (yl_sadd (a := (x14 ++ p_by)) (b := (p_l.getD k6 d_Str)) rfl rfl rfl Bl (sA rfl (SeqR.done (bn (tn (CW.region (sd rfl (yl_inc rfl rfl rfl oM (sM rfl (SeqR.done ?_))))))))))
    refine tn ?_
    have hB39 : B_s_l24Join_0 p_l p_by k6 (x14) = .cont ((x14 ++ p_by) ++ (p_l.getD k6 d_Str)) := by simp only [B_s_l24Join_0, hb35, cL]
    exact ⟨p_l.length - (k6 + 1), oM, k6 + 1, (x14 ++ p_by) ++ (p_l.getD k6 d_Str), rfl, hlt33, oM, rfl, rfl, rfl, rfl, rfl, hf29, hf30, Bl, (loopM.cont hlt33 hB39).symm.trans hI22⟩
   ·have hb35p := dec_f hb35
    refine CW.cond_f rfl hb35 (CW.skip (tn (CW.region (sM rfl (sM rfl ?_)))))
    have hol40 : (p_l.getD k6 d_Str).length ≤ 1073741824 := (okL.getD o2 ok_d_Str _)
    refine sd rfl (yl_sadd (a := x14) (b := (p_l.getD k6 d_Str)) rfl rfl rfl Bl (sA rfl (SeqR.done (bn (tn (CW.region (sd rfl (yl_inc rfl rfl rfl oM (sM rfl (SeqR.done ?_))))))))))
    refine tn ?_
    have hB41 : B_s_l24Join_0 p_l p_by k6 (x14) = .cont (x14 ++ (p_l.getD k6 d_Str)) := by simp only [B_s_l24Join_0, hb35, cL]
    exact ⟨p_l.length - (k6 + 1), oM, k6 + 1, x14 ++ (p_l.getD k6 d_Str), rfl, hlt33, oM, rfl, rfl, rfl, rfl, rfl, hf29, hf30, Bl, (loopM.cont hlt33 hB41).symm.trans hI22⟩
  ·refine cR (sd rfl (yl_lss rfl rfl rfl (dn (CW.seq (CW.cond_f rfl (lt_f hlt33) (CW.exit (tx ?_)))))))
   refine tx ?_
   have hL42 : loopM (B_s_l24Join_0 p_l p_by) (p_l.length - 0) 0 (([] : Str)) = .done (x14) := hI22.symm.trans (loopM.stop hlt33)
   refine bx (tn (cR (sM rfl (sA rfl (dn (CW.ret ?_))))))
   refine rr rfl (.cons rfl .nil) ?_
   have hM43 : (s_l24Join p_l p_by) = (x14) := by simp only [s_l24Join, hL42, cL]
   rw [hM43]
   exact ⟨rfl, hf30⟩
theorem c_s_l1Num {w : World} (p_n : Int) (pre0 : (0 ≤ p_n ∧ p_n ≤ 9)) : Cal Tryz.prog 73 #[.int .i64 (p_n)] w fun v w' => v = .string (bs ((s_l1Num p_n))) ∧ okS (s_l1Num p_n) ∧ Ex w w' := by
 refine Cal.of func73 rfl ntmps73 rfl (cR (sA rfl (dn (CW.seq (cR ?_)))))
 refine sM rfl (sd rfl (yl_lss rfl rfl rfl (dn (CW.cond_t rfl (decide_eq_true oM) (cR (sM rfl (sd rfl (yl_add rfl rfl rfl ?_))))))))
 refine sd rfl (yl_conv un3 un5 rfl rfl (sd rfl (yl_buildSlice (cs := [.int .u8 (IntKind.wrap .u8 (IntKind.wrap .i64 (48 + p_n)))]) un22 ty5 (by decide) rfl (oc rfl oz) (by kernel_rfl) ?_)))
 intro b1 w2 hs3 hz4 hB5 hE6
 have hO7 : OwnL w2 b1 (b1 + 1) 5 1 (RF e_U8) (some ⟨b1, 0, none⟩) 1 1 ([IntKind.wrap .u8 (IntKind.wrap .i64 (48 + p_n))] : List Int) := OwnL.of_box (S := fun _ => False) hB5 (Nat.le_refl _) (Nat.lt_succ_self _) (EncL.cons (c := [.int .u8 (IntKind.wrap .u8 (IntKind.wrap .i64 (48 + p_n)))]) rfl rfl EncL.nil) (nb rfl) (fun h => h) (fun _ h => False.elim h)
 refine sd rfl (yl_toS un22 un5 un9 rfl rfl (OwnL.rd gU hO7) (sA rfl (dn (CW.ret (tr (rr rfl (.cons rfl .nil) ?_))))))
 have hM9 : (s_l1Num p_n) = (toS ([IntKind.wrap .u8 (IntKind.wrap .i64 (48 + p_n))] : List Int)) := by simp only [s_l1Num, cL]
 rw [hM9]
 exact ⟨rfl, (okS_toS (nb rfl)), (Ex.trans (Ex.refl w) hE6)⟩
theorem c_s_l24Text {A1 : Option Addr} {c1 : Nat} {A2 : Option Addr} {c2 : Nat} {w : World} (p_t : DTable) (h1 : RdS w (Iv 0 w.heap.size) (RF e_Str) 1 A1 p_t.Cols.length c1 p_t.Cols) (h2 : RdS w (Iv 0 w.heap.size) (RF e_Idx) 3 A2 p_t.Idxs.length c2 p_t.Idxs) (o3 : ok_Table p_t) (pre0 : s_GoodTable p_t = true) : Cal Tryz.prog 55 #[.agg #[.string (bs (p_t.Name)), .slice A1 p_t.Cols.length c1, .slice A2 p_t.Idxs.length c2]] w fun v w' => v = .string (bs ((s_l24Text p_t))) ∧ Ex w w' := by
 have hol4 : p_t.Name.length ≤ 1073741824 := o3.1
 have hol5 := o3.2.1.1
 have hol6 := o3.2.2.1
 have hgt := f_s_GoodTable pre0
 have hgn := gt_name pre0
 have hjc := join_cols pre0
 rw [← Join_eq] at hjc
 refine Cal.of func55 rfl ntmps55 rfl (cR (sd rfl (yl_box rfl rfl rfl ?_)))
 intro b7 w8 hs9 hz10 hB11 hE12
 refine sA rfl (dn (CW.seq ?_))
 have hol13 : p_t.Name.length ≤ 1073741824 := o3.1
 have q14 := RdS.ex gS h1 hE12
 have hol16 : p_t.Name.length ≤ 1073741824 := o3.1
 have hol17 : p_t.Name.length ≤ 1073741824 := o3.1
 refine drI 9 [.pointer (some ⟨b7, 0 + 0, none⟩), .string (bs (p_t.Name)), .string (bs (p_t.Name ++ ([40] : Str))), .pointer (some ⟨b7, 0 + 1, none⟩), .slice A1 p_t.Cols.length c1, .string (bs ((s_l24Join p_t.Cols ([44] : Str)))), .string (bs ((p_t.Name ++ ([40] : Str)) ++ (s_l24Join p_t.Cols ([44] : Str)))), .string (bs (((p_t.Name ++ ([40] : Str)) ++ (s_l24Join p_t.Cols ([44] : Str))) ++ ([41] : Str))), .string (bs (((p_t.Name ++ ([40] : Str)) ++ (s_l24Join p_t.Cols ([44] : Str))) ++ ([41] : Str)))] Tryz.follows rfl ⟨?_, ?_, ?_, ?_, ?_, ?_, ?_, ?_, ?_, trivial⟩ ?_
 ·exact oI rfl fun h => yl_fieldAddr fd26_0 rfl (h.old 1 _ rfl rfl) kI
 ·exact oI rfl fun h => yl_load1 ty9 rfl (h.dt 0 6 rfl rfl rfl) (((Box.ex hB11 h.ex).cell 0).trans rfl) kI
 ·intro L29 w30 hi31
  have hE32 := hi31.ex
  have hE32z := Ex.size hE32
  have hol34 : p_t.Name.length ≤ 1073741824 := o3.1
  exact os rfl ((yl_sadd (a := p_t.Name) (b := ([40] : Str)) rfl (hi31.dt 1 7 rfl rfl rfl) rfl Bl kI))
 ·exact oI rfl fun h => yl_fieldAddr fd26_1 rfl (h.old 1 _ rfl rfl) kI
 ·exact oI rfl fun h => yl_load1 ty23 rfl (h.dt 3 9 rfl rfl rfl) (((Box.ex hB11 h.ex).cell 1).trans rfl) kI
 ·intro L46 w47 hi48
  have hE49 := hi48.ex
  exact OpR.op' rfl (yC en72 rfl (oc (hi48.dt 4 10 rfl rfl rfl) (oc rfl oz)) (Cal.mono (c_s_l24Join p_t.Cols ([44] : Str) (RdS.up (RdS.ex gS q14 hE49) gS) o3.2.1 (okS.lit rfl)) fun _ _ h => h))
 ·intro L55 w56 hi57
  have hE58 := hi57.ex
  have hE58z := Ex.size hE58
  have hol61 : p_t.Name.length ≤ 1073741824 := o3.1
  exact os rfl ((yl_sadd (a := (p_t.Name ++ ([40] : Str))) (b := (s_l24Join p_t.Cols ([44] : Str))) rfl (hi57.dt 2 8 rfl rfl rfl) (hi57.dt 5 11 rfl rfl rfl) Bl kI))
 ·intro L62 w63 hi64
  have hE65 := hi64.ex
  have hE65z := Ex.size hE65
  have hol67 : p_t.Name.length ≤ 1073741824 := o3.1
  exact os rfl ((yl_sadd (a := ((p_t.Name ++ ([40] : Str)) ++ (s_l24Join p_t.Cols ([44] : Str)))) (b := ([41] : Str)) rfl (hi64.dt 6 12 rfl rfl rfl) rfl Bl kI))
 ·exact oI rfl fun h => yA rfl (h.dt 7 13 rfl rfl rfl) kI
 ·intro fl76 fh77 L73 w74 hp75
  have hE78 := hp75.ex
  have hE78z := Ex.size hE78
  refine dn (CW.sub (sC 1 (hp75.old 1 _ rfl rfl) (sC 3 (hp75.nt 8 3 rfl rfl rfl) (Sub.nil _))) (CW.seq (cR (sd rfl (yl_fieldAddr fd26_2 rfl rfl ?_)))))
  have q81 := Box.ex hB11 hE78
  refine sd rfl (yl_load1 ty24 rfl rfl ((q81.cell 2).trans rfl) (sd rfl (yL un24 rfl rfl (sM rfl (dn (CW.block (CW.loop (fun m132 L133 w134 => ∃ (k82 : Nat) (x131 : Str), m132 = p_t.Idxs.length - k82 ∧ k82 ≤ p_t.Idxs.length ∧ w74.heap.size ≤ w134.heap.size ∧ lkp L133 1 = some (.pointer (some ⟨b7, 0, none⟩)) ∧ lkp L133 3 = some (.string (bs (x131))) ∧ lkp L133 15 = some (.slice A2 p_t.Idxs.length c2) ∧ lkp L133 16 = some (.int .i64 ((p_t.Idxs.length : Int))) ∧ lkp L133 17 = some (.int .i64 ((k82 : Int))) ∧ Box w134 b7 26 [.string (bs (p_t.Name)), .slice A1 p_t.Cols.length c1, .slice A2 p_t.Idxs.length c2] ∧ RdS w134 (Iv 0 w.heap.size) (RF e_Str) 1 A1 p_t.Cols.length c1 p_t.Cols ∧ RdS w134 (Iv 0 w.heap.size) (RF e_Idx) 3 A2 p_t.Idxs.length c2 p_t.Idxs ∧ Ex w w134 ∧ x131.length ≤ p_t.Name.length + 1 + (s_l24Join p_t.Cols ([44] : Str)).length + 1 + 8589934592 * (k82 - 0) ∧ loopM (B_s_l24Text_0 p_t) (p_t.Idxs.length - k82) k82 (x131) = loopM (B_s_l24Text_0 p_t) (p_t.Idxs.length - 0) 0 (((p_t.Name ++ ([40] : Str)) ++ (s_l24Join p_t.Cols ([44] : Str))) ++ ([41] : Str))) (p_t.Idxs.length - 0) ?_ ?_)))))))
  ·exact ⟨0, ((p_t.Name ++ ([40] : Str)) ++ (s_l24Join p_t.Cols ([44] : Str))) ++ ([41] : Str), rfl, oM, Nat.le_refl _, rfl, rfl, rfl, rfl, rfl, q81, (RdS.ex gS q14 hE78), (RdS.ex gI (RdS.ex gI h2 hE12) hE78), (Ex.trans (Ex.trans (Ex.refl w) hE12) hE78), (by first | (simp; done) | (first | omega | (simp only [lN, toS_length]; omega))), rfl⟩
  ·rintro m140 L141 w142 ⟨k82, x131, rfl, hk143, hsz145, hl146, hl147, hl148, hl149, hl150, hf151, hf152, hf153, hf154, hln155, hI144⟩
   refine CW.sub (Sub.cons hl146 (Sub.cons hl147 (Sub.cons hl148 (Sub.cons hl149 (Sub.cons hl150 (Sub.nil _)))))) ?_
   have hf151z := Box.lt hf151
   have hf154z := Ex.size hf154
   have hbg156 := RdS.big hf153
   rcases Nat.lt_or_ge k82 p_t.Idxs.length with hlt157 | hlt157
   ·have hgi := gt_idx pre0 hlt157
    refine cR (sd rfl (yl_lss rfl rfl rfl (dn (CW.seq (CW.cond_t rfl (lt_t hlt157) (CW.skip (tn ?_)))))))
    refine CW.seq (CW.block (cR ?_))
    obtain ⟨eb158, eo158, _, eA158, _, ebl158, _, eR158, eC158⟩ := RdS.aD hf153 d_Idx (i := k82)
    obtain rfl := eR158
    have eC158 : Cells w142 eb158 (eo158 + k82 * 3) [.string (bs ((p_t.Idxs.getD k82 d_Idx).Name)), .int .i64 ((p_t.Idxs.getD k82 d_Idx).Col), .int .i64 ((p_t.Idxs.getD k82 d_Idx).Stage)] := eC158
    refine sd rfl (yl_ixN un24 ty35 rfl rfl rfl eA158 (sd rfl (yl_loadN ty35 rfl rfl eC158 rfl (sd rfl (yB ty35 (cs := [.string (bs (([] : Str))), .int .i64 (0), .int .i64 (0)]) rfl rfl ?_)))))
    intro b159 w160 hs161 hz162 hB163 hE164
    refine SeqR.u rfl rfl (yl_store (vs := [.string (bs ((p_t.Idxs.getD k82 d_Idx).Name)), .int .i64 ((p_t.Idxs.getD k82 d_Idx).Col), .int .i64 ((p_t.Idxs.getD k82 d_Idx).Stage)]) ty35 rfl rfl rfl rfl rfl rfl hB163 (nb rfl) ?_)
    intro w165 hB166 hO167
    have hB166 : Box w165 b159 35 [.string (bs ((p_t.Idxs.getD k82 d_Idx).Name)), .int .i64 ((p_t.Idxs.getD k82 d_Idx).Col), .int .i64 ((p_t.Idxs.getD k82 d_Idx).Stage)] := hB166
    have hO167z := hO167.size
    refine dn ?_
    have hol168 : ((p_t.Idxs.getD k82 d_Idx).Name).length ≤ 1073741824 := (okL.getD o3.2.2 ok_d_Idx _)
    have hol169 : ((p_t.Idxs.getD k82 d_Idx).Name).length ≤ 1073741824 := (okL.getD o3.2.2 ok_d_Idx _)
    have q171 := Box.only (Box.ex hf151 hE164) hO167 oM
    have q173 := RdS.only gS (RdS.ex gS hf152 hE164) hO167 (by simp only [Iv]; omega)
    obtain ⟨eb174, eo174, _, eA174, _, ebl174, _, eR174, eC174⟩ := RdS.atD q173 d_Str (i := ((p_t.Idxs.getD k82 d_Idx).Col).toNat) Bo
    obtain rfl := eR174
    have eC174 : Cells w165 eb174 (eo174 + (((p_t.Idxs.getD k82 d_Idx).Col).toNat) * 1) [.string (bs ((p_t.Cols.getD (((p_t.Idxs.getD k82 d_Idx).Col).toNat) d_Str)))] := eC174
    have hol175 : ((p_t.Idxs.getD k82 d_Idx).Name).length ≤ 1073741824 := (okL.getD o3.2.2 ok_d_Idx _)
    have hol176 : (p_t.Cols.getD (((p_t.Idxs.getD k82 d_Idx).Col).toNat) d_Str).length ≤ 1073741824 := (okL.getD o3.2.1 ok_d_Str _)
    have hol177 : ((p_t.Idxs.getD k82 d_Idx).Name).length ≤ 1073741824 := (okL.getD o3.2.2 ok_d_Idx _)
    have hol178 : (p_t.Cols.getD (((p_t.Idxs.getD k82 d_Idx).Col).toNat) d_Str).length ≤ 1073741824 := (okL.getD o3.2.1 ok_d_Str _)
    have hol181 : ((p_t.Idxs.getD k82 d_Idx).Name).length ≤ 1073741824 := (okL.getD o3.2.2 ok_d_Idx _)
    have hol182 : (p_t.Cols.getD (((p_t.Idxs.getD k82 d_Idx).Col).toNat) d_Str).length ≤ 1073741824 := (okL.getD o3.2.1 ok_d_Str _)
    have hol183 : ((p_t.Idxs.getD k82 d_Idx).Name).length ≤ 1073741824 := (okL.getD o3.2.2 ok_d_Idx _)
    have hol184 : (p_t.Cols.getD (((p_t.Idxs.getD k82 d_Idx).Col).toNat) d_Str).length ≤ 1073741824 := (okL.getD o3.2.1 ok_d_Str _)
    have hrf185 := rf_l1Num ((p_t.Idxs.getD k82 d_Idx).Stage)
    refine CW.drawsI 19 (vgetI [DetI (.string (bs (x131))), DetI (.pointer (some ⟨b159, 0 + 0, none⟩)), DetI (.string (bs ((p_t.Idxs.getD k82 d_Idx).Name))), DetI (.string (bs (([32] : Str) ++ ((p_t.Idxs.getD k82 d_Idx).Name)))), DetI (.string (bs ((([32] : Str) ++ ((p_t.Idxs.getD k82 d_Idx).Name)) ++ ([47] : Str)))), DetI (.pointer (some ⟨b7, 0 + 1, none⟩)), DetI (.slice A1 p_t.Cols.length c1), DetI (.pointer (some ⟨b159, 0 + 1, none⟩)), DetI (.int .i64 ((p_t.Idxs.getD k82 d_Idx).Col)), DetI (.pointer (some ⟨eb174, eo174 + (((p_t.Idxs.getD k82 d_Idx).Col).toNat) * 1, none⟩)), DetI (.string (bs ((p_t.Cols.getD (((p_t.Idxs.getD k82 d_Idx).Col).toNat) d_Str)))), DetI (.string (bs (((([32] : Str) ++ ((p_t.Idxs.getD k82 d_Idx).Name)) ++ ([47] : Str)) ++ (p_t.Cols.getD (((p_t.Idxs.getD k82 d_Idx).Col).toNat) d_Str)))), DetI (.string (bs ((((([32] : Str) ++ ((p_t.Idxs.getD k82 d_Idx).Name)) ++ ([47] : Str)) ++ (p_t.Cols.getD (((p_t.Idxs.getD k82 d_Idx).Col).toNat) d_Str)) ++ ([47] : Str)))), DetI (.pointer (some ⟨b159, 0 + 2, none⟩)), DetI (.int .i64 ((p_t.Idxs.getD k82 d_Idx).Stage)), fun lo hi v wq => v = .string (bs ((s_l1Num ((p_t.Idxs.getD k82 d_Idx).Stage)))) ∧ okS (s_l1Num ((p_t.Idxs.getD k82 d_Idx).Stage)), DetI (.string (bs (((((([32] : Str) ++ ((p_t.Idxs.getD k82 d_Idx).Name)) ++ ([47] : Str)) ++ (p_t.Cols.getD (((p_t.Idxs.getD k82 d_Idx).Col).toNat) d_Str)) ++ ([47] : Str)) ++ (s_l1Num ((p_t.Idxs.getD k82 d_Idx).Stage))))), DetI (.string (bs (x131 ++ (((((([32] : Str) ++ ((p_t.Idxs.getD k82 d_Idx).Name)) ++ ([47] : Str)) ++ (p_t.Cols.getD (((p_t.Idxs.getD k82 d_Idx).Col).toNat) d_Str)) ++ ([47] : Str)) ++ (s_l1Num ((p_t.Idxs.getD k82 d_Idx).Stage)))))), DetI (.string (bs (x131 ++ (((((([32] : Str) ++ ((p_t.Idxs.getD k82 d_Idx).Name)) ++ ([47] : Str)) ++ (p_t.Cols.getD (((p_t.Idxs.getD k82 d_Idx).Col).toNat) d_Str)) ++ ([47] : Str)) ++ (s_l1Num ((p_t.Idxs.getD k82 d_Idx).Stage))))))]) Tryz.follows rfl rfl rfl rfl rfl rfl (vgetI_stable ⟨StableI.det _, StableI.det _, StableI.det _, StableI.det _, StableI.det _, StableI.det _, StableI.det _, StableI.det _, StableI.det _, StableI.det _, StableI.det _, StableI.det _, StableI.det _, StableI.det _, StableI.det _, (fun _ _ _ _ _ ⟨hv, ho180⟩ e => ⟨hv, ho180⟩), StableI.det _, StableI.det _, StableI.det _, trivial⟩) ⟨?_, ?_, ?_, ?_, ?_, ?_, ?_, ?_, ?_, ?_, ?_, ?_, ?_, ?_, ?_, ?_, ?_, ?_, ?_, trivial⟩ ?_
    ·exact oI rfl fun h => yM rfl (h.old 3 _ rfl rfl) kI
    ·exact oI rfl fun h => yl_fieldAddr fd35_0 rfl (h.old 5 _ rfl rfl) kI
    ·exact oI rfl fun h => yl_load1 ty9 rfl (h.dt 1 22 rfl rfl rfl) (((Box.ex hB166 h.ex).cell 0).trans rfl) kI
    ·intro L202 w203 hi204
     have hE205 := hi204.ex
     have hE205z := Ex.size hE205
     have hol207 : ((p_t.Idxs.getD k82 d_Idx).Name).length ≤ 1073741824 := (okL.getD o3.2.2 ok_d_Idx _)
     exact os rfl ((yl_sadd (a := ([32] : Str)) (b := ((p_t.Idxs.getD k82 d_Idx).Name)) rfl rfl (hi204.dt 2 23 rfl rfl rfl) Bl kI))
    ·intro L208 w209 hi210
     have hE211 := hi210.ex
     have hE211z := Ex.size hE211
     have hol213 : ((p_t.Idxs.getD k82 d_Idx).Name).length ≤ 1073741824 := (okL.getD o3.2.2 ok_d_Idx _)
     exact os rfl ((yl_sadd (a := (([32] : Str) ++ ((p_t.Idxs.getD k82 d_Idx).Name))) (b := ([47] : Str)) rfl (hi210.dt 3 24 rfl rfl rfl) rfl Bl kI))
    ·exact oI rfl fun h => yl_fieldAddr fd26_1 rfl (h.old 1 _ rfl rfl) kI
    ·exact oI rfl fun h => yl_load1 ty23 rfl (h.dt 5 26 rfl rfl rfl) (((Box.ex q171 h.ex).cell 1).trans rfl) kI
    ·exact oI rfl fun h => yl_fieldAddr fd35_1 rfl (h.old 5 _ rfl rfl) kI
    ·exact oI rfl fun h => yl_load1 ty3 rfl (h.dt 7 28 rfl rfl rfl) (((Box.ex hB166 h.ex).cell 1).trans rfl) kI
    ·intro L236 w237 hi238
     have hE239 := hi238.ex
     have hE239z := Ex.size hE239
     exact os rfl ((yl_indexAddr un23 ty9 rfl (hi238.dt 6 27 rfl rfl rfl) (hi238.dt 8 29 rfl rfl rfl) eA174 Bo Bo kI))
    ·exact oI rfl fun h => yl_load1 ty9 rfl (h.dt 9 30 rfl rfl rfl) ((Cells.ex eC174 h.ex) 0 _ rfl) kI
    ·intro L248 w249 hi250
     have hE251 := hi250.ex
     have hE251z := Ex.size hE251
     have hol254 : ((p_t.Idxs.getD k82 d_Idx).Name).length ≤ 1073741824 := (okL.getD o3.2.2 ok_d_Idx _)
     have hol255 : (p_t.Cols.getD (((p_t.Idxs.getD k82 d_Idx).Col).toNat) d_Str).length ≤ 1073741824 := (okL.getD o3.2.1 ok_d_Str _)
     exact os rfl ((yl_sadd (a := ((([32] : Str) ++ ((p_t.Idxs.getD k82 d_Idx).Name)) ++ ([47] : Str))) (b := (p_t.Cols.getD (((p_t.Idxs.getD k82 d_Idx).Col).toNat) d_Str)) rfl (hi250.dt 4 25 rfl rfl rfl) (hi250.dt 10 31 rfl rfl rfl) Bl kI))
    ·intro L256 w257 hi258
     have hE259 := hi258.ex
     have hE259z := Ex.size hE259
     have hol261 : ((p_t.Idxs.getD k82 d_Idx).Name).length ≤ 1073741824 := (okL.getD o3.2.2 ok_d_Idx _)
     have hol262 : (p_t.Cols.getD (((p_t.Idxs.getD k82 d_Idx).Col).toNat) d_Str).length ≤ 1073741824 := (okL.getD o3.2.1 ok_d_Str _)
     exact os rfl ((yl_sadd (a := (((([32] : Str) ++ ((p_t.Idxs.getD k82 d_Idx).Name)) ++ ([47] : Str)) ++ (p_t.Cols.getD (((p_t.Idxs.getD k82 d_Idx).Col).toNat) d_Str))) (b := ([47] : Str)) rfl (hi258.dt 11 32 rfl rfl rfl) rfl Bl kI))
    ·exact oI rfl fun h => yl_fieldAddr fd35_2 rfl (h.old 5 _ rfl rfl) kI
    ·exact oI rfl fun h => yl_load1 ty3 rfl (h.dt 13 34 rfl rfl rfl) (((Box.ex hB166 h.ex).cell 2).trans rfl) kI
    ·intro L274 w275 hi276
     have hE277 := hi276.ex
     have hE277z := Ex.size hE277
     refine OpR.op' rfl (yC en73 rfl (oc (hi276.dt 14 35 rfl rfl rfl) oz) (Cal.mono (c_s_l1Num ((p_t.Idxs.getD k82 d_Idx).Stage) Bo) ?_))
     rintro v281 w279 ⟨rfl, ho280, hE282⟩
     exact ⟨⟨rfl, ho280⟩, hE282⟩
    ·intro L283 w284 hi285
     have hE286 := hi285.ex
     have hE286z := Ex.size hE286
     obtain ⟨lo289, hh290, _, hx288, hr291, hr292, hr293, rfl, h294⟩ := hi285.dep 15 36 rfl rfl
     have hol295 : ((p_t.Idxs.getD k82 d_Idx).Name).length ≤ 1073741824 := (okL.getD o3.2.2 ok_d_Idx _)
     have hol296 : (p_t.Cols.getD (((p_t.Idxs.getD k82 d_Idx).Col).toNat) d_Str).length ≤ 1073741824 := (okL.getD o3.2.1 ok_d_Str _)
     have hol297 : (s_l1Num ((p_t.Idxs.getD k82 d_Idx).Stage)).length ≤ 1073741824 := h294
     exact os rfl ((yl_sadd (a := ((((([32] : Str) ++ ((p_t.Idxs.getD k82 d_Idx).Name)) ++ ([47] : Str)) ++ (p_t.Cols.getD (((p_t.Idxs.getD k82 d_Idx).Col).toNat) d_Str)) ++ ([47] : Str))) (b := (s_l1Num ((p_t.Idxs.getD k82 d_Idx).Stage))) rfl (hi285.dt 12 33 rfl rfl rfl) hx288 Bl kI))
    ·intro L298 w299 hi300
     have hE301 := hi300.ex
     have hE301z := Ex.size hE301
     have hol304 : ((p_t.Idxs.getD k82 d_Idx).Name).length ≤ 1073741824 := (okL.getD o3.2.2 ok_d_Idx _)
     have hol305 : (p_t.Cols.getD (((p_t.Idxs.getD k82 d_Idx).Col).toNat) d_Str).length ≤ 1073741824 := (okL.getD o3.2.1 ok_d_Str _)
     exact os rfl ((yl_sadd (a := x131) (b := (((((([32] : Str) ++ ((p_t.Idxs.getD k82 d_Idx).Name)) ++ ([47] : Str)) ++ (p_t.Cols.getD (((p_t.Idxs.getD k82 d_Idx).Col).toNat) d_Str)) ++ ([47] : Str)) ++ (s_l1Num ((p_t.Idxs.getD k82 d_Idx).Stage)))) rfl (hi300.dt 0 21 rfl rfl rfl) (hi300.dt 16 37 rfl rfl rfl) Bl kI))
    ·exact oI rfl fun h => yA rfl (h.dt 17 38 rfl rfl rfl) kI
    ·intro fl314 fh315 L311 w312 hp313
     have hE316 := hp313.ex
     have hE316z := Ex.size hE316
     refine SeqR.done (bn (tn (CW.sub (sC 1 (hp313.old 1 _ rfl rfl) (sC 3 (hp313.nt 18 3 rfl rfl rfl) (sC 15 (hp313.old 15 _ rfl rfl) (sC 16 (hp313.old 16 _ rfl rfl) (sC 17 (hp313.old 17 _ rfl rfl) (Sub.nil _)))))) (CW.region (sd rfl (yl_inc rfl rfl rfl oM (sM rfl (dn ?_))))))))
     have hB322 : B_s_l24Text_0 p_t k82 (x131) = .cont (x131 ++ (((((([32] : Str) ++ ((p_t.Idxs.getD k82 d_Idx).Name)) ++ ([47] : Str)) ++ (p_t.Cols.getD (((p_t.Idxs.getD k82 d_Idx).Col).toNat) d_Str)) ++ ([47] : Str)) ++ (s_l1Num ((p_t.Idxs.getD k82 d_Idx).Stage)))) := by simp only [B_s_l24Text_0, cL]
     exact ⟨p_t.Idxs.length - (k82 + 1), oM, k82 + 1, x131 ++ (((((([32] : Str) ++ ((p_t.Idxs.getD k82 d_Idx).Name)) ++ ([47] : Str)) ++ (p_t.Cols.getD (((p_t.Idxs.getD k82 d_Idx).Col).toNat) d_Str)) ++ ([47] : Str)) ++ (s_l1Num ((p_t.Idxs.getD k82 d_Idx).Stage))), rfl, hlt157, oM, rfl, rfl, rfl, rfl, rfl, (Box.ex q171 hE316), (RdS.ex gS q173 hE316), (RdS.ex gI (RdS.only gI (RdS.ex gI hf153 hE164) hO167 (by simp only [Iv]; omega)) hE316), (Ex.trans (Below.only (Ex.trans hf154 hE164) hO167 oM) hE316), Bl, (loopM.cont hlt157 hB322).symm.trans hI144⟩
   ·refine cR (sd rfl (yl_lss rfl rfl rfl (dn (CW.seq (CW.cond_f rfl (lt_f hlt157) (CW.exit (tx ?_)))))))
    refine tx ?_
    have hL331 : loopM (B_s_l24Text_0 p_t) (p_t.Idxs.length - 0) 0 (((p_t.Name ++ ([40] : Str)) ++ (s_l24Join p_t.Cols ([44] : Str))) ++ ([41] : Str)) = .done (x131) := hI144.symm.trans (loopM.stop hlt157)
    refine bx (tn (cR (sM rfl (sA rfl (dn (CW.ret ?_))))))
    refine rr rfl (.cons rfl .nil) ?_
    have hM332 : (s_l24Text p_t) = (x131) := by simp only [s_l24Text, hL331, cL]
    rw [hM332]
    exact ⟨rfl, hf154⟩
theorem c_u_spoilt {A3 : Option Addr} {c3 : Nat} {slo3 shi3 : Nat} {b1 : Nat} {w : World} (pC : List Int) (p_0 : Int × Int) (p_1 : Str) (p_2 : Str) (h2 : Box w b1 78 [.slice A3 pC.length c3, .int .i64 (p_0.1), .int .u64 (p_0.2)]) (h3 : RdS w (Iv slo3 shi3) (RF e_U8) 1 A3 pC.length c3 pC) (hrn4 : shi3 ≤ w.heap.size) (hrn5 : b1 < slo3 ∨ shi3 ≤ b1) (o6 : (okL okT) pC) (o7 : okS p_1) (o8 : okS p_2) (pre0 : p_1.length ≤ 1000) (pre1 : 0 < p_2.length) (pre2 : (0 ≤ p_0.1 ∧ p_0.1 ≤ 4611686018427387888)) (pre3 : codeOk pC) : Cal Tryz.prog 56 #[.pointer (some ⟨b1, 0, none⟩), .string (bs (p_1)), .string (bs (p_2))] w fun v w' => v = .string (bs ((u_spoilt pC p_0 p_1 p_2).1)) ∧ okS ((u_spoilt pC p_0 p_1 p_2).1) ∧ (p_0.1 ≤ ((u_spoilt pC p_0 p_1 p_2).2).1 ∧ ((u_spoilt pC p_0 p_1 p_2).2).1 ≤ p_0.1 + 16) ∧ Box w' b1 78 [.slice A3 pC.length c3, .int .i64 (((u_spoilt pC p_0 p_1 p_2).2).1), .int .u64 (((u_spoilt pC p_0 p_1 p_2).2).2)] ∧ Chg (InR [(b1, b1 + 1)]) w w' := by
 have hol9 := o6.1
 have hbx10 := Box.lt h2
 have hol11 : p_1.length ≤ 1073741824 := o7
 have hol12 : p_2.length ≤ 1073741824 := o8
 refine Cal.of func56 rfl ntmps56 rfl (cR (sA rfl (dn (CW.seq (cR ?_)))))
 refine sM rfl (sd rfl (yC en50 rfl (oc rfl (oc rfl oz)) (Cal.mono (c_u_pick pC p_0 2 h2 h3 oM oM o6 oM (by assumption)) ?_)))
 rintro v16 w13 ⟨rfl, hp14, hp15, hB18, hc17⟩
 have hc17z := Chg.size hc17
 have hB18z := Box.lt hB18
 refine sd rfl (yl_add rfl rfl rfl (sA rfl (dn (CW.block (CW.loop (fun m112 L113 w114 => ∃ (x108 : Str) (x109 : Int) (x110 : Int) (x111 : Int), ((x109).toNat) < m112 ∧ w13.heap.size ≤ w114.heap.size ∧ lkp L113 0 = some (.pointer (some ⟨b1, 0, none⟩)) ∧ lkp L113 1 = some (.string (bs (x108))) ∧ lkp L113 2 = some (.string (bs (p_2))) ∧ lkp L113 7 = some (.int .i64 (x109)) ∧ Box w114 b1 78 [.slice A3 pC.length c3, .int .i64 (x110), .int .u64 (x111)] ∧ RdS w114 (Iv slo3 shi3) (RF e_U8) 1 A3 pC.length c3 pC ∧ Chg (InR [(b1, b1 + 1)]) w w114 ∧ x108.length + 1 * ((x109).toNat) ≤ p_1.length + 1 * ((IntKind.wrap .i64 (1 + ((u_pick pC p_0 2).1))).toNat) ∧ (((x108.length : Nat) : Int) + x109 ≤ (p_1.length : Int) + 2) ∧ (p_0.1 ≤ x110 ∧ x110 + 6 * x109 ≤ p_0.1 + 14) ∧ (0 ≤ x109 ∧ x109 ≤ 2) ∧ loopW (B_u_spoilt_0 pC p_0 p_1 p_2) m112 (x108, x109, x110, x111) = loopW (B_u_spoilt_0 pC p_0 p_1 p_2) (((IntKind.wrap .i64 (1 + ((u_pick pC p_0 2).1))).toNat) + 1) (p_1, IntKind.wrap .i64 (1 + ((u_pick pC p_0 2).1)), ((u_pick pC p_0 2).2).1, ((u_pick pC p_0 2).2).2)) (((IntKind.wrap .i64 (1 + ((u_pick pC p_0 2).1))).toNat) + 1) ?_ ?_)))))
 ·exact ⟨p_1, IntKind.wrap .i64 (1 + ((u_pick pC p_0 2).1)), ((u_pick pC p_0 2).2).1, ((u_pick pC p_0 2).2).2, Nat.lt_succ_self _, Nat.le_refl _, rfl, rfl, rfl, rfl, hB18, (RdS.chg gU h3 hc17 Bi), (Chg.tchg (Chg.refl (InR [(b1, b1 + 1)]) w) hc17 (fun k hk => by simp only [InR, or_false] at hk ⊢; omega)), (by first | (simp; done) | (first | omega | assumption | (simp only [List.length_append, List.length_take, List.length_drop, List.length_cons, List.length_nil, toS_length, wI]; omega) | (simp only [List.length_append, List.length_take, List.length_drop, List.length_cons, List.length_nil, toS_length, wI] at *; omega))), (by first | omega | assumption | (simp only [List.length_append, List.length_take, List.length_drop, List.length_cons, List.length_nil, toS_length, wI]; omega) | (simp only [List.length_append, List.length_take, List.length_drop, List.length_cons, List.length_nil, toS_length, wI] at *; omega)), (by first | omega | assumption | (simp only [List.length_append, List.length_take, List.length_drop, List.length_cons, List.length_nil, toS_length, wI]; omega) | (simp only [List.length_append, List.length_take, List.length_drop, List.length_cons, List.length_nil, toS_length, wI] at *; omega)), (by first | omega | assumption | (simp only [List.length_append, List.length_take, List.length_drop, List.length_cons, List.length_nil, toS_length, wI]; omega) | (simp only [List.length_append, List.length_take, List.length_drop, List.length_cons, List.length_nil, toS_length, wI] at *; omega)), rfl⟩
 ·rintro m117 L118 w119 ⟨x108, x109, x110, x111, hk120, hsz122, hl123, hl124, hl125, hl126, hf127, hf128, hf129, hln130, hv131, hv132, hv133, hI121⟩
  refine CW.sub (Sub.cons hl123 (Sub.cons hl124 (Sub.cons hl125 (Sub.cons hl126 (Sub.nil _))))) ?_
  have hf127z := Box.lt hf127
  have hf129z := Chg.size hf129
  refine CW.seq (cR (sM rfl (sd rfl (yl_gtr rfl rfl rfl (sM rfl (bcase (decide (0 < x109)) (fun hb134 => ?_) (fun hb134 => ?_)))))))
  ·have hb134p := dec_t hb134
   refine sy rfl rfl hb134 (yM rfl rfl (sy rfl rfl hb134 (yl_slen un9 (a := x108) rfl rfl (sy rfl rfl hb134 (yl_gtr rfl rfl rfl (sd rfl (yl_pick_t rfl rfl hb134 rfl (dn (bcase (decide (0 < (x108.length : Int))) (fun hb135 => ?_) (fun hb135 => ?_))))))))))
   ·have hb135p := dec_t hb135
    refine CW.cond_t rfl hb135 (CW.skip (tn (CW.seq (CW.block (cR (sM rfl (sM rfl ?_)))))))
    refine sd rfl (yl_slen un9 (a := x108) rfl rfl (sd rfl (yC en50 rfl (oc rfl (oc rfl oz)) (Cal.mono (c_u_pick pC (x110, x111) (x108.length : Int) hf127 hf128 oM oM o6 oM (by assumption)) ?_))))
    rintro v139 w136 ⟨rfl, hp137, hp138, hB141, hc140⟩
    have hc140z := Chg.size hc140
    have hB141z := Box.lt hB141
    refine sA rfl (dn (cR (sM rfl (sM rfl (sM rfl (sd rfl (yl_slen un9 (a := p_2) rfl rfl ?_)))))))
    have q142 := RdS.chg gU hf128 hc140 Bi
    refine sd rfl (yC en50 rfl (oc rfl (oc rfl oz)) (Cal.mono (c_u_pick pC ((u_pick pC (x110, x111) (x108.length : Int)).2) (p_2.length : Int) hB141 q142 oM oM o6 oM (by assumption)) ?_))
    rintro v146 w143 ⟨rfl, hp144, hp145, hB148, hc147⟩
    have hc147z := Chg.size hc147
    have hB148z := Box.lt hB148
    refine sd rfl (yl_sindex un9 (a := p_2) rfl rfl rfl Bo Bo (sd rfl (yl_buildSlice (cs := [.int .u8 (((p_2.getD ((u_pick pC ((u_pick pC (x110, x111) (x108.length : Int)).2) (p_2.length : Int)).1).toNat 0).toNat : Int))]) un22 ty5 (by decide) rfl (oc rfl oz) (by kernel_rfl) ?_)))
    intro b149 w150 hs151 hz152 hB153 hE154
    have hO155 : OwnL w150 b149 (b149 + 1) 5 1 (RF e_U8) (some ⟨b149, 0, none⟩) 1 1 ([((p_2.getD ((u_pick pC ((u_pick pC (x110, x111) (x108.length : Int)).2) (p_2.length : Int)).1).toNat 0).toNat : Int)] : List Int) := OwnL.of_box (S := fun _ => False) hB153 (Nat.le_refl _) (Nat.lt_succ_self _) (EncL.cons (c := [.int .u8 (((p_2.getD ((u_pick pC ((u_pick pC (x110, x111) (x108.length : Int)).2) (p_2.length : Int)).1).toNat 0).toNat : Int))]) rfl rfl EncL.nil) (nb rfl) (fun h => h) (fun _ h => False.elim h)
    refine sd rfl (yl_toS un22 un5 un9 rfl rfl (OwnL.rd gU hO155) (sA rfl (dn (cR (sM rfl ?_)))))
    have q159 := RdS.ex gU (RdS.chg gU q142 hc147 Bi) hE154
    refine sd rfl (yC en50 rfl (oc rfl (oc rfl oz)) (Cal.mono (c_u_pick pC ((u_pick pC ((u_pick pC (x110, x111) (x108.length : Int)).2) (p_2.length : Int)).2) 3 (Box.ex hB148 hE154) q159 oM oM o6 oM (by assumption)) ?_))
    rintro v163 w160 ⟨rfl, hp161, hp162, hB165, hc164⟩
    have hc164z := Chg.size hc164
    have hB165z := Box.lt hB165
    refine dn (CW.block (cR (sd rfl (yl_eql rfl rfl rfl (sA rfl (dn ?_))))))
    refine bcase (decide (((u_pick pC ((u_pick pC ((u_pick pC (x110, x111) (x108.length : Int)).2) (p_2.length : Int)).2) 3).1) = 0)) (fun hb166 => ?_) (fun hb166 => ?_)
    ·have hb166p := dec_t hb166
     refine CW.cond_t rfl hb166 ?_
     have hol167 : (x108.take (((u_pick pC (x110, x111) (x108.length : Int)).1).toNat)).length ≤ 1073741824 := (okS.take (by unfold okS; (try dsimp only); omega) _)
     have hol168 : (toS ([((p_2.getD ((u_pick pC ((u_pick pC (x110, x111) (x108.length : Int)).2) (p_2.length : Int)).1).toNat 0).toNat : Int)] : List Int)).length ≤ 1073741824 := (okS_toS (nb rfl))
     have hol169 : (x108.take (((u_pick pC (x110, x111) (x108.length : Int)).1).toNat)).length ≤ 1073741824 := (okS.take (by unfold okS; (try dsimp only); omega) _)
     have hol170 : (toS ([((p_2.getD ((u_pick pC ((u_pick pC (x110, x111) (x108.length : Int)).2) (p_2.length : Int)).1).toNat 0).toNat : Int)] : List Int)).length ≤ 1073741824 := (okS_toS (nb rfl))
     have hol171 : (x108.drop (((u_pick pC (x110, x111) (x108.length : Int)).1).toNat)).length ≤ 1073741824 := (okS.drop (by unfold okS; (try dsimp only); omega) _)
     refine drI 10 [.string (bs (x108)), .int .i64 ((u_pick pC (x110, x111) (x108.length : Int)).1), .string (bs ((x108.take (((u_pick pC (x110, x111) (x108.length : Int)).1).toNat)))), .string (bs (toS ([((p_2.getD ((u_pick pC ((u_pick pC (x110, x111) (x108.length : Int)).2) (p_2.length : Int)).1).toNat 0).toNat : Int)] : List Int))), .string (bs ((x108.take (((u_pick pC (x110, x111) (x108.length : Int)).1).toNat)) ++ (toS ([((p_2.getD ((u_pick pC ((u_pick pC (x110, x111) (x108.length : Int)).2) (p_2.length : Int)).1).toNat 0).toNat : Int)] : List Int)))), .string (bs (x108)), .int .i64 ((u_pick pC (x110, x111) (x108.length : Int)).1), .string (bs ((x108.drop (((u_pick pC (x110, x111) (x108.length : Int)).1).toNat)))), .string (bs (((x108.take (((u_pick pC (x110, x111) (x108.length : Int)).1).toNat)) ++ (toS ([((p_2.getD ((u_pick pC ((u_pick pC (x110, x111) (x108.length : Int)).2) (p_2.length : Int)).1).toNat 0).toNat : Int)] : List Int))) ++ (x108.drop (((u_pick pC (x110, x111) (x108.length : Int)).1).toNat)))), .string (bs (((x108.take (((u_pick pC (x110, x111) (x108.length : Int)).1).toNat)) ++ (toS ([((p_2.getD ((u_pick pC ((u_pick pC (x110, x111) (x108.length : Int)).2) (p_2.length : Int)).1).toNat 0).toNat : Int)] : List Int))) ++ (x108.drop (((u_pick pC (x110, x111) (x108.length : Int)).1).toNat))))] Tryz.follows rfl ⟨?_, ?_, ?_, ?_, ?_, ?_, ?_, ?_, ?_, ?_, trivial⟩ ?_
     ·exact oI rfl fun h => yM rfl (h.old 1 _ rfl rfl) kI
     ·exact oI rfl fun h => yM rfl (h.old 8 _ rfl rfl) kI
     ·intro L182 w183 hi184
      have hE185 := hi184.ex
      have hE185z := Ex.size hE185
      exact os rfl ((yl_sslice_hi un9 (a := x108) (h := ((u_pick pC (x110, x111) (x108.length : Int)).1).toNat) rfl (hi184.dt 0 46 rfl rfl rfl) (toNat_op (hi184.dt 1 47 rfl rfl rfl) Bo) Bo kI))
     ·exact oI rfl fun h => yM rfl (h.old 9 _ rfl rfl) kI
     ·intro L193 w194 hi195
      have hE196 := hi195.ex
      have hE196z := Ex.size hE196
      have hol199 : (x108.take (((u_pick pC (x110, x111) (x108.length : Int)).1).toNat)).length ≤ 1073741824 := (okS.take (by unfold okS; (try dsimp only); omega) _)
      have hol200 : (toS ([((p_2.getD ((u_pick pC ((u_pick pC (x110, x111) (x108.length : Int)).2) (p_2.length : Int)).1).toNat 0).toNat : Int)] : List Int)).length ≤ 1073741824 := (okS_toS (nb rfl))
      exact os rfl ((yl_sadd (a := (x108.take (((u_pick pC (x110, x111) (x108.length : Int)).1).toNat))) (b := (toS ([((p_2.getD ((u_pick pC ((u_pick pC (x110, x111) (x108.length : Int)).2) (p_2.length : Int)).1).toNat 0).toNat : Int)] : List Int))) rfl (hi195.dt 2 48 rfl rfl rfl) (hi195.dt 3 49 rfl rfl rfl) Bl kI))
     ·exact oI rfl fun h => yM rfl (h.old 1 _ rfl rfl) kI
     ·exact oI rfl fun h => yM rfl (h.old 8 _ rfl rfl) kI
     ·intro L211 w212 hi213
      have hE214 := hi213.ex
      have hE214z := Ex.size hE214
      exact os rfl ((yl_sslice_lo un9 (a := x108) (l := ((u_pick pC (x110, x111) (x108.length : Int)).1).toNat) rfl (hi213.dt 5 51 rfl rfl rfl) (toNat_op (hi213.dt 6 52 rfl rfl rfl) Bo) Bo kI))
     ·intro L217 w218 hi219
      have hE220 := hi219.ex
      have hE220z := Ex.size hE220
      have hol223 : (x108.take (((u_pick pC (x110, x111) (x108.length : Int)).1).toNat)).length ≤ 1073741824 := (okS.take (by unfold okS; (try dsimp only); omega) _)
      have hol224 : (toS ([((p_2.getD ((u_pick pC ((u_pick pC (x110, x111) (x108.length : Int)).2) (p_2.length : Int)).1).toNat 0).toNat : Int)] : List Int)).length ≤ 1073741824 := (okS_toS (nb rfl))
      have hol225 : (x108.drop (((u_pick pC (x110, x111) (x108.length : Int)).1).toNat)).length ≤ 1073741824 := (okS.drop (by unfold okS; (try dsimp only); omega) _)
      exact os rfl ((yl_sadd (a := ((x108.take (((u_pick pC (x110, x111) (x108.length : Int)).1).toNat)) ++ (toS ([((p_2.getD ((u_pick pC ((u_pick pC (x110, x111) (x108.length : Int)).2) (p_2.length : Int)).1).toNat 0).toNat : Int)] : List Int)))) (b := (x108.drop (((u_pick pC (x110, x111) (x108.length : Int)).1).toNat))) rfl (hi219.dt 4 50 rfl rfl rfl) (hi219.dt 7 53 rfl rfl rfl) Bl kI))
     ·exact oI rfl fun h => yA rfl (h.dt 8 54 rfl rfl rfl) kI
     ·intro fl234 fh235 L231 w232 hp233
      have hE236 := hp233.ex
      have hE236z := Ex.size hE236
      refine SeqR.done (bn (bn (tn (CW.sub (sC 0 (hp233.old 0 _ rfl rfl) (sC 1 (hp233.nt 9 1 rfl rfl rfl) (sC 2 (hp233.old 2 _ rfl rfl) (sC 7 (hp233.old 7 _ rfl rfl) (sC 16 (hp233.old 16 _ rfl rfl) (sC 17 (hp233.old 17 _ rfl rfl) (sC 18 (hp233.old 18 _ rfl rfl) (Sub.nil _)))))))) (CW.region (sM rfl (sd rfl (yl_sub rfl rfl rfl (sA rfl ?_)))))))))
      refine dn ?_
      have hB244 : B_u_spoilt_0 pC p_0 p_1 p_2 (x108, x109, x110, x111) = .cont (((x108.take (((u_pick pC (x110, x111) (x108.length : Int)).1).toNat)) ++ (toS ([((p_2.getD ((u_pick pC ((u_pick pC (x110, x111) (x108.length : Int)).2) (p_2.length : Int)).1).toNat 0).toNat : Int)] : List Int))) ++ (x108.drop (((u_pick pC (x110, x111) (x108.length : Int)).1).toNat)), IntKind.wrap .i64 (x109 - 1), ((u_pick pC ((u_pick pC ((u_pick pC (x110, x111) (x108.length : Int)).2) (p_2.length : Int)).2) 3).2).1, ((u_pick pC ((u_pick pC ((u_pick pC (x110, x111) (x108.length : Int)).2) (p_2.length : Int)).2) 3).2).2) := by simp only [B_u_spoilt_0, hb134, hb135, hb166, cL]
      have hmu253 : ((IntKind.wrap .i64 (x109 - 1)).toNat) < ((x109).toNat) := by first | omega | assumption | (simp only [List.length_append, List.length_take, List.length_drop, List.length_cons, List.length_nil, toS_length, wI]; omega) | (simp only [List.length_append, List.length_take, List.length_drop, List.length_cons, List.length_nil, toS_length, wI] at *; omega)
      exact ⟨m117 - 1, oM, ((x108.take (((u_pick pC (x110, x111) (x108.length : Int)).1).toNat)) ++ (toS ([((p_2.getD ((u_pick pC ((u_pick pC (x110, x111) (x108.length : Int)).2) (p_2.length : Int)).1).toNat 0).toNat : Int)] : List Int))) ++ (x108.drop (((u_pick pC (x110, x111) (x108.length : Int)).1).toNat)), IntKind.wrap .i64 (x109 - 1), ((u_pick pC ((u_pick pC ((u_pick pC (x110, x111) (x108.length : Int)).2) (p_2.length : Int)).2) 3).2).1, ((u_pick pC ((u_pick pC ((u_pick pC (x110, x111) (x108.length : Int)).2) (p_2.length : Int)).2) 3).2).2, oM, oM, rfl, rfl, rfl, rfl, (Box.ex hB165 hE236), (RdS.ex gU (RdS.chg gU q159 hc164 Bi) hE236), (Chg.tex (Chg.tchg (Chg.tex (Chg.tchg (Chg.tchg hf129 hc140 (fun k hk => by simp only [InR, or_false] at hk ⊢; omega)) hc147 (fun k hk => by simp only [InR, or_false] at hk ⊢; omega)) hE154) hc164 (fun k hk => by simp only [InR, or_false] at hk ⊢; omega)) hE236), (by first | omega | assumption | (simp only [List.length_append, List.length_take, List.length_drop, List.length_cons, List.length_nil, toS_length, wI]; omega) | (simp only [List.length_append, List.length_take, List.length_drop, List.length_cons, List.length_nil, toS_length, wI] at *; omega)), (by first | omega | assumption | (simp only [List.length_append, List.length_take, List.length_drop, List.length_cons, List.length_nil, toS_length, wI]; omega) | (simp only [List.length_append, List.length_take, List.length_drop, List.length_cons, List.length_nil, toS_length, wI] at *; omega)), (by first | omega | assumption | (simp only [List.length_append, List.length_take, List.length_drop, List.length_cons, List.length_nil, toS_length, wI]; omega) | (simp only [List.length_append, List.length_take, List.length_drop, List.length_cons, List.length_nil, toS_length, wI] at *; omega)), (by first | omega | assumption | (simp only [List.length_append, List.length_take, List.length_drop, List.length_cons, List.length_nil, toS_length, wI]; omega) | (simp only [List.length_append, List.length_take, List.length_drop, List.length_cons, List.length_nil, toS_length, wI] at *; omega)), (loopW.cont hk120 hB244).symm.trans hI121⟩
    ·have hb166p := dec_f hb166
     refine CW.cond_f rfl hb166 (cR (sd rfl (yl_eql rfl rfl rfl (sA rfl (dn (bcase (decide (((u_pick pC ((u_pick pC ((u_pick pC (x110, x111) (x108.length : Int)).2) (p_2.length : Int)).2) 3).1) = 1)) (fun hb254 => ?_) (fun hb254 => ?_)))))))
     ·have hb254p := dec_t hb254
      refine CW.cond_t rfl hb254 ?_
      have hol255 : (x108.take (((u_pick pC (x110, x111) (x108.length : Int)).1).toNat)).length ≤ 1073741824 := (okS.take (by unfold okS; (try dsimp only); omega) _)
      have hol256 : (toS ([((p_2.getD ((u_pick pC ((u_pick pC (x110, x111) (x108.length : Int)).2) (p_2.length : Int)).1).toNat 0).toNat : Int)] : List Int)).length ≤ 1073741824 := (okS_toS (nb rfl))
      have hol257 : (x108.take (((u_pick pC (x110, x111) (x108.length : Int)).1).toNat)).length ≤ 1073741824 := (okS.take (by unfold okS; (try dsimp only); omega) _)
      have hol258 : (toS ([((p_2.getD ((u_pick pC ((u_pick pC (x110, x111) (x108.length : Int)).2) (p_2.length : Int)).1).toNat 0).toNat : Int)] : List Int)).length ≤ 1073741824 := (okS_toS (nb rfl))
      have hol259 : (x108.drop ((IntKind.wrap .i64 (((u_pick pC (x110, x111) (x108.length : Int)).1) + 1)).toNat)).length ≤ 1073741824 := (okS.drop (by unfold okS; (try dsimp only); omega) _)
      refine drI 11 [.string (bs (x108)), .int .i64 ((u_pick pC (x110, x111) (x108.length : Int)).1), .string (bs ((x108.take (((u_pick pC (x110, x111) (x108.length : Int)).1).toNat)))), .string (bs (toS ([((p_2.getD ((u_pick pC ((u_pick pC (x110, x111) (x108.length : Int)).2) (p_2.length : Int)).1).toNat 0).toNat : Int)] : List Int))), .string (bs ((x108.take (((u_pick pC (x110, x111) (x108.length : Int)).1).toNat)) ++ (toS ([((p_2.getD ((u_pick pC ((u_pick pC (x110, x111) (x108.length : Int)).2) (p_2.length : Int)).1).toNat 0).toNat : Int)] : List Int)))), .string (bs (x108)), .int .i64 ((u_pick pC (x110, x111) (x108.length : Int)).1), .int .i64 (IntKind.wrap .i64 (((u_pick pC (x110, x111) (x108.length : Int)).1) + 1)), .string (bs ((x108.drop ((IntKind.wrap .i64 (((u_pick pC (x110, x111) (x108.length : Int)).1) + 1)).toNat)))), .string (bs (((x108.take (((u_pick pC (x110, x111) (x108.length : Int)).1).toNat)) ++ (toS ([((p_2.getD ((u_pick pC ((u_pick pC (x110, x111) (x108.length : Int)).2) (p_2.length : Int)).1).toNat 0).toNat : Int)] : List Int))) ++ (x108.drop ((IntKind.wrap .i64 (((u_pick pC (x110, x111) (x108.length : Int)).1) + 1)).toNat)))), .string (bs (((x108.take (((u_pick pC (x110, x111) (x108.length : Int)).1).toNat)) ++ (toS ([((p_2.getD ((u_pick pC ((u_pick pC (x110, x111) (x108.length : Int)).2) (p_2.length : Int)).1).toNat 0).toNat : Int)] : List Int))) ++ (x108.drop ((IntKind.wrap .i64 (((u_pick pC (x110, x111) (x108.length : Int)).1) + 1)).toNat))))] Tryz.follows rfl ⟨?_, ?_, ?_, ?_, ?_, ?_, ?_, ?_, ?_, ?_, ?_, trivial⟩ ?_
      ·exact oI rfl fun h => yM rfl (h.old 1 _ rfl rfl) kI
      ·exact oI rfl fun h => yM rfl (h.old 8 _ rfl rfl) kI
      ·intro L270 w271 hi272
       have hE273 := hi272.ex
       have hE273z := Ex.size hE273
       exact os rfl ((yl_sslice_hi un9 (a := x108) (h := ((u_pick pC (x110, x111) (x108.length : Int)).1).toNat) rfl (hi272.dt 0 57 rfl rfl rfl) (toNat_op (hi272.dt 1 58 rfl rfl rfl) Bo) Bo kI))
      ·exact oI rfl fun h => yM rfl (h.old 9 _ rfl rfl) kI
      ·intro L281 w282 hi283
       have hE284 := hi283.ex
       have hE284z := Ex.size hE284
       have hol287 : (x108.take (((u_pick pC (x110, x111) (x108.length : Int)).1).toNat)).length ≤ 1073741824 := (okS.take (by unfold okS; (try dsimp only); omega) _)
       have hol288 : (toS ([((p_2.getD ((u_pick pC ((u_pick pC (x110, x111) (x108.length : Int)).2) (p_2.length : Int)).1).toNat 0).toNat : Int)] : List Int)).length ≤ 1073741824 := (okS_toS (nb rfl))
       exact os rfl ((yl_sadd (a := (x108.take (((u_pick pC (x110, x111) (x108.length : Int)).1).toNat))) (b := (toS ([((p_2.getD ((u_pick pC ((u_pick pC (x110, x111) (x108.length : Int)).2) (p_2.length : Int)).1).toNat 0).toNat : Int)] : List Int))) rfl (hi283.dt 2 59 rfl rfl rfl) (hi283.dt 3 60 rfl rfl rfl) Bl kI))
      ·exact oI rfl fun h => yM rfl (h.old 1 _ rfl rfl) kI
      ·exact oI rfl fun h => yM rfl (h.old 8 _ rfl rfl) kI
      ·exact oI rfl fun h => yl_add rfl (h.dt 6 63 rfl rfl rfl) rfl kI
      ·intro L304 w305 hi306
       have hE307 := hi306.ex
       have hE307z := Ex.size hE307
       exact os rfl ((yl_sslice_lo un9 (a := x108) (l := (IntKind.wrap .i64 (((u_pick pC (x110, x111) (x108.length : Int)).1) + 1)).toNat) rfl (hi306.dt 5 62 rfl rfl rfl) (toNat_op (hi306.dt 7 64 rfl rfl rfl) Bo) Bo kI))
      ·intro L310 w311 hi312
       have hE313 := hi312.ex
       have hE313z := Ex.size hE313
       have hol316 : (x108.take (((u_pick pC (x110, x111) (x108.length : Int)).1).toNat)).length ≤ 1073741824 := (okS.take (by unfold okS; (try dsimp only); omega) _)
       have hol317 : (toS ([((p_2.getD ((u_pick pC ((u_pick pC (x110, x111) (x108.length : Int)).2) (p_2.length : Int)).1).toNat 0).toNat : Int)] : List Int)).length ≤ 1073741824 := (okS_toS (nb rfl))
       have hol318 : (x108.drop ((IntKind.wrap .i64 (((u_pick pC (x110, x111) (x108.length : Int)).1) + 1)).toNat)).length ≤ 1073741824 := (okS.drop (by unfold okS; (try dsimp only); omega) _)
       exact os rfl ((yl_sadd (a := ((x108.take (((u_pick pC (x110, x111) (x108.length : Int)).1).toNat)) ++ (toS ([((p_2.getD ((u_pick pC ((u_pick pC (x110, x111) (x108.length : Int)).2) (p_2.length : Int)).1).toNat 0).toNat : Int)] : List Int)))) (b := (x108.drop ((IntKind.wrap .i64 (((u_pick pC (x110, x111) (x108.length : Int)).1) + 1)).toNat))) rfl (hi312.dt 4 61 rfl rfl rfl) (hi312.dt 8 65 rfl rfl rfl) Bl kI))
      ·exact oI rfl fun h => yA rfl (h.dt 9 66 rfl rfl rfl) kI
      ·intro fl327 fh328 L324 w325 hp326
       have hE329 := hp326.ex
       have hE329z := Ex.size hE329
       refine SeqR.done (bn (bn (tn (CW.sub (sC 0 (hp326.old 0 _ rfl rfl) (sC 1 (hp326.nt 10 1 rfl rfl rfl) (sC 2 (hp326.old 2 _ rfl rfl) (sC 7 (hp326.old 7 _ rfl rfl) (sC 16 (hp326.old 16 _ rfl rfl) (sC 17 (hp326.old 17 _ rfl rfl) (sC 18 (hp326.old 18 _ rfl rfl) (Sub.nil _)))))))) (CW.region (sM rfl (sd rfl (yl_sub rfl rfl rfl (sA rfl ?_)))))))))
       refine dn ?_
       have hB337 : B_u_spoilt_0 pC p_0 p_1 p_2 (x108, x109, x110, x111) = .cont (((x108.take (((u_pick pC (x110, x111) (x108.length : Int)).1).toNat)) ++ (toS ([((p_2.getD ((u_pick pC ((u_pick pC (x110, x111) (x108.length : Int)).2) (p_2.length : Int)).1).toNat 0).toNat : Int)] : List Int))) ++ (x108.drop ((IntKind.wrap .i64 (((u_pick pC (x110, x111) (x108.length : Int)).1) + 1)).toNat)), IntKind.wrap .i64 (x109 - 1), ((u_pick pC ((u_pick pC ((u_pick pC (x110, x111) (x108.length : Int)).2) (p_2.length : Int)).2) 3).2).1, ((u_pick pC ((u_pick pC ((u_pick pC (x110, x111) (x108.length : Int)).2) (p_2.length : Int)).2) 3).2).2) := by simp only [B_u_spoilt_0, hb134, hb135, hb166, hb254, cL]
       have hmu346 : ((IntKind.wrap .i64 (x109 - 1)).toNat) < ((x109).toNat) := by first | omega | assumption | (simp only [List.length_append, List.length_take, List.length_drop, List.length_cons, List.length_nil, toS_length, wI]; omega) | (simp only [List.length_append, List.length_take, List.length_drop, List.length_cons, List.length_nil, toS_length, wI] at *; omega)
       exact ⟨m117 - 1, oM, ((x108.take (((u_pick pC (x110, x111) (x108.length : Int)).1).toNat)) ++ (toS ([((p_2.getD ((u_pick pC ((u_pick pC (x110, x111) (x108.length : Int)).2) (p_2.length : Int)).1).toNat 0).toNat : Int)] : List Int))) ++ (x108.drop ((IntKind.wrap .i64 (((u_pick pC (x110, x111) (x108.length : Int)).1) + 1)).toNat)), IntKind.wrap .i64 (x109 - 1), ((u_pick pC ((u_pick pC ((u_pick pC (x110, x111) (x108.length : Int)).2) (p_2.length : Int)).2) 3).2).1, ((u_pick pC ((u_pick pC ((u_pick pC (x110, x111) (x108.length : Int)).2) (p_2.length : Int)).2) 3).2).2, oM, oM, rfl, rfl, rfl, rfl, (Box.ex hB165 hE329), (RdS.ex gU (RdS.chg gU q159 hc164 Bi) hE329), (Chg.tex (Chg.tchg (Chg.tex (Chg.tchg (Chg.tchg hf129 hc140 (fun k hk => by simp only [InR, or_false] at hk ⊢; omega)) hc147 (fun k hk => by simp only [InR, or_false] at hk ⊢; omega)) hE154) hc164 (fun k hk => by simp only [InR, or_false] at hk ⊢; omega)) hE329), (by first | omega | assumption | (simp only [List.length_append, List.length_take, List.length_drop, List.length_cons, List.length_nil, toS_length, wI]; omega) | (simp only [List.length_append, List.length_take, List.length_drop, List.length_cons, List.length_nil, toS_length, wI] at *; omega)), (by first | omega | assumption | (simp only [List.length_append, List.length_take, List.length_drop, List.length_cons, List.length_nil, toS_length, wI]; omega) | (simp only [List.length_append, List.length_take, List.length_drop, List.length_cons, List.length_nil, toS_length, wI] at *; omega)), (by first | omega | assumption | (simp only [List.length_append, List.length_take, List.length_drop, List.length_cons, List.length_nil, toS_length, wI]; omega) | (simp only [List.length_append, List.length_take, List.length_drop, List.length_cons, List.length_nil, toS_length, wI] at *; omega)), (by first | omega | assumption | (simp only [List.length_append, List.length_take, List.length_drop, List.length_cons, List.length_nil, toS_length, wI]; omega) | (simp only [List.length_append, List.length_take, List.length_drop, List.length_cons, List.length_nil, toS_length, wI] at *; omega)), (loopW.cont hk120 hB337).symm.trans hI121⟩
     ·have hb254p := dec_f hb254
      refine CW.cond_f rfl hb254 ?_
      have hol347 : (x108.take (((u_pick pC (x110, x111) (x108.length : Int)).1).toNat)).length ≤ 1073741824 := (okS.take (by unfold okS; (try dsimp only); omega) _)
      have hol348 : (x108.drop ((IntKind.wrap .i64 (((u_pick pC (x110, x111) (x108.length : Int)).1) + 1)).toNat)).length ≤ 1073741824 := (okS.drop (by unfold okS; (try dsimp only); omega) _)
      refine drI 9 [.string (bs (x108)), .int .i64 ((u_pick pC (x110, x111) (x108.length : Int)).1), .string (bs ((x108.take (((u_pick pC (x110, x111) (x108.length : Int)).1).toNat)))), .string (bs (x108)), .int .i64 ((u_pick pC (x110, x111) (x108.length : Int)).1), .int .i64 (IntKind.wrap .i64 (((u_pick pC (x110, x111) (x108.length : Int)).1) + 1)), .string (bs ((x108.drop ((IntKind.wrap .i64 (((u_pick pC (x110, x111) (x108.length : Int)).1) + 1)).toNat)))), .string (bs ((x108.take (((u_pick pC (x110, x111) (x108.length : Int)).1).toNat)) ++ (x108.drop ((IntKind.wrap .i64 (((u_pick pC (x110, x111) (x108.length : Int)).1) + 1)).toNat)))), .string (bs ((x108.take (((u_pick pC (x110, x111) (x108.length : Int)).1).toNat)) ++ (x108.drop ((IntKind.wrap .i64 (((u_pick pC (x110, x111) (x108.length : Int)).1) + 1)).toNat))))] Tryz.follows rfl ⟨?_, ?_, ?_, ?_, ?_, ?_, ?_, ?_, ?_, trivial⟩ ?_
      ·exact oI rfl fun h => yM rfl (h.old 1 _ rfl rfl) kI
      ·exact oI rfl fun h => yM rfl (h.old 8 _ rfl rfl) kI
      ·intro L359 w360 hi361
       have hE362 := hi361.ex
       have hE362z := Ex.size hE362
       exact os rfl ((yl_sslice_hi un9 (a := x108) (h := ((u_pick pC (x110, x111) (x108.length : Int)).1).toNat) rfl (hi361.dt 0 36 rfl rfl rfl) (toNat_op (hi361.dt 1 37 rfl rfl rfl) Bo) Bo kI))
      ·exact oI rfl fun h => yM rfl (h.old 1 _ rfl rfl) kI
      ·exact oI rfl fun h => yM rfl (h.old 8 _ rfl rfl) kI
      ·exact oI rfl fun h => yl_add rfl (h.dt 4 40 rfl rfl rfl) rfl kI
      ·intro L380 w381 hi382
       have hE383 := hi382.ex
       have hE383z := Ex.size hE383
       exact os rfl ((yl_sslice_lo un9 (a := x108) (l := (IntKind.wrap .i64 (((u_pick pC (x110, x111) (x108.length : Int)).1) + 1)).toNat) rfl (hi382.dt 3 39 rfl rfl rfl) (toNat_op (hi382.dt 5 41 rfl rfl rfl) Bo) Bo kI))
      ·intro L386 w387 hi388
       have hE389 := hi388.ex
       have hE389z := Ex.size hE389
       have hol392 : (x108.take (((u_pick pC (x110, x111) (x108.length : Int)).1).toNat)).length ≤ 1073741824 := (okS.take (by unfold okS; (try dsimp only); omega) _)
       have hol393 : (x108.drop ((IntKind.wrap .i64 (((u_pick pC (x110, x111) (x108.length : Int)).1) + 1)).toNat)).length ≤ 1073741824 := (okS.drop (by unfold okS; (try dsimp only); omega) _)
       exact os rfl ((yl_sadd (a := (x108.take (((u_pick pC (x110, x111) (x108.length : Int)).1).toNat))) (b := (x108.drop ((IntKind.wrap .i64 (((u_pick pC (x110, x111) (x108.length : Int)).1) + 1)).toNat))) rfl (hi388.dt 2 38 rfl rfl rfl) (hi388.dt 6 42 rfl rfl rfl) Bl kI))
      ·exact oI rfl fun h => yA rfl (h.dt 7 43 rfl rfl rfl) kI
      ·intro fl402 fh403 L399 w400 hp401
       have hE404 := hp401.ex
       have hE404z := Ex.size hE404
       refine SeqR.done (bn (bn (tn (CW.sub (sC 0 (hp401.old 0 _ rfl rfl) (sC 1 (hp401.nt 8 1 rfl rfl rfl) (sC 2 (hp401.old 2 _ rfl rfl) (sC 7 (hp401.old 7 _ rfl rfl) (sC 16 (hp401.old 16 _ rfl rfl) (sC 17 (hp401.old 17 _ rfl rfl) (sC 18 (hp401.old 18 _ rfl rfl) (Sub.nil _)))))))) (CW.region (sM rfl (sd rfl (yl_sub rfl rfl rfl (sA rfl ?_)))))))))
       refine dn ?_
       have hB412 : B_u_spoilt_0 pC p_0 p_1 p_2 (x108, x109, x110, x111) = .cont ((x108.take (((u_pick pC (x110, x111) (x108.length : Int)).1).toNat)) ++ (x108.drop ((IntKind.wrap .i64 (((u_pick pC (x110, x111) (x108.length : Int)).1) + 1)).toNat)), IntKind.wrap .i64 (x109 - 1), ((u_pick pC ((u_pick pC ((u_pick pC (x110, x111) (x108.length : Int)).2) (p_2.length : Int)).2) 3).2).1, ((u_pick pC ((u_pick pC ((u_pick pC (x110, x111) (x108.length : Int)).2) (p_2.length : Int)).2) 3).2).2) := by simp only [B_u_spoilt_0, hb134, hb135, hb166, hb254, cL]
       have hmu421 : ((IntKind.wrap .i64 (x109 - 1)).toNat) < ((x109).toNat) := by first | omega | assumption | (simp only [List.length_append, List.length_take, List.length_drop, List.length_cons, List.length_nil, toS_length, wI]; omega) | (simp only [List.length_append, List.length_take, List.length_drop, List.length_cons, List.length_nil, toS_length, wI] at *; omega)
       exact ⟨m117 - 1, oM, (x108.take (((u_pick pC (x110, x111) (x108.length : Int)).1).toNat)) ++ (x108.drop ((IntKind.wrap .i64 (((u_pick pC (x110, x111) (x108.length : Int)).1) + 1)).toNat)), IntKind.wrap .i64 (x109 - 1), ((u_pick pC ((u_pick pC ((u_pick pC (x110, x111) (x108.length : Int)).2) (p_2.length : Int)).2) 3).2).1, ((u_pick pC ((u_pick pC ((u_pick pC (x110, x111) (x108.length : Int)).2) (p_2.length : Int)).2) 3).2).2, oM, oM, rfl, rfl, rfl, rfl, (Box.ex hB165 hE404), (RdS.ex gU (RdS.chg gU q159 hc164 Bi) hE404), (Chg.tex (Chg.tchg (Chg.tex (Chg.tchg (Chg.tchg hf129 hc140 (fun k hk => by simp only [InR, or_false] at hk ⊢; omega)) hc147 (fun k hk => by simp only [InR, or_false] at hk ⊢; omega)) hE154) hc164 (fun k hk => by simp only [InR, or_false] at hk ⊢; omega)) hE404), (by first | omega | assumption | (simp only [List.length_append, List.length_take, List.length_drop, List.length_cons, List.length_nil, toS_length, wI]; omega) | (simp only [List.length_append, List.length_take, List.length_drop, List.length_cons, List.length_nil, toS_length, wI] at *; omega)), (by first | omega | assumption | (simp only [List.length_append, List.length_take, List.length_drop, List.length_cons, List.length_nil, toS_length, wI]; omega) | (simp only [List.length_append, List.length_take, List.length_drop, List.length_cons, List.length_nil, toS_length, wI] at *; omega)), (by first | omega | assumption | (simp only [List.length_append, List.length_take, List.length_drop, List.length_cons, List.length_nil, toS_length, wI]; omega) | (simp only [List.length_append, List.length_take, List.length_drop, List.length_cons, List.length_nil, toS_length, wI] at *; omega)), (by first | omega | assumption | (simp only [List.length_append, List.length_take, List.length_drop, List.length_cons, List.length_nil, toS_length, wI]; omega) | (simp only [List.length_append, List.length_take, List.length_drop, List.length_cons, List.length_nil, toS_length, wI] at *; omega)), (loopW.cont hk120 hB412).symm.trans hI121⟩
   ·have hb135p := dec_f hb135
    refine CW.cond_f rfl hb135 (CW.exit (tx (tx ?_)))
    have hB423 : B_u_spoilt_0 pC p_0 p_1 p_2 (x108, x109, x110, x111) = .brk (x108, x109, x110, x111) := by simp only [B_u_spoilt_0, hb134, hb135, cL]
    have hL422 : loopW (B_u_spoilt_0 pC p_0 p_1 p_2) (((IntKind.wrap .i64 (1 + ((u_pick pC p_0 2).1))).toNat) + 1) (p_1, IntKind.wrap .i64 (1 + ((u_pick pC p_0 2).1)), ((u_pick pC p_0 2).2).1, ((u_pick pC p_0 2).2).2) = .done (x108, x109, x110, x111) := hI121.symm.trans (loopW.brk hk120 hB423)
    refine bx (tn (cR (sM rfl (sA rfl (dn (CW.ret ?_))))))
    refine rr rfl (.cons rfl .nil) ?_
    have hM424 : (u_spoilt pC p_0 p_1 p_2) = ((x108, (x110, x111))) := by first | (simp only [u_spoilt, hL422, cond_true, cond_false, loopE_done, loopE_ret, pairE]; done) | (simp only [u_spoilt, hb134, hb135, hL422, cL]; done) | (simp only [u_spoilt, hb134, hb135, hL422, cond_true, cond_false, loopE_done, loopE_ret, pairE]; done) | exact (show (u_spoilt pC p_0 p_1 p_2) = ((x108, (x110, x111))) from by simp only [u_spoilt, hb134, hb135, hL422, cond_true, cond_false, loopE_done, loopE_ret, pairE])
    rw [hM424]
    exact ⟨rfl, (by unfold okS; (try dsimp only); omega), (by (try dsimp only); first | omega | assumption | (simp only [wI] at *; omega)), hf127, hf129⟩
  ·have hb134p := dec_f hb134
   refine sz rfl rfl hb134 (sz rfl rfl hb134 (sz rfl rfl hb134 (sd rfl (yl_pick_f rfl rfl hb134 rfl (dn (CW.cond_f rfl rfl (CW.exit (tx ?_))))))))
   refine tx ?_
   have hB426 : B_u_spoilt_0 pC p_0 p_1 p_2 (x108, x109, x110, x111) = .brk (x108, x109, x110, x111) := by simp only [B_u_spoilt_0, hb134, cL]
   have hL425 : loopW (B_u_spoilt_0 pC p_0 p_1 p_2) (((IntKind.wrap .i64 (1 + ((u_pick pC p_0 2).1))).toNat) + 1) (p_1, IntKind.wrap .i64 (1 + ((u_pick pC p_0 2).1)), ((u_pick pC p_0 2).2).1, ((u_pick pC p_0 2).2).2) = .done (x108, x109, x110, x111) := hI121.symm.trans (loopW.brk hk120 hB426)
   refine bx (tn (cR (sM rfl (sA rfl (dn (CW.ret ?_))))))
   refine rr rfl (.cons rfl .nil) ?_
   have hM427 : (u_spoilt pC p_0 p_1 p_2) = ((x108, (x110, x111))) := by first | (simp only [u_spoilt, hL425, cond_true, cond_false, loopE_done, loopE_ret, pairE]; done) | (simp only [u_spoilt, hb134, hL425, cL]; done) | (simp only [u_spoilt, hb134, hL425, cond_true, cond_false, loopE_done, loopE_ret, pairE]; done) | exact (show (u_spoilt pC p_0 p_1 p_2) = ((x108, (x110, x111))) from by simp only [u_spoilt, hb134, hL425, cond_true, cond_false, loopE_done, loopE_ret, pairE])
   rw [hM427]
   exact ⟨rfl, (by unfold okS; (try dsimp only); omega), (by (try dsimp only); first | omega | assumption | (simp only [wI] at *; omega)), hf127, hf129⟩
theorem c_s_DrawReadTable {A1 : Option Addr} {c1 : Nat} {w : World} (p_code : List Int) (h1 : RdS w (Iv 0 w.heap.size) (RF e_U8) 1 A1 p_code.length c1 p_code) (o2 : (okL okT) p_code) (pre0 : codeOk p_code) : Cal Tryz.prog 20 #[.slice A1 p_code.length c1] w fun v w' => v = .string (bs ((s_DrawReadTable p_code))) ∧ okS (s_DrawReadTable p_code) ∧ Ex w w' := by
 have hol3 := o2.1
 have htx : (s_l24Text ((u_table p_code (0, 0)).1)).length ≤ 1000 := len_l24Text (good_table ‹codeOk p_code› _)
 refine Cal.of func20 rfl ntmps20 rfl (cR (sA rfl (dn (cR (sM rfl ?_)))))
 refine sd rfl (yl_build (cs := [.slice A1 p_code.length c1, .int .i64 (0), .int .u64 (0)]) rfl (oc rfl oz) (by kernel_rfl) (sd rfl (yl_box rfl rfl rfl ?_)))
 intro b4 w5 hs6 hz7 hB8 hE9
 refine sA rfl (dn (cR (sM rfl ?_)))
 have q10 := RdS.ex gU h1 hE9
 refine sd rfl (yC en52 rfl (oc rfl oz) (Cal.mono (c_u_table p_code (0, 0) hB8 q10 oM oM o2 oM (by assumption)) ?_))
 rintro v18 w11 ⟨A12, c12, lo12, hi12, A13, c13, lo13, hi13, rfl, h12, h13, ho14, hp15, hp16, hp17, hB20, hrn21, hrn22, hrn23, hc19⟩
 have hc19z := Chg.size hc19
 have hB20z := Box.lt hB20
 have hrf24 := rf_table (c := p_code) (by assumption) (0, 0)
 refine sd rfl (yC en55 rfl (oc rfl oz) (Cal.mono (c_s_l24Text ((u_table p_code (0, 0)).1) (RdS.up (OwnL.rd gS h12) gS) (RdS.up (OwnL.rd gI h13) gI) ho14 (good_table ‹codeOk p_code› _)) ?_))
 rintro v28 w27 ⟨rfl, hE29⟩
 have hE29z := Ex.size hE29
 refine sA rfl (dn (CW.seq (cR (sM rfl ?_))))
 have q32 := RdS.ex gU (RdS.chg gU q10 hc19 Bi) hE29
 refine sd rfl (yC en51 rfl (oc rfl (oc rfl oz)) (Cal.mono (c_u_one p_code ((u_table p_code (0, 0)).2) 2 (Box.ex hB20 hE29) q32 oM oM o2 oM (by assumption)) ?_))
 rintro v35 w33 ⟨rfl, hp34, hB37, hc36⟩
 have hc36z := Chg.size hc36
 have hB37z := Box.lt hB37
 refine dn (bcase ((u_one p_code ((u_table p_code (0, 0)).2) 2).1) (fun hb38 => ?_) (fun hb38 => ?_))
 ·refine CW.cond_t rfl hb38 (CW.region (sM rfl (sM rfl (sd rfl (yC en56 rfl (oc rfl (oc rfl (oc rfl oz))) (Cal.mono (c_u_spoilt p_code ((u_one p_code ((u_table p_code (0, 0)).2) 2).2) (s_l24Text ((u_table p_code (0, 0)).1)) ([97, 98, 40, 41, 44, 32, 47, 48, 49, 50, 51, 105] : Str) hB37 (RdS.chg gU q32 hc36 Bi) oM oM o2 (okS_l24Text (good_table ‹codeOk p_code› _)) (okS.lit rfl) Bo (by first | omega | assumption | (simp only [wI] at *; omega) | (simp only [lN]; omega)) oM (by assumption)) ?_))))))
  rintro v43 w40 ⟨rfl, ho41, hp42, hB45, hc44⟩
  have hc44z := Chg.size hc44
  have hB45z := Box.lt hB45
  refine sA rfl (dn (cR (sM rfl (sA rfl (dn ?_)))))
  refine CW.ret (rr rfl (.cons rfl .nil) ?_)
  have hM46 : (s_DrawReadTable p_code) = ((u_spoilt p_code ((u_one p_code ((u_table p_code (0, 0)).2) 2).2) (s_l24Text ((u_table p_code (0, 0)).1)) ([97, 98, 40, 41, 44, 32, 47, 48, 49, 50, 51, 105] : Str)).1) := by simp only [s_DrawReadTable, hb38, cL]
  rw [hM46]
  exact ⟨rfl, ho41, (Ex.chg (Ex.chg (Ex.trans (Ex.chg (Ex.trans (Ex.refl w) hE9) hc19 (fun k hk => by simp only [InR, or_false] at hk; omega)) hE29) hc36 (fun k hk => by simp only [InR, or_false] at hk; omega)) hc44 (fun k hk => by simp only [InR, or_false] at hk; omega))⟩
 ·refine CW.cond_f rfl hb38 (CW.skip (tn (cR (sM rfl (sA rfl (dn ?_))))))
  refine CW.ret (rr rfl (.cons rfl .nil) ?_)
  have hM52 : (s_DrawReadTable p_code) = ((s_l24Text ((u_table p_code (0, 0)).1))) := by simp only [s_DrawReadTable, hb38, cL]
  rw [hM52]
  exact ⟨rfl, (okS_l24Text (good_table ‹codeOk p_code› _)), (Ex.chg (Ex.trans (Ex.chg (Ex.trans (Ex.refl w) hE9) hc19 (fun k hk => by simp only [InR, or_false] at hk; omega)) hE29) hc36 (fun k hk => by simp only [InR, or_false] at hk; omega))⟩
theorem c_s_l1Split {w : World} (p_s : Str) (p_b : Int) (o1 : okS p_s) : Cal Tryz.prog 57 #[.string (bs (p_s)), .int .u8 (p_b)] w fun v w' => ∃ A_1 c_1 lo_1 hi_1, v = .slice A_1 ((s_l1Split p_s p_b).length) c_1 ∧ OwnL w' lo_1 hi_1 9 1 (RF e_Str) A_1 ((s_l1Split p_s p_b).length) c_1 (s_l1Split p_s p_b) ∧ (okL okS) (s_l1Split p_s p_b) ∧ (w.heap.size ≤ lo_1 ∧ lo_1 ≤ hi_1 ∧ hi_1 ≤ w'.heap.size) ∧ Ex w w' := by
 have hol2 : p_s.length ≤ 1073741824 := o1
 refine Cal.of func57 rfl ntmps57 rfl (cR (sA rfl (dn (cR (sA rfl ?_)))))
 refine dn (cR (sA rfl (dn (CW.seq (CW.seq ?_)))))
 refine CW.region (sA rfl (dn (CW.block (CW.loop (fun m26 L27 w28 => ∃ (k3 : Nat) (x21 : List Str) (x25 : Int) (A22 : Option Addr) (c23 : Nat) (u24 : Nat), m26 = p_s.length - k3 ∧ k3 ≤ p_s.length ∧ w.heap.size ≤ w28.heap.size ∧ lkp L27 0 = some (.string (bs (p_s))) ∧ lkp L27 1 = some (.int .u8 (p_b)) ∧ lkp L27 5 = some (.slice A22 x21.length c23) ∧ lkp L27 6 = some (.int .i64 (x25)) ∧ lkp L27 7 = some (.int .i64 ((k3 : Int))) ∧ OwnL w28 w.heap.size u24 9 1 (RF e_Str) A22 x21.length c23 x21 ∧ Ex w w28 ∧ (w.heap.size ≤ u24 ∧ u24 ≤ w28.heap.size) ∧ x21.length ≤ 0 + 1 * (k3 - 0) ∧ (∀ y ∈ x21, okS y) ∧ 0 ≤ x25 ∧ x25 ≤ (k3 : Int) ∧ loopM (B_s_l1Split_0 p_s p_b) (p_s.length - k3) k3 (x21, x25) = loopM (B_s_l1Split_0 p_s p_b) (p_s.length - 0) 0 (([] : List Str), 0)) (p_s.length - 0) ?_ ?_))))
 ·exact ⟨0, ([] : List Str), 0, none, 0, w.heap.size, rfl, oM, Nat.le_refl _, rfl, rfl, rfl, rfl, rfl, (OwnL.nil w w.heap.size w.heap.size 9 1 (RF e_Str)), (Ex.refl w), oM, (by first | (simp; done) | (first | omega | (simp only [lN, toS_length]; omega))), okE.nil, Bo, Bo, rfl⟩
 ·rintro m29 L30 w31 ⟨k3, x21, x25, A22, c23, u24, rfl, hk32, hsz34, hl35, hl36, hl37, hl38, hl39, hf40, hf41, hu42, hln43, hok44, hv45, hv46, hI33⟩
  refine CW.sub (Sub.cons hl35 (Sub.cons hl36 (Sub.cons hl37 (Sub.cons hl38 (Sub.cons hl39 (Sub.nil _)))))) ?_
  have hf41z := Ex.size hf41
  have hbg47 : p_s.length ≤ 1073741824 := o1
  rcases Nat.lt_or_ge k3 p_s.length with hlt48 | hlt48
  ·refine CW.seq (cR (sM rfl (sM rfl (sd rfl (yl_slen un9 (a := p_s) rfl rfl (sd rfl (yl_lss rfl rfl rfl (dn ?_))))))))
   refine CW.cond_t rfl (lt_t hlt48) (CW.skip (tn (CW.seq (CW.block (cR (sM rfl (sM rfl ?_)))))))
   refine sd rfl (yl_sindexN un9 (a := p_s) rfl rfl rfl Bo (sM rfl (sd rfl (yl_eql rfl rfl rfl (dn (bcase (decide (((p_s.getD k3 0).toNat : Int) = p_b)) (fun hb49 => ?_) (fun hb49 => ?_)))))))
   ·have hb49p := dec_t hb49
    refine CW.cond_t rfl hb49 (cR (sM rfl (sM rfl (sM rfl (sM rfl (sd rfl (yl_sslice_lh un9 (a := p_s) (l := (x25).toNat) (h := k3) rfl rfl (toNat_op rfl oM) rfl oM oM (sd rfl (yl_buildSlice (cs := [.string (bs (((p_s.take k3).drop ((x25).toNat))))]) un23 ty9 (by decide) rfl (oc rfl oz) (by kernel_rfl) ?_)))))))))
    intro b50 w51 hs52 hz53 hB54 hE55
    have hO56 : OwnL w51 b50 (b50 + 1) 9 1 (RF e_Str) (some ⟨b50, 0, none⟩) 1 1 ([((p_s.take k3).drop ((x25).toNat))] : List Str) := OwnL.of_box (S := fun _ => False) hB54 (Nat.le_refl _) (Nat.lt_succ_self _) (EncL.cons (c := [.string (bs (((p_s.take k3).drop ((x25).toNat))))]) rfl rfl EncL.nil) (nb rfl) (fun h => h) (fun _ h => False.elim h)
    refine sd rfl (yl_appendL (S := (fun _ => False)) (lo := w.heap.size) (hi := u24) (xs := x21) (ys := ([((p_s.take k3).drop ((x25).toNat))] : List Str)) gS un23 ty9 rfl (nb rfl) rfl rfl rfl (OwnL.ex gS hf40 hE55) (EncL.cons (c := [.string (bs (((p_s.take k3).drop ((x25).toNat))))]) rfl rfl EncL.nil) (Or.inr ⟨_, _, rfl, rfl, hB54.cells (o := 0) (n := 1) rfl⟩) rfl Bl Bl oM oM (fun _ h _ => False.elim h) oM ?_)
    intro A58 c59 w60 row61 hO62 hG63 hrg64
    have hG63z := hG63.size
    refine sA rfl (dn (CW.region (sM rfl (sd rfl (yl_inc rfl rfl rfl oM (sA rfl (SeqR.done (bn ?_))))))))
    refine tn (CW.region (sM rfl (sd rfl (yl_inc rfl rfl rfl oM (sA rfl (dn ?_))))))
    have hB65 : B_s_l1Split_0 p_s p_b k3 (x21, x25) = .cont ((x21 ++ ([((p_s.take k3).drop ((x25).toNat))] : List Str)), ((k3 + 1 : Nat) : Int)) := by simp only [B_s_l1Split_0, hb49, cL]
    exact ⟨p_s.length - (k3 + 1), oM, k3 + 1, (x21 ++ ([((p_s.take k3).drop ((x25).toNat))] : List Str)), ((k3 + 1 : Nat) : Int), A58, c59, w60.heap.size, rfl, hlt48, oM, rfl, rfl, rfl, rfl, rfl, hO62, (Below.grown (Ex.trans hf41 hE55) hG63 oM (fun k hk => by have := hrg64 k hk; omega)), oM, Bl, (okE.append hok44 ((okL.mk (nb rfl) (okE.cons (okS.drop (okS.take o1 _) _) okE.nil))).2), Bo, Bo, (loopM.cont hlt48 hB65).symm.trans hI33⟩
   ·have hb49p := dec_f hb49
    refine CW.cond_f rfl hb49 (CW.skip (bn (tn (CW.region (sM rfl (sd rfl (yl_inc rfl rfl rfl oM (sA rfl (SeqR.done ?_)))))))))
    refine tn ?_
    have hB68 : B_s_l1Split_0 p_s p_b k3 (x21, x25) = .cont (x21, x25) := by simp only [B_s_l1Split_0, hb49, cL]
    exact ⟨p_s.length - (k3 + 1), oM, k3 + 1, x21, x25, A22, c23, u24, rfl, hlt48, oM, rfl, rfl, rfl, rfl, rfl, hf40, hf41, oM, Bl, hok44, Bo, Bo, (loopM.cont hlt48 hB68).symm.trans hI33⟩
  ·refine CW.seq (cR (sM rfl (sM rfl (sd rfl (yl_slen un9 (a := p_s) rfl rfl (sd rfl (yl_lss rfl rfl rfl (dn ?_))))))))
   refine CW.cond_f rfl (lt_f hlt48) (CW.exit (tx (tx ?_)))
   have hL69 : loopM (B_s_l1Split_0 p_s p_b) (p_s.length - 0) 0 (([] : List Str), 0) = .done (x21, x25) := hI33.symm.trans (loopM.stop hlt48)
   refine bx (tn (cR (sM rfl (sM rfl (sM rfl (sd rfl (yl_sslice_lo un9 (a := p_s) (l := (x25).toNat) rfl rfl (toNat_op rfl oM) oM (sd rfl (yl_buildSlice (cs := [.string (bs ((p_s.drop ((x25).toNat))))]) un23 ty9 (by decide) rfl (oc rfl oz) (by kernel_rfl) ?_)))))))))
   intro b70 w71 hs72 hz73 hB74 hE75
   have hO76 : OwnL w71 b70 (b70 + 1) 9 1 (RF e_Str) (some ⟨b70, 0, none⟩) 1 1 ([(p_s.drop ((x25).toNat))] : List Str) := OwnL.of_box (S := fun _ => False) hB74 (Nat.le_refl _) (Nat.lt_succ_self _) (EncL.cons (c := [.string (bs ((p_s.drop ((x25).toNat))))]) rfl rfl EncL.nil) (nb rfl) (fun h => h) (fun _ h => False.elim h)
   refine sd rfl (yl_appendL (S := (fun _ => False)) (lo := w.heap.size) (hi := u24) (xs := x21) (ys := ([(p_s.drop ((x25).toNat))] : List Str)) gS un23 ty9 rfl (nb rfl) rfl rfl rfl (OwnL.ex gS hf40 hE75) (EncL.cons (c := [.string (bs ((p_s.drop ((x25).toNat))))]) rfl rfl EncL.nil) (Or.inr ⟨_, _, rfl, rfl, hB74.cells (o := 0) (n := 1) rfl⟩) rfl Bl Bl oM oM (fun _ h _ => False.elim h) oM ?_)
   intro A78 c79 w80 row81 hO82 hG83 hrg84
   have hG83z := hG83.size
   refine sA rfl (dn (CW.ret (rr rfl (.cons rfl .nil) ?_)))
   have hM85 : (s_l1Split p_s p_b) = ((x21 ++ ([(p_s.drop ((x25).toNat))] : List Str))) := by simp only [s_l1Split, hL69, cL]
   rw [hM85]
   exact ⟨A78, c79, w.heap.size, w80.heap.size, rfl, hO82, (okL.mk (xs := (x21 ++ ([(p_s.drop ((x25).toNat))] : List Str))) Bl (okE.append hok44 ((okL.mk (nb rfl) (okE.cons (okS.drop o1 _) okE.nil))).2)), oM, (Below.grown (Ex.trans hf41 hE75) hG83 oM (fun k hk => by have := hrg84 k hk; omega))⟩
theorem c_s_l24Read {A1 : Option Addr} {c1 : Nat} {A2 : Option Addr} {c2 : Nat} {w : World} (p_t : DTable) (p_word : Str) (h1 : RdS w (Iv 0 w.heap.size) (RF e_Str) 1 A1 p_t.Cols.length c1 p_t.Cols) (h2 : RdS w (Iv 0 w.heap.size) (RF e_Idx) 3 A2 p_t.Idxs.length c2 p_t.Idxs) (o3 : ok_Table p_t) (o4 : okS p_word) : Cal Tryz.prog 58 #[.agg #[.string (bs (p_t.Name)), .slice A1 p_t.Cols.length c1, .slice A2 p_t.Idxs.length c2], .string (bs (p_word))] w fun v w' => v = .tuple #[.agg #[.string (bs ((s_l24Read p_t p_word).1.Name)), .int .i64 ((s_l24Read p_t p_word).1.Col), .int .i64 ((s_l24Read p_t p_word).1.Stage)], .bool ((s_l24Read p_t p_word).2)] ∧ ok_Idx ((s_l24Read p_t p_word).1) ∧ Ex w w' := by
 have hol5 : p_t.Name.length ≤ 1073741824 := o3.1
 have hol6 := o3.2.1.1
 have hol7 := o3.2.2.1
 have hol8 : p_word.length ≤ 1073741824 := o4
 refine Cal.of func58 rfl ntmps58 rfl (cR (sd rfl (yl_box rfl rfl rfl ?_)))
 intro b9 w10 hs11 hz12 hB13 hE14
 refine sd rfl (yB ty35 (cs := [.string (bs (([] : Str))), .int .i64 (0), .int .i64 (0)]) rfl rfl ?_)
 intro b15 w16 hs17 hz18 hB19 hE20
 refine sA rfl (dn (cR (sM rfl (sd rfl (yC en57 rfl (oc rfl (oc rfl oz)) (Cal.mono (c_s_l1Split p_word 47 o4) ?_))))))
 rintro v24 w21 ⟨A22, c22, lo22, hi22, rfl, h22, ho23, hrn26, hE25⟩
 have hE25z := Ex.size hE25
 have hrf27 := rf_l1Split p_word 47
 refine sA rfl (dn (CW.seq (cR (sM rfl (sd rfl (yL un23 rfl rfl (sd rfl (yl_neq rfl rfl rfl ?_))))))))
 refine sM rfl (bcase (decide (((s_l1Split p_word 47).length : Int) = 3)) (fun hb28 => ?_) (fun hb28 => ?_))
 ·have hb28p := dec_t hb28
  refine sy rfl rfl (not_t hb28) (yM rfl rfl ?_)
  obtain ⟨eb30, eo30, _, eA30, _, ebl30, _, eR30, eC30⟩ := RdS.aD (OwnL.rd gS h22) d_Str (i := 2)
  obtain rfl := eR30
  have eC30 : Cells w21 eb30 (eo30 + 2 * 1) [.string (bs (((s_l1Split p_word 47).getD 2 d_Str)))] := eC30
  refine sy rfl rfl (not_t hb28) (yl_ixN un23 ty9 rfl rfl rfl eA30 (sy rfl rfl (not_t hb28) (yl_load1 ty9 rfl rfl (eC30 0 _ rfl) (sy rfl rfl (not_t hb28) (yl_slen un9 (a := ((s_l1Split p_word 47).getD 2 d_Str)) rfl rfl (sy rfl rfl (not_t hb28) (yl_neq rfl rfl rfl (sd rfl (yl_pick_f rfl rfl (not_t hb28) rfl (dn (bcase (decide ((((s_l1Split p_word 47).getD 2 d_Str).length : Int) = 1)) (fun hb31 => ?_) (fun hb31 => ?_))))))))))))
  ·have hb31p := dec_t hb31
   refine CW.cond_f rfl (not_t hb31) (CW.skip (tn (CW.seq ?_)))
   obtain ⟨eb33, eo33, _, eA33, _, ebl33, _, eR33, eC33⟩ := RdS.aD (OwnL.rd gS h22) d_Str (i := 0)
   obtain rfl := eR33
   have eC33 : Cells w21 eb33 (eo33 + 0 * 1) [.string (bs (((s_l1Split p_word 47).getD 0 d_Str)))] := eC33
   obtain ⟨eb37, eo37, _, eA37, _, ebl37, _, eR37, eC37⟩ := RdS.aD (OwnL.rd gS h22) d_Str (i := 1)
   obtain rfl := eR37
   have eC37 : Cells w21 eb37 (eo37 + 1 * 1) [.string (bs (((s_l1Split p_word 47).getD 1 d_Str)))] := eC37
   refine drI 15 [.slice A22 ((s_l1Split p_word 47).length) c22, .pointer (some ⟨eb33, eo33 + 0 * 1, none⟩), .string (bs (((s_l1Split p_word 47).getD 0 d_Str))), .pointer (some ⟨b9, 0 + 1, none⟩), .slice A1 p_t.Cols.length c1, .slice A22 ((s_l1Split p_word 47).length) c22, .pointer (some ⟨eb37, eo37 + 1 * 1, none⟩), .string (bs (((s_l1Split p_word 47).getD 1 d_Str))), .int .i64 ((s_l24At p_t.Cols ((s_l1Split p_word 47).getD 1 d_Str))), .slice A22 ((s_l1Split p_word 47).length) c22, .pointer (some ⟨eb30, eo30 + 2 * 1, none⟩), .string (bs (((s_l1Split p_word 47).getD 2 d_Str))), .int .u8 (((((s_l1Split p_word 47).getD 2 d_Str).getD 0 0).toNat : Int)), .int .i64 (IntKind.wrap .i64 ((((s_l1Split p_word 47).getD 2 d_Str).getD 0 0).toNat : Int)), .int .i64 (IntKind.wrap .i64 ((IntKind.wrap .i64 ((((s_l1Split p_word 47).getD 2 d_Str).getD 0 0).toNat : Int)) - 48))] Tryz.follows rfl ⟨?_, ?_, ?_, ?_, ?_, ?_, ?_, ?_, ?_, ?_, ?_, ?_, ?_, ?_, ?_, trivial⟩ ?_
   ·exact oI rfl fun h => yM rfl (h.old 6 _ rfl rfl) kI
   ·intro L47 w48 hi49
    have hE50 := hi49.ex
    have hE50z := Ex.size hE50
    exact os rfl ((yl_ixN un23 ty9 rfl (hi49.dt 0 20 rfl rfl rfl) rfl eA33 kI))
   ·exact oI rfl fun h => yl_load1 ty9 rfl (h.dt 1 21 rfl rfl rfl) ((Cells.ex eC33 h.ex) 0 _ rfl) kI
   ·exact oI rfl fun h => yl_fieldAddr fd26_1 rfl (h.old 2 _ rfl rfl) kI
   ·exact oI rfl fun h => yl_load1 ty23 rfl (h.dt 3 23 rfl rfl rfl) (((Box.ex (Box.ex (Box.ex hB13 hE20) hE25) h.ex).cell 1).trans rfl) kI
   ·exact oI rfl fun h => yM rfl (h.old 6 _ rfl rfl) kI
   ·intro L74 w75 hi76
    have hE77 := hi76.ex
    have hE77z := Ex.size hE77
    exact os rfl ((yl_ixN un23 ty9 rfl (hi76.dt 5 25 rfl rfl rfl) rfl eA37 kI))
   ·exact oI rfl fun h => yl_load1 ty9 rfl (h.dt 6 26 rfl rfl rfl) ((Cells.ex eC37 h.ex) 0 _ rfl) kI
   ·intro L85 w86 hi87
    have hE88 := hi87.ex
    exact OpR.op' rfl (yC en60 rfl (oc (hi87.dt 4 24 rfl rfl rfl) (oc (hi87.dt 7 27 rfl rfl rfl) oz)) (Cal.mono (c_s_l24At p_t.Cols ((s_l1Split p_word 47).getD 1 d_Str) (RdS.up (RdS.ex gS (RdS.ex gS (RdS.ex gS (RdS.ex gS h1 hE14) hE20) hE25) hE88) gS) o3.2.1 (okS_l1Split o4 _ _)) fun _ _ h => h))
   ·exact oI rfl fun h => yM rfl (h.old 6 _ rfl rfl) kI
   ·intro L100 w101 hi102
    have hE103 := hi102.ex
    have hE103z := Ex.size hE103
    exact os rfl ((yl_ixN un23 ty9 rfl (hi102.dt 9 29 rfl rfl rfl) rfl eA30 kI))
   ·exact oI rfl fun h => yl_load1 ty9 rfl (h.dt 10 30 rfl rfl rfl) ((Cells.ex eC30 h.ex) 0 _ rfl) kI
   ·intro L111 w112 hi113
    have hE114 := hi113.ex
    have hE114z := Ex.size hE114
    exact os rfl ((yl_sindexN un9 (a := ((s_l1Split p_word 47).getD 2 d_Str)) rfl (hi113.dt 11 31 rfl rfl rfl) rfl Bo kI))
   ·exact oI rfl fun h => yl_conv un5 un3 rfl (h.dt 12 32 rfl rfl rfl) kI
   ·exact oI rfl fun h => yl_sub rfl (h.dt 13 33 rfl rfl rfl) rfl kI
   ·intro fl129 fh130 L126 w127 hp128
    have hE131 := hp128.ex
    have hE131z := Ex.size hE131
    have hx132 := hp128.old 4 _ rfl rfl
    refine sd rfl (yl_build (cs := [.string (bs (((s_l1Split p_word 47).getD 0 d_Str))), .int .i64 ((s_l24At p_t.Cols ((s_l1Split p_word 47).getD 1 d_Str))), .int .i64 (IntKind.wrap .i64 ((IntKind.wrap .i64 ((((s_l1Split p_word 47).getD 2 d_Str).getD 0 0).toNat : Int)) - 48))]) rfl (oc (hp128.nt 2 22 rfl rfl rfl) (oc (hp128.nt 8 28 rfl rfl rfl) (oc (hp128.nt 14 34 rfl rfl rfl) oz))) (by kernel_rfl) (SeqR.u rfl rfl (yl_store (vs := [.string (bs (((s_l1Split p_word 47).getD 0 d_Str))), .int .i64 ((s_l24At p_t.Cols ((s_l1Split p_word 47).getD 1 d_Str))), .int .i64 (IntKind.wrap .i64 ((IntKind.wrap .i64 ((((s_l1Split p_word 47).getD 2 d_Str).getD 0 0).toNat : Int)) - 48))]) ty35 rfl hx132 rfl rfl rfl rfl (Box.ex (Box.ex hB19 hE25) hE131) (nb rfl) ?_)))
    intro w138 hB139 hO140
    have hB139 : Box w138 b15 35 [.string (bs (((s_l1Split p_word 47).getD 0 d_Str))), .int .i64 ((s_l24At p_t.Cols ((s_l1Split p_word 47).getD 1 d_Str))), .int .i64 (IntKind.wrap .i64 ((IntKind.wrap .i64 ((((s_l1Split p_word 47).getD 2 d_Str).getD 0 0).toNat : Int)) - 48))] := hB139
    have hO140z := hO140.size
    refine sA rfl (dn (CW.sub (sC 4 hx132 (sC 5 rfl (Sub.nil _))) (CW.ret (rr rfl (.cons ⟨_, rfl, run_loadN ty35 (cs := [.string (bs (((s_l1Split p_word 47).getD 0 d_Str))), .int .i64 ((s_l24At p_t.Cols ((s_l1Split p_word 47).getD 1 d_Str))), .int .i64 (IntKind.wrap .i64 ((IntKind.wrap .i64 ((((s_l1Split p_word 47).getD 2 d_Str).getD 0 0).toNat : Int)) - 48))]) rfl (hB139.cells (n := 3) rfl)⟩ (.cons rfl .nil)) ?_))))
    have hM141 : (s_l24Read p_t p_word) = (((⟨((s_l1Split p_word 47).getD 0 d_Str), (s_l24At p_t.Cols ((s_l1Split p_word 47).getD 1 d_Str)), IntKind.wrap .i64 ((IntKind.wrap .i64 ((((s_l1Split p_word 47).getD 2 d_Str).getD 0 0).toNat : Int)) - 48)⟩ : DIdx), true)) := by simp only [s_l24Read, hb28, hb31, cL]
    rw [hM141]
    exact ⟨rfl, (okS_l1Split o4 _ _), (Below.only (Ex.trans (Ex.trans (Ex.trans (Ex.trans (Ex.refl w) hE14) hE20) hE25) hE131) hO140 oM)⟩
  ·have hb31p := dec_f hb31
   refine CW.cond_t rfl (not_f hb31) (cR (sd rfl (yl_build (cs := [.string (bs (([] : Str))), .int .i64 (0), .int .i64 (0)]) rfl opvs_nil (by kernel_rfl) (SeqR.u rfl rfl (yl_store (vs := [.string (bs (([] : Str))), .int .i64 (0), .int .i64 (0)]) ty35 rfl rfl rfl rfl rfl rfl (Box.ex hB19 hE25) (nb rfl) ?_)))))
   intro w148 hB149 hO150
   have hB149 : Box w148 b15 35 [.string (bs (([] : Str))), .int .i64 (0), .int .i64 (0)] := hB149
   have hO150z := hO150.size
   refine sA rfl (dn (CW.ret (tr (rr rfl (.cons ⟨_, rfl, run_loadN ty35 (cs := [.string (bs (([] : Str))), .int .i64 (0), .int .i64 (0)]) rfl (hB149.cells (n := 3) rfl)⟩ (.cons rfl .nil)) ?_))))
   have hM151 : (s_l24Read p_t p_word) = (((⟨([] : Str), 0, 0⟩ : DIdx), false)) := by simp only [s_l24Read, hb28, hb31, cL]
   rw [hM151]
   exact ⟨rfl, (okS.lit rfl), (Below.only (Ex.trans (Ex.trans (Ex.trans (Ex.refl w) hE14) hE20) hE25) hO150 oM)⟩
 ·have hb28p := dec_f hb28
  refine sz rfl rfl (not_f hb28) (sz rfl rfl (not_f hb28) (sz rfl rfl (not_f hb28) (sz rfl rfl (not_f hb28) (sz rfl rfl (not_f hb28) (sd rfl (yl_pick_t rfl rfl (not_f hb28) rfl (dn (CW.cond_t rfl rfl ?_))))))))
  refine cR (sd rfl (yl_build (cs := [.string (bs (([] : Str))), .int .i64 (0), .int .i64 (0)]) rfl opvs_nil (by kernel_rfl) (SeqR.u rfl rfl (yl_store (vs := [.string (bs (([] : Str))), .int .i64 (0), .int .i64 (0)]) ty35 rfl rfl rfl rfl rfl rfl (Box.ex hB19 hE25) (nb rfl) ?_))))
  intro w157 hB158 hO159
  have hB158 : Box w157 b15 35 [.string (bs (([] : Str))), .int .i64 (0), .int .i64 (0)] := hB158
  have hO159z := hO159.size
  refine sA rfl (dn (CW.ret (tr (rr rfl (.cons ⟨_, rfl, run_loadN ty35 (cs := [.string (bs (([] : Str))), .int .i64 (0), .int .i64 (0)]) rfl (hB158.cells (n := 3) rfl)⟩ (.cons rfl .nil)) ?_))))
  have hM160 : (s_l24Read p_t p_word) = (((⟨([] : Str), 0, 0⟩ : DIdx), false)) := by simp only [s_l24Read, hb28, cL]
  rw [hM160]
  exact ⟨rfl, (okS.lit rfl), (Below.only (Ex.trans (Ex.trans (Ex.trans (Ex.refl w) hE14) hE20) hE25) hO159 oM)⟩
theorem c_s_ReadTable {w : World} (p_0 : Str) (o1 : okS p_0) : Cal Tryz.prog 21 #[.string (bs (p_0))] w fun v w' => ∃ A_1 c_1 lo_1 hi_1 A_2 c_2 lo_2 hi_2, v = .tuple #[.agg #[.string (bs ((s_ReadTable p_0).1.Name)), .slice A_1 (((s_ReadTable p_0).1.Cols).length) c_1, .slice A_2 (((s_ReadTable p_0).1.Idxs).length) c_2], .bool ((s_ReadTable p_0).2)] ∧ OwnL w' lo_1 hi_1 9 1 (RF e_Str) A_1 (((s_ReadTable p_0).1.Cols).length) c_1 ((s_ReadTable p_0).1.Cols) ∧ OwnL w' lo_2 hi_2 35 3 (RF e_Idx) A_2 (((s_ReadTable p_0).1.Idxs).length) c_2 ((s_ReadTable p_0).1.Idxs) ∧ ok_Table ((s_ReadTable p_0).1) ∧ (w.heap.size ≤ lo_1 ∧ lo_1 ≤ hi_1 ∧ hi_1 ≤ w'.heap.size) ∧ (w.heap.size ≤ lo_2 ∧ lo_2 ≤ hi_2 ∧ hi_2 ≤ w'.heap.size) ∧ (hi_1 ≤ lo_2 ∨ hi_2 ≤ lo_1) ∧ Ex w w' := by
 have hol2 : p_0.length ≤ 1073741824 := o1
 have hsw : ((s_l1Split p_0 32).getD 0 d_Str).length ≤ 1073741824 := okS_l1Split ‹okS p_0› 32 0
 have hww : IntKind.wrap .i64 ((((s_l1Split p_0 32).getD 0 d_Str).length : Int) - 1) = (((s_l1Split p_0 32).getD 0 d_Str).length : Int) - 1 := wrap_in oM
 refine Cal.of func21 rfl ntmps21 rfl (cR (sd rfl (yB ty26 (cs := [.string (bs (([] : Str))), .slice none 0 0, .slice none 0 0]) rfl rfl ?_)))
 intro b3 w4 hs5 hz6 hB7 hE8
 refine sA rfl (dn (cR (sM rfl (sd rfl (yC en57 rfl (oc rfl (oc rfl oz)) (Cal.mono (c_s_l1Split p_0 32 o1) ?_))))))
 rintro v12 w9 ⟨A10, c10, lo10, hi10, rfl, h10, ho11, hrn14, hE13⟩
 have hE13z := Ex.size hE13
 have hrf15 := rf_l1Split p_0 32
 refine sA rfl (dn (cR (sM rfl ?_)))
 obtain ⟨eb17, eo17, _, eA17, _, ebl17, _, eR17, eC17⟩ := RdS.aD (OwnL.rd gS h10) d_Str (i := 0)
 obtain rfl := eR17
 have eC17 : Cells w9 eb17 (eo17 + 0 * 1) [.string (bs (((s_l1Split p_0 32).getD 0 d_Str)))] := eC17
 refine sd rfl (yl_ixN un23 ty9 rfl rfl rfl eA17 (sd rfl (yl_load1 ty9 rfl rfl (eC17 0 _ rfl) (sA rfl (dn (CW.seq (cR (sM rfl ?_))))))))
 refine sd rfl (yl_slen un9 (a := ((s_l1Split p_0 32).getD 0 d_Str)) rfl rfl (sd rfl (yl_lss rfl rfl rfl (sM rfl (bcase (decide ((((s_l1Split p_0 32).getD 0 d_Str).length : Int) < 3)) (fun hb18 => ?_) (fun hb18 => ?_))))))
 ·have hb18p := dec_t hb18
  refine sz rfl rfl hb18 (sz rfl rfl hb18 (sz rfl rfl hb18 (sd rfl (yl_pick_t rfl rfl hb18 rfl (sM rfl (sz rfl rfl rfl (sz rfl rfl rfl (sz rfl rfl rfl (sz rfl rfl rfl ?_)))))))))
  refine sz rfl rfl rfl (sz rfl rfl rfl (sd rfl (yl_pick_t rfl rfl rfl rfl (dn (CW.cond_t rfl rfl (cR (sd rfl (yl_build (cs := [.string (bs (([] : Str))), .slice none 0 0, .slice none 0 0]) rfl opvs_nil (by kernel_rfl) ?_))))))))
  refine SeqR.u rfl rfl (yl_store (vs := [.string (bs (([] : Str))), .slice none 0 0, .slice none 0 0]) ty26 rfl rfl rfl rfl rfl rfl (Box.ex hB7 hE13) (nb rfl) ?_)
  intro w20 hB21 hO22
  have hB21 : Box w20 b3 26 [.string (bs (([] : Str))), .slice none 0 0, .slice none 0 0] := hB21
  have hO22z := hO22.size
  refine sA rfl (dn (CW.ret (tr (rr rfl (.cons ⟨_, rfl, run_loadN ty26 (cs := [.string (bs (([] : Str))), .slice none 0 0, .slice none 0 0]) rfl (hB21.cells (n := 3) rfl)⟩ (.cons rfl .nil)) ?_))))
  have hM23 : (s_ReadTable p_0) = (((⟨([] : Str), [], []⟩ : DTable), false)) := by simp only [s_ReadTable, hb18, cL]
  rw [hM23]
  exact ⟨none, 0, w20.heap.size, w20.heap.size, none, 0, w20.heap.size, w20.heap.size, rfl, (OwnL.nil _ _ _ _ _ _), (OwnL.nil _ _ _ _ _ _), ⟨(okS.lit rfl), (okL.nil _), (okL.nil _)⟩, oM, oM, oM, (Below.only (Ex.trans (Ex.trans (Ex.refl w) hE8) hE13) hO22 oM)⟩
 ·have hb18p := dec_f hb18
  refine sy rfl rfl hb18 (yM rfl rfl (sy rfl rfl hb18 (yl_sindexN un9 (a := ((s_l1Split p_0 32).getD 0 d_Str)) rfl rfl rfl Bo (sy rfl rfl hb18 (yl_neq rfl rfl rfl (sd rfl (yl_pick_f rfl rfl hb18 rfl (sM rfl (bcase (decide (((((s_l1Split p_0 32).getD 0 d_Str).getD 1 0).toNat : Int) = 40)) (fun hb27 => ?_) (fun hb27 => ?_))))))))))
  ·have hb27p := dec_t hb27
   refine sy rfl rfl (not_t hb27) (yM rfl rfl (sy rfl rfl (not_t hb27) (yM rfl rfl (sy rfl rfl (not_t hb27) (yl_slen un9 (a := ((s_l1Split p_0 32).getD 0 d_Str)) rfl rfl (sy rfl rfl (not_t hb27) (yl_sub rfl rfl rfl (sy rfl rfl (not_t hb27) (yl_sindex un9 (a := ((s_l1Split p_0 32).getD 0 d_Str)) rfl rfl rfl Bo Bo (sy rfl rfl (not_t hb27) (yl_neq rfl rfl rfl (sd rfl (yl_pick_f rfl rfl (not_t hb27) rfl (dn ?_))))))))))))))
   refine bcase (decide (((((s_l1Split p_0 32).getD 0 d_Str).getD (IntKind.wrap .i64 ((((s_l1Split p_0 32).getD 0 d_Str).length : Int) - 1)).toNat 0).toNat : Int) = 41)) (fun hb28 => ?_) (fun hb28 => ?_)
   ·have hb28p := dec_t hb28
    refine CW.cond_f rfl (not_t hb28) (CW.skip (tn (CW.seq ?_)))
    have hrf34 := rf_l1Split ((((s_l1Split p_0 32).getD 0 d_Str).take ((IntKind.wrap .i64 ((((s_l1Split p_0 32).getD 0 d_Str).length : Int) - 1)).toNat)).drop 2) 44
    refine CW.drawsG 10 (fun _ _ => False) (fun _ _ _ => False) (vgetG [DetG (.string (bs (((s_l1Split p_0 32).getD 0 d_Str)))), DetG (.string (bs ((((s_l1Split p_0 32).getD 0 d_Str).take 1)))), DetG (.string (bs (((s_l1Split p_0 32).getD 0 d_Str)))), DetG (.string (bs (((s_l1Split p_0 32).getD 0 d_Str)))), DetG (.int .i64 ((((s_l1Split p_0 32).getD 0 d_Str).length : Int))), DetG (.int .i64 (IntKind.wrap .i64 ((((s_l1Split p_0 32).getD 0 d_Str).length : Int) - 1))), DetG (.string (bs (((((s_l1Split p_0 32).getD 0 d_Str).take ((IntKind.wrap .i64 ((((s_l1Split p_0 32).getD 0 d_Str).length : Int) - 1)).toNat)).drop 2)))), fun G v wq => ∃ A30 c30 lo30 hi30, v = .slice A30 ((s_l1Split ((((s_l1Split p_0 32).getD 0 d_Str).take ((IntKind.wrap .i64 ((((s_l1Split p_0 32).getD 0 d_Str).length : Int) - 1)).toNat)).drop 2) 44).length) c30 ∧ OwnL wq lo30 hi30 9 1 (RF e_Str) A30 ((s_l1Split ((((s_l1Split p_0 32).getD 0 d_Str).take ((IntKind.wrap .i64 ((((s_l1Split p_0 32).getD 0 d_Str).length : Int) - 1)).toNat)).drop 2) 44).length) c30 (s_l1Split ((((s_l1Split p_0 32).getD 0 d_Str).take ((IntKind.wrap .i64 ((((s_l1Split p_0 32).getD 0 d_Str).length : Int) - 1)).toNat)).drop 2) 44) ∧ (okL okS) (s_l1Split ((((s_l1Split p_0 32).getD 0 d_Str).take ((IntKind.wrap .i64 ((((s_l1Split p_0 32).getD 0 d_Str).length : Int) - 1)).toNat)).drop 2) 44) ∧ ((G.fl 7) ≤ lo30 ∧ lo30 ≤ hi30 ∧ hi30 ≤ (G.fh 7)), fun G v wq => ∃ A30 c30 lo30 hi30, v = .agg #[.string (bs ((((s_l1Split p_0 32).getD 0 d_Str).take 1))), .slice A30 ((s_l1Split ((((s_l1Split p_0 32).getD 0 d_Str).take ((IntKind.wrap .i64 ((((s_l1Split p_0 32).getD 0 d_Str).length : Int) - 1)).toNat)).drop 2) 44).length) c30, .slice none 0 0] ∧ OwnL wq lo30 hi30 9 1 (RF e_Str) A30 ((s_l1Split ((((s_l1Split p_0 32).getD 0 d_Str).take ((IntKind.wrap .i64 ((((s_l1Split p_0 32).getD 0 d_Str).length : Int) - 1)).toNat)).drop 2) 44).length) c30 (s_l1Split ((((s_l1Split p_0 32).getD 0 d_Str).take ((IntKind.wrap .i64 ((((s_l1Split p_0 32).getD 0 d_Str).length : Int) - 1)).toNat)).drop 2) 44) ∧ ((G.fl 7) ≤ lo30 ∧ lo30 ≤ hi30 ∧ hi30 ≤ (G.fh 7)), fun G v wq => v = .pointer (some ⟨(G.fl 9), 0, none⟩) ∧ Box wq (G.fl 9) 26 [.string (bs (([] : Str))), .slice none 0 0, .slice none 0 0] ∧ (G.fl 9) < (G.fh 9)]) Tryz.follows rfl rfl rfl rfl rfl rfl (fun _ _ _ _ _ h => h) (fun _ _ _ _ _ _ _ _ _ h => h.elim) (vgetG_kept ⟨(KeptG.det _), (KeptG.det _), (KeptG.det _), (KeptG.det _), (KeptG.det _), (KeptG.det _), (KeptG.det _), (by rintro i G v w w' K hn hh hj ⟨A30, c30, lo30, hi30, hv, h0, h1, hr0⟩ e; have d7 : G.dn 7 = true := hj; have u7 := Gh.ufl (lo := w.heap.size) (hi := w'.heap.size) d7 hn; have t7 := Gh.ufh (lo := w.heap.size) (hi := w'.heap.size) d7 hn; exact ⟨A30, c30, lo30, hi30, hv, (by exact OwnL.chg gS h0 e (fun b hb hp => by exact hp.elim)), h1, (by simp only [u7, t7]; exact hr0)⟩), (by rintro i G v w w' K hn hh hj ⟨A30, c30, lo30, hi30, hv, h0, hr0⟩ e; have d7 : G.dn 7 = true := K.cl 8 7 hj rfl; have u7 := Gh.ufl (lo := w.heap.size) (hi := w'.heap.size) d7 hn; have t7 := Gh.ufh (lo := w.heap.size) (hi := w'.heap.size) d7 hn; exact ⟨A30, c30, lo30, hi30, hv, (by exact OwnL.chg gS h0 e (fun b hb hp => by exact hp.elim)), (by simp only [u7, t7]; exact hr0)⟩), (by rintro i G v w w' K hn hh hj ⟨hv, h0, he0⟩ e; have d9 : G.dn 9 = true := hj; have u9 := Gh.ufl (lo := w.heap.size) (hi := w'.heap.size) d9 hn; have t9 := Gh.ufh (lo := w.heap.size) (hi := w'.heap.size) d9 hn; exact ⟨(by simp only [u9, t9]; exact hv), (by simp only [u9, t9]; exact Box.chg h0 e (fun hp => by exact hp.elim)), (by simp only [u9, t9]; exact he0)⟩), trivial⟩) ⟨?_, ?_, ?_, ?_, ?_, ?_, ?_, ?_, ?_, ?_, trivial⟩ ?_
    ·intro L36 w37 G35 hgk38
     have hE39 := hgk38.st.ex.ex (fun b h => h.elim (fun h => h.elim) (fun h => h))
     have hE39z := Ex.size hE39
     exact OpR.op' rfl (Yl.sameG (yM rfl (hgk38.old 5 _ rfl rfl) kI))
    ·intro L42 w43 G41 hgk44
     have hE45 := hgk44.st.ex.ex (fun b h => h.elim (fun h => h.elim) (fun h => h))
     have hE45z := Ex.size hE45
     obtain ⟨_, hx46, rfl⟩ := hgk44.val 0 33 rfl rfl
     exact OpR.op' rfl (Yl.sameG (yl_sslice_hi un9 (a := ((s_l1Split p_0 32).getD 0 d_Str)) (h := 1) rfl hx46 rfl oM kI))
    ·intro L48 w49 G47 hgk50
     have hE51 := hgk50.st.ex.ex (fun b h => h.elim (fun h => h.elim) (fun h => h))
     have hE51z := Ex.size hE51
     exact OpR.op' rfl (Yl.sameG (yM rfl (hgk50.old 5 _ rfl rfl) kI))
    ·intro L54 w55 G53 hgk56
     have hE57 := hgk56.st.ex.ex (fun b h => h.elim (fun h => h.elim) (fun h => h))
     have hE57z := Ex.size hE57
     exact OpR.op' rfl (Yl.sameG (yM rfl (hgk56.old 5 _ rfl rfl) kI))
    ·intro L60 w61 G59 hgk62
     have hE63 := hgk62.st.ex.ex (fun b h => h.elim (fun h => h.elim) (fun h => h))
     have hE63z := Ex.size hE63
     obtain ⟨_, hx64, rfl⟩ := hgk62.val 3 36 rfl rfl
     exact OpR.op' rfl (Yl.sameG (yl_slen un9 (a := ((s_l1Split p_0 32).getD 0 d_Str)) rfl hx64 kI))
    ·intro L66 w67 G65 hgk68
     have hE69 := hgk68.st.ex.ex (fun b h => h.elim (fun h => h.elim) (fun h => h))
     have hE69z := Ex.size hE69
     obtain ⟨_, hx70, rfl⟩ := hgk68.val 4 37 rfl rfl
     exact OpR.op' rfl (Yl.sameG (yl_sub rfl hx70 rfl kI))
    ·intro L72 w73 G71 hgk74
     have hE75 := hgk74.st.ex.ex (fun b h => h.elim (fun h => h.elim) (fun h => h))
     have hE75z := Ex.size hE75
     obtain ⟨_, hx76, rfl⟩ := hgk74.val 2 35 rfl rfl
     obtain ⟨_, hx77, rfl⟩ := hgk74.val 5 38 rfl rfl
     exact OpR.op' rfl (Yl.sameG (yl_sslice_lh un9 (a := ((s_l1Split p_0 32).getD 0 d_Str)) (l := 2) (h := (IntKind.wrap .i64 ((((s_l1Split p_0 32).getD 0 d_Str).length : Int) - 1)).toNat) rfl hx76 rfl (toNat_op hx77 oM) oM oM kI))
    ·intro L79 w80 G78 hgk81
     have hE82 := hgk81.st.ex.ex (fun b h => h.elim (fun h => h.elim) (fun h => h))
     have hE82z := Ex.size hE82
     obtain ⟨_, hx83, rfl⟩ := hgk81.val 6 39 rfl rfl
     refine OpR.op' rfl (yC en57 rfl (oc hx83 (oc rfl oz)) (Cal.mono (c_s_l1Split ((((s_l1Split p_0 32).getD 0 d_Str).take ((IntKind.wrap .i64 ((((s_l1Split p_0 32).getD 0 d_Str).length : Int) - 1)).toNat)).drop 2) 44 (okS.drop (okS.take (okS_l1Split o1 _ _) _) _)) ?_))
     rintro v87 w84 ⟨A85, c85, lo85, hi85, rfl, h85, ho86, hrn89, hE88⟩
     exact ⟨Chg.of_ex hE88, A85, c85, lo85, hi85, rfl, h85, ho86, hrn89⟩
    ·intro L91 w92 G90 hgk93
     have hE94 := hgk93.st.ex.ex (fun b h => h.elim (fun h => h.elim) (fun h => h))
     have hE94z := Ex.size hE94
     obtain ⟨_, hx95, rfl⟩ := hgk93.val 1 34 rfl rfl
     obtain ⟨_, hx96, A30_97, c30_98, lo30_99, hi30_100, rfl, h101, h102, hrn103⟩ := hgk93.val 7 40 rfl rfl
     have hr104 := hgk93.st.rng 7 (hgk93.has 7 rfl)
     exact OpR.op' rfl (Yl.sameG (yl_build (cs := [.string (bs ((((s_l1Split p_0 32).getD 0 d_Str).take 1))), .slice A30_97 ((s_l1Split ((((s_l1Split p_0 32).getD 0 d_Str).take ((IntKind.wrap .i64 ((((s_l1Split p_0 32).getD 0 d_Str).length : Int) - 1)).toNat)).drop 2) 44).length) c30_98, .slice none 0 0]) rfl (oc hx95 (oc hx96 oz)) (by kernel_rfl) ⟨fun _ _ => ⟨A30_97, c30_98, lo30_99, hi30_100, rfl, h101, (show ((G90.fl 7) ≤ lo30_99 ∧ lo30_99 ≤ hi30_100 ∧ hi30_100 ≤ (G90.fh 7)) by omega)⟩, rfl⟩))
    ·intro L106 w107 G105 hgk108
     have hE109 := hgk108.st.ex.ex (fun b h => h.elim (fun h => h.elim) (fun h => h))
     have hE109z := Ex.size hE109
     refine OpR.op' rfl (yB ty26 (cs := [.string (bs (([] : Str))), .slice none 0 0, .slice none 0 0]) rfl rfl ?_)
     intro b110 w111 hs112 hz113 hB114 hE115
     subst hs112
     exact ⟨Chg.of_ex hE115, rfl, hB114, by rw [Gh.sfl, Gh.sfh]; omega⟩
    ·intro G116 L117 w118 hgp119
     have hE120 := hgp119.st.ex.ex (fun b h => h.elim (fun h => h.elim) (fun h => h))
     have hE120z := Ex.size hE120
     obtain ⟨_, hx124, A30_125, c30_126, lo30_127, hi30_128, rfl, h129, h130, hrn131⟩ := hgp119.val 7 40 rfl rfl
     obtain ⟨_, hx132, A30_133, c30_134, lo30_135, hi30_136, rfl, h137, hrn138⟩ := hgp119.val 8 41 rfl rfl
     obtain ⟨_, hx139, rfl, h140, he141⟩ := hgp119.val 9 6 rfl rfl
     have hr142 := hgp119.st.rng 7 (hgp119.has 7 rfl)
     have hr143 := hgp119.st.rng 8 (hgp119.has 8 rfl)
     have hr144 := hgp119.st.rng 9 (hgp119.has 9 rfl)
     have hsp145 := hgp119.st.ord 8 7 (hgp119.has 8 rfl) rfl
     have hsp146 := hgp119.st.sep 7 9 (hgp119.has 7 rfl) (hgp119.has 9 rfl) rfl
     have hsp147 := hgp119.st.sep 8 9 (hgp119.has 8 rfl) (hgp119.has 9 rfl) rfl
     refine SeqR.u rfl rfl (yl_store (vs := [.string (bs ((((s_l1Split p_0 32).getD 0 d_Str).take 1))), .slice A30_133 ((s_l1Split ((((s_l1Split p_0 32).getD 0 d_Str).take ((IntKind.wrap .i64 ((((s_l1Split p_0 32).getD 0 d_Str).length : Int) - 1)).toNat)).drop 2) 44).length) c30_134, .slice none 0 0]) ty26 rfl hx139 hx132 rfl rfl rfl h140 (nb rfl) ?_)
     intro w148 hB149 hO150
     have hB149 : Box w148 (G116.fl 9) 26 [.string (bs ((((s_l1Split p_0 32).getD 0 d_Str).take 1))), .slice A30_133 ((s_l1Split ((((s_l1Split p_0 32).getD 0 d_Str).take ((IntKind.wrap .i64 ((((s_l1Split p_0 32).getD 0 d_Str).length : Int) - 1)).toNat)).drop 2) 44).length) c30_134, .slice none 0 0] := hB149
     have hO150z := hO150.size
     refine dn (CW.sub (sC 0 (hgp119.old 0 _ rfl rfl) (sC 2 (hgp119.old 2 _ rfl rfl) (sC 4 (hgp119.old 4 _ rfl rfl) (sC 6 hx139 (Sub.nil _))))) (CW.seq (cR (sM rfl ?_))))
     have q154 := OwnL.rdI gS (OwnL.only gS (OwnL.ex gS h10 hE120) hO150 oM)
     obtain ⟨A155, c156, he159, h158⟩ := RdS.sl (RdS.drop q154 (k := 1) oM)
     have hrc160 := (q154).2.1
     refine sd rfl (yl_sliceR (kh := .i64) (l := 1) (h := (s_l1Split p_0 32).length) un23 ty9 rfl rfl (.inr ⟨_, rfl, rfl⟩) (.inl ⟨rfl, rfl⟩) oM oM he159 (sd rfl (yL un23 rfl rfl (sM rfl (dn (CW.block (CW.loop (fun m202 L203 w204 => ∃ (k161 : Nat) (x198 : List DIdx) (A199 : Option Addr) (c200 : Nat) (u201 : Nat), m202 = ((s_l1Split p_0 32).drop 1).length - k161 ∧ k161 ≤ ((s_l1Split p_0 32).drop 1).length ∧ w148.heap.size ≤ w204.heap.size ∧ lkp L203 0 = some (.string (bs (p_0))) ∧ lkp L203 2 = some (.pointer (some ⟨b3, 0, none⟩)) ∧ lkp L203 6 = some (.pointer (some ⟨(G116.fl 9), 0, none⟩)) ∧ lkp L203 43 = some (.slice A155 (((s_l1Split p_0 32).drop 1).length) c156) ∧ lkp L203 44 = some (.int .i64 ((((s_l1Split p_0 32).drop 1).length : Int))) ∧ lkp L203 45 = some (.int .i64 ((k161 : Int))) ∧ Box w204 b3 26 [.string (bs (([] : Str))), .slice none 0 0, .slice none 0 0] ∧ Box w204 (G116.fl 9) 26 [.string (bs ((((s_l1Split p_0 32).getD 0 d_Str).take 1))), .slice A30_133 ((s_l1Split ((((s_l1Split p_0 32).getD 0 d_Str).take ((IntKind.wrap .i64 ((((s_l1Split p_0 32).getD 0 d_Str).length : Int) - 1)).toNat)).drop 2) 44).length) c30_134, .slice A199 x198.length c200] ∧ OwnL w204 lo30_135 hi30_136 9 1 (RF e_Str) A30_133 ((s_l1Split ((((s_l1Split p_0 32).getD 0 d_Str).take ((IntKind.wrap .i64 ((((s_l1Split p_0 32).getD 0 d_Str).length : Int) - 1)).toNat)).drop 2) 44).length) c30_134 (s_l1Split ((((s_l1Split p_0 32).getD 0 d_Str).take ((IntKind.wrap .i64 ((((s_l1Split p_0 32).getD 0 d_Str).length : Int) - 1)).toNat)).drop 2) 44) ∧ OwnL w204 w148.heap.size u201 35 3 (RF e_Idx) A199 x198.length c200 x198 ∧ RdS w204 (Iv lo10 hi10) (RF e_Str) 1 A155 ((s_l1Split p_0 32).drop 1).length c156 ((s_l1Split p_0 32).drop 1) ∧ Ex w w204 ∧ (w148.heap.size ≤ u201 ∧ u201 ≤ w204.heap.size) ∧ x198.length ≤ 0 + 1 * (k161 - 0) ∧ (∀ y ∈ x198, ok_Idx y) ∧ loopM (B_s_ReadTable_0 p_0) (((s_l1Split p_0 32).drop 1).length - k161) k161 (x198) = loopM (B_s_ReadTable_0 p_0) (((s_l1Split p_0 32).drop 1).length - 0) 0 (([] : List DIdx))) (((s_l1Split p_0 32).drop 1).length - 0) ?_ ?_)))))))
     ·exact ⟨0, ([] : List DIdx), none, 0, w148.heap.size, rfl, oM, Nat.le_refl _, rfl, rfl, rfl, rfl, rfl, rfl, (Box.only (Box.ex (Box.ex hB7 hE13) hE120) hO150 oM), hB149, (OwnL.only gS h137 hO150 oM), (OwnL.nil w148 w148.heap.size w148.heap.size 35 3 (RF e_Idx)), h158, (Below.only (Ex.trans (Ex.trans (Ex.trans (Ex.refl w) hE8) hE13) hE120) hO150 oM), oM, (by first | (simp; done) | (first | omega | (simp only [lN, toS_length]; omega))), okE.nil, rfl⟩
     ·rintro m213 L214 w215 ⟨k161, x198, A199, c200, u201, rfl, hk216, hsz218, hl219, hl220, hl221, hl222, hl223, hl224, hf225, hf226, hf227, hf228, hf229, hf230, hu231, hln232, hok233, hI217⟩
      refine CW.sub (Sub.cons hl219 (Sub.cons hl220 (Sub.cons hl221 (Sub.cons hl222 (Sub.cons hl223 (Sub.cons hl224 (Sub.nil _))))))) ?_
      have hf225z := Box.lt hf225
      have hf226z := Box.lt hf226
      have hf230z := Ex.size hf230
      have hbg234 := RdS.big hf229
      rcases Nat.lt_or_ge k161 (((s_l1Split p_0 32).drop 1).length) with hlt235 | hlt235
      ·refine cR (sd rfl (yl_lss rfl rfl rfl (dn (CW.seq (CW.cond_t rfl (lt_t hlt235) (CW.skip (tn ?_)))))))
       refine CW.seq (CW.block (cR ?_))
       obtain ⟨eb236, eo236, _, eA236, _, ebl236, _, eR236, eC236⟩ := RdS.aD hf229 d_Str (i := k161)
       obtain rfl := eR236
       have eC236 : Cells w215 eb236 (eo236 + k161 * 1) [.string (bs ((((s_l1Split p_0 32).drop 1).getD k161 d_Str)))] := eC236
       refine sd rfl (yl_ixN un23 ty9 rfl rfl rfl eA236 (sd rfl (yl_load1 ty9 rfl rfl (eC236 0 _ rfl) (sA rfl (dn (cR (sd rfl (yl_loadN ty26 rfl rfl (hf226.cells (n := 3) rfl) rfl (sM rfl ?_)))))))))
       refine sd rfl (yC en58 rfl (oc rfl (oc rfl oz)) (Cal.mono (c_s_l24Read (⟨(((s_l1Split p_0 32).getD 0 d_Str).take 1), (s_l1Split ((((s_l1Split p_0 32).getD 0 d_Str).take ((IntKind.wrap .i64 ((((s_l1Split p_0 32).getD 0 d_Str).length : Int) - 1)).toNat)).drop 2) 44), x198⟩ : DTable) (((s_l1Split p_0 32).drop 1).getD k161 d_Str) (RdS.up (OwnL.rd gS hf227) gS) (RdS.up (OwnL.rd gI hf228) gI) (⟨(okS.take (okS_l1Split o1 _ _) _), h130, (okL.mk (xs := x198) Bl hok233)⟩) (okL.getD (okL.drop ho11 _) ok_d_Str _)) ?_))
       rintro v241 w239 ⟨rfl, ho240, hE242⟩
       have hE242z := Ex.size hE242
       refine sM rfl (sd rfl (yl_extract rfl rfl rfl (sd rfl (yl_extract rfl rfl rfl (sd rfl (yB ty35 (cs := [.string (bs (([] : Str))), .int .i64 (0), .int .i64 (0)]) rfl rfl ?_))))))
       intro b243 w244 hs245 hz246 hB247 hE248
       refine SeqR.u rfl rfl (yl_store (vs := [.string (bs ((s_l24Read (⟨(((s_l1Split p_0 32).getD 0 d_Str).take 1), (s_l1Split ((((s_l1Split p_0 32).getD 0 d_Str).take ((IntKind.wrap .i64 ((((s_l1Split p_0 32).getD 0 d_Str).length : Int) - 1)).toNat)).drop 2) 44), x198⟩ : DTable) (((s_l1Split p_0 32).drop 1).getD k161 d_Str)).1.Name)), .int .i64 ((s_l24Read (⟨(((s_l1Split p_0 32).getD 0 d_Str).take 1), (s_l1Split ((((s_l1Split p_0 32).getD 0 d_Str).take ((IntKind.wrap .i64 ((((s_l1Split p_0 32).getD 0 d_Str).length : Int) - 1)).toNat)).drop 2) 44), x198⟩ : DTable) (((s_l1Split p_0 32).drop 1).getD k161 d_Str)).1.Col), .int .i64 ((s_l24Read (⟨(((s_l1Split p_0 32).getD 0 d_Str).take 1), (s_l1Split ((((s_l1Split p_0 32).getD 0 d_Str).take ((IntKind.wrap .i64 ((((s_l1Split p_0 32).getD 0 d_Str).length : Int) - 1)).toNat)).drop 2) 44), x198⟩ : DTable) (((s_l1Split p_0 32).drop 1).getD k161 d_Str)).1.Stage)]) ty35 rfl rfl rfl rfl rfl rfl hB247 (nb rfl) ?_)
       intro w249 hB250 hO251
       have hB250 : Box w249 b243 35 [.string (bs ((s_l24Read (⟨(((s_l1Split p_0 32).getD 0 d_Str).take 1), (s_l1Split ((((s_l1Split p_0 32).getD 0 d_Str).take ((IntKind.wrap .i64 ((((s_l1Split p_0 32).getD 0 d_Str).length : Int) - 1)).toNat)).drop 2) 44), x198⟩ : DTable) (((s_l1Split p_0 32).drop 1).getD k161 d_Str)).1.Name)), .int .i64 ((s_l24Read (⟨(((s_l1Split p_0 32).getD 0 d_Str).take 1), (s_l1Split ((((s_l1Split p_0 32).getD 0 d_Str).take ((IntKind.wrap .i64 ((((s_l1Split p_0 32).getD 0 d_Str).length : Int) - 1)).toNat)).drop 2) 44), x198⟩ : DTable) (((s_l1Split p_0 32).drop 1).getD k161 d_Str)).1.Col), .int .i64 ((s_l24Read (⟨(((s_l1Split p_0 32).getD 0 d_Str).take 1), (s_l1Split ((((s_l1Split p_0 32).getD 0 d_Str).take ((IntKind.wrap .i64 ((((s_l1Split p_0 32).getD 0 d_Str).length : Int) - 1)).toNat)).drop 2) 44), x198⟩ : DTable) (((s_l1Split p_0 32).drop 1).getD k161 d_Str)).1.Stage)] := hB250
       have hO251z := hO251.size
       refine sA rfl (dn (CW.seq (cR (sM rfl (sd rfl (yl_not rfl rfl (SeqR.done ?_)))))))
       refine tn (bcase ((s_l24Read (⟨(((s_l1Split p_0 32).getD 0 d_Str).take 1), (s_l1Split ((((s_l1Split p_0 32).getD 0 d_Str).take ((IntKind.wrap .i64 ((((s_l1Split p_0 32).getD 0 d_Str).length : Int) - 1)).toNat)).drop 2) 44), x198⟩ : DTable) (((s_l1Split p_0 32).drop 1).getD k161 d_Str)).2) (fun hb252 => ?_) (fun hb252 => ?_))
       ·refine CW.cond_f rfl (not_t hb252) (CW.skip (tn (CW.region (sd rfl (yl_fieldAddr fd26_2 rfl rfl ?_)))))
        have q255 := Box.only (Box.ex (Box.ex hf226 hE242) hE248) hO251 oM
        refine sd rfl (yl_load1 ty24 rfl rfl ((q255.cell 2).trans rfl) (sd rfl (yl_loadN ty35 rfl rfl (hB250.cells (n := 3) rfl) rfl (sd rfl (yl_buildSlice (cs := [.string (bs ((s_l24Read (⟨(((s_l1Split p_0 32).getD 0 d_Str).take 1), (s_l1Split ((((s_l1Split p_0 32).getD 0 d_Str).take ((IntKind.wrap .i64 ((((s_l1Split p_0 32).getD 0 d_Str).length : Int) - 1)).toNat)).drop 2) 44), x198⟩ : DTable) (((s_l1Split p_0 32).drop 1).getD k161 d_Str)).1.Name)), .int .i64 ((s_l24Read (⟨(((s_l1Split p_0 32).getD 0 d_Str).take 1), (s_l1Split ((((s_l1Split p_0 32).getD 0 d_Str).take ((IntKind.wrap .i64 ((((s_l1Split p_0 32).getD 0 d_Str).length : Int) - 1)).toNat)).drop 2) 44), x198⟩ : DTable) (((s_l1Split p_0 32).drop 1).getD k161 d_Str)).1.Col), .int .i64 ((s_l24Read (⟨(((s_l1Split p_0 32).getD 0 d_Str).take 1), (s_l1Split ((((s_l1Split p_0 32).getD 0 d_Str).take ((IntKind.wrap .i64 ((((s_l1Split p_0 32).getD 0 d_Str).length : Int) - 1)).toNat)).drop 2) 44), x198⟩ : DTable) (((s_l1Split p_0 32).drop 1).getD k161 d_Str)).1.Stage)]) un24 ty35 (by decide) rfl (oc rfl oz) (by kernel_rfl) ?_)))))
        intro b256 w257 hs258 hz259 hB260 hE261
        have hO262 : OwnL w257 b256 (b256 + 1) 35 3 (RF e_Idx) (some ⟨b256, 0, none⟩) 1 1 ([(s_l24Read (⟨(((s_l1Split p_0 32).getD 0 d_Str).take 1), (s_l1Split ((((s_l1Split p_0 32).getD 0 d_Str).take ((IntKind.wrap .i64 ((((s_l1Split p_0 32).getD 0 d_Str).length : Int) - 1)).toNat)).drop 2) 44), x198⟩ : DTable) (((s_l1Split p_0 32).drop 1).getD k161 d_Str)).1] : List DIdx) := OwnL.of_box (S := fun _ => False) hB260 (Nat.le_refl _) (Nat.lt_succ_self _) (EncL.cons (c := [.string (bs ((s_l24Read (⟨(((s_l1Split p_0 32).getD 0 d_Str).take 1), (s_l1Split ((((s_l1Split p_0 32).getD 0 d_Str).take ((IntKind.wrap .i64 ((((s_l1Split p_0 32).getD 0 d_Str).length : Int) - 1)).toNat)).drop 2) 44), x198⟩ : DTable) (((s_l1Split p_0 32).drop 1).getD k161 d_Str)).1.Name)), .int .i64 ((s_l24Read (⟨(((s_l1Split p_0 32).getD 0 d_Str).take 1), (s_l1Split ((((s_l1Split p_0 32).getD 0 d_Str).take ((IntKind.wrap .i64 ((((s_l1Split p_0 32).getD 0 d_Str).length : Int) - 1)).toNat)).drop 2) 44), x198⟩ : DTable) (((s_l1Split p_0 32).drop 1).getD k161 d_Str)).1.Col), .int .i64 ((s_l24Read (⟨(((s_l1Split p_0 32).getD 0 d_Str).take 1), (s_l1Split ((((s_l1Split p_0 32).getD 0 d_Str).take ((IntKind.wrap .i64 ((((s_l1Split p_0 32).getD 0 d_Str).length : Int) - 1)).toNat)).drop 2) 44), x198⟩ : DTable) (((s_l1Split p_0 32).drop 1).getD k161 d_Str)).1.Stage)]) rfl rfl EncL.nil) (nb rfl) (fun h => h) (fun _ h => False.elim h)
        refine sd rfl (yl_appendL (S := (fun _ => False)) (lo := w148.heap.size) (hi := u201) (xs := x198) (ys := ([(s_l24Read (⟨(((s_l1Split p_0 32).getD 0 d_Str).take 1), (s_l1Split ((((s_l1Split p_0 32).getD 0 d_Str).take ((IntKind.wrap .i64 ((((s_l1Split p_0 32).getD 0 d_Str).length : Int) - 1)).toNat)).drop 2) 44), x198⟩ : DTable) (((s_l1Split p_0 32).drop 1).getD k161 d_Str)).1] : List DIdx)) gI un24 ty35 rfl (nb rfl) rfl rfl rfl (OwnL.ex gI (OwnL.only gI (OwnL.ex gI (OwnL.ex gI hf228 hE242) hE248) hO251 oM) hE261) (EncL.cons (c := [.string (bs ((s_l24Read (⟨(((s_l1Split p_0 32).getD 0 d_Str).take 1), (s_l1Split ((((s_l1Split p_0 32).getD 0 d_Str).take ((IntKind.wrap .i64 ((((s_l1Split p_0 32).getD 0 d_Str).length : Int) - 1)).toNat)).drop 2) 44), x198⟩ : DTable) (((s_l1Split p_0 32).drop 1).getD k161 d_Str)).1.Name)), .int .i64 ((s_l24Read (⟨(((s_l1Split p_0 32).getD 0 d_Str).take 1), (s_l1Split ((((s_l1Split p_0 32).getD 0 d_Str).take ((IntKind.wrap .i64 ((((s_l1Split p_0 32).getD 0 d_Str).length : Int) - 1)).toNat)).drop 2) 44), x198⟩ : DTable) (((s_l1Split p_0 32).drop 1).getD k161 d_Str)).1.Col), .int .i64 ((s_l24Read (⟨(((s_l1Split p_0 32).getD 0 d_Str).take 1), (s_l1Split ((((s_l1Split p_0 32).getD 0 d_Str).take ((IntKind.wrap .i64 ((((s_l1Split p_0 32).getD 0 d_Str).length : Int) - 1)).toNat)).drop 2) 44), x198⟩ : DTable) (((s_l1Split p_0 32).drop 1).getD k161 d_Str)).1.Stage)]) rfl rfl EncL.nil) (Or.inr ⟨_, _, rfl, rfl, hB260.cells (o := 0) (n := 3) rfl⟩) rfl Bl Bl oM oM (fun _ h _ => False.elim h) oM ?_)
        intro A267 c268 w269 row270 hO271 hG272 hrg273
        have hG272z := hG272.size
        refine sd rfl (yl_fieldAddr fd26_2 rfl rfl (SeqR.u rfl rfl (yl_store (vs := [.slice A267 ((x198 ++ ([(s_l24Read (⟨(((s_l1Split p_0 32).getD 0 d_Str).take 1), (s_l1Split ((((s_l1Split p_0 32).getD 0 d_Str).take ((IntKind.wrap .i64 ((((s_l1Split p_0 32).getD 0 d_Str).length : Int) - 1)).toNat)).drop 2) 44), x198⟩ : DTable) (((s_l1Split p_0 32).drop 1).getD k161 d_Str)).1] : List DIdx)).length) c268]) ty24 rfl rfl rfl rfl rfl rfl (Box.grown (Box.ex q255 hE261) hG272 (fun k hk => by have := hrg273 k hk; omega)) (nb rfl) ?_)))
        intro w276 hB277 hO278
        have hB277 : Box w276 (G116.fl 9) 26 [.string (bs ((((s_l1Split p_0 32).getD 0 d_Str).take 1))), .slice A30_133 ((s_l1Split ((((s_l1Split p_0 32).getD 0 d_Str).take ((IntKind.wrap .i64 ((((s_l1Split p_0 32).getD 0 d_Str).length : Int) - 1)).toNat)).drop 2) 44).length) c30_134, .slice A267 ((x198 ++ ([(s_l24Read (⟨(((s_l1Split p_0 32).getD 0 d_Str).take 1), (s_l1Split ((((s_l1Split p_0 32).getD 0 d_Str).take ((IntKind.wrap .i64 ((((s_l1Split p_0 32).getD 0 d_Str).length : Int) - 1)).toNat)).drop 2) 44), x198⟩ : DTable) (((s_l1Split p_0 32).drop 1).getD k161 d_Str)).1] : List DIdx)).length) c268] := hB277
        have hO278z := hO278.size
        refine SeqR.done (bn (tn (CW.region (sd rfl (yl_inc rfl rfl rfl oM (sM rfl (dn ?_)))))))
        have hB279 : B_s_ReadTable_0 p_0 k161 (x198) = .cont ((x198 ++ ([(s_l24Read (⟨(((s_l1Split p_0 32).getD 0 d_Str).take 1), (s_l1Split ((((s_l1Split p_0 32).getD 0 d_Str).take ((IntKind.wrap .i64 ((((s_l1Split p_0 32).getD 0 d_Str).length : Int) - 1)).toNat)).drop 2) 44), x198⟩ : DTable) (((s_l1Split p_0 32).drop 1).getD k161 d_Str)).1] : List DIdx))) := by simp only [B_s_ReadTable_0, hb18, hb27, hb28, hb252, cL]
        exact ⟨((s_l1Split p_0 32).drop 1).length - (k161 + 1), oM, k161 + 1, (x198 ++ ([(s_l24Read (⟨(((s_l1Split p_0 32).getD 0 d_Str).take 1), (s_l1Split ((((s_l1Split p_0 32).getD 0 d_Str).take ((IntKind.wrap .i64 ((((s_l1Split p_0 32).getD 0 d_Str).length : Int) - 1)).toNat)).drop 2) 44), x198⟩ : DTable) (((s_l1Split p_0 32).drop 1).getD k161 d_Str)).1] : List DIdx)), A267, c268, w269.heap.size, rfl, hlt235, oM, rfl, rfl, rfl, rfl, rfl, rfl, (Box.only (Box.grown (Box.ex (Box.only (Box.ex (Box.ex hf225 hE242) hE248) hO251 oM) hE261) hG272 (fun k hk => by have := hrg273 k hk; omega)) hO278 oM), hB277, (OwnL.only gS (OwnL.grown gS (OwnL.ex gS (OwnL.only gS (OwnL.ex gS (OwnL.ex gS hf227 hE242) hE248) hO251 oM) hE261) hG272 (fun k hk => by have := hrg273 k hk; omega)) hO278 oM), (OwnL.only gI hO271 hO278 oM), (RdS.only gS (RdS.grown gS (RdS.ex gS (RdS.only gS (RdS.ex gS (RdS.ex gS hf229 hE242) hE248) hO251 (by simp only [Iv]; omega)) hE261) hG272 (fun k hk => by have := hrg273 k hk; simp only [Iv]; omega)) hO278 (by simp only [Iv]; omega)), (Below.only (Below.grown (Ex.trans (Below.only (Ex.trans (Ex.trans hf230 hE242) hE248) hO251 oM) hE261) hG272 oM (fun k hk => by have := hrg273 k hk; omega)) hO278 oM), oM, Bl, (okE.append hok233 ((okL.mk (nb rfl) (okE.cons (show ok_Idx ((s_l24Read (⟨(((s_l1Split p_0 32).getD 0 d_Str).take 1), (s_l1Split ((((s_l1Split p_0 32).getD 0 d_Str).take ((IntKind.wrap .i64 ((((s_l1Split p_0 32).getD 0 d_Str).length : Int) - 1)).toNat)).drop 2) 44), x198⟩ : DTable) (((s_l1Split p_0 32).drop 1).getD k161 d_Str)).1) from ho240) okE.nil))).2), (loopM.cont hlt235 hB279).symm.trans hI217⟩
       ·refine CW.cond_t rfl (not_f hb252) (cR (sd rfl (yl_build (cs := [.string (bs (([] : Str))), .slice none 0 0, .slice none 0 0]) rfl opvs_nil (by kernel_rfl) (SeqR.u rfl rfl (yl_store (vs := [.string (bs (([] : Str))), .slice none 0 0, .slice none 0 0]) ty26 rfl rfl rfl rfl rfl rfl (Box.only (Box.ex (Box.ex hf225 hE242) hE248) hO251 oM) (nb rfl) ?_)))))
        intro w308 hB309 hO310
        have hB309 : Box w308 b3 26 [.string (bs (([] : Str))), .slice none 0 0, .slice none 0 0] := hB309
        have hO310z := hO310.size
        refine sA rfl (dn (CW.ret (tr (br (tr (tr ?_))))))
        have hB312 : B_s_ReadTable_0 p_0 k161 (x198) = .ret ((⟨([] : Str), [], []⟩ : DTable), false) := by simp only [B_s_ReadTable_0, hb18, hb27, hb28, hb252, cL]
        have hL311 : loopM (B_s_ReadTable_0 p_0) (((s_l1Split p_0 32).drop 1).length - 0) 0 (([] : List DIdx)) = .ret ((⟨([] : Str), [], []⟩ : DTable), false) := hI217.symm.trans (loopM.ret hlt235 hB312)
        refine br (tr (rr rfl (.cons ⟨_, rfl, run_loadN ty26 (cs := [.string (bs (([] : Str))), .slice none 0 0, .slice none 0 0]) rfl (hB309.cells (n := 3) rfl)⟩ (.cons rfl .nil)) ?_))
        have hM313 : (s_ReadTable p_0) = (((⟨([] : Str), [], []⟩ : DTable), false)) := by simp only [s_ReadTable, hb18, hb27, hb28, hb252, hL311, cL]
        rw [hM313]
        exact ⟨none, 0, w308.heap.size, w308.heap.size, none, 0, w308.heap.size, w308.heap.size, rfl, (OwnL.nil _ _ _ _ _ _), (OwnL.nil _ _ _ _ _ _), ⟨(okS.lit rfl), (okL.nil _), (okL.nil _)⟩, oM, oM, oM, (Below.only (Below.only (Ex.trans (Ex.trans hf230 hE242) hE248) hO251 oM) hO310 oM)⟩
      ·refine cR (sd rfl (yl_lss rfl rfl rfl (dn (CW.seq (CW.cond_f rfl (lt_f hlt235) (CW.exit (tx ?_)))))))
       refine tx ?_
       have hL318 : loopM (B_s_ReadTable_0 p_0) (((s_l1Split p_0 32).drop 1).length - 0) 0 (([] : List DIdx)) = .done (x198) := hI217.symm.trans (loopM.stop hlt235)
       refine bx (tn (CW.seq (cR (sd rfl (yl_loadN ty26 rfl rfl (hf226.cells (n := 3) rfl) rfl (sd rfl (yC en14 rfl (oc rfl oz) (Cal.mono (c_s_GoodTable (⟨(((s_l1Split p_0 32).getD 0 d_Str).take 1), (s_l1Split ((((s_l1Split p_0 32).getD 0 d_Str).take ((IntKind.wrap .i64 ((((s_l1Split p_0 32).getD 0 d_Str).length : Int) - 1)).toNat)).drop 2) 44), x198⟩ : DTable) (RdS.up (OwnL.rd gS hf227) gS) (RdS.up (OwnL.rd gI hf228) gI) (⟨(okS.take (okS_l1Split o1 _ _) _), h130, (okL.mk (xs := x198) Bl hok233)⟩)) ?_))))))))
       rintro v322 w321 ⟨rfl, hE323⟩
       have hE323z := Ex.size hE323
       refine sd rfl (yl_not rfl rfl (sM rfl (bcase (s_GoodTable (⟨(((s_l1Split p_0 32).getD 0 d_Str).take 1), (s_l1Split ((((s_l1Split p_0 32).getD 0 d_Str).take ((IntKind.wrap .i64 ((((s_l1Split p_0 32).getD 0 d_Str).length : Int) - 1)).toNat)).drop 2) 44), x198⟩ : DTable)) (fun hb324 => ?_) (fun hb324 => ?_))))
       ·have hb324p := f_s_GoodTable hb324
        have q325 := Box.ex hf226 hE323
        refine sy rfl rfl (not_t hb324) (yl_loadN ty26 rfl rfl (q325.cells (n := 3) rfl) rfl ?_)
        have q327 := OwnL.ex gS hf227 hE323
        have q329 := OwnL.ex gI hf228 hE323
        refine sy rfl rfl (not_t hb324) (yC en55 rfl (oc rfl oz) (Cal.mono (c_s_l24Text (⟨(((s_l1Split p_0 32).getD 0 d_Str).take 1), (s_l1Split ((((s_l1Split p_0 32).getD 0 d_Str).take ((IntKind.wrap .i64 ((((s_l1Split p_0 32).getD 0 d_Str).length : Int) - 1)).toNat)).drop 2) 44), x198⟩ : DTable) (RdS.up (OwnL.rd gS q327) gS) (RdS.up (OwnL.rd gI q329) gI) (⟨(okS.take (okS_l1Split o1 _ _) _), h130, (okL.mk (xs := x198) Bl hok233)⟩) hb324) ?_))
        rintro v331 w330 ⟨rfl, hE332⟩
        have hE332z := Ex.size hE332
        refine sy rfl rfl (not_t hb324) (yM rfl rfl (sy rfl rfl (not_t hb324) (yl_sneq (a := (s_l24Text (⟨(((s_l1Split p_0 32).getD 0 d_Str).take 1), (s_l1Split ((((s_l1Split p_0 32).getD 0 d_Str).take ((IntKind.wrap .i64 ((((s_l1Split p_0 32).getD 0 d_Str).length : Int) - 1)).toNat)).drop 2) 44), x198⟩ : DTable))) (b := p_0) rfl rfl rfl (sd rfl (yl_pick_f rfl rfl (not_t hb324) rfl (dn (bcase ((s_l24Text (⟨(((s_l1Split p_0 32).getD 0 d_Str).take 1), (s_l1Split ((((s_l1Split p_0 32).getD 0 d_Str).take ((IntKind.wrap .i64 ((((s_l1Split p_0 32).getD 0 d_Str).length : Int) - 1)).toNat)).drop 2) 44), x198⟩ : DTable)) == p_0) (fun hb333 => ?_) (fun hb333 => ?_))))))))
        ·refine CW.cond_f rfl (not_t hb333) (CW.skip (tn (cR (sd rfl (yl_loadN ty26 rfl rfl ((Box.ex q325 hE332).cells (n := 3) rfl) rfl (SeqR.u rfl rfl (yl_store (vs := [.string (bs ((((s_l1Split p_0 32).getD 0 d_Str).take 1))), .slice A30_133 ((s_l1Split ((((s_l1Split p_0 32).getD 0 d_Str).take ((IntKind.wrap .i64 ((((s_l1Split p_0 32).getD 0 d_Str).length : Int) - 1)).toNat)).drop 2) 44).length) c30_134, .slice A199 x198.length c200]) ty26 rfl rfl rfl rfl rfl rfl (Box.ex (Box.ex hf225 hE323) hE332) (nb rfl) ?_)))))))
         intro w337 hB338 hO339
         have hB338 : Box w337 b3 26 [.string (bs ((((s_l1Split p_0 32).getD 0 d_Str).take 1))), .slice A30_133 ((s_l1Split ((((s_l1Split p_0 32).getD 0 d_Str).take ((IntKind.wrap .i64 ((((s_l1Split p_0 32).getD 0 d_Str).length : Int) - 1)).toNat)).drop 2) 44).length) c30_134, .slice A199 x198.length c200] := hB338
         have hO339z := hO339.size
         refine sA rfl (dn (CW.ret (rr rfl (.cons ⟨_, rfl, run_loadN ty26 (cs := [.string (bs ((((s_l1Split p_0 32).getD 0 d_Str).take 1))), .slice A30_133 ((s_l1Split ((((s_l1Split p_0 32).getD 0 d_Str).take ((IntKind.wrap .i64 ((((s_l1Split p_0 32).getD 0 d_Str).length : Int) - 1)).toNat)).drop 2) 44).length) c30_134, .slice A199 x198.length c200]) rfl (hB338.cells (n := 3) rfl)⟩ (.cons rfl .nil)) ?_)))
         have hM340 : (s_ReadTable p_0) = (((⟨(((s_l1Split p_0 32).getD 0 d_Str).take 1), (s_l1Split ((((s_l1Split p_0 32).getD 0 d_Str).take ((IntKind.wrap .i64 ((((s_l1Split p_0 32).getD 0 d_Str).length : Int) - 1)).toNat)).drop 2) 44), x198⟩ : DTable), true)) := by simp only [s_ReadTable, hb18, hb27, hb28, hb324, hb333, hL318, cL]
         rw [hM340]
         exact ⟨A30_133, c30_134, lo30_135, hi30_136, A199, c200, w148.heap.size, u201, rfl, (OwnL.only gS (OwnL.ex gS q327 hE332) hO339 oM), (OwnL.only gI (OwnL.ex gI q329 hE332) hO339 oM), ⟨(okS.take (okS_l1Split o1 _ _) _), h130, (okL.mk (xs := x198) Bl hok233)⟩, oM, oM, oM, (Below.only (Ex.trans (Ex.trans hf230 hE323) hE332) hO339 oM)⟩
        ·refine CW.cond_t rfl (not_f hb333) (cR (sd rfl (yl_build (cs := [.string (bs (([] : Str))), .slice none 0 0, .slice none 0 0]) rfl opvs_nil (by kernel_rfl) (SeqR.u rfl rfl (yl_store (vs := [.string (bs (([] : Str))), .slice none 0 0, .slice none 0 0]) ty26 rfl rfl rfl rfl rfl rfl (Box.ex (Box.ex hf225 hE323) hE332) (nb rfl) ?_)))))
         intro w350 hB351 hO352
         have hB351 : Box w350 b3 26 [.string (bs (([] : Str))), .slice none 0 0, .slice none 0 0] := hB351
         have hO352z := hO352.size
         refine sA rfl (dn (CW.ret (tr (rr rfl (.cons ⟨_, rfl, run_loadN ty26 (cs := [.string (bs (([] : Str))), .slice none 0 0, .slice none 0 0]) rfl (hB351.cells (n := 3) rfl)⟩ (.cons rfl .nil)) ?_))))
         have hM353 : (s_ReadTable p_0) = (((⟨([] : Str), [], []⟩ : DTable), false)) := by simp only [s_ReadTable, hb18, hb27, hb28, hb324, hb333, hL318, cL]
         rw [hM353]
         exact ⟨none, 0, w350.heap.size, w350.heap.size, none, 0, w350.heap.size, w350.heap.size, rfl, (OwnL.nil _ _ _ _ _ _), (OwnL.nil _ _ _ _ _ _), ⟨(okS.lit rfl), (okL.nil _), (okL.nil _)⟩, oM, oM, oM, (Below.only (Ex.trans (Ex.trans hf230 hE323) hE332) hO352 oM)⟩
       ·refine sz rfl rfl (not_f hb324) (sz rfl rfl (not_f hb324) (sz rfl rfl (not_f hb324) (sz rfl rfl (not_f hb324) (sd rfl (yl_pick_t rfl rfl (not_f hb324) rfl (dn (CW.cond_t rfl rfl (CW.seq ?_))))))))
        refine CW.region (sd rfl (yl_build (cs := [.string (bs (([] : Str))), .slice none 0 0, .slice none 0 0]) rfl opvs_nil (by kernel_rfl) (SeqR.u rfl rfl (yl_store (vs := [.string (bs (([] : Str))), .slice none 0 0, .slice none 0 0]) ty26 rfl rfl rfl rfl rfl rfl (Box.ex hf225 hE323) (nb rfl) ?_))))
        intro w358 hB359 hO360
        have hB359 : Box w358 b3 26 [.string (bs (([] : Str))), .slice none 0 0, .slice none 0 0] := hB359
        have hO360z := hO360.size
        refine sA rfl (dn (CW.ret (tr (rr rfl (.cons ⟨_, rfl, run_loadN ty26 (cs := [.string (bs (([] : Str))), .slice none 0 0, .slice none 0 0]) rfl (hB359.cells (n := 3) rfl)⟩ (.cons rfl .nil)) ?_))))
        have hM361 : (s_ReadTable p_0) = (((⟨([] : Str), [], []⟩ : DTable), false)) := by simp only [s_ReadTable, hb18, hb27, hb28, hb324, hL318, cL]
        rw [hM361]
        exact ⟨none, 0, w358.heap.size, w358.heap.size, none, 0, w358.heap.size, w358.heap.size, rfl, (OwnL.nil _ _ _ _ _ _), (OwnL.nil _ _ _ _ _ _), ⟨(okS.lit rfl), (okL.nil _), (okL.nil _)⟩, oM, oM, oM, (Below.only (Ex.trans hf230 hE323) hO360 oM)⟩
   ·have hb28p := dec_f hb28
    refine CW.cond_t rfl (not_f hb28) (cR (sd rfl (yl_build (cs := [.string (bs (([] : Str))), .slice none 0 0, .slice none 0 0]) rfl opvs_nil (by kernel_rfl) (SeqR.u rfl rfl (yl_store (vs := [.string (bs (([] : Str))), .slice none 0 0, .slice none 0 0]) ty26 rfl rfl rfl rfl rfl rfl (Box.ex hB7 hE13) (nb rfl) ?_)))))
    intro w365 hB366 hO367
    have hB366 : Box w365 b3 26 [.string (bs (([] : Str))), .slice none 0 0, .slice none 0 0] := hB366
    have hO367z := hO367.size
    refine sA rfl (dn (CW.ret (tr (rr rfl (.cons ⟨_, rfl, run_loadN ty26 (cs := [.string (bs (([] : Str))), .slice none 0 0, .slice none 0 0]) rfl (hB366.cells (n := 3) rfl)⟩ (.cons rfl .nil)) ?_))))
    have hM368 : (s_ReadTable p_0) = (((⟨([] : Str), [], []⟩ : DTable), false)) := by simp only [s_ReadTable, hb18, hb27, hb28, cL]
    rw [hM368]
    exact ⟨none, 0, w365.heap.size, w365.heap.size, none, 0, w365.heap.size, w365.heap.size, rfl, (OwnL.nil _ _ _ _ _ _), (OwnL.nil _ _ _ _ _ _), ⟨(okS.lit rfl), (okL.nil _), (okL.nil _)⟩, oM, oM, oM, (Below.only (Ex.trans (Ex.trans (Ex.refl w) hE8) hE13) hO367 oM)⟩
  ·have hb27p := dec_f hb27
   refine sz rfl rfl (not_f hb27) (sz rfl rfl (not_f hb27) (sz rfl rfl (not_f hb27) (sz rfl rfl (not_f hb27) (sz rfl rfl (not_f hb27) (sz rfl rfl (not_f hb27) (sd rfl (yl_pick_t rfl rfl (not_f hb27) rfl (dn ?_))))))))
   refine CW.cond_t rfl rfl (cR (sd rfl (yl_build (cs := [.string (bs (([] : Str))), .slice none 0 0, .slice none 0 0]) rfl opvs_nil (by kernel_rfl) (SeqR.u rfl rfl (yl_store (vs := [.string (bs (([] : Str))), .slice none 0 0, .slice none 0 0]) ty26 rfl rfl rfl rfl rfl rfl (Box.ex hB7 hE13) (nb rfl) ?_)))))
   intro w373 hB374 hO375
   have hB374 : Box w373 b3 26 [.string (bs (([] : Str))), .slice none 0 0, .slice none 0 0] := hB374
   have hO375z := hO375.size
   refine sA rfl (dn (CW.ret (tr (rr rfl (.cons ⟨_, rfl, run_loadN ty26 (cs := [.string (bs (([] : Str))), .slice none 0 0, .slice none 0 0]) rfl (hB374.cells (n := 3) rfl)⟩ (.cons rfl .nil)) ?_))))
   have hM376 : (s_ReadTable p_0) = (((⟨([] : Str), [], []⟩ : DTable), false)) := by simp only [s_ReadTable, hb18, hb27, cL]
   rw [hM376]
   exact ⟨none, 0, w373.heap.size, w373.heap.size, none, 0, w373.heap.size, w373.heap.size, rfl, (OwnL.nil _ _ _ _ _ _), (OwnL.nil _ _ _ _ _ _), ⟨(okS.lit rfl), (okL.nil _), (okL.nil _)⟩, oM, oM, oM, (Below.only (Ex.trans (Ex.trans (Ex.refl w) hE8) hE13) hO375 oM)⟩
theorem c_s_DrawColAt {A1 : Option Addr} {c1 : Nat} {w : World} (p_code : List Int) (h1 : RdS w (Iv 0 w.heap.size) (RF e_U8) 1 A1 p_code.length c1 p_code) (o2 : (okL okT) p_code) (pre0 : codeOk p_code) : Cal Tryz.prog 22 #[.slice A1 p_code.length c1] w fun v w' => ∃ A_1 c_1 A_2 c_2 lo_2 hi_2, v = .tuple #[.agg #[.string (bs ((s_DrawColAt p_code).1.Name)), .slice A_1 (((s_DrawColAt p_code).1.Cols).length) c_1, .slice A_2 (((s_DrawColAt p_code).1.Idxs).length) c_2], .string (bs ((s_DrawColAt p_code).2))] ∧ RdS w' (Iv w.heap.size w'.heap.size) (RF e_Str) 1 A_1 ((s_DrawColAt p_code).1.Cols).length c_1 ((s_DrawColAt p_code).1.Cols) ∧ OwnL w' lo_2 hi_2 35 3 (RF e_Idx) A_2 (((s_DrawColAt p_code).1.Idxs).length) c_2 ((s_DrawColAt p_code).1.Idxs) ∧ ok_Table ((s_DrawColAt p_code).1) ∧ okS ((s_DrawColAt p_code).2) ∧ (w.heap.size ≤ lo_2 ∧ lo_2 ≤ hi_2 ∧ hi_2 ≤ w'.heap.size) ∧ Ex w w' := by
 have hol3 := o2.1
 refine Cal.of func22 rfl ntmps22 rfl (cR (sd rfl (yB ty26 (cs := [.string (bs (([] : Str))), .slice none 0 0, .slice none 0 0]) rfl rfl ?_)))
 intro b4 w5 hs6 hz7 hB8 hE9
 refine sA rfl (dn (cR (sM rfl (sd rfl (yl_build (cs := [.slice A1 p_code.length c1, .int .i64 (0), .int .u64 (0)]) rfl (oc rfl oz) (by kernel_rfl) (sd rfl (yl_box rfl rfl rfl ?_)))))))
 intro b10 w11 hs12 hz13 hB14 hE15
 refine sA rfl (dn (cR (sM rfl ?_)))
 have q17 := RdS.ex gU (RdS.ex gU h1 hE9) hE15
 refine sd rfl (yC en48 rfl (oc rfl oz) (Cal.mono (c_u_bentTable p_code (0, 0) hB14 q17 oM oM o2 oM (by assumption)) ?_))
 rintro v23 w18 ⟨A19, c19, A20, c20, lo20, hi20, rfl, h19, h20, ho21, hp22, hB25, hrn26, hc24⟩
 have hc24z := Chg.size hc24
 have hB25z := Box.lt hB25
 refine sd rfl (yB ty26 (cs := [.string (bs (([] : Str))), .slice none 0 0, .slice none 0 0]) rfl rfl ?_)
 intro b27 w28 hs29 hz30 hB31 hE32
 refine SeqR.u rfl rfl (yl_store (vs := [.string (bs ((u_bentTable p_code (0, 0)).1.Name)), .slice A19 (((u_bentTable p_code (0, 0)).1.Cols).length) c19, .slice A20 (((u_bentTable p_code (0, 0)).1.Idxs).length) c20]) ty26 rfl rfl rfl rfl rfl rfl hB31 (nb rfl) ?_)
 intro w33 hB34 hO35
 have hB34 : Box w33 b27 26 [.string (bs ((u_bentTable p_code (0, 0)).1.Name)), .slice A19 (((u_bentTable p_code (0, 0)).1.Cols).length) c19, .slice A20 (((u_bentTable p_code (0, 0)).1.Idxs).length) c20] := hB34
 have hO35z := hO35.size
 refine dn (CW.seq ?_)
 have hrf48 := of_len 2 p_code ((u_bentTable p_code (0, 0)).2) ([[107], [97], [98], [99, 99], [122]] : List Str) (by decide)
 refine CW.drawsG 4 (fun G b => G.dn 3 = true ∧ InR [(b10, b10 + 1)] b) (fun i G b => (i = 3 ∧ b10 ≤ b ∧ b < b10 + 1)) (vgetG [DetG (.agg #[.string (bs ((u_bentTable p_code (0, 0)).1.Name)), .slice A19 (((u_bentTable p_code (0, 0)).1.Cols).length) c19, .slice A20 (((u_bentTable p_code (0, 0)).1.Idxs).length) c20]), DetG (.pointer (some ⟨b10, 0, none⟩)), fun G v wq => ∃ A36, v = .slice A36 5 5 ∧ OwnL wq (G.fl 2) (G.fh 2) 9 1 (RF e_Str) A36 5 5 ([[107], [97], [98], [99, 99], [122]] : List Str), fun G v wq => v = .string (bs ((u_of p_code ((u_bentTable p_code (0, 0)).2) ([[107], [97], [98], [99, 99], [122]] : List Str)).1)) ∧ okS ((u_of p_code ((u_bentTable p_code (0, 0)).2) ([[107], [97], [98], [99, 99], [122]] : List Str)).1) ∧ (((u_bentTable p_code (0, 0)).2).1 ≤ ((u_of p_code ((u_bentTable p_code (0, 0)).2) ([[107], [97], [98], [99, 99], [122]] : List Str)).2).1 ∧ ((u_of p_code ((u_bentTable p_code (0, 0)).2) ([[107], [97], [98], [99, 99], [122]] : List Str)).2).1 ≤ ((u_bentTable p_code (0, 0)).2).1 + 2) ∧ Box wq b10 78 [.slice A1 p_code.length c1, .int .i64 (((u_of p_code ((u_bentTable p_code (0, 0)).2) ([[107], [97], [98], [99, 99], [122]] : List Str)).2).1), .int .u64 (((u_of p_code ((u_bentTable p_code (0, 0)).2) ([[107], [97], [98], [99, 99], [122]] : List Str)).2).2)]]) Tryz.follows rfl rfl rfl rfl rfl rfl (fun _ _ _ _ _ h => ⟨Gh.udn h.1, h.2⟩) (fun i G w lo hi b K hn hh hp => by exact (match hp with | ⟨e, q1, q2⟩ => by subst e; exact .inl ⟨Gh.sdn, .inl ⟨q1, q2⟩⟩)) (vgetG_kept ⟨(KeptG.det _), (KeptG.det _), (by rintro i G v w w' K hn hh hj ⟨A36, hv, h0⟩ e; have d2 : G.dn 2 = true := hj; have u2 := Gh.ufl (lo := w.heap.size) (hi := w'.heap.size) d2 hn; have t2 := Gh.ufh (lo := w.heap.size) (hi := w'.heap.size) d2 hn; exact ⟨A36, hv, (by simp only [u2, t2]; exact OwnL.chg gS h0 e (fun b hb hp => by obtain ⟨rfl, q1, q2⟩ := hp; have := K.rng 2 d2; skip; omega))⟩), (by rintro i G v w w' K hn hh hj ⟨hv, h0, h1, h2⟩ e; exact ⟨hv, h0, h1, (by exact Box.chg h2 e (fun hp => by obtain ⟨rfl, q1, q2⟩ := hp; rw [hj] at hn; cases hn))⟩), trivial⟩) ⟨?_, ?_, ?_, ?_, trivial⟩ ?_
 ·intro L50 w51 G49 hgk52
  have hE53 : Chg (fun b => InR [(b10, b10 + 1)] b ∨ w33.heap.size ≤ b) w33 w51 := hgk52.st.ex.imp (fun b _ h => h.imp (fun h => h.2) (fun h => h))
  have hE53z := Chg.size hE53
  exact OpR.op' rfl (Yl.sameG (yl_loadN ty26 rfl (hgk52.old 5 _ rfl rfl) ((Box.chg hB34 hE53 (Bx (Box.lt hB34))).cells (n := 3) rfl) rfl kI))
 ·intro L57 w58 G56 hgk59
  have hE60 := hgk59.st.ex.ex (fun b h => h.elim (fun h => hgk59.no rfl h) (fun h => h))
  have hE60z := Ex.size hE60
  exact OpR.op' rfl (Yl.sameG (yM rfl (hgk59.old 4 _ rfl rfl) kI))
 ·intro L63 w64 G62 hgk65
  have hE66 := hgk65.st.ex.ex (fun b h => h.elim (fun h => hgk65.no rfl h) (fun h => h))
  have hE66z := Ex.size hE66
  refine OpR.op' rfl (yl_buildSlice (cs := [.string (bs (([107] : Str))), .string (bs (([97] : Str))), .string (bs (([98] : Str))), .string (bs (([99, 99] : Str))), .string (bs (([122] : Str)))]) un23 ty9 (by decide) rfl (oc rfl (oc rfl (oc rfl (oc rfl (oc rfl oz))))) (by kernel_rfl) ?_)
  intro b67 w68 hs69 hz70 hB71 hE72
  have hO73 : OwnL w68 b67 (b67 + 1) 9 1 (RF e_Str) (some ⟨b67, 0, none⟩) 5 5 ([[107], [97], [98], [99, 99], [122]] : List Str) := OwnL.of_box (S := fun _ => False) hB71 (Nat.le_refl _) (Nat.lt_succ_self _) (EncL.cons (c := [.string (bs (([107] : Str)))]) rfl rfl (EncL.cons (c := [.string (bs (([97] : Str)))]) rfl rfl (EncL.cons (c := [.string (bs (([98] : Str)))]) rfl rfl (EncL.cons (c := [.string (bs (([99, 99] : Str)))]) rfl rfl (EncL.cons (c := [.string (bs (([122] : Str)))]) rfl rfl EncL.nil))))) (nb rfl) (fun h => h) (fun _ h => False.elim h)
  exact ⟨Chg.of_ex hE72, (some ⟨b67, 0, none⟩), rfl, OwnL.more (lo' := w64.heap.size) (hi' := w68.heap.size) hO73 oM oM⟩
 ·intro L75 w76 G74 hgk77
  have hE78 := hgk77.st.ex.ex (fun b h => h.elim (fun h => hgk77.nw h) (fun h => h))
  have hE78z := Ex.size hE78
  obtain ⟨_, hx79, rfl⟩ := hgk77.val 1 12 rfl rfl
  obtain ⟨_, hx80, A36_81, rfl, h82⟩ := hgk77.val 2 13 rfl rfl
  have hr83 := hgk77.st.rng 2 (hgk77.has 2 rfl)
  have hle86 := OwnL.len h82
  refine OpR.op' rfl (yC en59 rfl (oc hx79 (oc hx80 oz)) (Cal.mono (Cal.args (by rw [← hle86] <;> rfl) (c_u_of p_code ((u_bentTable p_code (0, 0)).2) ([[107], [97], [98], [99, 99], [122]] : List Str) (Box.ex (Box.only (Box.ex hB25 hE32) hO35 oM) hE78) (RdS.ex gU (RdS.only gU (RdS.ex gU (RdS.chg gU q17 hc24 Bi) hE32) hO35 (by simp only [Iv]; omega)) hE78) oM oM (RdS.fix (OwnL.rdI gS h82)) oM oM o2 (okL.mk (nb rfl) (okE.cons (okS.lit rfl) (okE.cons (okS.lit rfl) (okE.cons (okS.lit rfl) (okE.cons (okS.lit rfl) (okE.cons (okS.lit rfl) okE.nil)))))) (by first | omega | assumption | (simp only [wI] at *; omega) | (simp only [lN]; omega)) oM (by assumption))) ?_))
  rintro v90 w87 ⟨rfl, ho88, hp89, hB92, hE91⟩
  exact ⟨hE91.imp (fun k _ hk => hk.elim (fun hk => (⟨rfl, hk.1, hk.2⟩)) False.elim), rfl, ho88, hp89, hB92⟩
 ·intro G93 L94 w95 hgp96
  have hE97 : Chg (fun b => InR [(b10, b10 + 1)] b ∨ w33.heap.size ≤ b) w33 w95 := hgp96.st.ex.imp (fun b _ h => h.imp (fun h => h.2) (fun h => h))
  have hE97z := Chg.size hE97
  have hx98 := hgp96.old 2 _ rfl rfl
  obtain ⟨_, hx99, rfl⟩ := hgp96.val 0 11 rfl rfl
  obtain ⟨_, hx100, A36_101, rfl, h102⟩ := hgp96.val 2 13 rfl rfl
  obtain ⟨_, hx103, rfl, h104, h105, h106⟩ := hgp96.val 3 14 rfl rfl
  have hbz107 := Box.lt h106
  have hr108 := hgp96.st.rng 2 (hgp96.has 2 rfl)
  have hr109 := hgp96.st.rng 3 (hgp96.has 3 rfl)
  have hsp110 := hgp96.st.ord 3 2 (hgp96.has 3 rfl) rfl
  have q111 := Box.ex hB8 hE15
  have q114 := Box.only (Box.ex (Box.chg q111 hc24 (Bx (Box.lt q111))) hE32) hO35 oM
  refine SeqR.u rfl rfl (yl_store (vs := [.string (bs ((u_bentTable p_code (0, 0)).1.Name)), .slice A19 (((u_bentTable p_code (0, 0)).1.Cols).length) c19, .slice A20 (((u_bentTable p_code (0, 0)).1.Idxs).length) c20]) ty26 rfl hx98 hx99 rfl rfl rfl (Box.chg q114 hE97 (Bx (Box.lt q114))) (nb rfl) ?_)
  intro w116 hB117 hO118
  have hB117 : Box w116 b4 26 [.string (bs ((u_bentTable p_code (0, 0)).1.Name)), .slice A19 (((u_bentTable p_code (0, 0)).1.Cols).length) c19, .slice A20 (((u_bentTable p_code (0, 0)).1.Idxs).length) c20] := hB117
  have hO118z := hO118.size
  refine sd rfl (yA rfl hx103 (dn (CW.sub (sC 2 hx98 (sC 3 rfl (Sub.nil _))) (CW.ret (rr rfl (.cons ⟨_, rfl, run_loadN ty26 (cs := [.string (bs ((u_bentTable p_code (0, 0)).1.Name)), .slice A19 (((u_bentTable p_code (0, 0)).1.Cols).length) c19, .slice A20 (((u_bentTable p_code (0, 0)).1.Idxs).length) c20]) rfl (hB117.cells (n := 3) rfl)⟩ (.cons rfl .nil)) ?_)))))
  have hM119 : (s_DrawColAt p_code) = (((u_bentTable p_code (0, 0)).1, (u_of p_code ((u_bentTable p_code (0, 0)).2) ([[107], [97], [98], [99, 99], [122]] : List Str)).1)) := by simp only [s_DrawColAt, cL]
  rw [hM119]
  exact ⟨A19, c19, A20, c20, lo20, hi20, rfl, (RdS.wideI gS (RdS.only gS (RdS.chg gS (RdS.only gS (RdS.ex gS h19 hE32) hO35 (by simp only [Iv]; omega)) hE97 Bi) hO118 (by simp only [Iv]; omega)) oM), (OwnL.only gI (OwnL.chg gI (OwnL.only gI (OwnL.ex gI h20 hE32) hO35 oM) hE97 Bk) hO118 oM), ho21, h104, oM, (Below.only (Ex.chg (Below.only (Ex.trans (Ex.chg (Ex.trans (Ex.trans (Ex.refl w) hE9) hE15) hc24 (fun k hk => by simp only [InR, or_false] at hk; omega)) hE32) hO35 oM) hE97 (fun k hk => by simp only [InR, or_false] at hk; omega)) hO118 oM)⟩
theorem c_i_ColAt {A1 : Option Addr} {c1 : Nat} {A2 : Option Addr} {c2 : Nat} {w : World} (p_t : DTable) (p_col : Str) (h1 : RdS w (Iv 0 w.heap.size) (RF e_Str) 1 A1 p_t.Cols.length c1 p_t.Cols) (h2 : RdS w (Iv 0 w.heap.size) (RF e_Idx) 3 A2 p_t.Idxs.length c2 p_t.Idxs) (o3 : ok_Table p_t) (o4 : okS p_col) : Cal Tryz.prog 23 #[.agg #[.string (bs (p_t.Name)), .slice A1 p_t.Cols.length c1, .slice A2 p_t.Idxs.length c2], .string (bs (p_col))] w fun v w' => v = .tuple #[.int .i64 ((i_ColAt p_t p_col).1), .bool ((i_ColAt p_t p_col).2)] ∧ Ex w w' := by
 refine Cal.of func23 rfl ntmps23 rfl (cR (sd rfl (yl_box rfl rfl rfl ?_)))
 intro b9 w10 hs11 hz12 hB13 hE14
 refine sA rfl (sA rfl (dn (cR (sd rfl (yl_fieldAddr fd26_1 rfl rfl (sd rfl (yl_load1 ty23 rfl rfl ((hB13.cell 1).trans rfl) (sM rfl ?_))))))))
 have q15 := RdS.ex gS h1 hE14
 refine sd rfl (yC en47 rfl (oc rfl (oc rfl oz)) (Cal.mono (c_g_slices_Index_string p_t.Cols p_col (RdS.up q15 gS) o3.2.1 o4) ?_))
 rintro v17 w16 ⟨rfl, hE18⟩
 refine sA rfl (dn (CW.seq (cR (sd rfl (yl_loadN ty26 rfl rfl ((Box.ex hB13 hE18).cells (n := 3) rfl) rfl (sd rfl (yC en13 rfl (oc rfl oz) (Cal.mono (c_i_GoodTable p_t (RdS.up (RdS.ex gS q15 hE18) gS) (RdS.up (RdS.ex gI (RdS.ex gI h2 hE14) hE18) gI) o3) ?_))))))))
 rintro v24 w23 ⟨rfl, hE25⟩
 refine sd rfl (yl_not rfl rfl (sM rfl (bcase (i_GoodTable p_t) (fun hb26 => ?_) (fun hb26 => ?_))))
 ·have hb26p := f_i_GoodTable hb26
  refine sy rfl rfl (not_t hb26) (yM rfl rfl (sy rfl rfl (not_t hb26) (yl_lss rfl rfl rfl (sd rfl (yl_pick_f rfl rfl (not_t hb26) rfl (dn (bcase (decide ((g_slices_Index_string p_t.Cols p_col) < 0)) (fun hb27 => ?_) (fun hb27 => ?_))))))))
  ·have hb27p := dec_t hb27
   refine CW.cond_t rfl hb27 (cR (sA rfl (sA rfl (dn (CW.ret (tr ?_))))))
   refine rr rfl (.cons rfl (.cons rfl .nil)) ?_
   have hM28 : (i_ColAt p_t p_col) = ((0, false)) := by simp only [i_ColAt, hb26, hb27, cL]
   rw [hM28]
   exact ⟨rfl, (Ex.trans (Ex.trans (Ex.trans (Ex.refl w) hE14) hE18) hE25)⟩
  ·have hb27p := dec_f hb27
   refine CW.cond_f rfl hb27 (CW.skip (tn (cR (sM rfl (sA rfl (sA rfl (SeqR.done ?_)))))))
   refine tn (CW.ret (rr rfl (.cons rfl (.cons rfl .nil)) ?_))
   have hM32 : (i_ColAt p_t p_col) = (((g_slices_Index_string p_t.Cols p_col), true)) := by simp only [i_ColAt, hb26, hb27, cL]
   rw [hM32]
   exact ⟨rfl, (Ex.trans (Ex.trans (Ex.trans (Ex.refl w) hE14) hE18) hE25)⟩
 ·refine sz rfl rfl (not_f hb26) (sz rfl rfl (not_f hb26) (sd rfl (yl_pick_t rfl rfl (not_f hb26) rfl (dn (CW.cond_t rfl rfl (cR (sA rfl ?_)))))))
  refine sA rfl (dn (CW.ret (tr (rr rfl (.cons rfl (.cons rfl .nil)) ?_))))
  have hM36 : (i_ColAt p_t p_col) = ((0, false)) := by simp only [i_ColAt, hb26, cL]
  rw [hM36]
  exact ⟨rfl, (Ex.trans (Ex.trans (Ex.trans (Ex.refl w) hE14) hE18) hE25)⟩
theorem c_s_ColAt {A1 : Option Addr} {c1 : Nat} {A2 : Option Addr} {c2 : Nat} {w : World} (p_t : DTable) (p_col : Str) (h1 : RdS w (Iv 0 w.heap.size) (RF e_Str) 1 A1 p_t.Cols.length c1 p_t.Cols) (h2 : RdS w (Iv 0 w.heap.size) (RF e_Idx) 3 A2 p_t.Idxs.length c2 p_t.Idxs) (o3 : ok_Table p_t) (o4 : okS p_col) : Cal Tryz.prog 24 #[.agg #[.string (bs (p_t.Name)), .slice A1 p_t.Cols.length c1, .slice A2 p_t.Idxs.length c2], .string (bs (p_col))] w fun v w' => v = .tuple #[.int .i64 ((s_ColAt p_t p_col).1), .bool ((s_ColAt p_t p_col).2)] ∧ Ex w w' := by
 refine Cal.of func24 rfl ntmps24 rfl (cR (sd rfl (yl_box rfl rfl rfl ?_)))
 intro b9 w10 hs11 hz12 hB13 hE14
 refine sA rfl (sA rfl (dn (cR (sd rfl (yl_fieldAddr fd26_1 rfl rfl (sd rfl (yl_load1 ty23 rfl rfl ((hB13.cell 1).trans rfl) (sM rfl ?_))))))))
 have q15 := RdS.ex gS h1 hE14
 refine sd rfl (yC en60 rfl (oc rfl (oc rfl oz)) (Cal.mono (c_s_l24At p_t.Cols p_col (RdS.up q15 gS) o3.2.1 o4) ?_))
 rintro v17 w16 ⟨rfl, hE18⟩
 refine sA rfl (dn (CW.seq (cR (sd rfl (yl_loadN ty26 rfl rfl ((Box.ex hB13 hE18).cells (n := 3) rfl) rfl (sd rfl (yC en14 rfl (oc rfl oz) (Cal.mono (c_s_GoodTable p_t (RdS.up (RdS.ex gS q15 hE18) gS) (RdS.up (RdS.ex gI (RdS.ex gI h2 hE14) hE18) gI) o3) ?_))))))))
 rintro v24 w23 ⟨rfl, hE25⟩
 refine sd rfl (yl_not rfl rfl (sM rfl (bcase (s_GoodTable p_t) (fun hb26 => ?_) (fun hb26 => ?_))))
 ·have hb26p := f_s_GoodTable hb26
  refine sy rfl rfl (not_t hb26) (yM rfl rfl (sy rfl rfl (not_t hb26) (yl_lss rfl rfl rfl (sd rfl (yl_pick_f rfl rfl (not_t hb26) rfl (dn (bcase (decide ((s_l24At p_t.Cols p_col) < 0)) (fun hb27 => ?_) (fun hb27 => ?_))))))))
  ·have hb27p := dec_t hb27
   refine CW.cond_t rfl hb27 (cR (sA rfl (sA rfl (dn (CW.ret (tr ?_))))))
   refine rr rfl (.cons rfl (.cons rfl .nil)) ?_
   have hM28 : (s_ColAt p_t p_col) = ((0, false)) := by simp only [s_ColAt, hb26, hb27, cL]
   rw [hM28]
   exact ⟨rfl, (Ex.trans (Ex.trans (Ex.trans (Ex.refl w) hE14) hE18) hE25)⟩
  ·have hb27p := dec_f hb27
   refine CW.cond_f rfl hb27 (CW.skip (tn (cR (sM rfl (sA rfl (sA rfl (SeqR.done ?_)))))))
   refine tn (CW.ret (rr rfl (.cons rfl (.cons rfl .nil)) ?_))
   have hM32 : (s_ColAt p_t p_col) = (((s_l24At p_t.Cols p_col), true)) := by simp only [s_ColAt, hb26, hb27, cL]
   rw [hM32]
   exact ⟨rfl, (Ex.trans (Ex.trans (Ex.trans (Ex.refl w) hE14) hE18) hE25)⟩
 ·refine sz rfl rfl (not_f hb26) (sz rfl rfl (not_f hb26) (sd rfl (yl_pick_t rfl rfl (not_f hb26) rfl (dn (CW.cond_t rfl rfl (cR (sA rfl ?_)))))))
  refine sA rfl (dn (CW.ret (tr (rr rfl (.cons rfl (.cons rfl .nil)) ?_))))
  have hM36 : (s_ColAt p_t p_col) = ((0, false)) := by simp only [s_ColAt, hb26, cL]
  rw [hM36]
  exact ⟨rfl, (Ex.trans (Ex.trans (Ex.trans (Ex.refl w) hE14) hE18) hE25)⟩
end Go.Proofs.YtgfkmgjpannelaaGreatDoor
