/- Clear Piece: what each call returns, part 4. -/
import Derived.Test.YtoimdjojffkefaaGreatDoorClearPieceC3
set_option maxRecDepth 100000
set_option maxHeartbeats 2000000
open Go.Proofs.Tryz Go.Proofs.YtoimdjojffkefaaGreatDoor.Tryz
set_option linter.unusedVariables false
set_option linter.unusedSimpArgs false
namespace Go.Proofs.YtoimdjojffkefaaGreatDoor
open Go.RowKit Go.X
theorem c_i_Table_readIdxKey {A1 : Option Addr} {c1 : Nat} {A2 : Option Addr} {c2 : Nat} {w : World} (p_t : DTable) (pn : Str) (p_key : Str) (h1 : RdS w (Iv 0 w.heap.size) (RF e_Str) 1 A1 p_t.Cols.length c1 p_t.Cols) (h2 : RdS w (Iv 0 w.heap.size) (RF e_Idx) 3 A2 p_t.Idxs.length c2 p_t.Idxs) (o3 : ok_Table p_t) (o4 : okS pn) (o5 : okS p_key) (pre0 : (p_t.Name.length ≤ 1 ∧ pn.length ≤ 1)) : Cal Tryz.prog 144 #[.agg #[.string (bs (p_t.Name)), .slice A1 p_t.Cols.length c1, .slice A2 p_t.Idxs.length c2], .string (bs (pn)), .string (bs (p_key))] w fun v w' => v = .tuple #[.string (bs ((i_Table_readIdxKey p_t pn p_key).1)), .string (bs ((i_Table_readIdxKey p_t pn p_key).2.1)), .bool ((i_Table_readIdxKey p_t pn p_key).2.2)] ∧ okS ((i_Table_readIdxKey p_t pn p_key).1) ∧ okS ((i_Table_readIdxKey p_t pn p_key).2.1) ∧ Ex w w' := by
 refine Cal.of func144 rfl ntmps144 rfl (cR (sd rfl (yl_box rfl rfl rfl ?_)))
 intro b11 w12 hs13 hz14 hB15 hE16
 refine sA rfl (sA rfl (sA rfl (dn (cR (sM rfl (sd rfl (yl_loadN ty39 rfl rfl (hB15.cells (n := 3) rfl) rfl ?_)))))))
 refine sM rfl (sd rfl (yC en137 rfl (oc rfl (oc rfl oz)) (Cal.mono (c_i_Table_idxHead p_t pn (RdS.up (RdS.ex gS h1 hE16) gS) (RdS.up (RdS.ex gI h2 hE16) gI) o3 o4) ?_)))
 rintro v20 w19 ⟨rfl, hE21⟩
 have hrf22 := rf_idxHead p_t pn
 refine sd rfl (yC en185 rfl (oc rfl (oc rfl oz)) (Cal.mono (c_g_strings_CutPrefix p_key (i_Table_idxHead p_t pn) o5 (okS_idxHead pre0)) ?_))
 rintro v25 w23 ⟨rfl, ho24, hE26⟩
 refine sM rfl (sd rfl (yl_extract rfl rfl rfl (sd rfl (yl_extract rfl rfl rfl (sA rfl (sA rfl (dn (cR ?_))))))))
 refine sM rfl (sd rfl (yC en186 rfl (oc rfl (oc rfl oz)) (Cal.mono (c_g_strings_Cut ((g_strings_CutPrefix p_key (i_Table_idxHead p_t pn)).1) ([47] : Str) ho24 (okS.lit rfl) rfl) ?_)))
 rintro v30 w27 ⟨rfl, ho28, ho29, hE31⟩
 have y0 := Ex.trans (Ex.trans (Ex.trans (Ex.trans (Ex.refl w) hE16) hE21) hE26) hE31
 refine sM rfl (sd rfl (yl_extract rfl rfl rfl (sd rfl (yl_extract rfl rfl rfl (sd rfl (yl_extract rfl rfl rfl (sA rfl (sA rfl (sA rfl (dn ?_))))))))))
 refine CW.seq (cR (sM rfl (sd rfl (yl_not rfl rfl (sM rfl (bcase ((g_strings_CutPrefix p_key (i_Table_idxHead p_t pn)).2) (fun hb32 => ?_) (fun hb32 => ?_)))))))
 ·refine sy rfl rfl (not_t hb32) (yM rfl rfl (sy rfl rfl (not_t hb32) (yl_not rfl rfl (sd rfl (yl_pick_f rfl rfl (not_t hb32) rfl (sM rfl (bcase ((g_strings_Cut ((g_strings_CutPrefix p_key (i_Table_idxHead p_t pn)).1) ([47] : Str)).2.2) (fun hb33 => ?_) (fun hb33 => ?_))))))))
  ·refine sy rfl rfl (not_t hb33) (yM rfl rfl (sy rfl rfl (not_t hb33) (yC en175 rfl (oc rfl oz) (Cal.mono (c_i_isField ((g_strings_Cut ((g_strings_CutPrefix p_key (i_Table_idxHead p_t pn)).1) ([47] : Str)).1) ho28) ?_))))
   rintro v35 w34 ⟨rfl, hE36⟩
   refine sy rfl rfl (not_t hb33) (yl_not rfl rfl (sd rfl (yl_pick_f rfl rfl (not_t hb33) rfl (sM rfl (bcase (i_isField ((g_strings_Cut ((g_strings_CutPrefix p_key (i_Table_idxHead p_t pn)).1) ([47] : Str)).1)) (fun hb37 => ?_) (fun hb37 => ?_))))))
   ·refine sy rfl rfl (not_t hb37) (yM rfl rfl (sy rfl rfl (not_t hb37) (yC en175 rfl (oc rfl oz) (Cal.mono (c_i_isField ((g_strings_Cut ((g_strings_CutPrefix p_key (i_Table_idxHead p_t pn)).1) ([47] : Str)).2.1) ho29) ?_))))
    rintro v39 w38 ⟨rfl, hE40⟩
    refine sy rfl rfl (not_t hb37) (yl_not rfl rfl (sd rfl (yl_pick_f rfl rfl (not_t hb37) rfl (dn (bcase (i_isField ((g_strings_Cut ((g_strings_CutPrefix p_key (i_Table_idxHead p_t pn)).1) ([47] : Str)).2.1)) (fun hb41 => ?_) (fun hb41 => ?_))))))
    ·refine CW.cond_f rfl (not_t hb41) (CW.skip (tn (cR (sM rfl (sM rfl (sA rfl (sA rfl ?_)))))))
     refine sA rfl (dn (CW.ret (rr rfl (.cons rfl (.cons rfl (.cons rfl .nil))) ?_)))
     rw [show (i_Table_readIdxKey p_t pn p_key) = (((g_strings_Cut ((g_strings_CutPrefix p_key (i_Table_idxHead p_t pn)).1) ([47] : Str)).1, (g_strings_Cut ((g_strings_CutPrefix p_key (i_Table_idxHead p_t pn)).1) ([47] : Str)).2.1, true)) by simp only [i_Table_readIdxKey, hb32, hb33, hb37, hb41, cL]]
     exact ⟨rfl, ho28, ho29, (Ex.trans (Ex.trans y0 hE36) hE40)⟩
    ·refine CW.cond_t rfl (not_f hb41) (cR (sA rfl (sA rfl (sA rfl (dn (CW.ret ?_))))))
     refine tr (rr rfl (.cons rfl (.cons rfl (.cons rfl .nil))) ?_)
     rw [show (i_Table_readIdxKey p_t pn p_key) = ((([] : Str), ([] : Str), false)) by simp only [i_Table_readIdxKey, hb32, hb33, hb37, hb41, cL]]
     exact ⟨rfl, (okS.lit rfl), (okS.lit rfl), (Ex.trans (Ex.trans y0 hE36) hE40)⟩
   ·refine sz rfl rfl (not_f hb37) (sz rfl rfl (not_f hb37) (sz rfl rfl (not_f hb37) (sd rfl (yl_pick_t rfl rfl (not_f hb37) rfl (dn (CW.cond_t rfl rfl (cR ?_)))))))
    refine sA rfl (sA rfl (sA rfl (dn (CW.ret (tr (rr rfl (.cons rfl (.cons rfl (.cons rfl .nil))) ?_))))))
    rw [show (i_Table_readIdxKey p_t pn p_key) = ((([] : Str), ([] : Str), false)) by simp only [i_Table_readIdxKey, hb32, hb33, hb37, cL]]
    exact ⟨rfl, (okS.lit rfl), (okS.lit rfl), (Ex.trans y0 hE36)⟩
  ·refine sz rfl rfl (not_f hb33) (sz rfl rfl (not_f hb33) (sz rfl rfl (not_f hb33) (sd rfl (yl_pick_t rfl rfl (not_f hb33) rfl (sM rfl (sz rfl rfl rfl (sz rfl rfl rfl (sz rfl rfl rfl (sd rfl (yl_pick_t rfl rfl rfl rfl ?_))))))))))
   refine dn (CW.cond_t rfl rfl (cR (sA rfl (sA rfl (sA rfl (SeqR.done ?_))))))
   refine tn (CW.ret (tr (rr rfl (.cons rfl (.cons rfl (.cons rfl .nil))) ?_)))
   rw [show (i_Table_readIdxKey p_t pn p_key) = ((([] : Str), ([] : Str), false)) by simp only [i_Table_readIdxKey, hb32, hb33, cL]]
   exact ⟨rfl, (okS.lit rfl), (okS.lit rfl), y0⟩
 ·refine sz rfl rfl (not_f hb32) (sz rfl rfl (not_f hb32) (sd rfl (yl_pick_t rfl rfl (not_f hb32) rfl (sM rfl (sz rfl rfl rfl (sz rfl rfl rfl (sz rfl rfl rfl (sd rfl (yl_pick_t rfl rfl rfl rfl (sM rfl ?_))))))))))
  refine sz rfl rfl rfl (sz rfl rfl rfl (sz rfl rfl rfl (sd rfl (yl_pick_t rfl rfl rfl rfl (dn (CW.cond_t rfl rfl (cR ?_)))))))
  refine sA rfl (sA rfl (sA rfl (dn (CW.ret (tr (rr rfl (.cons rfl (.cons rfl (.cons rfl .nil))) ?_))))))
  rw [show (i_Table_readIdxKey p_t pn p_key) = ((([] : Str), ([] : Str), false)) by simp only [i_Table_readIdxKey, hb32, cL]]
  exact ⟨rfl, (okS.lit rfl), (okS.lit rfl), y0⟩
theorem c_i_Table_entriesIn {A1 : Option Addr} {c1 : Nat} {A2 : Option Addr} {c2 : Nat} {A5 : Option Addr} {c5 : Nat} {w : World} (p_t : DTable) (pn : Str) (ps : List DWrite) (h1 : RdS w (Iv 0 w.heap.size) (RF e_Str) 1 A1 p_t.Cols.length c1 p_t.Cols) (h2 : RdS w (Iv 0 w.heap.size) (RF e_Idx) 3 A2 p_t.Idxs.length c2 p_t.Idxs) (h5 : RdS w (Iv 0 w.heap.size) (RF e_Write) 3 A5 ps.length c5 ps) (o3 : ok_Table p_t) (o4 : okS pn) (o6 : (okL ok_Write) ps) (pre0 : (p_t.Name.length ≤ 1 ∧ pn.length ≤ 1)) : Cal Tryz.prog 100 #[.agg #[.string (bs (p_t.Name)), .slice A1 p_t.Cols.length c1, .slice A2 p_t.Idxs.length c2], .string (bs (pn)), .slice A5 ps.length c5] w fun v w' => ∃ A_1 c_1 lo_1 hi_1, v = .slice A_1 ((i_Table_entriesIn p_t pn ps).length) c_1 ∧ OwnL w' lo_1 hi_1 9 1 (RF e_Str) A_1 ((i_Table_entriesIn p_t pn ps).length) c_1 (i_Table_entriesIn p_t pn ps) ∧ (okL okS) (i_Table_entriesIn p_t pn ps) ∧ (w.heap.size ≤ lo_1 ∧ lo_1 ≤ hi_1 ∧ hi_1 ≤ w'.heap.size) ∧ Ex w w' := by
 have hol7 : p_t.Name.length ≤ 1073741824 := o3.1
 have hol8 := o3.2.1.1
 have hol9 := o3.2.2.1
 have hol10 : pn.length ≤ 1073741824 := o4
 have hol11 := o6.1
 refine Cal.of func100 rfl ntmps100 rfl (cR (sd rfl (yl_box rfl rfl rfl ?_)))
 intro b12 w13 hs14 hz15 hB16 hE17
 refine sA rfl (dn (cR (sd rfl (yl_buildSlice (cs := []) un22 ty9 (by decide) rfl opvs_nil (by kernel_rfl) ?_))))
 intro b18 w19 hs20 hz21 hB22 hE23
 have hO24 : OwnL w19 b18 (b18 + 1) 9 1 (RF e_Str) (some ⟨b18, 0, none⟩) 0 0 ([] : List Str) := oB hB22
 refine sA rfl (dn (CW.seq (cR (sM rfl (sd rfl (yL un34 rfl rfl (sM rfl ?_)))))))
 refine dn (CW.block (CW.loop (fun m91 L92 w93 => ∃ (k25 : Nat) (x87 : List Str) (A88 : Option Addr) (c89 : Nat) (u90 : Nat), m91 = ps.length - k25 ∧ k25 ≤ ps.length ∧ w19.heap.size ≤ w93.heap.size ∧ Sub [(1, .string (bs (pn))), (3, .pointer (some ⟨b12, 0, none⟩)), (7, .slice A88 x87.length c89), (14, .slice A5 ps.length c5), (15, .int .i64 ((ps.length : Int))), (16, .int .i64 ((k25 : Int)))] L92 ∧ Box w93 b12 39 [.string (bs (p_t.Name)), .slice A1 p_t.Cols.length c1, .slice A2 p_t.Idxs.length c2] ∧ RdS w93 (Iv 0 w.heap.size) (RF e_Str) 1 A1 p_t.Cols.length c1 p_t.Cols ∧ RdS w93 (Iv 0 w.heap.size) (RF e_Idx) 3 A2 p_t.Idxs.length c2 p_t.Idxs ∧ OwnL w93 b18 u90 9 1 (RF e_Str) A88 x87.length c89 x87 ∧ RdS w93 (Iv 0 w.heap.size) (RF e_Write) 3 A5 ps.length c5 ps ∧ Ex w w93 ∧ (b18 ≤ u90 ∧ u90 ≤ w93.heap.size) ∧ x87.length ≤ 0 + 1 * (k25 - 0) ∧ (∀ y ∈ x87, okS y) ∧ loopM (B_i_Table_entriesIn_0 p_t pn ps) (ps.length - k25) k25 (x87) = loopM (B_i_Table_entriesIn_0 p_t pn ps) (ps.length - 0) 0 (([] : List Str))) (ps.length - 0) ?_ ?_))
 ·exact ⟨0, ([] : List Str), (some ⟨b18, 0, none⟩), 0, (b18 + 1), rfl, oM, Nat.le_refl _, (sR rfl), (Box.ex hB16 hE23), (RdS.ex gS (RdS.ex gS h1 hE17) hE23), (RdS.ex gI (RdS.ex gI h2 hE17) hE23), hO24, (RdS.ex gW (RdS.ex gW h5 hE17) hE23), (Ex.trans (Ex.trans (Ex.refl w) hE17) hE23), oM, (by first | (simp; done) | (first | omega | (simp only [lN, toS_length]; omega))), okE.nil, rfl⟩
 ·rintro m103 L104 w105 ⟨k25, x87, A88, c89, u90, rfl, hk106, hsz108, hl109, hf110, hf111, hf112, hf113, hf114, hf115, hu116, hln117, hok118, hI107⟩
  refine CW.sub hl109 ?_
  have hf110z := Box.lt hf110
  have hf115z := Ex.size hf115
  have hbg119 := RdS.big hf114
  rcases Nat.lt_or_ge k25 ps.length with hlt120 | hlt120
  ·refine cR (sd rfl (yl_lss rfl rfl rfl (dn (CW.seq (CW.cond_t rfl (lt_t hlt120) (CW.skip (tn ?_)))))))
   refine CW.seq (CW.block (cR ?_))
   obtain ⟨_, _, _, eA121, _, ebl121, _, eR121, eC121⟩ := RdS.aD hf114 d_Write (i := k25)
   obtain rfl := eR121
   refine sd rfl (yl_ixN un34 ty80 rfl rfl rfl eA121 (sd rfl (yl_loadN ty80 rfl rfl eC121 rfl (sd rfl (yB ty80 (cs := [.string (bs (([] : Str))), .string (bs (([] : Str))), .bool (false)]) rfl rfl ?_)))))
   intro b122 w123 hs124 hz125 hB126 hE127
   refine SeqR.u rfl rfl (yl_storeA (vs := [.string (bs ((ps.getD k25 d_Write).Key)), .string (bs ((ps.getD k25 d_Write).Val)), .bool ((ps.getD k25 d_Write).Gone)]) ty80 rfl rfl rfl rfl rfl rfl hB126 rfl ?_)
   intro w128 hB129 hO130
   have hO130z := hO130.size
   refine dn (cR ?_)
   have q132 := Box.only (Box.ex hf110 hE127) hO130 oM
   refine sd rfl (yl_loadN ty39 rfl rfl (q132.cells (n := 3) rfl) rfl (sM rfl (sd rfl (yl_fieldAddr fd80_0 rfl rfl (sd rfl (yl_load1 ty9 rfl rfl ((hB129.cell 0).trans rfl) ?_))))))
   have q134 := RdS.only gS (RdS.ex gS hf111 hE127) hO130 iV
   have q136 := RdS.only gI (RdS.ex gI hf112 hE127) hO130 iV
   refine sd rfl (yC en144 rfl (oc rfl (oc rfl (oc rfl oz))) (Cal.mono (c_i_Table_readIdxKey p_t pn ((ps.getD k25 d_Write).Key) (RdS.up q134 gS) (RdS.up q136 gI) o3 o4 ((okL.getD o6 ok_d_Write _).1) Bo) ?_))
   rintro v140 w137 ⟨rfl, ho138, ho139, hE141⟩
   have hE141z := Ex.size hE141
   refine sM rfl (sd rfl (yl_extract rfl rfl rfl (sd rfl (yl_extract rfl rfl rfl (sd rfl (yl_extract rfl rfl rfl (sA rfl (sA rfl (sA rfl (dn ?_))))))))))
   refine cR (sM rfl (dn (bcase ((i_Table_readIdxKey p_t pn ((ps.getD k25 d_Write).Key)).2.2) (fun hb142 => ?_) (fun hb142 => ?_))))
   ·refine CW.cond_t rfl hb142 (CW.region (sM rfl (sd rfl (yl_fieldAddr fd80_0 rfl rfl (sd rfl (yl_load1 ty9 rfl rfl (((Box.ex hB129 hE141).cell 0).trans rfl) (sd rfl (yl_buildSlice (cs := [.string (bs ((ps.getD k25 d_Write).Key))]) un22 ty9 (by decide) rfl (oc rfl oz) (by kernel_rfl) ?_))))))))
    intro b144 w145 hs146 hz147 hB148 hE149
    have hO150 : OwnL w145 b144 (b144 + 1) 9 1 (RF e_Str) (some ⟨b144, 0, none⟩) 1 1 ([(ps.getD k25 d_Write).Key] : List Str) := OwnL.of_box (S := fun _ => False) hB148 (Nat.le_refl _) (Nat.lt_succ_self _) (EncL.cons (c := [.string (bs ((ps.getD k25 d_Write).Key))]) rfl rfl EncL.nil) (nb rfl) (fun h => h) (fun _ h => False.elim h)
    refine sd rfl (yl_appendL (S := (fun _ => False)) (lo := b18) (hi := u90) (xs := x87) (ys := ([(ps.getD k25 d_Write).Key] : List Str)) gS un22 ty9 rfl (nb rfl) rfl rfl rfl (OwnL.ex gS (OwnL.ex gS (OwnL.only gS (OwnL.ex gS hf113 hE127) hO130 oM) hE141) hE149) (EncL.cons (c := [.string (bs ((ps.getD k25 d_Write).Key))]) rfl rfl EncL.nil) (Or.inr ⟨_, _, rfl, rfl, hB148.cells (o := 0) (n := 1) rfl⟩) rfl Bl Bl oM oM (fun _ h _ => False.elim h) oM ?_)
    intro A155 c156 w157 row158 hO159 hG160 hrg161
    have hG160z := hG160.size
    refine sA rfl (SeqR.done (bn (tn (CW.region (sd rfl (yl_inc rfl rfl rfl oM (sM rfl (dn ?_))))))))
    have hB162 : B_i_Table_entriesIn_0 p_t pn ps k25 (x87) = .cont ((x87 ++ ([(ps.getD k25 d_Write).Key] : List Str))) := by simp only [B_i_Table_entriesIn_0, hb142, cL]
    exact ⟨ps.length - (k25 + 1), oM, k25 + 1, (x87 ++ ([(ps.getD k25 d_Write).Key] : List Str)), A155, c156, w157.heap.size, rfl, hlt120, oM, (sR rfl), (Box.grown (Box.ex (Box.ex q132 hE141) hE149) hG160 (hW hrg161)), (RdS.grown gS (RdS.ex gS (RdS.ex gS q134 hE141) hE149) hG160 (hV hrg161)), (RdS.grown gI (RdS.ex gI (RdS.ex gI q136 hE141) hE149) hG160 (hV hrg161)), hO159, (RdS.grown gW (RdS.ex gW (RdS.ex gW (RdS.only gW (RdS.ex gW hf114 hE127) hO130 iV) hE141) hE149) hG160 (hV hrg161)), (Below.grown (Ex.trans (Ex.trans (Below.only (Ex.trans hf115 hE127) hO130 oM) hE141) hE149) hG160 oM (hW hrg161)), oM, Bl, (okE.append hok118 ((okL.mk (nb rfl) (okE.cons (okL.getD o6 ok_d_Write _).1 okE.nil))).2), (loopM.cont hlt120 hB162).symm.trans hI107⟩
   ·refine CW.cond_f rfl hb142 (CW.skip (bn (tn (CW.region (sd rfl (yl_inc rfl rfl rfl oM (sM rfl (dn ?_))))))))
    have hB182 : B_i_Table_entriesIn_0 p_t pn ps k25 (x87) = .cont (x87) := by simp only [B_i_Table_entriesIn_0, hb142, cL]
    exact ⟨ps.length - (k25 + 1), oM, k25 + 1, x87, A88, c89, u90, rfl, hlt120, oM, (sR rfl), (Box.ex q132 hE141), (RdS.ex gS q134 hE141), (RdS.ex gI q136 hE141), (OwnL.ex gS (OwnL.only gS (OwnL.ex gS hf113 hE127) hO130 oM) hE141), (RdS.ex gW (RdS.only gW (RdS.ex gW hf114 hE127) hO130 iV) hE141), (Ex.trans (Below.only (Ex.trans hf115 hE127) hO130 oM) hE141), oM, Bl, hok118, (loopM.cont hlt120 hB182).symm.trans hI107⟩
  ·refine cR (sd rfl (yl_lss rfl rfl rfl (dn (CW.seq (CW.cond_f rfl (lt_f hlt120) (CW.exit (tx ?_)))))))
   refine tx ?_
   have hL195 : loopM (B_i_Table_entriesIn_0 p_t pn ps) (ps.length - 0) 0 (([] : List Str)) = .done (x87) := hI107.symm.trans (loopM.stop hlt120)
   refine bx (tn (cR (sM rfl (sA rfl (dn (CW.ret ?_))))))
   refine rr rfl (.cons rfl .nil) ?_
   rw [show (i_Table_entriesIn p_t pn ps) = (x87) by simp only [i_Table_entriesIn, hL195, cL]]
   exact ⟨A88, c89, b18, u90, rfl, hf113, (okL.mk (xs := x87) Bl hok118), oM, hf115⟩
@[reducible] def Y0_40 (p_t : DTable) (pn : Str) (ps : List DWrite) (k38 : Nat) := ([(⟨((i_Table_entriesIn p_t pn ps).getD k38 d_Str), ([(⟨3, ((i_Table_entriesIn p_t pn ps).getD k38 d_Str), ([] : Str), 0⟩ : DOp)] : List DOp)⟩ : DTask)] : List DTask)
theorem c_i_Table_clears {A1 : Option Addr} {c1 : Nat} {A2 : Option Addr} {c2 : Nat} {A5 : Option Addr} {c5 : Nat} {w : World} (p_t : DTable) (pn : Str) (ps : List DWrite) (h1 : RdS w (Iv 0 w.heap.size) (RF e_Str) 1 A1 p_t.Cols.length c1 p_t.Cols) (h2 : RdS w (Iv 0 w.heap.size) (RF e_Idx) 3 A2 p_t.Idxs.length c2 p_t.Idxs) (h5 : RdS w (Iv 0 w.heap.size) (RF e_Write) 3 A5 ps.length c5 ps) (o3 : ok_Table p_t) (o4 : okS pn) (o6 : (okL ok_Write) ps) (pre0 : i_hasIdx p_t pn = true) : Cal Tryz.prog 62 #[.agg #[.string (bs (p_t.Name)), .slice A1 p_t.Cols.length c1, .slice A2 p_t.Idxs.length c2], .string (bs (pn)), .slice A5 ps.length c5] w fun v w' => ∃ A_1 c_1 lo_1 hi_1, v = .slice A_1 ((i_Table_clears p_t pn ps).length) c_1 ∧ OwnD w' lo_1 hi_1 135 2 RO_Task A_1 ((i_Table_clears p_t pn ps).length) c_1 (i_Table_clears p_t pn ps) ∧ (okL ok_Task) (i_Table_clears p_t pn ps) ∧ (w.heap.size ≤ lo_1 ∧ lo_1 ≤ hi_1 ∧ hi_1 ≤ w'.heap.size) ∧ Ex w w' := by
 have hol7 : p_t.Name.length ≤ 1073741824 := o3.1
 have hol8 := o3.2.1.1
 have hol9 := o3.2.2.1
 have hol10 : pn.length ≤ 1073741824 := o4
 have hol11 := o6.1
 have hgi := f_i_hasIdx pre0
 have hel := entriesIn_le p_t pn ps
 refine Cal.of func62 rfl ntmps62 rfl (cR (sd rfl (yl_box rfl rfl rfl ?_)))
 intro b12 w13 hs14 hz15 hB16 hE17
 refine sA rfl (dn (cR (sd rfl (yl_buildSlice (cs := []) un97 ty135 (by decide) rfl opvs_nil (by kernel_rfl) ?_))))
 intro b18 w19 hs20 hz21 hB22 hE23
 have hO24 : OwnL w19 b18 (b18 + 1) 135 2 R_Task (some ⟨b18, 0, none⟩) 0 0 ([] : List DTask) := oB hB22
 refine sA rfl (dn (CW.seq (cR (sd rfl (yl_loadN ty39 rfl rfl ((Box.ex hB16 hE23).cells (n := 3) rfl) rfl (sM rfl (sM rfl ?_)))))))
 refine sd rfl (yC en100 rfl (oc rfl (oc rfl (oc rfl oz))) (Cal.mono (c_i_Table_entriesIn p_t pn ps (RdS.up (RdS.ex gS (RdS.ex gS h1 hE17) hE23) gS) (RdS.up (RdS.ex gI (RdS.ex gI h2 hE17) hE23) gI) (RdS.up (RdS.ex gW (RdS.ex gW h5 hE17) hE23) gW) o3 o4 o6 Bo) ?_))
 rintro v35 w32 ⟨A33, c33, lo33, hi33, rfl, h33, ho34, hrn37, hE36⟩
 have hE36z := Ex.size hE36
 refine sd rfl (yL un22 rfl rfl (sM rfl (dn (CW.block (CW.loop (fun m67 L68 w69 => ∃ (k38 : Nat) (x63 : List DTask) (A64 : Option Addr) (c65 : Nat) (u66 : Nat), m67 = (i_Table_entriesIn p_t pn ps).length - k38 ∧ k38 ≤ (i_Table_entriesIn p_t pn ps).length ∧ w32.heap.size ≤ w69.heap.size ∧ Sub [(7, .slice A64 x63.length c65), (14, .slice A33 ((i_Table_entriesIn p_t pn ps).length) c33), (15, .int .i64 (((i_Table_entriesIn p_t pn ps).length : Int))), (16, .int .i64 ((k38 : Int)))] L68 ∧ OwnD w69 w32.heap.size u66 135 2 RO_Task A64 x63.length c65 x63 ∧ OwnL w69 lo33 hi33 9 1 (RF e_Str) A33 ((i_Table_entriesIn p_t pn ps).length) c33 (i_Table_entriesIn p_t pn ps) ∧ Ex w w69 ∧ (w32.heap.size ≤ u66 ∧ u66 ≤ w69.heap.size) ∧ x63.length ≤ 0 + 1 * (k38 - 0) ∧ (∀ y ∈ x63, ok_Task y) ∧ loopM (B_i_Table_clears_0 p_t pn ps) ((i_Table_entriesIn p_t pn ps).length - k38) k38 (x63) = loopM (B_i_Table_clears_0 p_t pn ps) ((i_Table_entriesIn p_t pn ps).length - 0) 0 (([] : List DTask))) ((i_Table_entriesIn p_t pn ps).length - 0) ?_ ?_)))))
 ·exact ⟨0, ([] : List DTask), (some ⟨b18, 0, none⟩), 0, w32.heap.size, rfl, oM, Nat.le_refl _, (sR rfl), (OwnD.empty w32 w32.heap.size w32.heap.size 135 2 RO_Task (some ⟨b18, 0, none⟩)), h33, (Ex.trans (Ex.trans (Ex.trans (Ex.refl w) hE17) hE23) hE36), oM, (by first | (simp; done) | (first | omega | (simp only [lN, toS_length]; omega))), okE.nil, rfl⟩
 ·rintro m73 L74 w75 ⟨k38, x63, A64, c65, u66, rfl, hk76, hsz78, hl79, hf80, hf81, hf82, hu83, hln84, hok85, hI77⟩
  refine CW.sub hl79 ?_
  have hf82z := Ex.size hf82
  have hbg86 := RdS.big (OwnL.rd gS hf81)
  rcases Nat.lt_or_ge k38 ((i_Table_entriesIn p_t pn ps).length) with hlt88 | hlt88
  ·refine cR (sd rfl (yl_lss rfl rfl rfl (dn (CW.seq (CW.cond_t rfl (lt_t hlt88) (CW.skip (tn ?_)))))))
   refine CW.seq (CW.block (cR ?_))
   obtain ⟨_, _, _, eA90, _, ebl90, _, eR90, eC90⟩ := RdS.aD (OwnL.rd gS hf81) d_Str (i := k38)
   obtain rfl := eR90
   refine sd rfl (yl_ixN un22 ty9 rfl rfl rfl eA90 (sd rfl (yl_load1 ty9 rfl rfl (eC90 0 _ rfl) (sA rfl (dn (CW.region (sM rfl (sM rfl (sM rfl ?_)))))))))
   refine sd rfl (yl_build (cs := [.int .i64 (3), .string (bs (((i_Table_entriesIn p_t pn ps).getD k38 d_Str))), .string (bs (([] : Str))), .int .i64 (0)]) rfl (oc rfl (oc rfl oz)) (by kernel_rfl) (sd rfl (yl_buildSlice (cs := [.int .i64 (3), .string (bs (((i_Table_entriesIn p_t pn ps).getD k38 d_Str))), .string (bs (([] : Str))), .int .i64 (0)]) un77 ty122 (by decide) rfl (oc rfl oz) (by kernel_rfl) ?_)))
   intro b91 w92 hs93 hz94 hB95 hE96
   have hO97 : OwnL w92 b91 (b91 + 1) 122 4 (RF e_Op) (some ⟨b91, 0, none⟩) 1 1 ([(⟨3, ((i_Table_entriesIn p_t pn ps).getD k38 d_Str), ([] : Str), 0⟩ : DOp)] : List DOp) := OwnL.of_box (S := fun _ => False) hB95 (Nat.le_refl _) (Nat.lt_succ_self _) (EncL.cons (c := [.int .i64 (3), .string (bs (((i_Table_entriesIn p_t pn ps).getD k38 d_Str))), .string (bs (([] : Str))), .int .i64 (0)]) rfl rfl EncL.nil) (nb rfl) (fun h => h) (fun _ h => False.elim h)
   refine sd rfl (yl_build (cs := [.string (bs (((i_Table_entriesIn p_t pn ps).getD k38 d_Str))), .slice (some ⟨b91, 0, none⟩) 1 1]) rfl (oc rfl (oc rfl oz)) (by kernel_rfl) (sd rfl (yl_buildSlice (cs := [.string (bs (((i_Table_entriesIn p_t pn ps).getD k38 d_Str))), .slice (some ⟨b91, 0, none⟩) 1 1]) un97 ty135 (by decide) rfl (oc rfl oz) (by kernel_rfl) ?_)))
   intro b98 w99 hs100 hz101 hB102 hE103
   have hO104 : OwnD w99 b91 (b98 + 1) 135 2 RO_Task (some ⟨b98, 0, none⟩) 1 1 (Y0_40 p_t pn ps k38) := OwnD.of_box (b := b98) (xs := (Y0_40 p_t pn ps k38)) (cells := [[.string (bs (((i_Table_entriesIn p_t pn ps).getD k38 d_Str))), .slice (some ⟨b91, 0, none⟩) 1 1]]) (by rw [List.flatten_singleton]; exact hB102) oM (Nat.lt_succ_self _) (.cons (l := b91) (h := b98) (Nat.le_refl _) oM rfl (fun k hk => by cases hk; exact .inr (Nat.le_refl _)) (mkO_Task (l := b91) (h := b98) (OwnL.ex good_Op hO97 hE103) oM) (.nil (Nat.le_succ _))) (nb rfl)
   refine sd rfl (yl_appendD (xs := x63) (ys := (Y0_40 p_t pn ps k38)) goodO_Task un97 ty135 rfl (nb rfl) rfl rfl rfl (OwnD.ex goodO_Task (OwnD.ex goodO_Task hf80 hE96) hE103) hO104 Bl Bl oM oM oM oM ?_)
   intro A107 c108 w109 row110 hO111 hG112 hrg113
   have hG112z := hG112.size
   refine sA rfl (SeqR.done (bn (tn (CW.region (sd rfl (yl_inc rfl rfl rfl oM (sM rfl (dn ?_))))))))
   have hB114 : B_i_Table_clears_0 p_t pn ps k38 (x63) = .cont ((x63 ++ (Y0_40 p_t pn ps k38))) := by simp only [B_i_Table_clears_0, cL]
   exact ⟨(i_Table_entriesIn p_t pn ps).length - (k38 + 1), oM, k38 + 1, (x63 ++ (Y0_40 p_t pn ps k38)), A107, c108, w109.heap.size, rfl, hlt88, oM, (sR rfl), hO111, (OwnL.grown gS (OwnL.ex gS (OwnL.ex gS hf81 hE96) hE103) hG112 (hW hrg113)), (Below.grown (Ex.trans (Ex.trans hf82 hE96) hE103) hG112 oM (hW hrg113)), oM, Bl, (okE.append hok85 ((okL.mk (nb rfl) (okE.cons ⟨(okL.getD ho34 ok_d_Str _), (okL.mk (nb rfl) (okE.cons ⟨(okL.getD ho34 ok_d_Str _), (okS.lit rfl)⟩ okE.nil))⟩ okE.nil))).2), (loopM.cont hlt88 hB114).symm.trans hI77⟩
  ·refine cR (sd rfl (yl_lss rfl rfl rfl (dn (CW.seq (CW.cond_f rfl (lt_f hlt88) (CW.exit (tx ?_)))))))
   refine tx ?_
   have hL121 : loopM (B_i_Table_clears_0 p_t pn ps) ((i_Table_entriesIn p_t pn ps).length - 0) 0 (([] : List DTask)) = .done (x63) := hI77.symm.trans (loopM.stop hlt88)
   refine bx (tn (cR (sM rfl (sA rfl (dn (CW.ret ?_))))))
   refine rr rfl (.cons rfl .nil) ?_
   rw [show (i_Table_clears p_t pn ps) = (x63) by simp only [i_Table_clears, hL121, cL]]
   exact ⟨A64, c65, w32.heap.size, u66, rfl, hf80, (okL.mk (xs := x63) Bl hok85), oM, hf82⟩
theorem c_i_ClearPiece {A1 : Option Addr} {c1 : Nat} {A2 : Option Addr} {c2 : Nat} {A5 : Option Addr} {c5 : Nat} {w : World} (p_t : DTable) (pn : Str) (ps : List DWrite) (p_f : DFill) (p_many : Int) (h1 : RdS w (Iv 0 w.heap.size) (RF e_Str) 1 A1 p_t.Cols.length c1 p_t.Cols) (h2 : RdS w (Iv 0 w.heap.size) (RF e_Idx) 3 A2 p_t.Idxs.length c2 p_t.Idxs) (h5 : RdS w (Iv 0 w.heap.size) (RF e_Write) 3 A5 ps.length c5 ps) (o3 : ok_Table p_t) (o4 : okS pn) (o6 : (okL ok_Write) ps) (o7 : ok_Fill p_f) (hgb : GT 4 5 1 w) : Cal Tryz.prog 25 #[.agg #[.string (bs (p_t.Name)), .slice A1 p_t.Cols.length c1, .slice A2 p_t.Idxs.length c2], .string (bs (pn)), .slice A5 ps.length c5, .agg #[.string (bs (p_f.Last)), .bool (p_f.Over)], .int .i64 (p_many)] w fun v w' => ∃ A_1 c_1 lo_1 hi_1, v = .tuple #[.slice A_1 (((i_ClearPiece p_t pn ps p_f p_many).1).length) c_1, .agg #[.string (bs ((i_ClearPiece p_t pn ps p_f p_many).2.1.Last)), .bool ((i_ClearPiece p_t pn ps p_f p_many).2.1.Over)], .bool ((i_ClearPiece p_t pn ps p_f p_many).2.2)] ∧ OwnL w' lo_1 hi_1 80 3 (RF e_Write) A_1 (((i_ClearPiece p_t pn ps p_f p_many).1).length) c_1 ((i_ClearPiece p_t pn ps p_f p_many).1) ∧ (okL ok_Write) ((i_ClearPiece p_t pn ps p_f p_many).1) ∧ ok_Fill ((i_ClearPiece p_t pn ps p_f p_many).2.1) ∧ (w.heap.size ≤ lo_1 ∧ lo_1 ≤ hi_1 ∧ hi_1 ≤ w'.heap.size) ∧ Ex w w' := by
 have hol8 : p_t.Name.length ≤ 1073741824 := o3.1
 have hol9 := o3.2.1.1
 have hol10 := o3.2.2.1
 have hol11 : pn.length ≤ 1073741824 := o4
 have hol12 := o6.1
 have hol13 : p_f.Last.length ≤ 1073741824 := o7
 refine Cal.of func25 rfl ntmps25 rfl (cR (sd rfl (yl_box rfl rfl rfl ?_)))
 intro b14 w15 hs16 hz17 hB18 hE19
 refine sd rfl (yl_box rfl rfl rfl ?_)
 intro b20 w21 hs22 hz23 hB24 hE25
 refine sA rfl (sd rfl (yB ty56 (cs := [.string (bs (([] : Str))), .bool (false)]) rfl rfl ?_))
 intro b26 w27 hs28 hz29 hB30 hE31
 refine sA rfl (dn (CW.seq (cR ?_)))
 have q33 := Box.ex (Box.ex hB18 hE25) hE31
 refine sd rfl (yl_loadN ty39 rfl rfl (q33.cells (n := 3) rfl) rfl (sM rfl (sM rfl ?_)))
 have q34 := Box.ex hB24 hE31
 refine sd rfl (yl_loadN ty56 rfl rfl (q34.cells (n := 2) rfl) rfl (sM rfl ?_))
 have q37 := RdS.ex gS (RdS.ex gS (RdS.ex gS h1 hE19) hE25) hE31
 have q40 := RdS.ex gI (RdS.ex gI (RdS.ex gI h2 hE19) hE25) hE31
 have q43 := RdS.ex gW (RdS.ex gW (RdS.ex gW h5 hE19) hE25) hE31
 refine sd rfl (yC en60 rfl (oc rfl (oc rfl (oc rfl (oc rfl (oc rfl oz))))) (Cal.mono (c_i_arePiece p_t pn ps p_f p_many (RdS.up q37 gS) (RdS.up q40 gI) (RdS.up q43 gW) o3 o4 o6 o7) ?_))
 rintro v45 w44 ⟨rfl, hE46⟩
 have hE46z := Ex.size hE46
 refine sd rfl (yl_not rfl rfl (dn (bcase (i_arePiece p_t pn ps p_f p_many) (fun hb47 => ?_) (fun hb47 => ?_))))
 ·refine CW.cond_f rfl (not_t hb47) (CW.skip (tn (CW.seq ?_)))
  have q51 := RdS.ex gW q43 hE46
  have q59 := Ex.trans (Ex.trans (Ex.trans (Ex.trans (Ex.refl w) hE19) hE25) hE31) hE46
  refine CW.drawsG 13 (fun _ _ => False) (fun _ _ _ => False) (vgetG [DetG (.agg #[.string (bs (p_t.Name)), .slice A1 p_t.Cols.length c1, .slice A2 p_t.Idxs.length c2]), DetG (.string (bs (pn))), DetG (.slice A5 ps.length c5), fun G v wq => ∃ A53 c53 lo53 hi53, v = .slice A53 ((i_Table_clears p_t pn ps).length) c53 ∧ OwnD wq lo53 hi53 135 2 RO_Task A53 ((i_Table_clears p_t pn ps).length) c53 (i_Table_clears p_t pn ps) ∧ (okL ok_Task) (i_Table_clears p_t pn ps) ∧ ((G.fl 3) ≤ lo53 ∧ lo53 ≤ hi53 ∧ hi53 ≤ (G.fh 3)), DetG (.slice A5 ps.length c5), DetG (.agg #[.string (bs (p_f.Last)), .bool (p_f.Over)]), DetG (.int .i64 (p_many)), fun G v wq => ∃ A61 c61 lo61 hi61, v = .tuple #[.slice A61 (((i_piece (i_Table_clears p_t pn ps) ps p_f p_many).1).length) c61, .agg #[.string (bs ((i_piece (i_Table_clears p_t pn ps) ps p_f p_many).2.Last)), .bool ((i_piece (i_Table_clears p_t pn ps) ps p_f p_many).2.Over)]] ∧ OwnL wq lo61 hi61 80 3 (RF e_Write) A61 (((i_piece (i_Table_clears p_t pn ps) ps p_f p_many).1).length) c61 ((i_piece (i_Table_clears p_t pn ps) ps p_f p_many).1) ∧ (okL ok_Write) ((i_piece (i_Table_clears p_t pn ps) ps p_f p_many).1) ∧ ok_Fill ((i_piece (i_Table_clears p_t pn ps) ps p_f p_many).2) ∧ ((G.fl 7) ≤ lo61 ∧ lo61 ≤ hi61 ∧ hi61 ≤ (G.fh 7)), fun G v wq => ∃ A61 c61 lo61 hi61, v = .tuple #[.slice A61 (((i_piece (i_Table_clears p_t pn ps) ps p_f p_many).1).length) c61, .agg #[.string (bs ((i_piece (i_Table_clears p_t pn ps) ps p_f p_many).2.Last)), .bool ((i_piece (i_Table_clears p_t pn ps) ps p_f p_many).2.Over)]] ∧ OwnL wq lo61 hi61 80 3 (RF e_Write) A61 (((i_piece (i_Table_clears p_t pn ps) ps p_f p_many).1).length) c61 ((i_piece (i_Table_clears p_t pn ps) ps p_f p_many).1) ∧ ((G.fl 7) ≤ lo61 ∧ lo61 ≤ hi61 ∧ hi61 ≤ (G.fh 7)), fun G v wq => ∃ A61 c61 lo61 hi61, v = .slice A61 (((i_piece (i_Table_clears p_t pn ps) ps p_f p_many).1).length) c61 ∧ OwnL wq lo61 hi61 80 3 (RF e_Write) A61 (((i_piece (i_Table_clears p_t pn ps) ps p_f p_many).1).length) c61 ((i_piece (i_Table_clears p_t pn ps) ps p_f p_many).1) ∧ ((G.fl 7) ≤ lo61 ∧ lo61 ≤ hi61 ∧ hi61 ≤ (G.fh 7)), DetG (.agg #[.string (bs ((i_piece (i_Table_clears p_t pn ps) ps p_f p_many).2.Last)), .bool ((i_piece (i_Table_clears p_t pn ps) ps p_f p_many).2.Over)]), fun G v wq => v = .pointer (some ⟨(G.fl 11), 0, none⟩) ∧ Box wq (G.fl 11) 56 [.string (bs (([] : Str))), .bool (false)] ∧ (G.fl 11) < (G.fh 11), fun G v wq => ∃ A61 c61 lo61 hi61, v = .slice A61 (((i_piece (i_Table_clears p_t pn ps) ps p_f p_many).1).length) c61 ∧ OwnL wq lo61 hi61 80 3 (RF e_Write) A61 (((i_piece (i_Table_clears p_t pn ps) ps p_f p_many).1).length) c61 ((i_piece (i_Table_clears p_t pn ps) ps p_f p_many).1) ∧ ((G.fl 7) ≤ lo61 ∧ lo61 ≤ hi61 ∧ hi61 ≤ (G.fh 7))]) Tryz.follows rfl rfl rfl rfl rfl rfl (fun _ _ _ _ _ h => h) (fun _ _ _ _ _ _ _ _ _ h => h.elim) (vgetG_kept ⟨(KeptG.det _), (KeptG.det _), (KeptG.det _), (by rintro i G v w w' K hn hh hj ⟨A53, c53, lo53, hi53, hv, h0, h1, hr0⟩ e; have d3 : G.dn 3 = true := hj; have u3 := Gh.ufl (lo := w.heap.size) (hi := w'.heap.size) d3 hn; have t3 := Gh.ufh (lo := w.heap.size) (hi := w'.heap.size) d3 hn; exact ⟨A53, c53, lo53, hi53, hv, (by exact OwnD.chg goodO_Task h0 e (fun b hb hp => by exact hp.elim)), h1, (by simp only [u3, t3]; exact hr0)⟩), (KeptG.det _), (KeptG.det _), (KeptG.det _), (by rintro i G v w w' K hn hh hj ⟨A61, c61, lo61, hi61, hv, h0, h1, h2, hr0⟩ e; have d7 : G.dn 7 = true := hj; have u7 := Gh.ufl (lo := w.heap.size) (hi := w'.heap.size) d7 hn; have t7 := Gh.ufh (lo := w.heap.size) (hi := w'.heap.size) d7 hn; exact ⟨A61, c61, lo61, hi61, hv, (by exact OwnL.chg gW h0 e (fun b hb hp => by exact hp.elim)), h1, h2, (by simp only [u7, t7]; exact hr0)⟩), (by rintro i G v w w' K hn hh hj ⟨A61, c61, lo61, hi61, hv, h0, hr0⟩ e; have d7 : G.dn 7 = true := K.cl 8 7 hj rfl; have u7 := Gh.ufl (lo := w.heap.size) (hi := w'.heap.size) d7 hn; have t7 := Gh.ufh (lo := w.heap.size) (hi := w'.heap.size) d7 hn; exact ⟨A61, c61, lo61, hi61, hv, (by exact OwnL.chg gW h0 e (fun b hb hp => by exact hp.elim)), (by simp only [u7, t7]; exact hr0)⟩), (by rintro i G v w w' K hn hh hj ⟨A61, c61, lo61, hi61, hv, h0, hr0⟩ e; have d7 : G.dn 7 = true := K.cl 9 7 hj rfl; have u7 := Gh.ufl (lo := w.heap.size) (hi := w'.heap.size) d7 hn; have t7 := Gh.ufh (lo := w.heap.size) (hi := w'.heap.size) d7 hn; exact ⟨A61, c61, lo61, hi61, hv, (by exact OwnL.chg gW h0 e (fun b hb hp => by exact hp.elim)), (by simp only [u7, t7]; exact hr0)⟩), (KeptG.det _), (by rintro i G v w w' K hn hh hj ⟨hv, h0, he0⟩ e; have d11 : G.dn 11 = true := hj; have u11 := Gh.ufl (lo := w.heap.size) (hi := w'.heap.size) d11 hn; have t11 := Gh.ufh (lo := w.heap.size) (hi := w'.heap.size) d11 hn; exact ⟨(by simp only [u11, t11]; exact hv), (by simp only [u11, t11]; exact Box.chg h0 e (fun hp => by exact hp.elim)), (by simp only [u11, t11]; exact he0)⟩), (by rintro i G v w w' K hn hh hj ⟨A61, c61, lo61, hi61, hv, h0, hr0⟩ e; have d7 : G.dn 7 = true := K.cl 12 7 hj rfl; have u7 := Gh.ufl (lo := w.heap.size) (hi := w'.heap.size) d7 hn; have t7 := Gh.ufh (lo := w.heap.size) (hi := w'.heap.size) d7 hn; exact ⟨A61, c61, lo61, hi61, hv, (by exact OwnL.chg gW h0 e (fun b hb hp => by exact hp.elim)), (by simp only [u7, t7]; exact hr0)⟩), trivial⟩) ⟨?_, ?_, ?_, ?_, ?_, ?_, ?_, ?_, ?_, ?_, ?_, ?_, ?_, trivial⟩ ?_
  ·intro L69 w70 G68 hgk71
   have hE72 := hgk71.st.ex.ex (fun b h => h.elim (fun h => h.elim) (fun h => h))
   have hE72z := Ex.size hE72
   exact OpR.op' rfl (Yl.sameG (yl_loadN ty39 rfl (hgk71.old 5 _ rfl rfl) ((Box.ex (Box.ex q33 hE46) hE72).cells (n := 3) rfl) rfl kI))
  ·intro L76 w77 G75 hgk78
   have hE79 := hgk78.st.ex.ex (fun b h => h.elim (fun h => h.elim) (fun h => h))
   have hE79z := Ex.size hE79
   exact OpR.op' rfl (Yl.sameG (yM rfl (hgk78.old 1 _ rfl rfl) kI))
  ·intro L82 w83 G81 hgk84
   have hE85 := hgk84.st.ex.ex (fun b h => h.elim (fun h => h.elim) (fun h => h))
   have hE85z := Ex.size hE85
   exact OpR.op' rfl (Yl.sameG (yM rfl (hgk84.old 2 _ rfl rfl) kI))
  ·intro L88 w89 G87 hgk90
   have hE91 := hgk90.st.ex.ex (fun b h => h.elim (fun h => h.elim) (fun h => h))
   have hE91z := Ex.size hE91
   obtain ⟨_, hx92, rfl⟩ := hgk90.val 0 24 rfl rfl
   obtain ⟨_, hx93, rfl⟩ := hgk90.val 1 25 rfl rfl
   obtain ⟨_, hx94, rfl⟩ := hgk90.val 2 26 rfl rfl
   refine OpR.op' rfl (yC en62 rfl (oc hx92 (oc hx93 (oc hx94 oz))) (Cal.mono (c_i_Table_clears p_t pn ps (RdS.up (RdS.ex gS (RdS.ex gS q37 hE46) hE91) gS) (RdS.up (RdS.ex gI (RdS.ex gI q40 hE46) hE91) gI) (RdS.up (RdS.ex gW q51 hE91) gW) o3 o4 o6 (pieceOf hb47).1) ?_))
   rintro v101 w98 ⟨A99, c99, lo99, hi99, rfl, h99, ho100, hrn103, hE102⟩
   exact ⟨Chg.of_ex hE102, A99, c99, lo99, hi99, rfl, h99, ho100, hrn103⟩
  ·intro L105 w106 G104 hgk107
   have hE108 := hgk107.st.ex.ex (fun b h => h.elim (fun h => h.elim) (fun h => h))
   have hE108z := Ex.size hE108
   exact OpR.op' rfl (Yl.sameG (yM rfl (hgk107.old 2 _ rfl rfl) kI))
  ·intro L111 w112 G110 hgk113
   have hE114 := hgk113.st.ex.ex (fun b h => h.elim (fun h => h.elim) (fun h => h))
   have hE114z := Ex.size hE114
   exact OpR.op' rfl (Yl.sameG (yl_loadN ty56 rfl (hgk113.old 8 _ rfl rfl) ((Box.ex (Box.ex q34 hE46) hE114).cells (n := 2) rfl) rfl kI))
  ·intro L118 w119 G117 hgk120
   have hE121 := hgk120.st.ex.ex (fun b h => h.elim (fun h => h.elim) (fun h => h))
   have hE121z := Ex.size hE121
   exact OpR.op' rfl (Yl.sameG (yM rfl (hgk120.old 4 _ rfl rfl) kI))
  ·intro L124 w125 G123 hgk126
   have hE127 := hgk126.st.ex.ex (fun b h => h.elim (fun h => h.elim) (fun h => h))
   have hE127z := Ex.size hE127
   obtain ⟨_, hx128, A53_129, c53_130, lo53_131, hi53_132, rfl, h133, h134, hrn135⟩ := hgk126.val 3 27 rfl rfl
   obtain ⟨_, hx136, rfl⟩ := hgk126.val 4 28 rfl rfl
   obtain ⟨_, hx137, rfl⟩ := hgk126.val 5 29 rfl rfl
   obtain ⟨_, hx138, rfl⟩ := hgk126.val 6 30 rfl rfl
   have hr139 := hgk126.st.rng 3 (hgk126.has 3 rfl)
   refine OpR.op' rfl (yC en61 rfl (oc hx128 (oc hx136 (oc hx137 (oc hx138 oz)))) (Cal.mono (c_i_piece (i_Table_clears p_t pn ps) ps p_f p_many (RdS.up (OwnL.rd good_Task (OwnD.own goodO_Task good_Task h133)) good_Task) (RdS.up (RdS.ex gW q51 hE127) gW) h134 o6 o7 (clears_ops hb47) (piece_len hb47) (hgb.ex (Ex.trans q59 hE127))) ?_))
   rintro v147 w143 ⟨A144, c144, lo144, hi144, rfl, h144, ho145, ho146, hrn149, hE148⟩
   exact ⟨Chg.of_ex hE148, A144, c144, lo144, hi144, rfl, h144, ho145, ho146, hrn149⟩
  ·intro L151 w152 G150 hgk153
   have hE154 := hgk153.st.ex.ex (fun b h => h.elim (fun h => h.elim) (fun h => h))
   have hE154z := Ex.size hE154
   obtain ⟨_, hx155, A61_156, c61_157, lo61_158, hi61_159, rfl, h160, h161, h162, hrn163⟩ := hgk153.val 7 31 rfl rfl
   have hr164 := hgk153.st.rng 7 (hgk153.has 7 rfl)
   exact OpR.op' rfl (Yl.sameG (yM rfl hx155 ⟨fun _ _ => ⟨A61_156, c61_157, lo61_158, hi61_159, rfl, h160, (show ((G150.fl 7) ≤ lo61_158 ∧ lo61_158 ≤ hi61_159 ∧ hi61_159 ≤ (G150.fh 7)) by omega)⟩, rfl⟩))
  ·intro L166 w167 G165 hgk168
   have hE169 := hgk168.st.ex.ex (fun b h => h.elim (fun h => h.elim) (fun h => h))
   have hE169z := Ex.size hE169
   obtain ⟨_, hx170, A61_171, c61_172, lo61_173, hi61_174, rfl, h175, hrn176⟩ := hgk168.val 8 23 rfl rfl
   have hr177 := hgk168.st.rng 7 (hgk168.has 7 rfl)
   have hr178 := hgk168.st.rng 8 (hgk168.has 8 rfl)
   have hsp179 := hgk168.st.ord 8 7 (hgk168.has 8 rfl) rfl
   exact OpR.op' rfl (Yl.sameG (yl_extract rfl hx170 rfl ⟨fun _ _ => ⟨A61_171, c61_172, lo61_173, hi61_174, rfl, h175, (show ((G165.fl 7) ≤ lo61_173 ∧ lo61_173 ≤ hi61_174 ∧ hi61_174 ≤ (G165.fh 7)) by omega)⟩, rfl⟩))
  ·intro L181 w182 G180 hgk183
   have hE184 := hgk183.st.ex.ex (fun b h => h.elim (fun h => h.elim) (fun h => h))
   have hE184z := Ex.size hE184
   obtain ⟨_, hx185, A61_186, c61_187, lo61_188, hi61_189, rfl, h190, hrn191⟩ := hgk183.val 8 23 rfl rfl
   have hr192 := hgk183.st.rng 7 (hgk183.has 7 rfl)
   have hr193 := hgk183.st.rng 8 (hgk183.has 8 rfl)
   have hsp194 := hgk183.st.ord 8 7 (hgk183.has 8 rfl) rfl
   exact OpR.op' rfl (Yl.sameG (yl_extract rfl hx185 rfl kI))
  ·intro L196 w197 G195 hgk198
   have hE199 := hgk198.st.ex.ex (fun b h => h.elim (fun h => h.elim) (fun h => h))
   have hE199z := Ex.size hE199
   refine OpR.op' rfl (yB ty56 (cs := [.string (bs (([] : Str))), .bool (false)]) rfl rfl ?_)
   intro b200 w201 hs202 hz203 hB204 hE205
   subst hs202
   exact ⟨Chg.of_ex hE205, rfl, hB204, by rw [Gh.sfl, Gh.sfh]; omega⟩
  ·intro L207 w208 G206 hgk209
   have hE210 := hgk209.st.ex.ex (fun b h => h.elim (fun h => h.elim) (fun h => h))
   have hE210z := Ex.size hE210
   obtain ⟨_, hx211, A61_212, c61_213, lo61_214, hi61_215, rfl, h216, hrn217⟩ := hgk209.val 9 32 rfl rfl
   have hr218 := hgk209.st.rng 7 (hgk209.has 7 rfl)
   have hr219 := hgk209.st.rng 9 (hgk209.has 9 rfl)
   have hsp220 := hgk209.st.ord 9 7 (hgk209.has 9 rfl) rfl
   exact OpR.op' rfl (Yl.sameG (yA rfl hx211 ⟨fun _ _ => ⟨A61_212, c61_213, lo61_214, hi61_215, rfl, h216, (show ((G206.fl 7) ≤ lo61_214 ∧ lo61_214 ≤ hi61_215 ∧ hi61_215 ≤ (G206.fh 7)) by omega)⟩, rfl⟩))
  ·intro G221 L222 w223 hgp224
   have hE225 := hgp224.st.ex.ex (fun b h => h.elim (fun h => h.elim) (fun h => h))
   have hE225z := Ex.size hE225
   obtain ⟨_, hx227, A53_228, c53_229, lo53_230, hi53_231, rfl, h232, h233, hrn234⟩ := hgp224.val 3 27 rfl rfl
   obtain ⟨_, hx235, A61_236, c61_237, lo61_238, hi61_239, rfl, h240, h241, h242, hrn243⟩ := hgp224.val 7 31 rfl rfl
   obtain ⟨_, hx244, A61_245, c61_246, lo61_247, hi61_248, rfl, h249, hrn250⟩ := hgp224.val 8 23 rfl rfl
   obtain ⟨_, hx251, A61_252, c61_253, lo61_254, hi61_255, rfl, h256, hrn257⟩ := hgp224.val 9 32 rfl rfl
   obtain ⟨_, hx258, rfl⟩ := hgp224.val 10 33 rfl rfl
   obtain ⟨_, hx259, rfl, h260, he261⟩ := hgp224.val 11 14 rfl rfl
   obtain ⟨_, hx262, A61_263, c61_264, lo61_265, hi61_266, rfl, h267, hrn268⟩ := hgp224.val 12 13 rfl rfl
   have hr269 := hgp224.st.rng 3 (hgp224.has 3 rfl)
   have hr270 := hgp224.st.rng 7 (hgp224.has 7 rfl)
   have hr271 := hgp224.st.rng 8 (hgp224.has 8 rfl)
   have hr272 := hgp224.st.rng 9 (hgp224.has 9 rfl)
   have hr273 := hgp224.st.rng 11 (hgp224.has 11 rfl)
   have hr274 := hgp224.st.rng 12 (hgp224.has 12 rfl)
   have hsp275 := hgp224.st.ord 7 3 (hgp224.has 7 rfl) rfl
   have hsp276 := hgp224.st.ord 8 3 (hgp224.has 8 rfl) rfl
   have hsp277 := hgp224.st.ord 9 3 (hgp224.has 9 rfl) rfl
   have hsp278 := hgp224.st.sep 3 11 (hgp224.has 3 rfl) (hgp224.has 11 rfl) rfl
   have hsp279 := hgp224.st.ord 12 3 (hgp224.has 12 rfl) rfl
   have hsp280 := hgp224.st.ord 8 7 (hgp224.has 8 rfl) rfl
   have hsp281 := hgp224.st.ord 9 7 (hgp224.has 9 rfl) rfl
   have hsp282 := hgp224.st.sep 7 11 (hgp224.has 7 rfl) (hgp224.has 11 rfl) rfl
   have hsp283 := hgp224.st.ord 12 7 (hgp224.has 12 rfl) rfl
   have hsp284 := hgp224.st.ord 9 8 (hgp224.has 9 rfl) rfl
   have hsp285 := hgp224.st.sep 8 11 (hgp224.has 8 rfl) (hgp224.has 11 rfl) rfl
   have hsp286 := hgp224.st.ord 12 8 (hgp224.has 12 rfl) rfl
   have hsp287 := hgp224.st.sep 9 11 (hgp224.has 9 rfl) (hgp224.has 11 rfl) rfl
   have hsp288 := hgp224.st.ord 12 9 (hgp224.has 12 rfl) rfl
   have hsp289 := hgp224.st.ord 12 11 (hgp224.has 12 rfl) rfl
   refine SeqR.u rfl rfl (yl_store (vs := [.string (bs ((i_piece (i_Table_clears p_t pn ps) ps p_f p_many).2.Last)), .bool ((i_piece (i_Table_clears p_t pn ps) ps p_f p_many).2.Over)]) ty56 rfl hx259 hx258 rfl rfl rfl h260 (nb rfl) ?_)
   intro w290 hB291 hO292
   have hB291 : Box w290 (G221.fl 11) 56 [.string (bs ((i_piece (i_Table_clears p_t pn ps) ps p_f p_many).2.Last)), .bool ((i_piece (i_Table_clears p_t pn ps) ps p_f p_many).2.Over)] := hB291
   have hO292z := hO292.size
   refine dn (CW.sub (sC 11 (hgp224.old 11 _ rfl rfl) (sC 13 hx262 (sC 14 hx259 (Sub.nil _)))) (CW.seq (drJ 3 [.slice A61_263 (((i_piece (i_Table_clears p_t pn ps) ps p_f p_many).1).length) c61_264, .agg #[.string (bs ((i_piece (i_Table_clears p_t pn ps) ps p_f p_many).2.Last)), .bool ((i_piece (i_Table_clears p_t pn ps) ps p_f p_many).2.Over)], .slice A61_263 (((i_piece (i_Table_clears p_t pn ps) ps p_f p_many).1).length) c61_264] Tryz.follows rfl ⟨?_, ?_, ?_, trivial⟩ ?_)))
   ·exact oI rfl fun h => yM rfl (h.g 13 rfl) kI
   ·exact oI rfl fun h => yl_loadN ty56 rfl (h.g 14 rfl) ((Box.ex hB291 h.ex).cells (n := 2) rfl) rfl kI
   ·exact oI rfl fun h => yA rfl (h.g 34 rfl) kI
   ·intro fl312 fh313 L309 w310 hp311
    have hE314 := hp311.ex
    have hE314z := Ex.size hE314
    have hx315 := hp311.old 11 _ rfl rfl
    refine SeqR.u rfl rfl (yl_storeA (vs := [.string (bs ((i_piece (i_Table_clears p_t pn ps) ps p_f p_many).2.Last)), .bool ((i_piece (i_Table_clears p_t pn ps) ps p_f p_many).2.Over)]) ty56 rfl hx315 (hp311.nt 1 35 rfl rfl rfl) rfl rfl rfl (Box.ex (Box.only (Box.ex (Box.ex hB30 hE46) hE225) hO292 oM) hE314) rfl ?_)
    intro w322 hB323 hO324
    have hO324z := hO324.size
    refine sA rfl (dn (CW.sub (sC 10 (hp311.nt 2 10 rfl rfl rfl) (sC 11 hx315 (sC 12 rfl (Sub.nil _)))) (CW.ret (rr rfl (.cons rfl (.cons ⟨_, rfl, run_loadN ty56 (cs := [.string (bs ((i_piece (i_Table_clears p_t pn ps) ps p_f p_many).2.Last)), .bool ((i_piece (i_Table_clears p_t pn ps) ps p_f p_many).2.Over)]) rfl (hB323.cells (n := 2) rfl)⟩ (.cons rfl .nil))) ?_))))
    rw [show (i_ClearPiece p_t pn ps p_f p_many) = (((i_piece (i_Table_clears p_t pn ps) ps p_f p_many).1, (i_piece (i_Table_clears p_t pn ps) ps p_f p_many).2, true)) by simp only [i_ClearPiece, hb47, cL]]
    exact ⟨A61_263, c61_264, lo61_265, hi61_266, rfl, (OwnL.only gW (OwnL.ex gW (OwnL.only gW h267 hO292 oM) hE314) hO324 oM), h241, h242, oM, (Below.only (Ex.trans (Below.only (Ex.trans q59 hE225) hO292 oM) hE314) hO324 oM)⟩
 ·refine CW.cond_t rfl (not_f hb47) (cR (sd rfl (yl_build (cs := [.string (bs (([] : Str))), .bool (false)]) rfl opvs_nil (by kernel_rfl) (sA rfl (SeqR.u rfl rfl (yl_storeA (vs := [.string (bs (([] : Str))), .bool (false)]) ty56 rfl rfl rfl rfl rfl rfl (Box.ex hB30 hE46) rfl ?_))))))
  intro w334 hB335 hO336
  have hO336z := hO336.size
  refine sA rfl (dn (CW.ret (tr (rr rfl (.cons rfl (.cons ⟨_, rfl, run_loadN ty56 (cs := [.string (bs (([] : Str))), .bool (false)]) rfl (hB335.cells (n := 2) rfl)⟩ (.cons rfl .nil))) ?_))))
  rw [show (i_ClearPiece p_t pn ps p_f p_many) = ((([] : List DWrite), (⟨([] : Str), false⟩ : DFill), false)) by simp only [i_ClearPiece, hb47, cL]]
  exact ⟨none, 0, w334.heap.size, w334.heap.size, rfl, (OwnL.nil _ _ _ _ _ _), (okL.nil _), (okS.lit rfl), oM, (Below.only (Ex.trans (Ex.trans (Ex.trans (Ex.trans (Ex.refl w) hE19) hE25) hE31) hE46) hO336 oM)⟩
theorem c_l_eqFill {w : World} (p_a : DFill) (p_b : DFill) : Cal Tryz.prog 26 #[.agg #[.string (bs (p_a.Last)), .bool (p_a.Over)], .agg #[.string (bs (p_b.Last)), .bool (p_b.Over)]] w fun v w' => v = .bool ((l_eqFill p_a p_b)) ∧ Ex w w' := by
 refine Cal.of func26 rfl ntmps26 rfl (cR (sd rfl (yl_box rfl rfl rfl ?_)))
 intro b1 w2 hs3 hz4 hB5 hE6
 refine sd rfl (yl_box rfl rfl rfl ?_)
 intro b7 w8 hs9 hz10 hB11 hE12
 refine sA rfl (dn (CW.seq (cR (sd rfl (yl_fieldAddr fd56_0 rfl rfl ?_)))))
 have q13 := Box.ex hB5 hE12
 refine sd rfl (yl_load1 ty9 rfl rfl ((q13.cell 0).trans rfl) (sd rfl (yl_fieldAddr fd56_0 rfl rfl (sd rfl (yl_load1 ty9 rfl rfl ((hB11.cell 0).trans rfl) (sd rfl (yl_sneq (a := p_a.Last) (b := p_b.Last) rfl rfl rfl (dn (bcase (p_a.Last == p_b.Last) (fun hb14 => ?_) (fun hb14 => ?_))))))))))
 ·refine CW.cond_f rfl (not_t hb14) (CW.skip (tn (CW.seq (cR (sd rfl (yl_fieldAddr fd56_1 rfl rfl (sd rfl (yl_load1 ty4 rfl rfl ((q13.cell 1).trans rfl) (sd rfl (yl_fieldAddr fd56_1 rfl rfl ?_))))))))))
  refine sd rfl (yl_load1 ty4 rfl rfl ((hB11.cell 1).trans rfl) (sd rfl (yl_bneq un4 rfl rfl rfl (dn (bcase (p_a.Over == p_b.Over) (fun hb15 => ?_) (fun hb15 => ?_))))))
  ·refine CW.cond_f rfl (not_t hb15) (CW.skip (tn (cR (sA rfl (dn (CW.ret ?_))))))
   refine rr rfl (.cons rfl .nil) ?_
   rw [show (l_eqFill p_a p_b) = (true) by simp only [l_eqFill, hb14, hb15, cL]]
   exact ⟨rfl, (Ex.trans (Ex.trans (Ex.refl w) hE6) hE12)⟩
  ·refine CW.cond_t rfl (not_f hb15) (cR (sA rfl (dn (CW.ret (tr (rr rfl (.cons rfl .nil) ?_))))))
   rw [show (l_eqFill p_a p_b) = (false) by simp only [l_eqFill, hb14, hb15, cL]]
   exact ⟨rfl, (Ex.trans (Ex.trans (Ex.refl w) hE6) hE12)⟩
 ·refine CW.cond_t rfl (not_f hb14) (cR (sA rfl (dn (CW.ret (tr (rr rfl (.cons rfl .nil) ?_))))))
  rw [show (l_eqFill p_a p_b) = (false) by simp only [l_eqFill, hb14, cL]]
  exact ⟨rfl, (Ex.trans (Ex.trans (Ex.refl w) hE6) hE12)⟩
theorem c_l_FnExactClearPiece {A1 : Option Addr} {c1 : Nat} {A2 : Option Addr} {c2 : Nat} {A3 : Option Addr} {c3 : Nat} {w : World} (p_0 : DTable) (p_1 : Str) (p_2 : List DWrite) (p_3 : DFill) (p_4 : Int) (h1 : RdS w (Iv 0 w.heap.size) (RF e_Str) 1 A1 p_0.Cols.length c1 p_0.Cols) (h2 : RdS w (Iv 0 w.heap.size) (RF e_Idx) 3 A2 p_0.Idxs.length c2 p_0.Idxs) (h3 : RdS w (Iv 0 w.heap.size) (RF e_Write) 3 A3 p_2.length c3 p_2) (pre0 : wf_Table p_0) (pre1 : wfS p_1) (pre2 : (wfL wf_Write) p_2) (pre3 : wf_Fill p_3) (pre4 : wfI p_4) (hgb : GT 4 5 1 w) : Cal Tryz.prog 4 #[.agg #[.string (bs (p_0.Name)), .slice A1 p_0.Cols.length c1, .slice A2 p_0.Idxs.length c2], .string (bs (p_1)), .slice A3 p_2.length c3, .agg #[.string (bs (p_3.Last)), .bool (p_3.Over)], .int .i64 (p_4)] w fun v w' => v = .bool ((l_FnExactClearPiece p_0 p_1 p_2 p_3 p_4)) ∧ Ex w w' := by
 refine Cal.of func4 rfl ntmps4 rfl (cR (sd rfl (yl_box rfl rfl rfl ?_)))
 intro b4 w5 hs6 hz7 hB8 hE9
 refine sd rfl (yl_box rfl rfl rfl ?_)
 intro b10 w11 hs12 hz13 hB14 hE15
 refine sA rfl (dn (CW.seq (cR (sM rfl (sd rfl (yl_slen un9 (a := p_1) rfl rfl (sd rfl (yl_gtr rfl rfl rfl ?_))))))))
 refine dn (bcD (q := 1048576 < (p_1.length : Int)) (fun hb16 hb16p => ?_) (fun hb16 hb16p => ?_))
 ·refine CW.cond_t rfl hb16 (cR (sA rfl (dn (CW.ret (tr (rr rfl (.cons rfl .nil) ?_))))))
  rw [show (l_FnExactClearPiece p_0 p_1 p_2 p_3 p_4) = (true) by simp only [l_FnExactClearPiece, hb16, cL]]
  exact ⟨rfl, (Ex.trans (Ex.trans (Ex.refl w) hE9) hE15)⟩
 ·refine CW.cond_f rfl hb16 (CW.skip (tn (cR (sA rfl (dn (CW.seq ?_))))))
  refine CW.region ?_
  have q20 := Box.ex hB8 hE15
  refine sd rfl (yl_loadN ty25 rfl rfl (q20.cells (n := 3) rfl) rfl (sM rfl ?_))
  have q22 := RdS.ex gS (RdS.ex gS h1 hE9) hE15
  have q24 := RdS.ex gI (RdS.ex gI h2 hE9) hE15
  refine sd rfl (yC en7 rfl (oc rfl (oc rfl oz)) (Cal.mono (c_l_szTable p_0 1048576 (RdS.up q22 gS) (RdS.up q24 gI)) ?_))
  rintro v26 w25 ⟨rfl, hE27⟩
  have hE27z := Ex.size hE27
  refine sA rfl (dn (CW.seq (cR (sM rfl (sd rfl (yl_lss rfl rfl rfl (SeqR.done ?_)))))))
  refine tn (bcD (q := (l_szTable p_0 1048576) < 0) (fun hb28 hb28p => ?_) (fun hb28 hb28p => ?_))
  ·refine CW.cond_t rfl hb28 (cR (sA rfl (dn (CW.ret (tr (rr rfl (.cons rfl .nil) ?_))))))
   rw [show (l_FnExactClearPiece p_0 p_1 p_2 p_3 p_4) = (true) by simp only [l_FnExactClearPiece, hb16, hb28, cL]]
   exact ⟨rfl, (Ex.trans (Ex.trans (Ex.trans (Ex.refl w) hE9) hE15) hE27)⟩
  ·refine CW.cond_f rfl hb28 (CW.skip (tn (cR (sM rfl (sM rfl ?_)))))
   have q35 := RdS.ex gW (RdS.ex gW (RdS.ex gW h3 hE9) hE15) hE27
   refine sd rfl (yC en8 rfl (oc rfl (oc rfl oz)) (Cal.mono (c_l_szWriteS p_2 (l_szTable p_0 1048576) (RdS.up q35 gW)) ?_))
   rintro v37 w36 ⟨rfl, hE38⟩
   have hE38z := Ex.size hE38
   have y1 := Ex.trans (Ex.trans (Ex.trans (Ex.trans (Ex.refl w) hE9) hE15) hE27) hE38
   refine sA rfl (dn (CW.seq (cR (sM rfl (sd rfl (yl_lss rfl rfl rfl (SeqR.done ?_)))))))
   refine tn (bcD (q := (l_szWriteS p_2 (l_szTable p_0 1048576)) < 0) (fun hb39 hb39p => ?_) (fun hb39 hb39p => ?_))
   ·refine CW.cond_t rfl hb39 (cR (sA rfl (dn (CW.ret (tr (rr rfl (.cons rfl .nil) ?_))))))
    rw [show (l_FnExactClearPiece p_0 p_1 p_2 p_3 p_4) = (true) by simp only [l_FnExactClearPiece, hb16, hb28, hb39, cL]]
    exact ⟨rfl, y1⟩
   ·refine CW.cond_f rfl hb39 (CW.skip (tn (cR ?_)))
    have q46 := Box.ex (Box.ex hB14 hE27) hE38
    refine sd rfl (yl_loadN ty54 rfl rfl (q46.cells (n := 2) rfl) rfl (sM rfl (sd rfl (yC en22 rfl (oc rfl (oc rfl oz)) (Cal.mono (c_l_szFill p_3 (l_szWriteS p_2 (l_szTable p_0 1048576))) ?_)))))
    rintro v48 w47 ⟨rfl, hE49⟩
    have hE49z := Ex.size hE49
    refine sA rfl (dn (CW.seq (cR (sM rfl (sd rfl (yl_lss rfl rfl rfl (SeqR.done ?_)))))))
    refine tn (bcD (q := (l_szFill p_3 (l_szWriteS p_2 (l_szTable p_0 1048576))) < 0) (fun hb50 hb50p => ?_) (fun hb50 hb50p => ?_))
    ·refine CW.cond_t rfl hb50 (cR (sA rfl (dn (CW.ret (tr (rr rfl (.cons rfl .nil) ?_))))))
     rw [show (l_FnExactClearPiece p_0 p_1 p_2 p_3 p_4) = (true) by simp only [l_FnExactClearPiece, hb16, hb28, hb39, hb50, cL]]
     exact ⟨rfl, (Ex.trans y1 hE49)⟩
    ·refine CW.cond_f rfl hb50 (CW.skip (tn (CW.seq ?_)))
     have q59 := Box.ex (Box.ex (Box.ex q20 hE27) hE38) hE49
     have q62 := RdS.ex gS (RdS.ex gS (RdS.ex gS q22 hE27) hE38) hE49
     have q65 := RdS.ex gI (RdS.ex gI (RdS.ex gI q24 hE27) hE38) hE49
     have q70 := RdS.ex gW (RdS.ex gW q35 hE38) hE49
     have q73 := Box.ex q46 hE49
     refine CW.drawsG 17 (fun _ _ => False) (fun i G b => (i = 15 ∧ (G.fl 13) ≤ b ∧ b < (G.fh 13))) (vgetG [DetG (.agg #[.string (bs (p_0.Name)), .slice A1 p_0.Cols.length c1, .slice A2 p_0.Idxs.length c2]), fun G v wq => ∃ A67 c67 lo67 hi67 A68 c68 lo68 hi68, v = .agg #[.string (bs (p_0.Name)), .slice A67 p_0.Cols.length c67, .slice A68 p_0.Idxs.length c68] ∧ OwnL wq lo67 hi67 9 1 (RF e_Str) A67 p_0.Cols.length c67 p_0.Cols ∧ OwnL wq lo68 hi68 111 3 (RF e_Idx) A68 p_0.Idxs.length c68 p_0.Idxs ∧ ((G.fl 1) ≤ lo67 ∧ lo67 ≤ hi67 ∧ hi67 ≤ (G.fh 1)) ∧ ((G.fl 1) ≤ lo68 ∧ lo68 ≤ hi68 ∧ hi68 ≤ (G.fh 1)) ∧ (hi67 ≤ lo68 ∨ hi68 ≤ lo67), DetG (.string (bs (p_1))), DetG (.slice A3 p_2.length c3), fun G v wq => ∃ A72 c72 lo72 hi72, v = .slice A72 p_2.length c72 ∧ OwnL wq lo72 hi72 80 3 (RF e_Write) A72 p_2.length c72 p_2 ∧ ((G.fl 4) ≤ lo72 ∧ lo72 ≤ hi72 ∧ hi72 ≤ (G.fh 4)), DetG (.agg #[.string (bs (p_3.Last)), .bool (p_3.Over)]), DetG (.agg #[.string (bs (p_3.Last)), .bool (p_3.Over)]), DetG (.int .i64 (p_4)), fun G v wq => ∃ A76 c76 lo76 hi76, v = .tuple #[.slice A76 (((s_ClearPiece p_0 p_1 p_2 p_3 p_4).1).length) c76, .agg #[.string (bs ((s_ClearPiece p_0 p_1 p_2 p_3 p_4).2.1.Last)), .bool ((s_ClearPiece p_0 p_1 p_2 p_3 p_4).2.1.Over)], .bool ((s_ClearPiece p_0 p_1 p_2 p_3 p_4).2.2)] ∧ OwnL wq lo76 hi76 80 3 (RF e_Write) A76 (((s_ClearPiece p_0 p_1 p_2 p_3 p_4).1).length) c76 ((s_ClearPiece p_0 p_1 p_2 p_3 p_4).1) ∧ (okL ok_Write) ((s_ClearPiece p_0 p_1 p_2 p_3 p_4).1) ∧ ok_Fill ((s_ClearPiece p_0 p_1 p_2 p_3 p_4).2.1) ∧ ((G.fl 8) ≤ lo76 ∧ lo76 ≤ hi76 ∧ hi76 ≤ (G.fh 8)), fun G v wq => ∃ A76 c76 lo76 hi76, v = .tuple #[.slice A76 (((s_ClearPiece p_0 p_1 p_2 p_3 p_4).1).length) c76, .agg #[.string (bs ((s_ClearPiece p_0 p_1 p_2 p_3 p_4).2.1.Last)), .bool ((s_ClearPiece p_0 p_1 p_2 p_3 p_4).2.1.Over)], .bool ((s_ClearPiece p_0 p_1 p_2 p_3 p_4).2.2)] ∧ OwnL wq lo76 hi76 80 3 (RF e_Write) A76 (((s_ClearPiece p_0 p_1 p_2 p_3 p_4).1).length) c76 ((s_ClearPiece p_0 p_1 p_2 p_3 p_4).1) ∧ ((G.fl 8) ≤ lo76 ∧ lo76 ≤ hi76 ∧ hi76 ≤ (G.fh 8)), fun G v wq => ∃ A76 c76 lo76 hi76, v = .slice A76 (((s_ClearPiece p_0 p_1 p_2 p_3 p_4).1).length) c76 ∧ OwnL wq lo76 hi76 80 3 (RF e_Write) A76 (((s_ClearPiece p_0 p_1 p_2 p_3 p_4).1).length) c76 ((s_ClearPiece p_0 p_1 p_2 p_3 p_4).1) ∧ ((G.fl 8) ≤ lo76 ∧ lo76 ≤ hi76 ∧ hi76 ≤ (G.fh 8)), DetG (.agg #[.string (bs ((s_ClearPiece p_0 p_1 p_2 p_3 p_4).2.1.Last)), .bool ((s_ClearPiece p_0 p_1 p_2 p_3 p_4).2.1.Over)]), DetG (.bool ((s_ClearPiece p_0 p_1 p_2 p_3 p_4).2.2)), fun G v wq => v = .pointer (some ⟨(G.fl 13), 0, none⟩) ∧ (G.dn 15 = false → Box wq (G.fl 13) 56 [.string (bs (([] : Str))), .bool (false)]) ∧ (G.fl 13) < (G.fh 13), fun G v wq => ∃ A76 c76 lo76 hi76, v = .slice A76 (((s_ClearPiece p_0 p_1 p_2 p_3 p_4).1).length) c76 ∧ OwnL wq lo76 hi76 80 3 (RF e_Write) A76 (((s_ClearPiece p_0 p_1 p_2 p_3 p_4).1).length) c76 ((s_ClearPiece p_0 p_1 p_2 p_3 p_4).1) ∧ ((G.fl 8) ≤ lo76 ∧ lo76 ≤ hi76 ∧ hi76 ≤ (G.fh 8)), fun G v wq => Box wq (G.fl 13) 56 [.string (bs ((s_ClearPiece p_0 p_1 p_2 p_3 p_4).2.1.Last)), .bool ((s_ClearPiece p_0 p_1 p_2 p_3 p_4).2.1.Over)], DetG (.bool ((s_ClearPiece p_0 p_1 p_2 p_3 p_4).2.2))]) Tryz.follows rfl rfl rfl rfl rfl rfl (fun _ _ _ _ _ h => h) (fun i G w lo hi b K hn hh hp => by exact (match hp with | ⟨e, q1, q2⟩ => by subst e; exact .inr (by have := K.rng 13 (hh 13 rfl); omega))) (vgetG_kept ⟨(KeptG.det _), (by rintro i G v w w' K hn hh hj ⟨A67, c67, lo67, hi67, A68, c68, lo68, hi68, hv, h0, h1, hr0, hr1, hr2⟩ e; have d1 : G.dn 1 = true := hj; have u1 := Gh.ufl (lo := w.heap.size) (hi := w'.heap.size) d1 hn; have t1 := Gh.ufh (lo := w.heap.size) (hi := w'.heap.size) d1 hn; exact ⟨A67, c67, lo67, hi67, A68, c68, lo68, hi68, hv, (by exact OwnL.chg gS h0 e (fun b hb hp => by obtain ⟨rfl, q1, q2⟩ := hp; have := K.rng 1 d1; have := K.rng 13 (hh 13 rfl); have := K.sep 13 1 (hh 13 rfl) d1 rfl; skip; omega)), (by exact OwnL.chg gI h1 e (fun b hb hp => by obtain ⟨rfl, q1, q2⟩ := hp; have := K.rng 1 d1; have := K.rng 13 (hh 13 rfl); have := K.sep 13 1 (hh 13 rfl) d1 rfl; skip; omega)), (by simp only [u1, t1]; exact hr0), (by simp only [u1, t1]; exact hr1), hr2⟩), (KeptG.det _), (KeptG.det _), (by rintro i G v w w' K hn hh hj ⟨A72, c72, lo72, hi72, hv, h0, hr0⟩ e; have d4 : G.dn 4 = true := hj; have u4 := Gh.ufl (lo := w.heap.size) (hi := w'.heap.size) d4 hn; have t4 := Gh.ufh (lo := w.heap.size) (hi := w'.heap.size) d4 hn; exact ⟨A72, c72, lo72, hi72, hv, (by exact OwnL.chg gW h0 e (fun b hb hp => by obtain ⟨rfl, q1, q2⟩ := hp; have := K.rng 4 d4; have := K.rng 13 (hh 13 rfl); have := K.sep 13 4 (hh 13 rfl) d4 rfl; skip; omega)), (by simp only [u4, t4]; exact hr0)⟩), (KeptG.det _), (KeptG.det _), (KeptG.det _), (by rintro i G v w w' K hn hh hj ⟨A76, c76, lo76, hi76, hv, h0, h1, h2, hr0⟩ e; have d8 : G.dn 8 = true := hj; have u8 := Gh.ufl (lo := w.heap.size) (hi := w'.heap.size) d8 hn; have t8 := Gh.ufh (lo := w.heap.size) (hi := w'.heap.size) d8 hn; exact ⟨A76, c76, lo76, hi76, hv, (by exact OwnL.chg gW h0 e (fun b hb hp => by obtain ⟨rfl, q1, q2⟩ := hp; have := K.rng 8 d8; have := K.rng 13 (hh 13 rfl); have := K.sep 13 8 (hh 13 rfl) d8 rfl; skip; omega)), h1, h2, (by simp only [u8, t8]; exact hr0)⟩), (by rintro i G v w w' K hn hh hj ⟨A76, c76, lo76, hi76, hv, h0, hr0⟩ e; have d8 : G.dn 8 = true := K.cl 9 8 hj rfl; have u8 := Gh.ufl (lo := w.heap.size) (hi := w'.heap.size) d8 hn; have t8 := Gh.ufh (lo := w.heap.size) (hi := w'.heap.size) d8 hn; exact ⟨A76, c76, lo76, hi76, hv, (by exact OwnL.chg gW h0 e (fun b hb hp => by obtain ⟨rfl, q1, q2⟩ := hp; have := K.rng 8 d8; have := K.rng 13 (hh 13 rfl); have := K.sep 13 8 (hh 13 rfl) d8 rfl; skip; omega)), (by simp only [u8, t8]; exact hr0)⟩), (by rintro i G v w w' K hn hh hj ⟨A76, c76, lo76, hi76, hv, h0, hr0⟩ e; have d8 : G.dn 8 = true := K.cl 10 8 hj rfl; have u8 := Gh.ufl (lo := w.heap.size) (hi := w'.heap.size) d8 hn; have t8 := Gh.ufh (lo := w.heap.size) (hi := w'.heap.size) d8 hn; exact ⟨A76, c76, lo76, hi76, hv, (by exact OwnL.chg gW h0 e (fun b hb hp => by obtain ⟨rfl, q1, q2⟩ := hp; have := K.rng 8 d8; have := K.rng 13 (hh 13 rfl); have := K.sep 13 8 (hh 13 rfl) d8 rfl; skip; omega)), (by simp only [u8, t8]; exact hr0)⟩), (KeptG.det _), (KeptG.det _), (by rintro i G v w w' K hn hh hj ⟨hv, h0, he0⟩ e; have d13 : G.dn 13 = true := hj; have u13 := Gh.ufl (lo := w.heap.size) (hi := w'.heap.size) d13 hn; have t13 := Gh.ufh (lo := w.heap.size) (hi := w'.heap.size) d13 hn; exact ⟨(by simp only [u13, t13]; exact hv), (by intro hd; simp only [u13, t13]; exact Box.chg (h0 (Gh.off hd).2) e (fun hp => by obtain ⟨rfl, q1, q2⟩ := hp; exact absurd rfl (Gh.off hd).1)), (by simp only [u13, t13]; exact he0)⟩), (by rintro i G v w w' K hn hh hj ⟨A76, c76, lo76, hi76, hv, h0, hr0⟩ e; have d8 : G.dn 8 = true := K.cl 14 8 hj rfl; have u8 := Gh.ufl (lo := w.heap.size) (hi := w'.heap.size) d8 hn; have t8 := Gh.ufh (lo := w.heap.size) (hi := w'.heap.size) d8 hn; exact ⟨A76, c76, lo76, hi76, hv, (by exact OwnL.chg gW h0 e (fun b hb hp => by obtain ⟨rfl, q1, q2⟩ := hp; have := K.rng 8 d8; have := K.rng 13 (hh 13 rfl); have := K.sep 13 8 (hh 13 rfl) d8 rfl; skip; omega)), (by simp only [u8, t8]; exact hr0)⟩), (by rintro i G v w w' K hn hh hj h0 e; have d13 : G.dn 13 = true := K.cl 15 13 hj rfl; have u13 := Gh.ufl (lo := w.heap.size) (hi := w'.heap.size) d13 hn; have t13 := Gh.ufh (lo := w.heap.size) (hi := w'.heap.size) d13 hn; exact (by simp only [u13, t13]; exact Box.chg h0 e (fun hp => by obtain ⟨rfl, q1, q2⟩ := hp; rw [hj] at hn; cases hn))), (KeptG.det _), trivial⟩) ⟨?_, ?_, ?_, ?_, ?_, ?_, ?_, ?_, ?_, ?_, ?_, ?_, ?_, ?_, ?_, ?_, ?_, trivial⟩ ?_
     ·intro L85 w86 G84 hgk87
      have hE88 := hgk87.st.ex.ex (fun b h => h.elim (fun h => h.elim) (fun h => h))
      have hE88z := Ex.size hE88
      exact OpR.op' rfl (Yl.sameG (yl_loadN ty25 rfl (hgk87.old 5 _ rfl rfl) ((Box.ex q59 hE88).cells (n := 3) rfl) rfl kI))
     ·intro L92 w93 G91 hgk94
      have hE95 := hgk94.st.ex.ex (fun b h => h.elim (fun h => h.elim) (fun h => h))
      have hE95z := Ex.size hE95
      obtain ⟨_, hx96, rfl⟩ := hgk94.val 0 45 rfl rfl
      refine OpR.op' rfl (yC en11 rfl (oc hx96 oz) (Cal.mono (c_l_toTable p_0 (RdS.up (RdS.ex gS q62 hE95) gS) (RdS.up (RdS.ex gI q65 hE95) gI) ((szok_Table pre0 (by decide) (dec_f hb28)).1)) ?_))
      rintro v102 w99 ⟨A100, c100, lo100, hi100, A101, c101, lo101, hi101, rfl, h100, h101, hrn104, hrn105, hrn106, hE103⟩
      exact ⟨Chg.of_ex hE103, A100, c100, lo100, hi100, A101, c101, lo101, hi101, rfl, h100, h101, hrn104, hrn105, hrn106⟩
     ·intro L108 w109 G107 hgk110
      have hE111 := hgk110.st.ex.ex (fun b h => h.elim (fun h => h.elim) (fun h => h))
      have hE111z := Ex.size hE111
      exact OpR.op' rfl (Yl.sameG (yM rfl (hgk110.old 1 _ rfl rfl) kI))
     ·intro L114 w115 G113 hgk116
      have hE117 := hgk116.st.ex.ex (fun b h => h.elim (fun h => h.elim) (fun h => h))
      have hE117z := Ex.size hE117
      exact OpR.op' rfl (Yl.sameG (yM rfl (hgk116.old 2 _ rfl rfl) kI))
     ·intro L120 w121 G119 hgk122
      have hE123 := hgk122.st.ex.ex (fun b h => h.elim (fun h => h.elim) (fun h => h))
      have hE123z := Ex.size hE123
      obtain ⟨_, hx124, rfl⟩ := hgk122.val 3 48 rfl rfl
      refine OpR.op' rfl (yC en12 rfl (oc hx124 oz) (Cal.mono (c_l_toWriteS p_2 (RdS.up (RdS.ex gW q70 hE123) gW) ((szok_WriteS pre2 (szok_Table pre0 (by decide) (dec_f hb28)).2 (dec_f hb39)).1)) ?_))
      rintro v128 w126 ⟨A127, c127, lo127, hi127, rfl, h127, hrn130, hE129⟩
      exact ⟨Chg.of_ex hE129, A127, c127, lo127, hi127, rfl, h127, hrn130⟩
     ·intro L132 w133 G131 hgk134
      have hE135 := hgk134.st.ex.ex (fun b h => h.elim (fun h => h.elim) (fun h => h))
      have hE135z := Ex.size hE135
      exact OpR.op' rfl (Yl.sameG (yl_loadN ty54 rfl (hgk134.old 8 _ rfl rfl) ((Box.ex q73 hE135).cells (n := 2) rfl) rfl kI))
     ·intro L139 w140 G138 hgk141
      have hE142 := hgk141.st.ex.ex (fun b h => h.elim (fun h => h.elim) (fun h => h))
      have hE142z := Ex.size hE142
      obtain ⟨_, hx143, rfl⟩ := hgk141.val 5 50 rfl rfl
      refine OpR.op' rfl (yC en24 rfl (oc hx143 oz) (Cal.mono (c_l_toFill p_3 ((szok_Fill pre3 (szok_WriteS pre2 (szok_Table pre0 (by decide) (dec_f hb28)).2 (dec_f hb39)).2 (dec_f hb50)).1)) ?_))
      rintro v145 w144 ⟨rfl, hE146⟩
      exact ⟨Chg.of_ex hE146, rfl⟩
     ·intro L148 w149 G147 hgk150
      have hE151 := hgk150.st.ex.ex (fun b h => h.elim (fun h => h.elim) (fun h => h))
      have hE151z := Ex.size hE151
      exact OpR.op' rfl (Yl.sameG (yM rfl (hgk150.old 4 _ rfl rfl) kI))
     ·intro L154 w155 G153 hgk156
      have hE157 := hgk156.st.ex.ex (fun b h => h.elim (fun h => h.elim) (fun h => h))
      have hE157z := Ex.size hE157
      obtain ⟨_, hx158, A67_159, c67_160, lo67_161, hi67_162, A68_163, c68_164, lo68_165, hi68_166, rfl, h167, h168, hrn169, hrn170, hrn171⟩ := hgk156.val 1 46 rfl rfl
      obtain ⟨_, hx172, rfl⟩ := hgk156.val 2 47 rfl rfl
      obtain ⟨_, hx173, A72_174, c72_175, lo72_176, hi72_177, rfl, h178, hrn179⟩ := hgk156.val 4 49 rfl rfl
      obtain ⟨_, hx180, rfl⟩ := hgk156.val 6 51 rfl rfl
      obtain ⟨_, hx181, rfl⟩ := hgk156.val 7 52 rfl rfl
      have hr182 := hgk156.st.rng 1 (hgk156.has 1 rfl)
      have hr183 := hgk156.st.rng 4 (hgk156.has 4 rfl)
      have hsp184 := hgk156.st.ord 4 1 (hgk156.has 4 rfl) rfl
      refine OpR.op' rfl (yC en23 rfl (oc hx158 (oc hx172 (oc hx173 (oc hx180 (oc hx181 oz))))) (Cal.mono (c_s_ClearPiece p_0 p_1 p_2 p_3 p_4 (RdS.up (OwnL.rd gS h167) gS) (RdS.up (OwnL.rd gI h168) gI) (RdS.up (OwnL.rd gW h178) gW) ((szok_Table pre0 (by decide) (dec_f hb28)).1) (by unfold okS; (try dsimp only); omega) ((szok_WriteS pre2 (szok_Table pre0 (by decide) (dec_f hb28)).2 (dec_f hb39)).1) ((szok_Fill pre3 (szok_WriteS pre2 (szok_Table pre0 (by decide) (dec_f hb28)).2 (dec_f hb39)).2 (dec_f hb50)).1)) ?_))
      rintro v192 w188 ⟨A189, c189, lo189, hi189, rfl, h189, ho190, ho191, hrn194, hE193⟩
      exact ⟨Chg.of_ex hE193, A189, c189, lo189, hi189, rfl, h189, ho190, ho191, hrn194⟩
     ·intro L196 w197 G195 hgk198
      have hE199 := hgk198.st.ex.ex (fun b h => h.elim (fun h => h.elim) (fun h => h))
      have hE199z := Ex.size hE199
      obtain ⟨_, hx200, A76_201, c76_202, lo76_203, hi76_204, rfl, h205, h206, h207, hrn208⟩ := hgk198.val 8 53 rfl rfl
      have hr209 := hgk198.st.rng 8 (hgk198.has 8 rfl)
      exact OpR.op' rfl (Yl.sameG (yM rfl hx200 ⟨fun _ _ => ⟨A76_201, c76_202, lo76_203, hi76_204, rfl, h205, (show ((G195.fl 8) ≤ lo76_203 ∧ lo76_203 ≤ hi76_204 ∧ hi76_204 ≤ (G195.fh 8)) by omega)⟩, rfl⟩))
     ·intro L211 w212 G210 hgk213
      have hE214 := hgk213.st.ex.ex (fun b h => h.elim (fun h => h.elim) (fun h => h))
      have hE214z := Ex.size hE214
      obtain ⟨_, hx215, A76_216, c76_217, lo76_218, hi76_219, rfl, h220, hrn221⟩ := hgk213.val 9 44 rfl rfl
      have hr222 := hgk213.st.rng 8 (hgk213.has 8 rfl)
      have hr223 := hgk213.st.rng 9 (hgk213.has 9 rfl)
      have hsp224 := hgk213.st.ord 9 8 (hgk213.has 9 rfl) rfl
      exact OpR.op' rfl (Yl.sameG (yl_extract rfl hx215 rfl ⟨fun _ _ => ⟨A76_216, c76_217, lo76_218, hi76_219, rfl, h220, (show ((G210.fl 8) ≤ lo76_218 ∧ lo76_218 ≤ hi76_219 ∧ hi76_219 ≤ (G210.fh 8)) by omega)⟩, rfl⟩))
     ·intro L226 w227 G225 hgk228
      have hE229 := hgk228.st.ex.ex (fun b h => h.elim (fun h => h.elim) (fun h => h))
      have hE229z := Ex.size hE229
      obtain ⟨_, hx230, A76_231, c76_232, lo76_233, hi76_234, rfl, h235, hrn236⟩ := hgk228.val 9 44 rfl rfl
      have hr237 := hgk228.st.rng 8 (hgk228.has 8 rfl)
      have hr238 := hgk228.st.rng 9 (hgk228.has 9 rfl)
      have hsp239 := hgk228.st.ord 9 8 (hgk228.has 9 rfl) rfl
      exact OpR.op' rfl (Yl.sameG (yl_extract rfl hx230 rfl kI))
     ·intro L241 w242 G240 hgk243
      have hE244 := hgk243.st.ex.ex (fun b h => h.elim (fun h => h.elim) (fun h => h))
      have hE244z := Ex.size hE244
      obtain ⟨_, hx245, A76_246, c76_247, lo76_248, hi76_249, rfl, h250, hrn251⟩ := hgk243.val 9 44 rfl rfl
      have hr252 := hgk243.st.rng 8 (hgk243.has 8 rfl)
      have hr253 := hgk243.st.rng 9 (hgk243.has 9 rfl)
      have hsp254 := hgk243.st.ord 9 8 (hgk243.has 9 rfl) rfl
      exact OpR.op' rfl (Yl.sameG (yl_extract rfl hx245 rfl kI))
     ·intro L256 w257 G255 hgk258
      have hE259 := hgk258.st.ex.ex (fun b h => h.elim (fun h => h.elim) (fun h => h))
      have hE259z := Ex.size hE259
      refine OpR.op' rfl (yB ty56 (cs := [.string (bs (([] : Str))), .bool (false)]) rfl rfl ?_)
      intro b260 w261 hs262 hz263 hB264 hE265
      subst hs262
      exact ⟨Chg.of_ex hE265, rfl, fun _ => hB264, by rw [Gh.sfl, Gh.sfh]; omega⟩
     ·intro L267 w268 G266 hgk269
      have hE270 := hgk269.st.ex.ex (fun b h => h.elim (fun h => h.elim) (fun h => h))
      have hE270z := Ex.size hE270
      obtain ⟨_, hx271, A76_272, c76_273, lo76_274, hi76_275, rfl, h276, hrn277⟩ := hgk269.val 10 54 rfl rfl
      have hr278 := hgk269.st.rng 8 (hgk269.has 8 rfl)
      have hr279 := hgk269.st.rng 10 (hgk269.has 10 rfl)
      have hsp280 := hgk269.st.ord 10 8 (hgk269.has 10 rfl) rfl
      exact OpR.op' rfl (Yl.sameG (yA rfl hx271 ⟨fun _ _ => ⟨A76_272, c76_273, lo76_274, hi76_275, rfl, h276, (show ((G266.fl 8) ≤ lo76_274 ∧ lo76_274 ≤ hi76_275 ∧ hi76_275 ≤ (G266.fh 8)) by omega)⟩, rfl⟩))
     ·intro L282 w283 G281 hgk284
      have hE285 := hgk284.st.ex.ex (fun b h => h.elim (fun h => h.elim) (fun h => h))
      have hE285z := Ex.size hE285
      obtain ⟨_, hx286, rfl, h287, he288⟩ := hgk284.val 13 13 rfl rfl
      have h287 := h287 hgk284.new
      obtain ⟨_, hx289, rfl⟩ := hgk284.val 11 55 rfl rfl
      have hr290 := hgk284.st.rng 13 (hgk284.has 13 rfl)
      refine OpR.op' rfl (yl_store (vs := [.string (bs ((s_ClearPiece p_0 p_1 p_2 p_3 p_4).2.1.Last)), .bool ((s_ClearPiece p_0 p_1 p_2 p_3 p_4).2.1.Over)]) ty56 rfl hx286 hx289 rfl rfl rfl h287 (nb rfl) ?_)
      intro w291 hB292 hO293
      have hO293z := hO293.size
      exact ⟨Chg.of_only hO293 (⟨rfl, Nat.le_refl _, by omega⟩), hB292⟩
     ·intro L295 w296 G294 hgk297
      have hE298 := hgk297.st.ex.ex (fun b h => h.elim (fun h => h.elim) (fun h => h))
      have hE298z := Ex.size hE298
      obtain ⟨_, hx299, rfl⟩ := hgk297.val 12 56 rfl rfl
      exact OpR.op' rfl (Yl.sameG (yA rfl hx299 kI))
     ·intro G300 L301 w302 hgp303
      have hE304 := hgp303.st.ex.ex (fun b h => h.elim (fun h => h.elim) (fun h => h))
      have hE304z := Ex.size hE304
      obtain ⟨_, hx310, A67_311, c67_312, lo67_313, hi67_314, A68_315, c68_316, lo68_317, hi68_318, rfl, h319, h320, hrn321, hrn322, hrn323⟩ := hgp303.val 1 46 rfl rfl
      obtain ⟨_, hx324, A72_325, c72_326, lo72_327, hi72_328, rfl, h329, hrn330⟩ := hgp303.val 4 49 rfl rfl
      obtain ⟨_, hx331, A76_332, c76_333, lo76_334, hi76_335, rfl, h336, h337, h338, hrn339⟩ := hgp303.val 8 53 rfl rfl
      obtain ⟨_, hx340, A76_341, c76_342, lo76_343, hi76_344, rfl, h345, hrn346⟩ := hgp303.val 9 44 rfl rfl
      obtain ⟨_, hx347, A76_348, c76_349, lo76_350, hi76_351, rfl, h352, hrn353⟩ := hgp303.val 10 54 rfl rfl
      obtain ⟨_, hx354, rfl, -, he355⟩ := hgp303.val 13 13 rfl rfl
      obtain ⟨_, hx356, A76_357, c76_358, lo76_359, hi76_360, rfl, h361, hrn362⟩ := hgp303.val 14 12 rfl rfl
      obtain ⟨_, h363⟩ := hgp303.fact 15 rfl
      obtain ⟨_, hx364, rfl⟩ := hgp303.val 16 14 rfl rfl
      have hr365 := hgp303.st.rng 1 (hgp303.has 1 rfl)
      have hr366 := hgp303.st.rng 4 (hgp303.has 4 rfl)
      have hr367 := hgp303.st.rng 8 (hgp303.has 8 rfl)
      have hr368 := hgp303.st.rng 9 (hgp303.has 9 rfl)
      have hr369 := hgp303.st.rng 10 (hgp303.has 10 rfl)
      have hr370 := hgp303.st.rng 13 (hgp303.has 13 rfl)
      have hr371 := hgp303.st.rng 14 (hgp303.has 14 rfl)
      have hr372 := hgp303.st.rng 15 (hgp303.has 15 rfl)
      have hsp373 := hgp303.st.ord 4 1 (hgp303.has 4 rfl) rfl
      have hsp374 := hgp303.st.ord 8 1 (hgp303.has 8 rfl) rfl
      have hsp375 := hgp303.st.ord 9 1 (hgp303.has 9 rfl) rfl
      have hsp376 := hgp303.st.ord 10 1 (hgp303.has 10 rfl) rfl
      have hsp377 := hgp303.st.sep 1 13 (hgp303.has 1 rfl) (hgp303.has 13 rfl) rfl
      have hsp378 := hgp303.st.ord 14 1 (hgp303.has 14 rfl) rfl
      have hsp379 := hgp303.st.ord 15 1 (hgp303.has 15 rfl) rfl
      have hsp380 := hgp303.st.ord 8 4 (hgp303.has 8 rfl) rfl
      have hsp381 := hgp303.st.ord 9 4 (hgp303.has 9 rfl) rfl
      have hsp382 := hgp303.st.ord 10 4 (hgp303.has 10 rfl) rfl
      have hsp383 := hgp303.st.sep 4 13 (hgp303.has 4 rfl) (hgp303.has 13 rfl) rfl
      have hsp384 := hgp303.st.ord 14 4 (hgp303.has 14 rfl) rfl
      have hsp385 := hgp303.st.ord 15 4 (hgp303.has 15 rfl) rfl
      have hsp386 := hgp303.st.ord 9 8 (hgp303.has 9 rfl) rfl
      have hsp387 := hgp303.st.ord 10 8 (hgp303.has 10 rfl) rfl
      have hsp388 := hgp303.st.sep 8 13 (hgp303.has 8 rfl) (hgp303.has 13 rfl) rfl
      have hsp389 := hgp303.st.ord 14 8 (hgp303.has 14 rfl) rfl
      have hsp390 := hgp303.st.ord 15 8 (hgp303.has 15 rfl) rfl
      have hsp391 := hgp303.st.ord 10 9 (hgp303.has 10 rfl) rfl
      have hsp392 := hgp303.st.sep 9 13 (hgp303.has 9 rfl) (hgp303.has 13 rfl) rfl
      have hsp393 := hgp303.st.ord 14 9 (hgp303.has 14 rfl) rfl
      have hsp394 := hgp303.st.ord 15 9 (hgp303.has 15 rfl) rfl
      have hsp395 := hgp303.st.sep 10 13 (hgp303.has 10 rfl) (hgp303.has 13 rfl) rfl
      have hsp396 := hgp303.st.ord 14 10 (hgp303.has 14 rfl) rfl
      have hsp397 := hgp303.st.ord 15 10 (hgp303.has 15 rfl) rfl
      have hsp398 := hgp303.st.ord 14 13 (hgp303.has 14 rfl) rfl
      have hsp399 := hgp303.st.ord 15 13 (hgp303.has 15 rfl) rfl
      have hsp400 := hgp303.st.ord 15 14 (hgp303.has 15 rfl) rfl
      refine dn (CW.sub (sC 1 (hgp303.old 1 _ rfl rfl) (sC 2 (hgp303.old 2 _ rfl rfl) (sC 4 (hgp303.old 4 _ rfl rfl) (sC 5 (hgp303.old 5 _ rfl rfl) (sC 8 (hgp303.old 8 _ rfl rfl) (sC 12 hx356 (sC 13 hx354 (sC 14 hx364 (Sub.nil _))))))))) (cR ?_))
      have q401 := Box.ex q59 hE304
      refine sd rfl (yl_loadN ty25 rfl rfl (q401.cells (n := 3) rfl) rfl ?_)
      have q402 := RdS.ex gS q62 hE304
      have q403 := RdS.ex gI q65 hE304
      refine sd rfl (yC en11 rfl (oc rfl oz) (Cal.mono (c_l_toTable p_0 (RdS.up q402 gS) (RdS.up q403 gI) ((szok_Table pre0 (by decide) (dec_f hb28)).1)) ?_))
      rintro v407 w404 ⟨A405, c405, lo405, hi405, A406, c406, lo406, hi406, rfl, h405, h406, hrn409, hrn410, hrn411, hE408⟩
      have hE408z := Ex.size hE408
      refine sd rfl (yB ty39 (cs := [.string (bs (([] : Str))), .slice none 0 0, .slice none 0 0]) rfl rfl ?_)
      intro b412 w413 hs414 hz415 hB416 hE417
      refine SeqR.u rfl rfl (yl_storeA (vs := [.string (bs (p_0.Name)), .slice A405 p_0.Cols.length c405, .slice A406 p_0.Idxs.length c406]) ty39 rfl rfl rfl rfl rfl rfl hB416 rfl ?_)
      intro w418 hB419 hO420
      have hO420z := hO420.size
      refine dn (cR (sM rfl ?_))
      have q424 := RdS.only gW (RdS.ex gW (RdS.ex gW (RdS.ex gW q70 hE304) hE408) hE417) hO420 iV
      refine sd rfl (yC en12 rfl (oc rfl oz) (Cal.mono (c_l_toWriteS p_2 (RdS.up q424 gW) ((szok_WriteS pre2 (szok_Table pre0 (by decide) (dec_f hb28)).2 (dec_f hb39)).1)) ?_))
      rintro v427 w425 ⟨A426, c426, lo426, hi426, rfl, h426, hrn429, hE428⟩
      have hE428z := Ex.size hE428
      refine sA rfl (dn (CW.seq ?_))
      have q430 := Box.ex hB419 hE428
      have q435 := Box.ex (Box.only (Box.ex (Box.ex (Box.ex q73 hE304) hE408) hE417) hO420 oM) hE428
      have q440 := OwnL.ex gS (OwnL.only gS (OwnL.ex gS h405 hE417) hO420 oM) hE428
      have q444 := OwnL.ex gI (OwnL.only gI (OwnL.ex gI h406 hE417) hO420 oM) hE428
      have q455 := Ex.trans (Below.only (Ex.trans (Ex.trans (Ex.trans (Ex.trans y1 hE49) hE304) hE408) hE417) hO420 oM) hE428
      refine CW.drawsG 15 (fun _ _ => False) (fun i G b => (i = 13 ∧ (G.fl 11) ≤ b ∧ b < (G.fh 11))) (vgetG [DetG (.agg #[.string (bs (p_0.Name)), .slice A405 p_0.Cols.length c405, .slice A406 p_0.Idxs.length c406]), DetG (.string (bs (p_1))), DetG (.slice A426 p_2.length c426), DetG (.agg #[.string (bs (p_3.Last)), .bool (p_3.Over)]), DetG (.agg #[.string (bs (p_3.Last)), .bool (p_3.Over)]), DetG (.int .i64 (p_4)), fun G v wq => ∃ A457 c457 lo457 hi457, v = .tuple #[.slice A457 (((i_ClearPiece p_0 p_1 p_2 p_3 p_4).1).length) c457, .agg #[.string (bs ((i_ClearPiece p_0 p_1 p_2 p_3 p_4).2.1.Last)), .bool ((i_ClearPiece p_0 p_1 p_2 p_3 p_4).2.1.Over)], .bool ((i_ClearPiece p_0 p_1 p_2 p_3 p_4).2.2)] ∧ OwnL wq lo457 hi457 80 3 (RF e_Write) A457 (((i_ClearPiece p_0 p_1 p_2 p_3 p_4).1).length) c457 ((i_ClearPiece p_0 p_1 p_2 p_3 p_4).1) ∧ (okL ok_Write) ((i_ClearPiece p_0 p_1 p_2 p_3 p_4).1) ∧ ok_Fill ((i_ClearPiece p_0 p_1 p_2 p_3 p_4).2.1) ∧ ((G.fl 6) ≤ lo457 ∧ lo457 ≤ hi457 ∧ hi457 ≤ (G.fh 6)), fun G v wq => ∃ A457 c457 lo457 hi457, v = .tuple #[.slice A457 (((i_ClearPiece p_0 p_1 p_2 p_3 p_4).1).length) c457, .agg #[.string (bs ((i_ClearPiece p_0 p_1 p_2 p_3 p_4).2.1.Last)), .bool ((i_ClearPiece p_0 p_1 p_2 p_3 p_4).2.1.Over)], .bool ((i_ClearPiece p_0 p_1 p_2 p_3 p_4).2.2)] ∧ OwnL wq lo457 hi457 80 3 (RF e_Write) A457 (((i_ClearPiece p_0 p_1 p_2 p_3 p_4).1).length) c457 ((i_ClearPiece p_0 p_1 p_2 p_3 p_4).1) ∧ ((G.fl 6) ≤ lo457 ∧ lo457 ≤ hi457 ∧ hi457 ≤ (G.fh 6)), fun G v wq => ∃ A457 c457 lo457 hi457, v = .slice A457 (((i_ClearPiece p_0 p_1 p_2 p_3 p_4).1).length) c457 ∧ OwnL wq lo457 hi457 80 3 (RF e_Write) A457 (((i_ClearPiece p_0 p_1 p_2 p_3 p_4).1).length) c457 ((i_ClearPiece p_0 p_1 p_2 p_3 p_4).1) ∧ ((G.fl 6) ≤ lo457 ∧ lo457 ≤ hi457 ∧ hi457 ≤ (G.fh 6)), DetG (.agg #[.string (bs ((i_ClearPiece p_0 p_1 p_2 p_3 p_4).2.1.Last)), .bool ((i_ClearPiece p_0 p_1 p_2 p_3 p_4).2.1.Over)]), DetG (.bool ((i_ClearPiece p_0 p_1 p_2 p_3 p_4).2.2)), fun G v wq => v = .pointer (some ⟨(G.fl 11), 0, none⟩) ∧ (G.dn 13 = false → Box wq (G.fl 11) 56 [.string (bs (([] : Str))), .bool (false)]) ∧ (G.fl 11) < (G.fh 11), fun G v wq => ∃ A457 c457 lo457 hi457, v = .slice A457 (((i_ClearPiece p_0 p_1 p_2 p_3 p_4).1).length) c457 ∧ OwnL wq lo457 hi457 80 3 (RF e_Write) A457 (((i_ClearPiece p_0 p_1 p_2 p_3 p_4).1).length) c457 ((i_ClearPiece p_0 p_1 p_2 p_3 p_4).1) ∧ ((G.fl 6) ≤ lo457 ∧ lo457 ≤ hi457 ∧ hi457 ≤ (G.fh 6)), fun G v wq => Box wq (G.fl 11) 56 [.string (bs ((i_ClearPiece p_0 p_1 p_2 p_3 p_4).2.1.Last)), .bool ((i_ClearPiece p_0 p_1 p_2 p_3 p_4).2.1.Over)], DetG (.bool ((i_ClearPiece p_0 p_1 p_2 p_3 p_4).2.2))]) Tryz.follows rfl rfl rfl rfl rfl rfl (fun _ _ _ _ _ h => h) (fun i G w lo hi b K hn hh hp => by exact (match hp with | ⟨e, q1, q2⟩ => by subst e; exact .inr (by have := K.rng 11 (hh 11 rfl); omega))) (vgetG_kept ⟨(KeptG.det _), (KeptG.det _), (KeptG.det _), (KeptG.det _), (KeptG.det _), (KeptG.det _), (by rintro i G v w w' K hn hh hj ⟨A457, c457, lo457, hi457, hv, h0, h1, h2, hr0⟩ e; have d6 : G.dn 6 = true := hj; have u6 := Gh.ufl (lo := w.heap.size) (hi := w'.heap.size) d6 hn; have t6 := Gh.ufh (lo := w.heap.size) (hi := w'.heap.size) d6 hn; exact ⟨A457, c457, lo457, hi457, hv, (by exact OwnL.chg gW h0 e (fun b hb hp => by obtain ⟨rfl, q1, q2⟩ := hp; have := K.rng 6 d6; have := K.rng 11 (hh 11 rfl); have := K.sep 11 6 (hh 11 rfl) d6 rfl; skip; omega)), h1, h2, (by simp only [u6, t6]; exact hr0)⟩), (by rintro i G v w w' K hn hh hj ⟨A457, c457, lo457, hi457, hv, h0, hr0⟩ e; have d6 : G.dn 6 = true := K.cl 7 6 hj rfl; have u6 := Gh.ufl (lo := w.heap.size) (hi := w'.heap.size) d6 hn; have t6 := Gh.ufh (lo := w.heap.size) (hi := w'.heap.size) d6 hn; exact ⟨A457, c457, lo457, hi457, hv, (by exact OwnL.chg gW h0 e (fun b hb hp => by obtain ⟨rfl, q1, q2⟩ := hp; have := K.rng 6 d6; have := K.rng 11 (hh 11 rfl); have := K.sep 11 6 (hh 11 rfl) d6 rfl; skip; omega)), (by simp only [u6, t6]; exact hr0)⟩), (by rintro i G v w w' K hn hh hj ⟨A457, c457, lo457, hi457, hv, h0, hr0⟩ e; have d6 : G.dn 6 = true := K.cl 8 6 hj rfl; have u6 := Gh.ufl (lo := w.heap.size) (hi := w'.heap.size) d6 hn; have t6 := Gh.ufh (lo := w.heap.size) (hi := w'.heap.size) d6 hn; exact ⟨A457, c457, lo457, hi457, hv, (by exact OwnL.chg gW h0 e (fun b hb hp => by obtain ⟨rfl, q1, q2⟩ := hp; have := K.rng 6 d6; have := K.rng 11 (hh 11 rfl); have := K.sep 11 6 (hh 11 rfl) d6 rfl; skip; omega)), (by simp only [u6, t6]; exact hr0)⟩), (KeptG.det _), (KeptG.det _), (by rintro i G v w w' K hn hh hj ⟨hv, h0, he0⟩ e; have d11 : G.dn 11 = true := hj; have u11 := Gh.ufl (lo := w.heap.size) (hi := w'.heap.size) d11 hn; have t11 := Gh.ufh (lo := w.heap.size) (hi := w'.heap.size) d11 hn; exact ⟨(by simp only [u11, t11]; exact hv), (by intro hd; simp only [u11, t11]; exact Box.chg (h0 (Gh.off hd).2) e (fun hp => by obtain ⟨rfl, q1, q2⟩ := hp; exact absurd rfl (Gh.off hd).1)), (by simp only [u11, t11]; exact he0)⟩), (by rintro i G v w w' K hn hh hj ⟨A457, c457, lo457, hi457, hv, h0, hr0⟩ e; have d6 : G.dn 6 = true := K.cl 12 6 hj rfl; have u6 := Gh.ufl (lo := w.heap.size) (hi := w'.heap.size) d6 hn; have t6 := Gh.ufh (lo := w.heap.size) (hi := w'.heap.size) d6 hn; exact ⟨A457, c457, lo457, hi457, hv, (by exact OwnL.chg gW h0 e (fun b hb hp => by obtain ⟨rfl, q1, q2⟩ := hp; have := K.rng 6 d6; have := K.rng 11 (hh 11 rfl); have := K.sep 11 6 (hh 11 rfl) d6 rfl; skip; omega)), (by simp only [u6, t6]; exact hr0)⟩), (by rintro i G v w w' K hn hh hj h0 e; have d11 : G.dn 11 = true := K.cl 13 11 hj rfl; have u11 := Gh.ufl (lo := w.heap.size) (hi := w'.heap.size) d11 hn; have t11 := Gh.ufh (lo := w.heap.size) (hi := w'.heap.size) d11 hn; exact (by simp only [u11, t11]; exact Box.chg h0 e (fun hp => by obtain ⟨rfl, q1, q2⟩ := hp; rw [hj] at hn; cases hn))), (KeptG.det _), trivial⟩) ⟨?_, ?_, ?_, ?_, ?_, ?_, ?_, ?_, ?_, ?_, ?_, ?_, ?_, ?_, ?_, trivial⟩ ?_
      ·intro L466 w467 G465 hgk468
       have hE469 := hgk468.st.ex.ex (fun b h => h.elim (fun h => h.elim) (fun h => h))
       have hE469z := Ex.size hE469
       exact OpR.op' rfl (Yl.sameG (yl_loadN ty39 rfl (hgk468.old 15 _ rfl rfl) ((Box.ex q430 hE469).cells (n := 3) rfl) rfl kI))
      ·intro L473 w474 G472 hgk475
       have hE476 := hgk475.st.ex.ex (fun b h => h.elim (fun h => h.elim) (fun h => h))
       have hE476z := Ex.size hE476
       exact OpR.op' rfl (Yl.sameG (yM rfl (hgk475.old 1 _ rfl rfl) kI))
      ·intro L479 w480 G478 hgk481
       have hE482 := hgk481.st.ex.ex (fun b h => h.elim (fun h => h.elim) (fun h => h))
       have hE482z := Ex.size hE482
       exact OpR.op' rfl (Yl.sameG (yM rfl (hgk481.old 16 _ rfl rfl) kI))
      ·intro L485 w486 G484 hgk487
       have hE488 := hgk487.st.ex.ex (fun b h => h.elim (fun h => h.elim) (fun h => h))
       have hE488z := Ex.size hE488
       exact OpR.op' rfl (Yl.sameG (yl_loadN ty54 rfl (hgk487.old 8 _ rfl rfl) ((Box.ex q435 hE488).cells (n := 2) rfl) rfl kI))
      ·intro L492 w493 G491 hgk494
       have hE495 := hgk494.st.ex.ex (fun b h => h.elim (fun h => h.elim) (fun h => h))
       have hE495z := Ex.size hE495
       obtain ⟨_, hx496, rfl⟩ := hgk494.val 3 65 rfl rfl
       refine OpR.op' rfl (yC en24 rfl (oc hx496 oz) (Cal.mono (c_l_toFill p_3 ((szok_Fill pre3 (szok_WriteS pre2 (szok_Table pre0 (by decide) (dec_f hb28)).2 (dec_f hb39)).2 (dec_f hb50)).1)) ?_))
       rintro v498 w497 ⟨rfl, hE499⟩
       exact ⟨Chg.of_ex hE499, rfl⟩
      ·intro L501 w502 G500 hgk503
       have hE504 := hgk503.st.ex.ex (fun b h => h.elim (fun h => h.elim) (fun h => h))
       have hE504z := Ex.size hE504
       exact OpR.op' rfl (Yl.sameG (yM rfl (hgk503.old 4 _ rfl rfl) kI))
      ·intro L507 w508 G506 hgk509
       have hE510 := hgk509.st.ex.ex (fun b h => h.elim (fun h => h.elim) (fun h => h))
       have hE510z := Ex.size hE510
       obtain ⟨_, hx511, rfl⟩ := hgk509.val 0 62 rfl rfl
       obtain ⟨_, hx512, rfl⟩ := hgk509.val 1 63 rfl rfl
       obtain ⟨_, hx513, rfl⟩ := hgk509.val 2 64 rfl rfl
       obtain ⟨_, hx514, rfl⟩ := hgk509.val 4 66 rfl rfl
       obtain ⟨_, hx515, rfl⟩ := hgk509.val 5 67 rfl rfl
       refine OpR.op' rfl (yC en25 rfl (oc hx511 (oc hx512 (oc hx513 (oc hx514 (oc hx515 oz))))) (Cal.mono (c_i_ClearPiece p_0 p_1 p_2 p_3 p_4 (RdS.up (OwnL.rd gS (OwnL.ex gS q440 hE510)) gS) (RdS.up (OwnL.rd gI (OwnL.ex gI q444 hE510)) gI) (RdS.up (OwnL.rd gW (OwnL.ex gW h426 hE510)) gW) ((szok_Table pre0 (by decide) (dec_f hb28)).1) (by unfold okS; (try dsimp only); omega) ((szok_WriteS pre2 (szok_Table pre0 (by decide) (dec_f hb28)).2 (dec_f hb39)).1) ((szok_Fill pre3 (szok_WriteS pre2 (szok_Table pre0 (by decide) (dec_f hb28)).2 (dec_f hb39)).2 (dec_f hb50)).1) (hgb.ex (Ex.trans q455 hE510))) ?_))
       rintro v527 w523 ⟨A524, c524, lo524, hi524, rfl, h524, ho525, ho526, hrn529, hE528⟩
       exact ⟨Chg.of_ex hE528, A524, c524, lo524, hi524, rfl, h524, ho525, ho526, hrn529⟩
      ·intro L531 w532 G530 hgk533
       have hE534 := hgk533.st.ex.ex (fun b h => h.elim (fun h => h.elim) (fun h => h))
       have hE534z := Ex.size hE534
       obtain ⟨_, hx535, A457_536, c457_537, lo457_538, hi457_539, rfl, h540, h541, h542, hrn543⟩ := hgk533.val 6 68 rfl rfl
       have hr544 := hgk533.st.rng 6 (hgk533.has 6 rfl)
       exact OpR.op' rfl (Yl.sameG (yM rfl hx535 ⟨fun _ _ => ⟨A457_536, c457_537, lo457_538, hi457_539, rfl, h540, (show ((G530.fl 6) ≤ lo457_538 ∧ lo457_538 ≤ hi457_539 ∧ hi457_539 ≤ (G530.fh 6)) by omega)⟩, rfl⟩))
      ·intro L546 w547 G545 hgk548
       have hE549 := hgk548.st.ex.ex (fun b h => h.elim (fun h => h.elim) (fun h => h))
       have hE549z := Ex.size hE549
       obtain ⟨_, hx550, A457_551, c457_552, lo457_553, hi457_554, rfl, h555, hrn556⟩ := hgk548.val 7 61 rfl rfl
       have hr557 := hgk548.st.rng 6 (hgk548.has 6 rfl)
       have hr558 := hgk548.st.rng 7 (hgk548.has 7 rfl)
       have hsp559 := hgk548.st.ord 7 6 (hgk548.has 7 rfl) rfl
       exact OpR.op' rfl (Yl.sameG (yl_extract rfl hx550 rfl ⟨fun _ _ => ⟨A457_551, c457_552, lo457_553, hi457_554, rfl, h555, (show ((G545.fl 6) ≤ lo457_553 ∧ lo457_553 ≤ hi457_554 ∧ hi457_554 ≤ (G545.fh 6)) by omega)⟩, rfl⟩))
      ·intro L561 w562 G560 hgk563
       have hE564 := hgk563.st.ex.ex (fun b h => h.elim (fun h => h.elim) (fun h => h))
       have hE564z := Ex.size hE564
       obtain ⟨_, hx565, A457_566, c457_567, lo457_568, hi457_569, rfl, h570, hrn571⟩ := hgk563.val 7 61 rfl rfl
       have hr572 := hgk563.st.rng 6 (hgk563.has 6 rfl)
       have hr573 := hgk563.st.rng 7 (hgk563.has 7 rfl)
       have hsp574 := hgk563.st.ord 7 6 (hgk563.has 7 rfl) rfl
       exact OpR.op' rfl (Yl.sameG (yl_extract rfl hx565 rfl kI))
      ·intro L576 w577 G575 hgk578
       have hE579 := hgk578.st.ex.ex (fun b h => h.elim (fun h => h.elim) (fun h => h))
       have hE579z := Ex.size hE579
       obtain ⟨_, hx580, A457_581, c457_582, lo457_583, hi457_584, rfl, h585, hrn586⟩ := hgk578.val 7 61 rfl rfl
       have hr587 := hgk578.st.rng 6 (hgk578.has 6 rfl)
       have hr588 := hgk578.st.rng 7 (hgk578.has 7 rfl)
       have hsp589 := hgk578.st.ord 7 6 (hgk578.has 7 rfl) rfl
       exact OpR.op' rfl (Yl.sameG (yl_extract rfl hx580 rfl kI))
      ·intro L591 w592 G590 hgk593
       have hE594 := hgk593.st.ex.ex (fun b h => h.elim (fun h => h.elim) (fun h => h))
       have hE594z := Ex.size hE594
       refine OpR.op' rfl (yB ty56 (cs := [.string (bs (([] : Str))), .bool (false)]) rfl rfl ?_)
       intro b595 w596 hs597 hz598 hB599 hE600
       subst hs597
       exact ⟨Chg.of_ex hE600, rfl, fun _ => hB599, by rw [Gh.sfl, Gh.sfh]; omega⟩
      ·intro L602 w603 G601 hgk604
       have hE605 := hgk604.st.ex.ex (fun b h => h.elim (fun h => h.elim) (fun h => h))
       have hE605z := Ex.size hE605
       obtain ⟨_, hx606, A457_607, c457_608, lo457_609, hi457_610, rfl, h611, hrn612⟩ := hgk604.val 8 69 rfl rfl
       have hr613 := hgk604.st.rng 6 (hgk604.has 6 rfl)
       have hr614 := hgk604.st.rng 8 (hgk604.has 8 rfl)
       have hsp615 := hgk604.st.ord 8 6 (hgk604.has 8 rfl) rfl
       exact OpR.op' rfl (Yl.sameG (yA rfl hx606 ⟨fun _ _ => ⟨A457_607, c457_608, lo457_609, hi457_610, rfl, h611, (show ((G601.fl 6) ≤ lo457_609 ∧ lo457_609 ≤ hi457_610 ∧ hi457_610 ≤ (G601.fh 6)) by omega)⟩, rfl⟩))
      ·intro L617 w618 G616 hgk619
       have hE620 := hgk619.st.ex.ex (fun b h => h.elim (fun h => h.elim) (fun h => h))
       have hE620z := Ex.size hE620
       obtain ⟨_, hx621, rfl, h622, he623⟩ := hgk619.val 11 18 rfl rfl
       have h622 := h622 hgk619.new
       obtain ⟨_, hx624, rfl⟩ := hgk619.val 9 70 rfl rfl
       have hr625 := hgk619.st.rng 11 (hgk619.has 11 rfl)
       refine OpR.op' rfl (yl_store (vs := [.string (bs ((i_ClearPiece p_0 p_1 p_2 p_3 p_4).2.1.Last)), .bool ((i_ClearPiece p_0 p_1 p_2 p_3 p_4).2.1.Over)]) ty56 rfl hx621 hx624 rfl rfl rfl h622 (nb rfl) ?_)
       intro w626 hB627 hO628
       have hO628z := hO628.size
       exact ⟨Chg.of_only hO628 (⟨rfl, Nat.le_refl _, by omega⟩), hB627⟩
      ·intro L630 w631 G629 hgk632
       have hE633 := hgk632.st.ex.ex (fun b h => h.elim (fun h => h.elim) (fun h => h))
       have hE633z := Ex.size hE633
       obtain ⟨_, hx634, rfl⟩ := hgk632.val 10 71 rfl rfl
       exact OpR.op' rfl (Yl.sameG (yA rfl hx634 kI))
      ·intro G635 L636 w637 hgp638
       have hE639 := hgp638.st.ex.ex (fun b h => h.elim (fun h => h.elim) (fun h => h))
       have hE639z := Ex.size hE639
       obtain ⟨_, hx650, A457_651, c457_652, lo457_653, hi457_654, rfl, h655, h656, h657, hrn658⟩ := hgp638.val 6 68 rfl rfl
       obtain ⟨_, hx659, A457_660, c457_661, lo457_662, hi457_663, rfl, h664, hrn665⟩ := hgp638.val 7 61 rfl rfl
       obtain ⟨_, hx666, A457_667, c457_668, lo457_669, hi457_670, rfl, h671, hrn672⟩ := hgp638.val 8 69 rfl rfl
       obtain ⟨_, hx673, rfl, -, he674⟩ := hgp638.val 11 18 rfl rfl
       obtain ⟨_, hx675, A457_676, c457_677, lo457_678, hi457_679, rfl, h680, hrn681⟩ := hgp638.val 12 17 rfl rfl
       obtain ⟨_, h682⟩ := hgp638.fact 13 rfl
       obtain ⟨_, hx683, rfl⟩ := hgp638.val 14 19 rfl rfl
       have hr684 := hgp638.st.rng 6 (hgp638.has 6 rfl)
       have hr685 := hgp638.st.rng 7 (hgp638.has 7 rfl)
       have hr686 := hgp638.st.rng 8 (hgp638.has 8 rfl)
       have hr687 := hgp638.st.rng 11 (hgp638.has 11 rfl)
       have hr688 := hgp638.st.rng 12 (hgp638.has 12 rfl)
       have hr689 := hgp638.st.rng 13 (hgp638.has 13 rfl)
       have hsp690 := hgp638.st.ord 7 6 (hgp638.has 7 rfl) rfl
       have hsp691 := hgp638.st.ord 8 6 (hgp638.has 8 rfl) rfl
       have hsp692 := hgp638.st.sep 6 11 (hgp638.has 6 rfl) (hgp638.has 11 rfl) rfl
       have hsp693 := hgp638.st.ord 12 6 (hgp638.has 12 rfl) rfl
       have hsp694 := hgp638.st.ord 13 6 (hgp638.has 13 rfl) rfl
       have hsp695 := hgp638.st.ord 8 7 (hgp638.has 8 rfl) rfl
       have hsp696 := hgp638.st.sep 7 11 (hgp638.has 7 rfl) (hgp638.has 11 rfl) rfl
       have hsp697 := hgp638.st.ord 12 7 (hgp638.has 12 rfl) rfl
       have hsp698 := hgp638.st.ord 13 7 (hgp638.has 13 rfl) rfl
       have hsp699 := hgp638.st.sep 8 11 (hgp638.has 8 rfl) (hgp638.has 11 rfl) rfl
       have hsp700 := hgp638.st.ord 12 8 (hgp638.has 12 rfl) rfl
       have hsp701 := hgp638.st.ord 13 8 (hgp638.has 13 rfl) rfl
       have hsp702 := hgp638.st.ord 12 11 (hgp638.has 12 rfl) rfl
       have hsp703 := hgp638.st.ord 13 11 (hgp638.has 13 rfl) rfl
       have hsp704 := hgp638.st.ord 13 12 (hgp638.has 13 rfl) rfl
       refine dn (CW.sub (sC 1 (hgp638.old 1 _ rfl rfl) (sC 2 (hgp638.old 2 _ rfl rfl) (sC 4 (hgp638.old 4 _ rfl rfl) (sC 5 (hgp638.old 5 _ rfl rfl) (sC 8 (hgp638.old 8 _ rfl rfl) (sC 12 (hgp638.old 12 _ rfl rfl) (sC 13 (hgp638.old 13 _ rfl rfl) (sC 14 (hgp638.old 14 _ rfl rfl) (sC 15 (hgp638.old 15 _ rfl rfl) (sC 16 (hgp638.old 16 _ rfl rfl) (sC 17 hx675 (sC 18 hx673 (sC 19 hx683 (Sub.nil _)))))))))))))) (CW.seq (cR (sM rfl (sM rfl ?_)))))
       have q711 := OwnL.ex gW (OwnL.ex gW (OwnL.only gW (OwnL.ex gW (OwnL.ex gW h361 hE408) hE417) hO420 oM) hE428) hE639
       refine sd rfl (yC en15 rfl (oc rfl (oc rfl oz)) (Cal.mono (c_l_eqWriteS ((i_ClearPiece p_0 p_1 p_2 p_3 p_4).1) ((s_ClearPiece p_0 p_1 p_2 p_3 p_4).1) (RdS.up (OwnL.rd gW h680) gW) (RdS.up (OwnL.rd gW q711) gW)) ?_))
       rintro v713 w712 ⟨rfl, hE714⟩
       have hE714z := Ex.size hE714
       refine sd rfl (yl_not rfl rfl (sM rfl (bcase (l_eqWriteS ((i_ClearPiece p_0 p_1 p_2 p_3 p_4).1) ((s_ClearPiece p_0 p_1 p_2 p_3 p_4).1)) (fun hb715 => ?_) (fun hb715 => ?_))))
       ·have q716 := Box.ex h682 hE714
        refine sy rfl rfl (not_t hb715) (yl_loadN ty56 rfl rfl (q716.cells (n := 2) rfl) rfl ?_)
        have q722 := Box.ex (Box.ex (Box.ex (Box.only (Box.ex (Box.ex h363 hE408) hE417) hO420 oM) hE428) hE639) hE714
        refine sy rfl rfl (not_t hb715) (yl_loadN ty56 rfl rfl (q722.cells (n := 2) rfl) rfl (sy rfl rfl (not_t hb715) (yC en26 rfl (oc rfl (oc rfl oz)) (Cal.mono (c_l_eqFill ((i_ClearPiece p_0 p_1 p_2 p_3 p_4).2.1) ((s_ClearPiece p_0 p_1 p_2 p_3 p_4).2.1)) ?_))))
        rintro v724 w723 ⟨rfl, hE725⟩
        have hE725z := Ex.size hE725
        refine sy rfl rfl (not_t hb715) (yl_not rfl rfl (sd rfl (yl_pick_f rfl rfl (not_t hb715) rfl (sM rfl (bcase (l_eqFill ((i_ClearPiece p_0 p_1 p_2 p_3 p_4).2.1) ((s_ClearPiece p_0 p_1 p_2 p_3 p_4).2.1)) (fun hb726 => ?_) (fun hb726 => ?_))))))
        ·refine sy rfl rfl (not_t hb726) (yM rfl rfl (sy rfl rfl (not_t hb726) (yM rfl rfl (sy rfl rfl (not_t hb726) (yl_bneq un4 rfl rfl rfl (sd rfl (yl_pick_f rfl rfl (not_t hb726) rfl (dn (bcase (((i_ClearPiece p_0 p_1 p_2 p_3 p_4).2.2) == ((s_ClearPiece p_0 p_1 p_2 p_3 p_4).2.2)) (fun hb727 => ?_) (fun hb727 => ?_))))))))))
         ·refine CW.cond_f rfl (not_t hb727) (CW.skip (tn (CW.seq (CW.seq ?_))))
          have q730 := Box.ex (Box.ex (Box.ex q430 hE639) hE714) hE725
          have q737 := Box.ex (Box.ex (Box.ex (Box.ex (Box.only (Box.ex (Box.ex q401 hE408) hE417) hO420 oM) hE428) hE639) hE714) hE725
          have q744 := RdS.ex gS (RdS.ex gS (RdS.ex gS (RdS.ex gS (RdS.only gS (RdS.ex gS (RdS.ex gS q402 hE408) hE417) hO420 iV) hE428) hE639) hE714) hE725
          have q751 := RdS.ex gI (RdS.ex gI (RdS.ex gI (RdS.ex gI (RdS.only gI (RdS.ex gI (RdS.ex gI q403 hE408) hE417) hO420 iV) hE428) hE639) hE714) hE725
          have q758 := OwnL.ex gS (OwnL.ex gS (OwnL.ex gS q440 hE639) hE714) hE725
          have q762 := OwnL.ex gI (OwnL.ex gI (OwnL.ex gI q444 hE639) hE714) hE725
          refine CW.drawsI 5 (vgetI [DetI (.agg #[.string (bs (p_0.Name)), .slice A405 p_0.Cols.length c405, .slice A406 p_0.Idxs.length c406]), DetI (.agg #[.string (bs (p_0.Name)), .slice A1 p_0.Cols.length c1, .slice A2 p_0.Idxs.length c2]), fun lo hi v wq => ∃ A753 c753 lo753 hi753 A754 c754 lo754 hi754, v = .agg #[.string (bs (p_0.Name)), .slice A753 p_0.Cols.length c753, .slice A754 p_0.Idxs.length c754] ∧ OwnL wq lo753 hi753 9 1 (RF e_Str) A753 p_0.Cols.length c753 p_0.Cols ∧ OwnL wq lo754 hi754 111 3 (RF e_Idx) A754 p_0.Idxs.length c754 p_0.Idxs ∧ (lo ≤ lo753 ∧ lo753 ≤ hi753 ∧ hi753 ≤ hi) ∧ (lo ≤ lo754 ∧ lo754 ≤ hi754 ∧ hi754 ≤ hi) ∧ (hi753 ≤ lo754 ∨ hi754 ≤ lo753), DetI (.bool ((l_eqTable p_0 p_0))), DetI (.bool (!(l_eqTable p_0 p_0)))]) Tryz.follows rfl rfl rfl rfl rfl rfl (vgetI_stable ⟨StableI.det _, StableI.det _, (fun _ _ _ _ _ ⟨A753, c753, lo753, hi753, A754, c754, lo754, hi754, hv, h753, h754, hr0, hr1, hr2⟩ e => ⟨A753, c753, lo753, hi753, A754, c754, lo754, hi754, hv, OwnL.ex gS h753 e, OwnL.ex gI h754 e, hr0, hr1, hr2⟩), StableI.det _, StableI.det _, trivial⟩) ⟨?_, ?_, ?_, ?_, ?_, trivial⟩ ?_
          ·exact oI rfl fun h => yl_loadN ty39 rfl (h.old 15 _ rfl rfl) ((Box.ex q730 h.ex).cells (n := 3) rfl) rfl kI
          ·exact oI rfl fun h => yl_loadN ty25 rfl (h.old 5 _ rfl rfl) ((Box.ex q737 h.ex).cells (n := 3) rfl) rfl kI
          ·intro L776 w777 hi778
           have hE779 := hi778.ex
           refine OpR.op' rfl (yC en11 rfl (oc (hi778.dt 1 88 rfl rfl rfl) oz) (Cal.mono (c_l_toTable p_0 (RdS.up (RdS.ex gS q744 hE779) gS) (RdS.up (RdS.ex gI q751 hE779) gI) ((szok_Table pre0 (by decide) (dec_f hb28)).1)) ?_))
           rintro v786 w783 ⟨A784, c784, lo784, hi784, A785, c785, lo785, hi785, rfl, h784, h785, hrn788, hrn789, hrn790, hE787⟩
           exact ⟨⟨A784, c784, lo784, hi784, A785, c785, lo785, hi785, rfl, h784, h785, hrn788, hrn789, hrn790⟩, hE787⟩
          ·intro L791 w792 hi793
           have hE794 := hi793.ex
           obtain ⟨lo797, hh798, _, hx796, hr799, hr800, hr801, A753_802, c753_803, lo753_804, hi753_805, A754_806, c754_807, lo754_808, hi754_809, rfl, h810, h811, hrn812, hrn813, hrn814⟩ := hi793.dep 2 89 rfl rfl
           exact OpR.op' rfl (yC en16 rfl (oc (hi793.dt 0 87 rfl rfl rfl) (oc hx796 oz)) (Cal.mono (c_l_eqTable p_0 p_0 (RdS.up (OwnL.rd gS (OwnL.ex gS q758 hE794)) gS) (RdS.up (OwnL.rd gI (OwnL.ex gI q762 hE794)) gI) (RdS.up (OwnL.rd gS h810) gS) (RdS.up (OwnL.rd gI h811) gI)) fun _ _ h => h))
          ·exact oI rfl fun h => yl_not rfl (h.dt 3 90 rfl rfl rfl) kI
          ·intro fl832 fh833 L829 w830 hp831
           have hE834 := hp831.ex
           have hE834z := Ex.size hE834
           have hr849 := hp831.rng 2 rfl
           obtain ⟨_, hx848, A753_850, c753_851, lo753_852, hi753_853, A754_854, c754_855, lo754_856, hi754_857, rfl, h858, h859, hrn860, hrn861, hrn862⟩ := hp831.new 2 89 rfl rfl
           refine dn (CW.sub (sC 1 (hp831.old 1 _ rfl rfl) (sC 2 (hp831.old 2 _ rfl rfl) (sC 4 (hp831.old 4 _ rfl rfl) (sC 5 (hp831.old 5 _ rfl rfl) (sC 8 (hp831.old 8 _ rfl rfl) (sC 12 (hp831.old 12 _ rfl rfl) (sC 13 (hp831.old 13 _ rfl rfl) (sC 14 (hp831.old 14 _ rfl rfl) (sC 15 (hp831.old 15 _ rfl rfl) (sC 16 (hp831.old 16 _ rfl rfl) (sC 17 (hp831.old 17 _ rfl rfl) (sC 18 (hp831.old 18 _ rfl rfl) (sC 19 (hp831.old 19 _ rfl rfl) (sC 91 (hp831.nt 4 91 rfl rfl rfl) (Sub.nil _))))))))))))))) (bcase (l_eqTable p_0 p_0) (fun hb864 => ?_) (fun hb864 => ?_)))
           ·refine CW.cond_f rfl (not_t hb864) (CW.skip (tn (CW.seq (cR (sM rfl (sM rfl ?_))))))
            have q869 := RdS.ex gW (RdS.ex gW (RdS.ex gW (RdS.ex gW (RdS.ex gW q424 hE428) hE639) hE714) hE725) hE834
            refine sd rfl (yC en12 rfl (oc rfl oz) (Cal.mono (c_l_toWriteS p_2 (RdS.up q869 gW) ((szok_WriteS pre2 (szok_Table pre0 (by decide) (dec_f hb28)).2 (dec_f hb39)).1)) ?_))
            rintro v872 w870 ⟨A871, c871, lo871, hi871, rfl, h871, hrn874, hE873⟩
            have hE873z := Ex.size hE873
            have q880 := OwnL.ex gW (OwnL.ex gW (OwnL.ex gW (OwnL.ex gW (OwnL.ex gW h426 hE639) hE714) hE725) hE834) hE873
            refine sd rfl (yC en15 rfl (oc rfl (oc rfl oz)) (Cal.mono (c_l_eqWriteS p_2 p_2 (RdS.up (OwnL.rd gW q880) gW) (RdS.up (OwnL.rd gW h871) gW)) ?_))
            rintro v883 w882 ⟨rfl, hE884⟩
            have hE884z := Ex.size hE884
            have y0 := Ex.trans (Ex.trans (Ex.trans (Ex.trans (Ex.trans (Ex.trans q455 hE639) hE714) hE725) hE834) hE873) hE884
            refine sd rfl (yl_not rfl rfl (dn (bcase (l_eqWriteS p_2 p_2) (fun hb885 => ?_) (fun hb885 => ?_))))
            ·refine CW.cond_f rfl (not_t hb885) (CW.skip (tn (cR (sA rfl (dn (CW.seq ?_))))))
             refine CW.region (sd rfl (yl_loadN ty39 rfl rfl ((Box.ex (Box.ex (Box.ex q730 hE834) hE873) hE884).cells (n := 3) rfl) rfl (sM rfl (sd rfl (yC en18 rfl (oc rfl (oc rfl oz)) (Cal.mono (c_l_markTable p_0 1 (OwnL.ex gS (OwnL.ex gS (OwnL.ex gS q758 hE834) hE873) hE884) (OwnL.ex gI (OwnL.ex gI (OwnL.ex gI q762 hE834) hE873) hE884) oM oM oM Bo) ?_))))))
             rintro v896 w895 ⟨rfl, h898, h899, hm897⟩
             have hm897z := Mut.size hm897
             have hrf900 := rf_markTable p_0 1 Bo
             refine sA rfl (dn (cR (sM rfl (sM rfl (sd rfl (yC en19 rfl (oc rfl (oc rfl oz)) (Cal.mono (c_l_markWriteS p_2 ((l_markTable p_0 1).1) (OwnL.mut gW (OwnL.ex gW q880 hE884) hm897 kR) oM Bo) ?_)))))))
             rintro v904 w903 ⟨rfl, h906, hm905⟩
             have hm905z := Mut.size hm905
             have hrf907 := rf_markWriteS p_2 ((l_markTable p_0 1).1) Bo
             refine sA rfl (dn (CW.seq (cR (sM rfl (sd rfl (yl_lss rfl rfl rfl (sM rfl ?_)))))))
             refine bcD (q := ((l_markWriteS p_2 ((l_markTable p_0 1).1)).1) < 0) (fun hb908 hb908p => ?_) (fun hb908 hb908p => ?_)
             ·refine sz rfl rfl hb908 (sz rfl rfl hb908 (sz rfl rfl hb908 (sz rfl rfl hb908 (sd rfl (yl_pick_t rfl rfl hb908 rfl (sM rfl (sz rfl rfl rfl (sz rfl rfl rfl (sz rfl rfl rfl ?_)))))))))
              refine sz rfl rfl rfl (sd rfl (yl_pick_t rfl rfl rfl rfl (sM rfl (sz rfl rfl rfl (sz rfl rfl rfl (sz rfl rfl rfl (sd rfl (yl_pick_t rfl rfl rfl rfl (dn ?_)))))))))
              refine CW.cond_t rfl rfl (cR (sA rfl (dn (CW.ret (tr (rr rfl (.cons rfl .nil) ?_))))))
              rw [show (l_FnExactClearPiece p_0 p_1 p_2 p_3 p_4) = (false) by simp only [l_FnExactClearPiece, hb16, hb28, hb39, hb50, hb715, hb726, hb727, hb864, hb885, hb908, cL]]
              exact ⟨rfl, (Ex.mut (Ex.mut y0 hm897 kR) hm905 kR)⟩
             ·refine sy rfl rfl hb908 (yM rfl rfl (sy rfl rfl hb908 (yM rfl rfl ?_)))
              have q925 := OwnL.mut gW (OwnL.mut gW (OwnL.ex gW (OwnL.ex gW (OwnL.ex gW (OwnL.ex gW (OwnL.ex gW h680 hE714) hE725) hE834) hE873) hE884) hm897 kR) hm905 kR
              have q933 := OwnL.mut gW (OwnL.mut gW (OwnL.ex gW (OwnL.ex gW (OwnL.ex gW (OwnL.ex gW (OwnL.ex gW q711 hE714) hE725) hE834) hE873) hE884) hm897 kR) hm905 kR
              refine sy rfl rfl hb908 (yC en15 rfl (oc rfl (oc rfl oz)) (Cal.mono (c_l_eqWriteS ((i_ClearPiece p_0 p_1 p_2 p_3 p_4).1) ((s_ClearPiece p_0 p_1 p_2 p_3 p_4).1) (RdS.up (OwnL.rd gW q925) gW) (RdS.up (OwnL.rd gW q933) gW)) ?_))
              rintro v935 w934 ⟨rfl, hE936⟩
              have hE936z := Ex.size hE936
              refine sy rfl rfl hb908 (yl_not rfl rfl (sd rfl (yl_pick_f rfl rfl hb908 rfl (sM rfl (sy rfl rfl (not_t hb715) (yl_loadN ty56 rfl rfl ((Box.ex (Box.mut (Box.mut (Box.ex (Box.ex (Box.ex (Box.ex q716 hE725) hE834) hE873) hE884) hm897 kR) hm905 kR) hE936).cells (n := 2) rfl) rfl ?_))))))
              have q950 := Box.ex (Box.mut (Box.mut (Box.ex (Box.ex (Box.ex (Box.ex q722 hE725) hE834) hE873) hE884) hm897 kR) hm905 kR) hE936
              refine sy rfl rfl (not_t hb715) (yl_loadN ty56 rfl rfl (q950.cells (n := 2) rfl) rfl (sy rfl rfl (not_t hb715) (yC en26 rfl (oc rfl (oc rfl oz)) (Cal.mono (c_l_eqFill ((i_ClearPiece p_0 p_1 p_2 p_3 p_4).2.1) ((s_ClearPiece p_0 p_1 p_2 p_3 p_4).2.1)) ?_))))
              rintro v952 w951 ⟨rfl, hE953⟩
              have hE953z := Ex.size hE953
              refine sy rfl rfl (not_t hb715) (yl_not rfl rfl (sd rfl (yl_pick_f rfl rfl (not_t hb715) rfl (sM rfl (sy rfl rfl (not_t hb726) (yM rfl rfl (sy rfl rfl (not_t hb726) (yM rfl rfl (sy rfl rfl (not_t hb726) (yl_bneq un4 rfl rfl rfl (sd rfl (yl_pick_f rfl rfl (not_t hb726) rfl (dn ?_)))))))))))))
              refine CW.cond_f rfl (not_t hb727) (CW.skip (tn (cR (sA rfl (dn (CW.seq ?_))))))
              refine CW.region (sM rfl (sM rfl (sd rfl (yC en19 rfl (oc rfl (oc rfl oz)) (Cal.mono (c_l_markWriteS ((i_ClearPiece p_0 p_1 p_2 p_3 p_4).1) 1 (OwnL.ex gW (OwnL.ex gW q925 hE936) hE953) oM Bo) ?_)))))
              rintro v957 w956 ⟨rfl, h959, hm958⟩
              have hm958z := Mut.size hm958
              have hrf960 := rf_markWriteS ((i_ClearPiece p_0 p_1 p_2 p_3 p_4).1) 1 Bo
              refine sA rfl (dn (cR (sA rfl (dn (CW.seq ?_)))))
              refine CW.region (sM rfl (sM rfl ?_))
              have hle961 := OwnL.len h959
              refine sd rfl (yC en21 rfl (oc rfl (oc rfl oz)) (Cal.mono (Cal.args (by rw [← hle961] <;> rfl) (c_l_heldWriteS ((l_markWriteS ((i_ClearPiece p_0 p_1 p_2 p_3 p_4).1) 1).2) 1 (RdS.fix (RdS.up (OwnL.rd gW h959) gW)) Bo)) ?_))
              rintro v964 w963 ⟨rfl, hE965⟩
              have hE965z := Ex.size hE965
              have hrf966 := rf_heldWriteS ((l_markWriteS ((i_ClearPiece p_0 p_1 p_2 p_3 p_4).1) 1).2) 1 Bo
              refine sA rfl (dn (CW.seq (cR (sM rfl (sd rfl (yl_lss rfl rfl rfl (SeqR.done ?_)))))))
              refine tn (bcD (q := (l_heldWriteS ((l_markWriteS ((i_ClearPiece p_0 p_1 p_2 p_3 p_4).1) 1).2) 1) < 0) (fun hb967 hb967p => ?_) (fun hb967 hb967p => ?_))
              ·refine CW.cond_t rfl hb967 (cR (sA rfl (dn (CW.ret (tr (rr rfl (.cons rfl .nil) ?_))))))
               rw [show (l_FnExactClearPiece p_0 p_1 p_2 p_3 p_4) = (false) by simp only [l_FnExactClearPiece, hb16, hb28, hb39, hb50, hb715, hb726, hb727, hb864, hb885, hb908, hb967, cL]]
               exact ⟨rfl, (Ex.trans (Ex.mut (Ex.trans (Ex.trans (Ex.mut (Ex.mut y0 hm897 kR) hm905 kR) hE936) hE953) hm958 kR) hE965)⟩
              ·refine CW.cond_f rfl hb967 (CW.skip (tn (CW.seq (cR (sM rfl (sM rfl (sd rfl (yl_neq rfl rfl rfl ?_))))))))
               refine dn (bcD (q := (l_heldWriteS ((l_markWriteS ((i_ClearPiece p_0 p_1 p_2 p_3 p_4).1) 1).2) 1) = ((l_markWriteS ((i_ClearPiece p_0 p_1 p_2 p_3 p_4).1) 1).1)) (fun hb981 hb981p => ?_) (fun hb981 hb981p => ?_))
               ·refine CW.cond_f rfl (not_t hb981) (CW.skip (tn (CW.seq ?_)))
                have q999 := RdS.ex gS (RdS.mut gS (RdS.ex gS (RdS.ex gS (RdS.mut gS (RdS.mut gS (RdS.ex gS (RdS.ex gS (RdS.ex gS q744 hE834) hE873) hE884) hm897 kJ) hm905 kJ) hE936) hE953) hm958 kJ) hE965
                have q1008 := RdS.ex gI (RdS.mut gI (RdS.ex gI (RdS.ex gI (RdS.mut gI (RdS.mut gI (RdS.ex gI (RdS.ex gI (RdS.ex gI q751 hE834) hE873) hE884) hm897 kJ) hm905 kJ) hE936) hE953) hm958 kJ) hE965
                have q1019 := RdS.ex gW (RdS.mut gW (RdS.ex gW (RdS.ex gW (RdS.mut gW (RdS.mut gW (RdS.ex gW (RdS.ex gW q869 hE873) hE884) hm897 kJ) hm905 kJ) hE936) hE953) hm958 kJ) hE965
                have q1046 := Ex.trans (Ex.mut (Ex.trans (Ex.trans (Ex.mut (Ex.mut y0 hm897 kR) hm905 kR) hE936) hE953) hm958 kR) hE965
                refine CW.drawsG 17 (fun _ _ => False) (fun i G b => (i = 15 ∧ (G.fl 13) ≤ b ∧ b < (G.fh 13))) (vgetG [DetG (.agg #[.string (bs (p_0.Name)), .slice A1 p_0.Cols.length c1, .slice A2 p_0.Idxs.length c2]), fun G v wq => ∃ A1010 c1010 lo1010 hi1010 A1011 c1011 lo1011 hi1011, v = .agg #[.string (bs (p_0.Name)), .slice A1010 p_0.Cols.length c1010, .slice A1011 p_0.Idxs.length c1011] ∧ OwnL wq lo1010 hi1010 9 1 (RF e_Str) A1010 p_0.Cols.length c1010 p_0.Cols ∧ OwnL wq lo1011 hi1011 111 3 (RF e_Idx) A1011 p_0.Idxs.length c1011 p_0.Idxs ∧ ((G.fl 1) ≤ lo1010 ∧ lo1010 ≤ hi1010 ∧ hi1010 ≤ (G.fh 1)) ∧ ((G.fl 1) ≤ lo1011 ∧ lo1011 ≤ hi1011 ∧ hi1011 ≤ (G.fh 1)) ∧ (hi1010 ≤ lo1011 ∨ hi1011 ≤ lo1010), DetG (.string (bs (p_1))), DetG (.slice A3 p_2.length c3), fun G v wq => ∃ A1021 c1021 lo1021 hi1021, v = .slice A1021 p_2.length c1021 ∧ OwnL wq lo1021 hi1021 80 3 (RF e_Write) A1021 p_2.length c1021 p_2 ∧ ((G.fl 4) ≤ lo1021 ∧ lo1021 ≤ hi1021 ∧ hi1021 ≤ (G.fh 4)), DetG (.agg #[.string (bs (p_3.Last)), .bool (p_3.Over)]), DetG (.agg #[.string (bs (p_3.Last)), .bool (p_3.Over)]), DetG (.int .i64 (p_4)), fun G v wq => ∃ A1048 c1048 lo1048 hi1048, v = .tuple #[.slice A1048 (((i_ClearPiece p_0 p_1 p_2 p_3 p_4).1).length) c1048, .agg #[.string (bs ((i_ClearPiece p_0 p_1 p_2 p_3 p_4).2.1.Last)), .bool ((i_ClearPiece p_0 p_1 p_2 p_3 p_4).2.1.Over)], .bool ((i_ClearPiece p_0 p_1 p_2 p_3 p_4).2.2)] ∧ OwnL wq lo1048 hi1048 80 3 (RF e_Write) A1048 (((i_ClearPiece p_0 p_1 p_2 p_3 p_4).1).length) c1048 ((i_ClearPiece p_0 p_1 p_2 p_3 p_4).1) ∧ (okL ok_Write) ((i_ClearPiece p_0 p_1 p_2 p_3 p_4).1) ∧ ok_Fill ((i_ClearPiece p_0 p_1 p_2 p_3 p_4).2.1) ∧ ((G.fl 8) ≤ lo1048 ∧ lo1048 ≤ hi1048 ∧ hi1048 ≤ (G.fh 8)), fun G v wq => ∃ A1048 c1048 lo1048 hi1048, v = .tuple #[.slice A1048 (((i_ClearPiece p_0 p_1 p_2 p_3 p_4).1).length) c1048, .agg #[.string (bs ((i_ClearPiece p_0 p_1 p_2 p_3 p_4).2.1.Last)), .bool ((i_ClearPiece p_0 p_1 p_2 p_3 p_4).2.1.Over)], .bool ((i_ClearPiece p_0 p_1 p_2 p_3 p_4).2.2)] ∧ OwnL wq lo1048 hi1048 80 3 (RF e_Write) A1048 (((i_ClearPiece p_0 p_1 p_2 p_3 p_4).1).length) c1048 ((i_ClearPiece p_0 p_1 p_2 p_3 p_4).1) ∧ ((G.fl 8) ≤ lo1048 ∧ lo1048 ≤ hi1048 ∧ hi1048 ≤ (G.fh 8)), fun G v wq => ∃ A1048 c1048 lo1048 hi1048, v = .slice A1048 (((i_ClearPiece p_0 p_1 p_2 p_3 p_4).1).length) c1048 ∧ OwnL wq lo1048 hi1048 80 3 (RF e_Write) A1048 (((i_ClearPiece p_0 p_1 p_2 p_3 p_4).1).length) c1048 ((i_ClearPiece p_0 p_1 p_2 p_3 p_4).1) ∧ ((G.fl 8) ≤ lo1048 ∧ lo1048 ≤ hi1048 ∧ hi1048 ≤ (G.fh 8)), DetG (.agg #[.string (bs ((i_ClearPiece p_0 p_1 p_2 p_3 p_4).2.1.Last)), .bool ((i_ClearPiece p_0 p_1 p_2 p_3 p_4).2.1.Over)]), DetG (.bool ((i_ClearPiece p_0 p_1 p_2 p_3 p_4).2.2)), fun G v wq => v = .pointer (some ⟨(G.fl 13), 0, none⟩) ∧ (G.dn 15 = false → Box wq (G.fl 13) 56 [.string (bs (([] : Str))), .bool (false)]) ∧ (G.fl 13) < (G.fh 13), fun G v wq => ∃ A1048 c1048 lo1048 hi1048, v = .slice A1048 (((i_ClearPiece p_0 p_1 p_2 p_3 p_4).1).length) c1048 ∧ OwnL wq lo1048 hi1048 80 3 (RF e_Write) A1048 (((i_ClearPiece p_0 p_1 p_2 p_3 p_4).1).length) c1048 ((i_ClearPiece p_0 p_1 p_2 p_3 p_4).1) ∧ ((G.fl 8) ≤ lo1048 ∧ lo1048 ≤ hi1048 ∧ hi1048 ≤ (G.fh 8)), fun G v wq => Box wq (G.fl 13) 56 [.string (bs ((i_ClearPiece p_0 p_1 p_2 p_3 p_4).2.1.Last)), .bool ((i_ClearPiece p_0 p_1 p_2 p_3 p_4).2.1.Over)], DetG (.bool ((i_ClearPiece p_0 p_1 p_2 p_3 p_4).2.2))]) Tryz.follows rfl rfl rfl rfl rfl rfl (fun _ _ _ _ _ h => h) (fun i G w lo hi b K hn hh hp => by exact (match hp with | ⟨e, q1, q2⟩ => by subst e; exact .inr (by have := K.rng 13 (hh 13 rfl); omega))) (vgetG_kept ⟨(KeptG.det _), (by rintro i G v w w' K hn hh hj ⟨A1010, c1010, lo1010, hi1010, A1011, c1011, lo1011, hi1011, hv, h0, h1, hr0, hr1, hr2⟩ e; have d1 : G.dn 1 = true := hj; have u1 := Gh.ufl (lo := w.heap.size) (hi := w'.heap.size) d1 hn; have t1 := Gh.ufh (lo := w.heap.size) (hi := w'.heap.size) d1 hn; exact ⟨A1010, c1010, lo1010, hi1010, A1011, c1011, lo1011, hi1011, hv, (by exact OwnL.chg gS h0 e (fun b hb hp => by obtain ⟨rfl, q1, q2⟩ := hp; have := K.rng 1 d1; have := K.rng 13 (hh 13 rfl); have := K.sep 13 1 (hh 13 rfl) d1 rfl; skip; omega)), (by exact OwnL.chg gI h1 e (fun b hb hp => by obtain ⟨rfl, q1, q2⟩ := hp; have := K.rng 1 d1; have := K.rng 13 (hh 13 rfl); have := K.sep 13 1 (hh 13 rfl) d1 rfl; skip; omega)), (by simp only [u1, t1]; exact hr0), (by simp only [u1, t1]; exact hr1), hr2⟩), (KeptG.det _), (KeptG.det _), (by rintro i G v w w' K hn hh hj ⟨A1021, c1021, lo1021, hi1021, hv, h0, hr0⟩ e; have d4 : G.dn 4 = true := hj; have u4 := Gh.ufl (lo := w.heap.size) (hi := w'.heap.size) d4 hn; have t4 := Gh.ufh (lo := w.heap.size) (hi := w'.heap.size) d4 hn; exact ⟨A1021, c1021, lo1021, hi1021, hv, (by exact OwnL.chg gW h0 e (fun b hb hp => by obtain ⟨rfl, q1, q2⟩ := hp; have := K.rng 4 d4; have := K.rng 13 (hh 13 rfl); have := K.sep 13 4 (hh 13 rfl) d4 rfl; skip; omega)), (by simp only [u4, t4]; exact hr0)⟩), (KeptG.det _), (KeptG.det _), (KeptG.det _), (by rintro i G v w w' K hn hh hj ⟨A1048, c1048, lo1048, hi1048, hv, h0, h1, h2, hr0⟩ e; have d8 : G.dn 8 = true := hj; have u8 := Gh.ufl (lo := w.heap.size) (hi := w'.heap.size) d8 hn; have t8 := Gh.ufh (lo := w.heap.size) (hi := w'.heap.size) d8 hn; exact ⟨A1048, c1048, lo1048, hi1048, hv, (by exact OwnL.chg gW h0 e (fun b hb hp => by obtain ⟨rfl, q1, q2⟩ := hp; have := K.rng 8 d8; have := K.rng 13 (hh 13 rfl); have := K.sep 13 8 (hh 13 rfl) d8 rfl; skip; omega)), h1, h2, (by simp only [u8, t8]; exact hr0)⟩), (by rintro i G v w w' K hn hh hj ⟨A1048, c1048, lo1048, hi1048, hv, h0, hr0⟩ e; have d8 : G.dn 8 = true := K.cl 9 8 hj rfl; have u8 := Gh.ufl (lo := w.heap.size) (hi := w'.heap.size) d8 hn; have t8 := Gh.ufh (lo := w.heap.size) (hi := w'.heap.size) d8 hn; exact ⟨A1048, c1048, lo1048, hi1048, hv, (by exact OwnL.chg gW h0 e (fun b hb hp => by obtain ⟨rfl, q1, q2⟩ := hp; have := K.rng 8 d8; have := K.rng 13 (hh 13 rfl); have := K.sep 13 8 (hh 13 rfl) d8 rfl; skip; omega)), (by simp only [u8, t8]; exact hr0)⟩), (by rintro i G v w w' K hn hh hj ⟨A1048, c1048, lo1048, hi1048, hv, h0, hr0⟩ e; have d8 : G.dn 8 = true := K.cl 10 8 hj rfl; have u8 := Gh.ufl (lo := w.heap.size) (hi := w'.heap.size) d8 hn; have t8 := Gh.ufh (lo := w.heap.size) (hi := w'.heap.size) d8 hn; exact ⟨A1048, c1048, lo1048, hi1048, hv, (by exact OwnL.chg gW h0 e (fun b hb hp => by obtain ⟨rfl, q1, q2⟩ := hp; have := K.rng 8 d8; have := K.rng 13 (hh 13 rfl); have := K.sep 13 8 (hh 13 rfl) d8 rfl; skip; omega)), (by simp only [u8, t8]; exact hr0)⟩), (KeptG.det _), (KeptG.det _), (by rintro i G v w w' K hn hh hj ⟨hv, h0, he0⟩ e; have d13 : G.dn 13 = true := hj; have u13 := Gh.ufl (lo := w.heap.size) (hi := w'.heap.size) d13 hn; have t13 := Gh.ufh (lo := w.heap.size) (hi := w'.heap.size) d13 hn; exact ⟨(by simp only [u13, t13]; exact hv), (by intro hd; simp only [u13, t13]; exact Box.chg (h0 (Gh.off hd).2) e (fun hp => by obtain ⟨rfl, q1, q2⟩ := hp; exact absurd rfl (Gh.off hd).1)), (by simp only [u13, t13]; exact he0)⟩), (by rintro i G v w w' K hn hh hj ⟨A1048, c1048, lo1048, hi1048, hv, h0, hr0⟩ e; have d8 : G.dn 8 = true := K.cl 14 8 hj rfl; have u8 := Gh.ufl (lo := w.heap.size) (hi := w'.heap.size) d8 hn; have t8 := Gh.ufh (lo := w.heap.size) (hi := w'.heap.size) d8 hn; exact ⟨A1048, c1048, lo1048, hi1048, hv, (by exact OwnL.chg gW h0 e (fun b hb hp => by obtain ⟨rfl, q1, q2⟩ := hp; have := K.rng 8 d8; have := K.rng 13 (hh 13 rfl); have := K.sep 13 8 (hh 13 rfl) d8 rfl; skip; omega)), (by simp only [u8, t8]; exact hr0)⟩), (by rintro i G v w w' K hn hh hj h0 e; have d13 : G.dn 13 = true := K.cl 15 13 hj rfl; have u13 := Gh.ufl (lo := w.heap.size) (hi := w'.heap.size) d13 hn; have t13 := Gh.ufh (lo := w.heap.size) (hi := w'.heap.size) d13 hn; exact (by simp only [u13, t13]; exact Box.chg h0 e (fun hp => by obtain ⟨rfl, q1, q2⟩ := hp; rw [hj] at hn; cases hn))), (KeptG.det _), trivial⟩) ⟨?_, ?_, ?_, ?_, ?_, ?_, ?_, ?_, ?_, ?_, ?_, ?_, ?_, ?_, ?_, ?_, ?_, trivial⟩ ?_
                ·intro L1057 w1058 G1056 hgk1059
                 have hE1060 := hgk1059.st.ex.ex (fun b h => h.elim (fun h => h.elim) (fun h => h))
                 have hE1060z := Ex.size hE1060
                 exact OpR.op' rfl (Yl.sameG (yl_loadN ty25 rfl (hgk1059.old 5 _ rfl rfl) ((Box.ex (Box.ex (Box.mut (Box.ex (Box.ex (Box.mut (Box.mut (Box.ex (Box.ex (Box.ex q737 hE834) hE873) hE884) hm897 kR) hm905 kR) hE936) hE953) hm958 kR) hE965) hE1060).cells (n := 3) rfl) rfl kI))
                ·intro L1064 w1065 G1063 hgk1066
                 have hE1067 := hgk1066.st.ex.ex (fun b h => h.elim (fun h => h.elim) (fun h => h))
                 have hE1067z := Ex.size hE1067
                 obtain ⟨_, hx1068, rfl⟩ := hgk1066.val 0 134 rfl rfl
                 refine OpR.op' rfl (yC en11 rfl (oc hx1068 oz) (Cal.mono (c_l_toTable p_0 (RdS.up (RdS.ex gS q999 hE1067) gS) (RdS.up (RdS.ex gI q1008 hE1067) gI) ((szok_Table pre0 (by decide) (dec_f hb28)).1)) ?_))
                 rintro v1074 w1071 ⟨A1072, c1072, lo1072, hi1072, A1073, c1073, lo1073, hi1073, rfl, h1072, h1073, hrn1076, hrn1077, hrn1078, hE1075⟩
                 exact ⟨Chg.of_ex hE1075, A1072, c1072, lo1072, hi1072, A1073, c1073, lo1073, hi1073, rfl, h1072, h1073, hrn1076, hrn1077, hrn1078⟩
                ·intro L1080 w1081 G1079 hgk1082
                 have hE1083 := hgk1082.st.ex.ex (fun b h => h.elim (fun h => h.elim) (fun h => h))
                 have hE1083z := Ex.size hE1083
                 exact OpR.op' rfl (Yl.sameG (yM rfl (hgk1082.old 1 _ rfl rfl) kI))
                ·intro L1086 w1087 G1085 hgk1088
                 have hE1089 := hgk1088.st.ex.ex (fun b h => h.elim (fun h => h.elim) (fun h => h))
                 have hE1089z := Ex.size hE1089
                 exact OpR.op' rfl (Yl.sameG (yM rfl (hgk1088.old 2 _ rfl rfl) kI))
                ·intro L1092 w1093 G1091 hgk1094
                 have hE1095 := hgk1094.st.ex.ex (fun b h => h.elim (fun h => h.elim) (fun h => h))
                 have hE1095z := Ex.size hE1095
                 obtain ⟨_, hx1096, rfl⟩ := hgk1094.val 3 137 rfl rfl
                 refine OpR.op' rfl (yC en12 rfl (oc hx1096 oz) (Cal.mono (c_l_toWriteS p_2 (RdS.up (RdS.ex gW q1019 hE1095) gW) ((szok_WriteS pre2 (szok_Table pre0 (by decide) (dec_f hb28)).2 (dec_f hb39)).1)) ?_))
                 rintro v1100 w1098 ⟨A1099, c1099, lo1099, hi1099, rfl, h1099, hrn1102, hE1101⟩
                 exact ⟨Chg.of_ex hE1101, A1099, c1099, lo1099, hi1099, rfl, h1099, hrn1102⟩
                ·intro L1104 w1105 G1103 hgk1106
                 have hE1107 := hgk1106.st.ex.ex (fun b h => h.elim (fun h => h.elim) (fun h => h))
                 have hE1107z := Ex.size hE1107
                 exact OpR.op' rfl (Yl.sameG (yl_loadN ty54 rfl (hgk1106.old 8 _ rfl rfl) ((Box.ex (Box.ex (Box.mut (Box.ex (Box.ex (Box.mut (Box.mut (Box.ex (Box.ex (Box.ex (Box.ex (Box.ex (Box.ex q435 hE639) hE714) hE725) hE834) hE873) hE884) hm897 kR) hm905 kR) hE936) hE953) hm958 kR) hE965) hE1107).cells (n := 2) rfl) rfl kI))
                ·intro L1111 w1112 G1110 hgk1113
                 have hE1114 := hgk1113.st.ex.ex (fun b h => h.elim (fun h => h.elim) (fun h => h))
                 have hE1114z := Ex.size hE1114
                 obtain ⟨_, hx1115, rfl⟩ := hgk1113.val 5 139 rfl rfl
                 refine OpR.op' rfl (yC en24 rfl (oc hx1115 oz) (Cal.mono (c_l_toFill p_3 ((szok_Fill pre3 (szok_WriteS pre2 (szok_Table pre0 (by decide) (dec_f hb28)).2 (dec_f hb39)).2 (dec_f hb50)).1)) ?_))
                 rintro v1117 w1116 ⟨rfl, hE1118⟩
                 exact ⟨Chg.of_ex hE1118, rfl⟩
                ·intro L1120 w1121 G1119 hgk1122
                 have hE1123 := hgk1122.st.ex.ex (fun b h => h.elim (fun h => h.elim) (fun h => h))
                 have hE1123z := Ex.size hE1123
                 exact OpR.op' rfl (Yl.sameG (yM rfl (hgk1122.old 4 _ rfl rfl) kI))
                ·intro L1126 w1127 G1125 hgk1128
                 have hE1129 := hgk1128.st.ex.ex (fun b h => h.elim (fun h => h.elim) (fun h => h))
                 have hE1129z := Ex.size hE1129
                 obtain ⟨_, hx1130, A1010_1131, c1010_1132, lo1010_1133, hi1010_1134, A1011_1135, c1011_1136, lo1011_1137, hi1011_1138, rfl, h1139, h1140, hrn1141, hrn1142, hrn1143⟩ := hgk1128.val 1 135 rfl rfl
                 obtain ⟨_, hx1144, rfl⟩ := hgk1128.val 2 136 rfl rfl
                 obtain ⟨_, hx1145, A1021_1146, c1021_1147, lo1021_1148, hi1021_1149, rfl, h1150, hrn1151⟩ := hgk1128.val 4 138 rfl rfl
                 obtain ⟨_, hx1152, rfl⟩ := hgk1128.val 6 140 rfl rfl
                 obtain ⟨_, hx1153, rfl⟩ := hgk1128.val 7 141 rfl rfl
                 have hr1154 := hgk1128.st.rng 1 (hgk1128.has 1 rfl)
                 have hr1155 := hgk1128.st.rng 4 (hgk1128.has 4 rfl)
                 have hsp1156 := hgk1128.st.ord 4 1 (hgk1128.has 4 rfl) rfl
                 refine OpR.op' rfl (yC en25 rfl (oc hx1130 (oc hx1144 (oc hx1145 (oc hx1152 (oc hx1153 oz))))) (Cal.mono (c_i_ClearPiece p_0 p_1 p_2 p_3 p_4 (RdS.up (OwnL.rd gS h1139) gS) (RdS.up (OwnL.rd gI h1140) gI) (RdS.up (OwnL.rd gW h1150) gW) ((szok_Table pre0 (by decide) (dec_f hb28)).1) (by unfold okS; (try dsimp only); omega) ((szok_WriteS pre2 (szok_Table pre0 (by decide) (dec_f hb28)).2 (dec_f hb39)).1) ((szok_Fill pre3 (szok_WriteS pre2 (szok_Table pre0 (by decide) (dec_f hb28)).2 (dec_f hb39)).2 (dec_f hb50)).1) (hgb.ex (Ex.trans q1046 hE1129))) ?_))
                 rintro v1165 w1161 ⟨A1162, c1162, lo1162, hi1162, rfl, h1162, ho1163, ho1164, hrn1167, hE1166⟩
                 exact ⟨Chg.of_ex hE1166, A1162, c1162, lo1162, hi1162, rfl, h1162, ho1163, ho1164, hrn1167⟩
                ·intro L1169 w1170 G1168 hgk1171
                 have hE1172 := hgk1171.st.ex.ex (fun b h => h.elim (fun h => h.elim) (fun h => h))
                 have hE1172z := Ex.size hE1172
                 obtain ⟨_, hx1173, A1048_1174, c1048_1175, lo1048_1176, hi1048_1177, rfl, h1178, h1179, h1180, hrn1181⟩ := hgk1171.val 8 142 rfl rfl
                 have hr1182 := hgk1171.st.rng 8 (hgk1171.has 8 rfl)
                 exact OpR.op' rfl (Yl.sameG (yM rfl hx1173 ⟨fun _ _ => ⟨A1048_1174, c1048_1175, lo1048_1176, hi1048_1177, rfl, h1178, (show ((G1168.fl 8) ≤ lo1048_1176 ∧ lo1048_1176 ≤ hi1048_1177 ∧ hi1048_1177 ≤ (G1168.fh 8)) by omega)⟩, rfl⟩))
                ·intro L1184 w1185 G1183 hgk1186
                 have hE1187 := hgk1186.st.ex.ex (fun b h => h.elim (fun h => h.elim) (fun h => h))
                 have hE1187z := Ex.size hE1187
                 obtain ⟨_, hx1188, A1048_1189, c1048_1190, lo1048_1191, hi1048_1192, rfl, h1193, hrn1194⟩ := hgk1186.val 9 133 rfl rfl
                 have hr1195 := hgk1186.st.rng 8 (hgk1186.has 8 rfl)
                 have hr1196 := hgk1186.st.rng 9 (hgk1186.has 9 rfl)
                 have hsp1197 := hgk1186.st.ord 9 8 (hgk1186.has 9 rfl) rfl
                 exact OpR.op' rfl (Yl.sameG (yl_extract rfl hx1188 rfl ⟨fun _ _ => ⟨A1048_1189, c1048_1190, lo1048_1191, hi1048_1192, rfl, h1193, (show ((G1183.fl 8) ≤ lo1048_1191 ∧ lo1048_1191 ≤ hi1048_1192 ∧ hi1048_1192 ≤ (G1183.fh 8)) by omega)⟩, rfl⟩))
                ·intro L1199 w1200 G1198 hgk1201
                 have hE1202 := hgk1201.st.ex.ex (fun b h => h.elim (fun h => h.elim) (fun h => h))
                 have hE1202z := Ex.size hE1202
                 obtain ⟨_, hx1203, A1048_1204, c1048_1205, lo1048_1206, hi1048_1207, rfl, h1208, hrn1209⟩ := hgk1201.val 9 133 rfl rfl
                 have hr1210 := hgk1201.st.rng 8 (hgk1201.has 8 rfl)
                 have hr1211 := hgk1201.st.rng 9 (hgk1201.has 9 rfl)
                 have hsp1212 := hgk1201.st.ord 9 8 (hgk1201.has 9 rfl) rfl
                 exact OpR.op' rfl (Yl.sameG (yl_extract rfl hx1203 rfl kI))
                ·intro L1214 w1215 G1213 hgk1216
                 have hE1217 := hgk1216.st.ex.ex (fun b h => h.elim (fun h => h.elim) (fun h => h))
                 have hE1217z := Ex.size hE1217
                 obtain ⟨_, hx1218, A1048_1219, c1048_1220, lo1048_1221, hi1048_1222, rfl, h1223, hrn1224⟩ := hgk1216.val 9 133 rfl rfl
                 have hr1225 := hgk1216.st.rng 8 (hgk1216.has 8 rfl)
                 have hr1226 := hgk1216.st.rng 9 (hgk1216.has 9 rfl)
                 have hsp1227 := hgk1216.st.ord 9 8 (hgk1216.has 9 rfl) rfl
                 exact OpR.op' rfl (Yl.sameG (yl_extract rfl hx1218 rfl kI))
                ·intro L1229 w1230 G1228 hgk1231
                 have hE1232 := hgk1231.st.ex.ex (fun b h => h.elim (fun h => h.elim) (fun h => h))
                 have hE1232z := Ex.size hE1232
                 refine OpR.op' rfl (yB ty56 (cs := [.string (bs (([] : Str))), .bool (false)]) rfl rfl ?_)
                 intro b1233 w1234 hs1235 hz1236 hB1237 hE1238
                 subst hs1235
                 exact ⟨Chg.of_ex hE1238, rfl, fun _ => hB1237, by rw [Gh.sfl, Gh.sfh]; omega⟩
                ·intro L1240 w1241 G1239 hgk1242
                 have hE1243 := hgk1242.st.ex.ex (fun b h => h.elim (fun h => h.elim) (fun h => h))
                 have hE1243z := Ex.size hE1243
                 obtain ⟨_, hx1244, A1048_1245, c1048_1246, lo1048_1247, hi1048_1248, rfl, h1249, hrn1250⟩ := hgk1242.val 10 143 rfl rfl
                 have hr1251 := hgk1242.st.rng 8 (hgk1242.has 8 rfl)
                 have hr1252 := hgk1242.st.rng 10 (hgk1242.has 10 rfl)
                 have hsp1253 := hgk1242.st.ord 10 8 (hgk1242.has 10 rfl) rfl
                 exact OpR.op' rfl (Yl.sameG (yA rfl hx1244 ⟨fun _ _ => ⟨A1048_1245, c1048_1246, lo1048_1247, hi1048_1248, rfl, h1249, (show ((G1239.fl 8) ≤ lo1048_1247 ∧ lo1048_1247 ≤ hi1048_1248 ∧ hi1048_1248 ≤ (G1239.fh 8)) by omega)⟩, rfl⟩))
                ·intro L1255 w1256 G1254 hgk1257
                 have hE1258 := hgk1257.st.ex.ex (fun b h => h.elim (fun h => h.elim) (fun h => h))
                 have hE1258z := Ex.size hE1258
                 obtain ⟨_, hx1259, rfl, h1260, he1261⟩ := hgk1257.val 13 24 rfl rfl
                 have h1260 := h1260 hgk1257.new
                 obtain ⟨_, hx1262, rfl⟩ := hgk1257.val 11 144 rfl rfl
                 have hr1263 := hgk1257.st.rng 13 (hgk1257.has 13 rfl)
                 refine OpR.op' rfl (yl_store (vs := [.string (bs ((i_ClearPiece p_0 p_1 p_2 p_3 p_4).2.1.Last)), .bool ((i_ClearPiece p_0 p_1 p_2 p_3 p_4).2.1.Over)]) ty56 rfl hx1259 hx1262 rfl rfl rfl h1260 (nb rfl) ?_)
                 intro w1264 hB1265 hO1266
                 have hO1266z := hO1266.size
                 exact ⟨Chg.of_only hO1266 (⟨rfl, Nat.le_refl _, by omega⟩), hB1265⟩
                ·intro L1268 w1269 G1267 hgk1270
                 have hE1271 := hgk1270.st.ex.ex (fun b h => h.elim (fun h => h.elim) (fun h => h))
                 have hE1271z := Ex.size hE1271
                 obtain ⟨_, hx1272, rfl⟩ := hgk1270.val 12 145 rfl rfl
                 exact OpR.op' rfl (Yl.sameG (yA rfl hx1272 kI))
                ·intro G1273 L1274 w1275 hgp1276
                 have hE1277 := hgp1276.st.ex.ex (fun b h => h.elim (fun h => h.elim) (fun h => h))
                 have hE1277z := Ex.size hE1277
                 obtain ⟨_, hx1283, A1010_1284, c1010_1285, lo1010_1286, hi1010_1287, A1011_1288, c1011_1289, lo1011_1290, hi1011_1291, rfl, h1292, h1293, hrn1294, hrn1295, hrn1296⟩ := hgp1276.val 1 135 rfl rfl
                 obtain ⟨_, hx1297, A1021_1298, c1021_1299, lo1021_1300, hi1021_1301, rfl, h1302, hrn1303⟩ := hgp1276.val 4 138 rfl rfl
                 obtain ⟨_, hx1304, A1048_1305, c1048_1306, lo1048_1307, hi1048_1308, rfl, h1309, h1310, h1311, hrn1312⟩ := hgp1276.val 8 142 rfl rfl
                 obtain ⟨_, hx1313, A1048_1314, c1048_1315, lo1048_1316, hi1048_1317, rfl, h1318, hrn1319⟩ := hgp1276.val 9 133 rfl rfl
                 obtain ⟨_, hx1320, A1048_1321, c1048_1322, lo1048_1323, hi1048_1324, rfl, h1325, hrn1326⟩ := hgp1276.val 10 143 rfl rfl
                 obtain ⟨_, hx1327, rfl, -, he1328⟩ := hgp1276.val 13 24 rfl rfl
                 obtain ⟨_, hx1329, A1048_1330, c1048_1331, lo1048_1332, hi1048_1333, rfl, h1334, hrn1335⟩ := hgp1276.val 14 23 rfl rfl
                 obtain ⟨_, h1336⟩ := hgp1276.fact 15 rfl
                 obtain ⟨_, hx1337, rfl⟩ := hgp1276.val 16 25 rfl rfl
                 have hr1338 := hgp1276.st.rng 1 (hgp1276.has 1 rfl)
                 have hr1339 := hgp1276.st.rng 4 (hgp1276.has 4 rfl)
                 have hr1340 := hgp1276.st.rng 8 (hgp1276.has 8 rfl)
                 have hr1341 := hgp1276.st.rng 9 (hgp1276.has 9 rfl)
                 have hr1342 := hgp1276.st.rng 10 (hgp1276.has 10 rfl)
                 have hr1343 := hgp1276.st.rng 13 (hgp1276.has 13 rfl)
                 have hr1344 := hgp1276.st.rng 14 (hgp1276.has 14 rfl)
                 have hr1345 := hgp1276.st.rng 15 (hgp1276.has 15 rfl)
                 have hsp1346 := hgp1276.st.ord 4 1 (hgp1276.has 4 rfl) rfl
                 have hsp1347 := hgp1276.st.ord 8 1 (hgp1276.has 8 rfl) rfl
                 have hsp1348 := hgp1276.st.ord 9 1 (hgp1276.has 9 rfl) rfl
                 have hsp1349 := hgp1276.st.ord 10 1 (hgp1276.has 10 rfl) rfl
                 have hsp1350 := hgp1276.st.sep 1 13 (hgp1276.has 1 rfl) (hgp1276.has 13 rfl) rfl
                 have hsp1351 := hgp1276.st.ord 14 1 (hgp1276.has 14 rfl) rfl
                 have hsp1352 := hgp1276.st.ord 15 1 (hgp1276.has 15 rfl) rfl
                 have hsp1353 := hgp1276.st.ord 8 4 (hgp1276.has 8 rfl) rfl
                 have hsp1354 := hgp1276.st.ord 9 4 (hgp1276.has 9 rfl) rfl
                 have hsp1355 := hgp1276.st.ord 10 4 (hgp1276.has 10 rfl) rfl
                 have hsp1356 := hgp1276.st.sep 4 13 (hgp1276.has 4 rfl) (hgp1276.has 13 rfl) rfl
                 have hsp1357 := hgp1276.st.ord 14 4 (hgp1276.has 14 rfl) rfl
                 have hsp1358 := hgp1276.st.ord 15 4 (hgp1276.has 15 rfl) rfl
                 have hsp1359 := hgp1276.st.ord 9 8 (hgp1276.has 9 rfl) rfl
                 have hsp1360 := hgp1276.st.ord 10 8 (hgp1276.has 10 rfl) rfl
                 have hsp1361 := hgp1276.st.sep 8 13 (hgp1276.has 8 rfl) (hgp1276.has 13 rfl) rfl
                 have hsp1362 := hgp1276.st.ord 14 8 (hgp1276.has 14 rfl) rfl
                 have hsp1363 := hgp1276.st.ord 15 8 (hgp1276.has 15 rfl) rfl
                 have hsp1364 := hgp1276.st.ord 10 9 (hgp1276.has 10 rfl) rfl
                 have hsp1365 := hgp1276.st.sep 9 13 (hgp1276.has 9 rfl) (hgp1276.has 13 rfl) rfl
                 have hsp1366 := hgp1276.st.ord 14 9 (hgp1276.has 14 rfl) rfl
                 have hsp1367 := hgp1276.st.ord 15 9 (hgp1276.has 15 rfl) rfl
                 have hsp1368 := hgp1276.st.sep 10 13 (hgp1276.has 10 rfl) (hgp1276.has 13 rfl) rfl
                 have hsp1369 := hgp1276.st.ord 14 10 (hgp1276.has 14 rfl) rfl
                 have hsp1370 := hgp1276.st.ord 15 10 (hgp1276.has 15 rfl) rfl
                 have hsp1371 := hgp1276.st.ord 14 13 (hgp1276.has 14 rfl) rfl
                 have hsp1372 := hgp1276.st.ord 15 13 (hgp1276.has 15 rfl) rfl
                 have hsp1373 := hgp1276.st.ord 15 14 (hgp1276.has 15 rfl) rfl
                 refine dn (CW.sub (sC 12 (hgp1276.old 12 _ rfl rfl) (sC 13 (hgp1276.old 13 _ rfl rfl) (sC 14 (hgp1276.old 14 _ rfl rfl) (sC 17 (hgp1276.old 17 _ rfl rfl) (sC 21 (hgp1276.old 21 _ rfl rfl) (sC 23 hx1329 (sC 24 hx1327 (sC 25 hx1337 (Sub.nil _))))))))) (CW.seq (cR (sM rfl (sM rfl (sd rfl (yC en15 rfl (oc rfl (oc rfl oz)) (Cal.mono (c_l_eqWriteS ((i_ClearPiece p_0 p_1 p_2 p_3 p_4).1) ((s_ClearPiece p_0 p_1 p_2 p_3 p_4).1) (RdS.up (OwnL.rd gW h1334) gW) (RdS.up (OwnL.rd gW (OwnL.ex gW (OwnL.ex gW (OwnL.mut gW (OwnL.ex gW (OwnL.ex gW q933 hE936) hE953) hm958 kR) hE965) hE1277)) gW)) ?_))))))))
                 rintro v1382 w1381 ⟨rfl, hE1383⟩
                 have hE1383z := Ex.size hE1383
                 refine sd rfl (yl_not rfl rfl (sM rfl (sy rfl rfl (not_t hb715) (yl_loadN ty56 rfl rfl ((Box.ex h1336 hE1383).cells (n := 2) rfl) rfl (sy rfl rfl (not_t hb715) (yl_loadN ty56 rfl rfl ((Box.ex (Box.ex (Box.ex (Box.mut (Box.ex q950 hE953) hm958 kR) hE965) hE1277) hE1383).cells (n := 2) rfl) rfl (sy rfl rfl (not_t hb715) (yC en26 rfl (oc rfl (oc rfl oz)) (Cal.mono (c_l_eqFill ((i_ClearPiece p_0 p_1 p_2 p_3 p_4).2.1) ((s_ClearPiece p_0 p_1 p_2 p_3 p_4).2.1)) ?_)))))))))
                 rintro v1391 w1390 ⟨rfl, hE1392⟩
                 have hE1392z := Ex.size hE1392
                 refine sy rfl rfl (not_t hb715) (yl_not rfl rfl (sd rfl (yl_pick_f rfl rfl (not_t hb715) rfl (sM rfl (sy rfl rfl (not_t hb726) (yM rfl rfl (sy rfl rfl (not_t hb726) (yM rfl rfl (sy rfl rfl (not_t hb726) (yl_bneq un4 rfl rfl rfl (sd rfl (yl_pick_f rfl rfl (not_t hb726) rfl (dn ?_)))))))))))))
                 refine CW.cond_f rfl (not_t hb727) (CW.skip (tn (cR (sA rfl (dn (CW.seq ?_))))))
                 refine CW.region (sM rfl (sM rfl ?_))
                 have q1397 := OwnL.ex gW (OwnL.ex gW (OwnL.ex gW (OwnL.ex gW h959 hE965) hE1277) hE1383) hE1392
                 have hle1393 := OwnL.len q1397
                 refine sd rfl (yC en21 rfl (oc rfl (oc rfl oz)) (Cal.mono (Cal.args (by rw [← hle1393] <;> rfl) (c_l_heldWriteS ((l_markWriteS ((i_ClearPiece p_0 p_1 p_2 p_3 p_4).1) 1).2) 1 (RdS.fix (RdS.up (OwnL.rd gW q1397) gW)) Bo)) ?_))
                 rintro v1400 w1399 ⟨rfl, hE1401⟩
                 have hE1401z := Ex.size hE1401
                 have hrf1402 := rf_heldWriteS ((l_markWriteS ((i_ClearPiece p_0 p_1 p_2 p_3 p_4).1) 1).2) 1 Bo
                 refine sA rfl (dn (CW.seq (cR (sM rfl (sd rfl (yl_lss rfl rfl rfl (SeqR.done ?_)))))))
                 refine tn (CW.cond_f rfl hb967 (CW.skip (tn (CW.seq (cR (sM rfl (sM rfl ?_)))))))
                 refine sd rfl (yl_neq rfl rfl rfl (dn (CW.cond_f rfl (not_t hb981) (CW.skip (tn (cR (sA rfl ?_)))))))
                 refine dn (CW.ret (rr rfl (.cons rfl .nil) ?_))
                 rw [show (l_FnExactClearPiece p_0 p_1 p_2 p_3 p_4) = (true) by simp only [l_FnExactClearPiece, hb16, hb28, hb39, hb50, hb715, hb726, hb727, hb864, hb885, hb908, hb967, hb981, cL]]
                 exact ⟨rfl, (Ex.trans (Ex.trans (Ex.trans (Ex.trans q1046 hE1277) hE1383) hE1392) hE1401)⟩
               ·refine CW.cond_t rfl (not_f hb981) (cR (sA rfl (dn (CW.ret (tr (rr rfl (.cons rfl .nil) ?_))))))
                rw [show (l_FnExactClearPiece p_0 p_1 p_2 p_3 p_4) = (false) by simp only [l_FnExactClearPiece, hb16, hb28, hb39, hb50, hb715, hb726, hb727, hb864, hb885, hb908, hb967, hb981, cL]]
                exact ⟨rfl, (Ex.trans (Ex.mut (Ex.trans (Ex.trans (Ex.mut (Ex.mut y0 hm897 kR) hm905 kR) hE936) hE953) hm958 kR) hE965)⟩
            ·refine CW.cond_t rfl (not_f hb885) (cR (sA rfl (dn (CW.ret (tr (rr rfl (.cons rfl .nil) ?_))))))
             rw [show (l_FnExactClearPiece p_0 p_1 p_2 p_3 p_4) = (false) by simp only [l_FnExactClearPiece, hb16, hb28, hb39, hb50, hb715, hb726, hb727, hb864, hb885, cL]]
             exact ⟨rfl, y0⟩
           ·refine CW.cond_t rfl (not_f hb864) (cR (sA rfl (dn (CW.ret (tr (rr rfl (.cons rfl .nil) ?_))))))
            rw [show (l_FnExactClearPiece p_0 p_1 p_2 p_3 p_4) = (false) by simp only [l_FnExactClearPiece, hb16, hb28, hb39, hb50, hb715, hb726, hb727, hb864, cL]]
            exact ⟨rfl, (Ex.trans (Ex.trans (Ex.trans (Ex.trans q455 hE639) hE714) hE725) hE834)⟩
         ·refine CW.cond_t rfl (not_f hb727) (cR (sA rfl (dn (CW.ret (tr (rr rfl (.cons rfl .nil) ?_))))))
          rw [show (l_FnExactClearPiece p_0 p_1 p_2 p_3 p_4) = (false) by simp only [l_FnExactClearPiece, hb16, hb28, hb39, hb50, hb715, hb726, hb727, cL]]
          exact ⟨rfl, (Ex.trans (Ex.trans (Ex.trans q455 hE639) hE714) hE725)⟩
        ·refine sz rfl rfl (not_f hb726) (sz rfl rfl (not_f hb726) (sz rfl rfl (not_f hb726) (sd rfl (yl_pick_t rfl rfl (not_f hb726) rfl (dn (CW.cond_t rfl rfl (cR ?_)))))))
         refine sA rfl (dn (CW.ret (tr (rr rfl (.cons rfl .nil) ?_))))
         rw [show (l_FnExactClearPiece p_0 p_1 p_2 p_3 p_4) = (false) by simp only [l_FnExactClearPiece, hb16, hb28, hb39, hb50, hb715, hb726, cL]]
         exact ⟨rfl, (Ex.trans (Ex.trans (Ex.trans q455 hE639) hE714) hE725)⟩
       ·refine sz rfl rfl (not_f hb715) (sz rfl rfl (not_f hb715) (sz rfl rfl (not_f hb715) (sz rfl rfl (not_f hb715) (sd rfl (yl_pick_t rfl rfl (not_f hb715) rfl (sM rfl (sz rfl rfl rfl (sz rfl rfl rfl (sz rfl rfl rfl ?_)))))))))
        refine sd rfl (yl_pick_t rfl rfl rfl rfl (dn (CW.cond_t rfl rfl (cR (sA rfl (dn ?_))))))
        refine CW.ret (tr (rr rfl (.cons rfl .nil) ?_))
        rw [show (l_FnExactClearPiece p_0 p_1 p_2 p_3 p_4) = (false) by simp only [l_FnExactClearPiece, hb16, hb28, hb39, hb50, hb715, cL]]
        exact ⟨rfl, (Ex.trans (Ex.trans q455 hE639) hE714)⟩
end Go.Proofs.YtoimdjojffkefaaGreatDoor
