/- Are Close: what each call returns, part 4. -/
import Derived.Test.YtfmepgbpbbneaaaAreCloseC3
set_option linter.unusedVariables false
set_option linter.unusedSimpArgs false
namespace Go.Proofs.Ytfmepgbpbbneaaa
open Go.RowKit Go.X
set_option maxRecDepth 100000 in
set_option maxHeartbeats 2000000 in
theorem c_l_eqShift {A1 : Option Addr} {c1 : Nat} {A2 : Option Addr} {c2 : Nat} {A3 : Option Addr} {c3 : Nat} {A4 : Option Addr} {c4 : Nat} {A5 : Option Addr} {c5 : Nat} {A6 : Option Addr} {c6 : Nat} {w : World} (p_a : DShift) (p_b : DShift) (h1 : RdS w (Iv 0 w.heap.size) R_Table 3 A1 p_a.Ways.length c1 p_a.Ways) (h2 : RdS w (Iv 0 w.heap.size) (RF e_Int) 1 A2 p_a.At.length c2 p_a.At) (h3 : RdS w (Iv 0 w.heap.size) (RF e_Write) 3 A3 p_a.Store.length c3 p_a.Store) (h4 : RdS w (Iv 0 w.heap.size) R_Table 3 A4 p_b.Ways.length c4 p_b.Ways) (h5 : RdS w (Iv 0 w.heap.size) (RF e_Int) 1 A5 p_b.At.length c5 p_b.At) (h6 : RdS w (Iv 0 w.heap.size) (RF e_Write) 3 A6 p_b.Store.length c6 p_b.Store) : Cal Try.prog 38 #[.agg #[.string (bs (p_a.Name)), .slice A1 p_a.Ways.length c1, .slice A2 p_a.At.length c2, .slice A3 p_a.Store.length c3], .agg #[.string (bs (p_b.Name)), .slice A4 p_b.Ways.length c4, .slice A5 p_b.At.length c5, .slice A6 p_b.Store.length c6]] w fun v w' => v = .bool ((l_eqShift p_a p_b)) ∧ Ex w w' := by
 refine Cal.of (vs := [.agg #[.string (bs (p_a.Name)), .slice A1 p_a.Ways.length c1, .slice A2 p_a.At.length c2, .slice A3 p_a.Store.length c3], .agg #[.string (bs (p_b.Name)), .slice A4 p_b.Ways.length c4, .slice A5 p_b.At.length c5, .slice A6 p_b.Store.length c6]]) Try.func38 rfl Try.ntmps38 rfl (CW.seq (CW.region (sd rfl (yl_box (cs := [.string (bs (p_a.Name)), .slice A1 p_a.Ways.length c1, .slice A2 p_a.At.length c2, .slice A3 p_a.Store.length c3]) rfl rfl rfl ?_))))
 intro b7 w8 hs9 hz10 hB11 hE12
 refine sd rfl (yl_box (cs := [.string (bs (p_b.Name)), .slice A4 p_b.Ways.length c4, .slice A5 p_b.At.length c5, .slice A6 p_b.Store.length c6]) rfl rfl rfl ?_)
 intro b13 w14 hs15 hz16 hB17 hE18
 refine sd rfl (yl_assign rfl rfl (SeqR.done (tn (CW.seq (CW.seq (CW.region (sd rfl (yl_fieldAddr Try.fd91_0 rfl rfl ?_))))))))
 have q19 := Box.ex hB11 hE18
 refine sd rfl (yl_load1 Try.ty9 rfl rfl ((q19.cell 0).trans rfl) (sd rfl (yl_fieldAddr Try.fd91_0 rfl rfl (sd rfl (yl_load1 Try.ty9 rfl rfl ((hB17.cell 0).trans rfl) (sd rfl (yl_sneq (a := p_a.Name) (b := p_b.Name) rfl rfl rfl (SeqR.done (tn (bcase (p_a.Name == p_b.Name) (fun hb20 => ?_) (fun hb20 => ?_)))))))))))
 ·refine CW.cond_f rfl (not_t hb20) (CW.skip (tn (CW.seq (CW.seq (CW.region (sd rfl (yl_fieldAddr Try.fd91_1 rfl rfl (sd rfl (yl_load1 Try.ty88 rfl rfl ((q19.cell 1).trans rfl) (sd rfl (yl_fieldAddr Try.fd91_1 rfl rfl ?_)))))))))))
  refine sd rfl (yl_load1 Try.ty88 rfl rfl ((hB17.cell 1).trans rfl) (sd rfl (yl_call Try.en94 rfl (opvs_cons rfl (opvs_cons rfl opvs_nil)) (Cal.mono (c_l_eqTableS p_a.Ways p_b.Ways (RdS.up (RdS.ex good_Table (RdS.ex good_Table h1 hE12) hE18) good_Table) (RdS.up (RdS.ex good_Table (RdS.ex good_Table h4 hE12) hE18) good_Table)) ?_))))
  rintro v26 w25 ⟨rfl, hE27⟩
  have hE27z := Ex.size hE27
  refine sd rfl (yl_not rfl rfl (SeqR.done (tn (bcase (l_eqTableS p_a.Ways p_b.Ways) (fun hb28 => ?_) (fun hb28 => ?_)))))
  ·refine CW.cond_f rfl (not_t hb28) (CW.skip (tn (CW.seq (CW.seq (CW.region (sd rfl (yl_fieldAddr Try.fd91_2 rfl rfl ?_)))))))
   have q29 := Box.ex q19 hE27
   refine sd rfl (yl_load1 Try.ty81 rfl rfl ((q29.cell 2).trans rfl) (sd rfl (yl_fieldAddr Try.fd91_2 rfl rfl ?_)))
   have q30 := Box.ex hB17 hE27
   refine sd rfl (yl_load1 Try.ty81 rfl rfl ((q30.cell 2).trans rfl) (sd rfl (yl_call Try.en95 rfl (opvs_cons rfl (opvs_cons rfl opvs_nil)) (Cal.mono (c_l_eqIntS p_a.At p_b.At (RdS.up (RdS.ex good_Int (RdS.ex good_Int (RdS.ex good_Int h2 hE12) hE18) hE27) good_Int) (RdS.up (RdS.ex good_Int (RdS.ex good_Int (RdS.ex good_Int h5 hE12) hE18) hE27) good_Int)) ?_))))
   rintro v38 w37 ⟨rfl, hE39⟩
   have hE39z := Ex.size hE39
   refine sd rfl (yl_not rfl rfl (SeqR.done (tn (bcase (l_eqIntS p_a.At p_b.At) (fun hb40 => ?_) (fun hb40 => ?_)))))
   ·refine CW.cond_f rfl (not_t hb40) (CW.skip (tn (CW.seq (CW.seq (CW.region (sd rfl (yl_fieldAddr Try.fd91_3 rfl rfl (sd rfl (yl_load1 Try.ty89 rfl rfl (((Box.ex q29 hE39).cell 3).trans rfl) (sd rfl (yl_fieldAddr Try.fd91_3 rfl rfl ?_)))))))))))
    refine sd rfl (yl_load1 Try.ty89 rfl rfl (((Box.ex q30 hE39).cell 3).trans rfl) (sd rfl (yl_call Try.en45 rfl (opvs_cons rfl (opvs_cons rfl opvs_nil)) (Cal.mono (c_l_eqWriteS p_a.Store p_b.Store (RdS.up (RdS.ex good_Write (RdS.ex good_Write (RdS.ex good_Write (RdS.ex good_Write h3 hE12) hE18) hE27) hE39) good_Write) (RdS.up (RdS.ex good_Write (RdS.ex good_Write (RdS.ex good_Write (RdS.ex good_Write h6 hE12) hE18) hE27) hE39) good_Write)) ?_))))
    rintro v52 w51 ⟨rfl, hE53⟩
    have hE53z := Ex.size hE53
    refine sd rfl (yl_not rfl rfl (SeqR.done (tn (bcase (l_eqWriteS p_a.Store p_b.Store) (fun hb54 => ?_) (fun hb54 => ?_)))))
    ·refine CW.cond_f rfl (not_t hb54) (CW.skip (tn (CW.seq (CW.region (sd rfl (yl_assign rfl rfl (SeqR.done (tn (CW.ret ?_)))))))))
     refine rr rfl (.cons rfl .nil) ?_
     have hM55 : (l_eqShift p_a p_b) = (true) := by simp only [l_eqShift, hb20, hb28, hb40, hb54, cond_true, cond_false, loopE_done, loopE_ret]
     rw [hM55]
     exact ⟨rfl, (Ex.trans (Ex.trans (Ex.trans (Ex.trans (Ex.trans (Ex.refl w) hE12) hE18) hE27) hE39) hE53)⟩
    ·refine CW.cond_t rfl (not_f hb54) (CW.seq (CW.region (sd rfl (yl_assign rfl rfl (SeqR.done (tn (CW.ret (tr (rr rfl (.cons rfl .nil) ?_)))))))))
     have hM61 : (l_eqShift p_a p_b) = (false) := by simp only [l_eqShift, hb20, hb28, hb40, hb54, cond_true, cond_false, loopE_done, loopE_ret]
     rw [hM61]
     exact ⟨rfl, (Ex.trans (Ex.trans (Ex.trans (Ex.trans (Ex.trans (Ex.refl w) hE12) hE18) hE27) hE39) hE53)⟩
   ·refine CW.cond_t rfl (not_f hb40) (CW.seq (CW.region (sd rfl (yl_assign rfl rfl (SeqR.done (tn (CW.ret (tr (rr rfl (.cons rfl .nil) ?_)))))))))
    have hM67 : (l_eqShift p_a p_b) = (false) := by simp only [l_eqShift, hb20, hb28, hb40, cond_true, cond_false, loopE_done, loopE_ret]
    rw [hM67]
    exact ⟨rfl, (Ex.trans (Ex.trans (Ex.trans (Ex.trans (Ex.refl w) hE12) hE18) hE27) hE39)⟩
  ·refine CW.cond_t rfl (not_f hb28) (CW.seq (CW.region (sd rfl (yl_assign rfl rfl (SeqR.done (tn (CW.ret (tr (rr rfl (.cons rfl .nil) ?_)))))))))
   have hM72 : (l_eqShift p_a p_b) = (false) := by simp only [l_eqShift, hb20, hb28, cond_true, cond_false, loopE_done, loopE_ret]
   rw [hM72]
   exact ⟨rfl, (Ex.trans (Ex.trans (Ex.trans (Ex.refl w) hE12) hE18) hE27)⟩
 ·refine CW.cond_t rfl (not_f hb20) (CW.seq (CW.region (sd rfl (yl_assign rfl rfl (SeqR.done (tn (CW.ret (tr (rr rfl (.cons rfl .nil) ?_)))))))))
  have hM76 : (l_eqShift p_a p_b) = (false) := by simp only [l_eqShift, hb20, cond_true, cond_false, loopE_done, loopE_ret]
  rw [hM76]
  exact ⟨rfl, (Ex.trans (Ex.trans (Ex.refl w) hE12) hE18)⟩
set_option maxRecDepth 100000 in
set_option maxHeartbeats 2000000 in
theorem c_l_FnExactAreClose {A1 : Option Addr} {c1 : Nat} {A2 : Option Addr} {c2 : Nat} {A3 : Option Addr} {c3 : Nat} {w : World} (p_aC : DShift) (h1 : RdS w (Iv 0 w.heap.size) R_Table 3 A1 p_aC.Ways.length c1 p_aC.Ways) (h2 : RdS w (Iv 0 w.heap.size) (RF e_Int) 1 A2 p_aC.At.length c2 p_aC.At) (h3 : RdS w (Iv 0 w.heap.size) (RF e_Write) 3 A3 p_aC.Store.length c3 p_aC.Store) (pre0 : wf_Shift p_aC) : Cal Try.prog 7 #[.agg #[.string (bs (p_aC.Name)), .slice A1 p_aC.Ways.length c1, .slice A2 p_aC.At.length c2, .slice A3 p_aC.Store.length c3]] w fun v w' => v = .bool ((l_FnExactAreClose p_aC)) ∧ Ex w w' := by
 refine Cal.of (vs := [.agg #[.string (bs (p_aC.Name)), .slice A1 p_aC.Ways.length c1, .slice A2 p_aC.At.length c2, .slice A3 p_aC.Store.length c3]]) Try.func7 rfl Try.ntmps7 rfl (CW.seq (CW.region (sd rfl (yl_box (cs := [.string (bs (p_aC.Name)), .slice A1 p_aC.Ways.length c1, .slice A2 p_aC.At.length c2, .slice A3 p_aC.Store.length c3]) rfl rfl rfl ?_))))
 intro b4 w5 hs6 hz7 hB8 hE9
 refine sd rfl (yl_assign rfl rfl (SeqR.done (tn (CW.seq (CW.region (sd rfl (yl_assign rfl rfl (SeqR.done (tn (CW.seq ?_))))))))))
 refine CW.region (sd rfl (yl_loadN (cs := [.string (bs (p_aC.Name)), .slice A1 p_aC.Ways.length c1, .slice A2 p_aC.At.length c2, .slice A3 p_aC.Store.length c3]) Try.ty84 rfl rfl (hB8.cells (n := 4) rfl) rfl (sd rfl (yl_move rfl rfl ?_))))
 have q10 := RdS.ex good_Table h1 hE9
 have q11 := RdS.ex good_Int h2 hE9
 have q12 := RdS.ex good_Write h3 hE9
 refine sd rfl (yl_call Try.en34 rfl (opvs_cons rfl (opvs_cons rfl opvs_nil)) (Cal.mono (c_l_szShift p_aC 1048576 (RdS.up q10 good_Table) (RdS.up q11 good_Int) (RdS.up q12 good_Write)) ?_))
 rintro v14 w13 ⟨rfl, hE15⟩
 have hE15z := Ex.size hE15
 refine sd rfl (yl_assign rfl rfl (SeqR.done (tn (CW.seq (CW.seq (CW.region (sd rfl (yl_move rfl rfl (sd rfl (yl_lss rfl rfl rfl (SeqR.done ?_)))))))))))
 refine tn (bcase (decide ((l_szShift p_aC 1048576) < 0)) (fun hb16 => ?_) (fun hb16 => ?_))
 ·have hb16p := dec_t hb16
  refine CW.cond_t rfl hb16 (CW.seq (CW.region (sd rfl (yl_assign rfl rfl (SeqR.done (tn (CW.ret (tr (rr rfl (.cons rfl .nil) ?_)))))))))
  have hM17 : (l_FnExactAreClose p_aC) = (true) := by simp only [l_FnExactAreClose, hb16, cond_true, cond_false, loopE_done, loopE_ret]
  rw [hM17]
  exact ⟨rfl, (Ex.trans (Ex.trans (Ex.refl w) hE9) hE15)⟩
 ·have hb16p := dec_f hb16
  refine CW.cond_f rfl hb16 (CW.skip (tn (CW.seq (CW.region ?_))))
  have q20 := Box.ex hB8 hE15
  refine sd rfl (yl_loadN (cs := [.string (bs (p_aC.Name)), .slice A1 p_aC.Ways.length c1, .slice A2 p_aC.At.length c2, .slice A3 p_aC.Store.length c3]) Try.ty84 rfl rfl (q20.cells (n := 4) rfl) rfl ?_)
  have q21 := RdS.ex good_Table q10 hE15
  have q22 := RdS.ex good_Int q11 hE15
  have q23 := RdS.ex good_Write q12 hE15
  refine sd rfl (yl_call Try.en36 rfl (opvs_cons rfl opvs_nil) (Cal.mono (c_l_toShift p_aC (RdS.up q21 good_Table) (RdS.up q22 good_Int) (RdS.up q23 good_Write) ((szok_Shift pre0 (by decide) (dec_f hb16)).1)) ?_))
  rintro v28 w24 ⟨A25, c25, lo25, hi25, A26, c26, lo26, hi26, A27, c27, lo27, hi27, rfl, h25, h26, h27, hrn30, hrn31, hrn32, hrn33, hrn34, hrn35, hE29⟩
  have hE29z := Ex.size hE29
  refine sd rfl (yl_call Try.en35 rfl (opvs_cons rfl opvs_nil) (Cal.mono (c_s_AreClose p_aC (RdS.up (OwnL.rd good_Table h25) good_Table) (RdS.up (OwnL.rd good_Int h26) good_Int) (RdS.up (OwnL.rd good_Write h27) good_Write) ((szok_Shift pre0 (by decide) (dec_f hb16)).1)) ?_))
  rintro v40 w39 ⟨rfl, hE41⟩
  have hE41z := Ex.size hE41
  refine sd rfl (yl_move rfl rfl (sd rfl (yl_extract rfl rfl rfl (sd rfl (yl_extract rfl rfl rfl (sd rfl (yl_assign rfl rfl (sd rfl (yl_assign rfl rfl (SeqR.done (tn (CW.seq (CW.region ?_)))))))))))))
  have q43 := Box.ex (Box.ex q20 hE29) hE41
  refine sd rfl (yl_loadN (cs := [.string (bs (p_aC.Name)), .slice A1 p_aC.Ways.length c1, .slice A2 p_aC.At.length c2, .slice A3 p_aC.Store.length c3]) Try.ty84 rfl rfl (q43.cells (n := 4) rfl) rfl ?_)
  have q45 := RdS.ex good_Table (RdS.ex good_Table q21 hE29) hE41
  have q47 := RdS.ex good_Int (RdS.ex good_Int q22 hE29) hE41
  have q49 := RdS.ex good_Write (RdS.ex good_Write q23 hE29) hE41
  refine sd rfl (yl_call Try.en36 rfl (opvs_cons rfl opvs_nil) (Cal.mono (c_l_toShift p_aC (RdS.up q45 good_Table) (RdS.up q47 good_Int) (RdS.up q49 good_Write) ((szok_Shift pre0 (by decide) (dec_f hb16)).1)) ?_))
  rintro v54 w50 ⟨A51, c51, lo51, hi51, A52, c52, lo52, hi52, A53, c53, lo53, hi53, rfl, h51, h52, h53, hrn56, hrn57, hrn58, hrn59, hrn60, hrn61, hE55⟩
  have hE55z := Ex.size hE55
  refine sd rfl (yl_alloc Try.ty91 (cs := [.string (bs (([] : Str))), .slice none 0 0, .slice none 0 0, .slice none 0 0]) rfl rfl ?_)
  intro b62 w63 hs64 hz65 hB66 hE67
  refine SeqR.u rfl rfl (yl_store (vs := [.string (bs (p_aC.Name)), .slice A51 p_aC.Ways.length c51, .slice A52 p_aC.At.length c52, .slice A53 p_aC.Store.length c53]) Try.ty91 rfl rfl rfl rfl rfl rfl hB66 (Nat.le_of_ble_eq_true rfl) ?_)
  intro w68 hB69 hO70
  have hB69 : Box w68 b62 91 [.string (bs (p_aC.Name)), .slice A51 p_aC.Ways.length c51, .slice A52 p_aC.At.length c52, .slice A53 p_aC.Store.length c53] := hB69
  have hO70z := hO70.size
  refine SeqR.done (tn (CW.seq (CW.region (sd rfl (yl_loadN (cs := [.string (bs (p_aC.Name)), .slice A51 p_aC.Ways.length c51, .slice A52 p_aC.At.length c52, .slice A53 p_aC.Store.length c53]) Try.ty91 rfl rfl (hB69.cells (n := 4) rfl) rfl ?_)))))
  have q73 := OwnL.only good_Table (OwnL.ex good_Table h51 hE67) hO70 (by omega)
  have q76 := OwnL.only good_Int (OwnL.ex good_Int h52 hE67) hO70 (by omega)
  have q79 := OwnL.only good_Write (OwnL.ex good_Write h53 hE67) hO70 (by omega)
  refine sd rfl (yl_call Try.en37 rfl (opvs_cons rfl opvs_nil) (Cal.mono (c_i_AreClose p_aC (RdS.up (OwnL.rd good_Table q73) good_Table) (RdS.up (OwnL.rd good_Int q76) good_Int) (RdS.up (OwnL.rd good_Write q79) good_Write) ((szok_Shift pre0 (by decide) (dec_f hb16)).1)) ?_))
  rintro v81 w80 ⟨rfl, hE82⟩
  have hE82z := Ex.size hE82
  refine sd rfl (yl_move rfl rfl (sd rfl (yl_extract rfl rfl rfl (sd rfl (yl_extract rfl rfl rfl (sd rfl (yl_assign rfl rfl (sd rfl (yl_assign rfl rfl (SeqR.done (tn (CW.seq (CW.seq ?_)))))))))))))
  refine CW.region (sd rfl (yl_move rfl rfl (sd rfl (yl_move rfl rfl (sd rfl (yl_bneq Try.un4 rfl rfl rfl (sd rfl (yl_move rfl rfl (bcase (((i_AreClose p_aC).1) == ((s_AreClose p_aC).1)) (fun hb83 => ?_) (fun hb83 => ?_))))))))))
  ·refine sy rfl rfl (not_t hb83) (yl_move rfl rfl (sy rfl rfl (not_t hb83) (yl_move rfl rfl (sy rfl rfl (not_t hb83) (yl_bneq Try.un4 rfl rfl rfl (sd rfl (yl_pick_f rfl rfl (not_t hb83) rfl (SeqR.done (tn (bcase (((i_AreClose p_aC).2) == ((s_AreClose p_aC).2)) (fun hb84 => ?_) (fun hb84 => ?_)))))))))))
   ·refine CW.cond_f rfl (not_t hb84) (CW.skip (tn (CW.seq (CW.seq (CW.drawsI 5 (vgetI [DetI (.agg #[.string (bs (p_aC.Name)), .slice A51 p_aC.Ways.length c51, .slice A52 p_aC.At.length c52, .slice A53 p_aC.Store.length c53]), DetI (.agg #[.string (bs (p_aC.Name)), .slice A1 p_aC.Ways.length c1, .slice A2 p_aC.At.length c2, .slice A3 p_aC.Store.length c3]), fun lo hi v wq => ∃ A103 c103 lo103 hi103 A104 c104 lo104 hi104 A105 c105 lo105 hi105, v = .agg #[.string (bs (p_aC.Name)), .slice A103 p_aC.Ways.length c103, .slice A104 p_aC.At.length c104, .slice A105 p_aC.Store.length c105] ∧ OwnL wq lo103 hi103 59 3 R_Table A103 p_aC.Ways.length c103 p_aC.Ways ∧ OwnL wq lo104 hi104 3 1 (RF e_Int) A104 p_aC.At.length c104 p_aC.At ∧ OwnL wq lo105 hi105 54 3 (RF e_Write) A105 p_aC.Store.length c105 p_aC.Store ∧ (lo ≤ lo103 ∧ lo103 ≤ hi103 ∧ hi103 ≤ hi) ∧ (lo ≤ lo104 ∧ lo104 ≤ hi104 ∧ hi104 ≤ hi) ∧ (lo ≤ lo105 ∧ lo105 ≤ hi105 ∧ hi105 ≤ hi) ∧ (hi103 ≤ lo104 ∨ hi104 ≤ lo103) ∧ (hi103 ≤ lo105 ∨ hi105 ≤ lo103) ∧ (hi104 ≤ lo105 ∨ hi105 ≤ lo104), DetI (.bool ((l_eqShift p_aC p_aC))), DetI (.bool (!(l_eqShift p_aC p_aC)))]) Try.follows rfl rfl rfl rfl rfl rfl (vgetI_stable ⟨StableI.det _, StableI.det _, (fun _ _ _ _ _ ⟨A103, c103, lo103, hi103, A104, c104, lo104, hi104, A105, c105, lo105, hi105, hv, h103, h104, h105, hr0, hr1, hr2, hr3, hr4, hr5⟩ e => ⟨A103, c103, lo103, hi103, A104, c104, lo104, hi104, A105, c105, lo105, hi105, hv, OwnL.ex good_Table h103 e, OwnL.ex good_Int h104 e, OwnL.ex good_Write h105 e, hr0, hr1, hr2, hr3, hr4, hr5⟩), StableI.det _, StableI.det _, trivial⟩) ⟨?_, ?_, ?_, ?_, ?_, trivial⟩ ?_)))))
    ·exact fun _ _ h => os rfl ((yl_loadN (cs := [.string (bs (p_aC.Name)), .slice A51 p_aC.Ways.length c51, .slice A52 p_aC.At.length c52, .slice A53 p_aC.Store.length c53]) Try.ty91 rfl (h.old 6 _ rfl rfl) ((Box.ex (Box.ex hB69 hE82) h.ex).cells (n := 4) rfl) rfl kI))
    ·intro L119 w120 hi121
     have hE122 := hi121.ex
     have hE122z := Ex.size hE122
     exact os rfl ((yl_loadN (cs := [.string (bs (p_aC.Name)), .slice A1 p_aC.Ways.length c1, .slice A2 p_aC.At.length c2, .slice A3 p_aC.Store.length c3]) Try.ty84 rfl (hi121.old 1 _ rfl rfl) ((Box.ex (Box.ex (Box.only (Box.ex (Box.ex q43 hE55) hE67) hO70 (by omega)) hE82) hE122).cells (n := 4) rfl) rfl kI))
    ·intro L125 w126 hi127
     have hE128 := hi127.ex
     have hE128z := Ex.size hE128
     refine OpR.op' rfl (yl_call Try.en36 rfl (opvs_cons (hi127.dt 1 36 rfl rfl rfl) opvs_nil) (Cal.mono (c_l_toShift p_aC (RdS.up (RdS.ex good_Table (RdS.ex good_Table (RdS.only good_Table (RdS.ex good_Table (RdS.ex good_Table q45 hE55) hE67) hO70 (by simp only [Iv]; omega)) hE82) hE128) good_Table) (RdS.up (RdS.ex good_Int (RdS.ex good_Int (RdS.only good_Int (RdS.ex good_Int (RdS.ex good_Int q47 hE55) hE67) hO70 (by simp only [Iv]; omega)) hE82) hE128) good_Int) (RdS.up (RdS.ex good_Write (RdS.ex good_Write (RdS.only good_Write (RdS.ex good_Write (RdS.ex good_Write q49 hE55) hE67) hO70 (by simp only [Iv]; omega)) hE82) hE128) good_Write) ((szok_Shift pre0 (by decide) (dec_f hb16)).1)) ?_))
     rintro v137 w133 ⟨A134, c134, lo134, hi134, A135, c135, lo135, hi135, A136, c136, lo136, hi136, rfl, h134, h135, h136, hrn139, hrn140, hrn141, hrn142, hrn143, hrn144, hE138⟩
     exact ⟨⟨A134, c134, lo134, hi134, A135, c135, lo135, hi135, A136, c136, lo136, hi136, rfl, h134, h135, h136, hrn139, hrn140, hrn141, hrn142, hrn143, hrn144⟩, hE138⟩
    ·intro L145 w146 hi147
     have hE148 := hi147.ex
     obtain ⟨lo151, hh152, _, hx150, hr153, hr154, hr155, A103_156, c103_157, lo103_158, hi103_159, A104_160, c104_161, lo104_162, hi104_163, A105_164, c105_165, lo105_166, hi105_167, rfl, h168, h169, h170, hrn171, hrn172, hrn173, hrn174, hrn175, hrn176⟩ := hi147.dep 2 37 rfl rfl
     refine OpR.op' rfl (yl_call Try.en38 rfl (opvs_cons (hi147.dt 0 35 rfl rfl rfl) (opvs_cons hx150 opvs_nil)) (Cal.mono (c_l_eqShift p_aC p_aC (RdS.up (OwnL.rd good_Table (OwnL.ex good_Table (OwnL.ex good_Table q73 hE82) hE148)) good_Table) (RdS.up (OwnL.rd good_Int (OwnL.ex good_Int (OwnL.ex good_Int q76 hE82) hE148)) good_Int) (RdS.up (OwnL.rd good_Write (OwnL.ex good_Write (OwnL.ex good_Write q79 hE82) hE148)) good_Write) (RdS.up (OwnL.rd good_Table h168) good_Table) (RdS.up (OwnL.rd good_Int h169) good_Int) (RdS.up (OwnL.rd good_Write h170) good_Write)) ?_))
     rintro v187 w186 ⟨rfl, hE188⟩
     exact ⟨rfl, hE188⟩
    ·exact fun _ _ h => os rfl ((yl_not rfl (h.dt 3 38 rfl rfl rfl) kI))
    ·intro fl197 fh198 L194 w195 hp196
     have hE199 := hp196.ex
     have hE199z := Ex.size hE199
     have hr201 := hp196.rng 2 rfl
     obtain ⟨_, hx200, A103_202, c103_203, lo103_204, hi103_205, A104_206, c104_207, lo104_208, hi104_209, A105_210, c105_211, lo105_212, hi105_213, rfl, h214, h215, h216, hrn217, hrn218, hrn219, hrn220, hrn221, hrn222⟩ := hp196.new 2 37 rfl rfl
     refine SeqR.done (tn (CW.sub (Sub.cons (d := 39) (hp196.nt 4 39 rfl rfl rfl) (Sub.nil _)) (bcase (l_eqShift p_aC p_aC) (fun hb224 => ?_) (fun hb224 => ?_))))
     ·refine CW.cond_f rfl (not_t hb224) (CW.skip (tn (CW.seq (CW.region (sd rfl (yl_assign rfl rfl (SeqR.done (tn (CW.ret ?_)))))))))
      refine rr rfl (.cons rfl .nil) ?_
      have hM225 : (l_FnExactAreClose p_aC) = (true) := by simp only [l_FnExactAreClose, hb16, hb83, hb84, hb224, cond_true, cond_false, loopE_done, loopE_ret]
      rw [hM225]
      exact ⟨rfl, (Ex.trans (Ex.trans (Below.only (Ex.trans (Ex.trans (Ex.trans (Ex.trans (Ex.trans (Ex.trans (Ex.refl w) hE9) hE15) hE29) hE41) hE55) hE67) hO70 (by omega)) hE82) hE199)⟩
     ·refine CW.cond_t rfl (not_f hb224) (CW.seq (CW.region (sd rfl (yl_assign rfl rfl (SeqR.done (tn (CW.ret (tr (rr rfl (.cons rfl .nil) ?_)))))))))
      have hM235 : (l_FnExactAreClose p_aC) = (false) := by simp only [l_FnExactAreClose, hb16, hb83, hb84, hb224, cond_true, cond_false, loopE_done, loopE_ret]
      rw [hM235]
      exact ⟨rfl, (Ex.trans (Ex.trans (Below.only (Ex.trans (Ex.trans (Ex.trans (Ex.trans (Ex.trans (Ex.trans (Ex.refl w) hE9) hE15) hE29) hE41) hE55) hE67) hO70 (by omega)) hE82) hE199)⟩
   ·refine CW.cond_t rfl (not_f hb84) (CW.seq (CW.region (sd rfl (yl_assign rfl rfl (SeqR.done (tn (CW.ret (tr (rr rfl (.cons rfl .nil) ?_)))))))))
    have hM245 : (l_FnExactAreClose p_aC) = (false) := by simp only [l_FnExactAreClose, hb16, hb83, hb84, cond_true, cond_false, loopE_done, loopE_ret]
    rw [hM245]
    exact ⟨rfl, (Ex.trans (Below.only (Ex.trans (Ex.trans (Ex.trans (Ex.trans (Ex.trans (Ex.trans (Ex.refl w) hE9) hE15) hE29) hE41) hE55) hE67) hO70 (by omega)) hE82)⟩
  ·refine sz rfl rfl (not_f hb83) (sz rfl rfl (not_f hb83) (sz rfl rfl (not_f hb83) (sd rfl (yl_pick_t rfl rfl (not_f hb83) rfl (SeqR.done (tn (CW.cond_t rfl rfl (CW.seq (CW.region ?_)))))))))
   refine sd rfl (yl_assign rfl rfl (SeqR.done (tn (CW.ret (tr (rr rfl (.cons rfl .nil) ?_))))))
   have hM254 : (l_FnExactAreClose p_aC) = (false) := by simp only [l_FnExactAreClose, hb16, hb83, cond_true, cond_false, loopE_done, loopE_ret]
   rw [hM254]
   exact ⟨rfl, (Ex.trans (Below.only (Ex.trans (Ex.trans (Ex.trans (Ex.trans (Ex.trans (Ex.trans (Ex.refl w) hE9) hE15) hE29) hE41) hE55) hE67) hO70 (by omega)) hE82)⟩
end Go.Proofs.Ytfmepgbpbbneaaa
