/- Need Of: what each call returns, part 4. -/
import Derived.Test.YtfmepgbpbbneaaaNeedOfC3
set_option linter.unusedVariables false
set_option linter.unusedSimpArgs false
namespace Go.Proofs.Ytfmepgbpbbneaaa
open Go.RowKit Go.X
set_option maxRecDepth 100000 in
set_option maxHeartbeats 2000000 in
theorem c_i_Shift_table {A1 : Option Addr} {c1 : Nat} {A2 : Option Addr} {c2 : Nat} {A3 : Option Addr} {c3 : Nat} {w : World} (p_c : DShift) (p_server : Int) (h1 : RdS w (Iv 0 w.heap.size) R_Table 3 A1 p_c.Ways.length c1 p_c.Ways) (h2 : RdS w (Iv 0 w.heap.size) (RF e_Int) 1 A2 p_c.At.length c2 p_c.At) (h3 : RdS w (Iv 0 w.heap.size) (RF e_Write) 3 A3 p_c.Store.length c3 p_c.Store) (o4 : ok_Shift p_c) (pre0 : (0 ≤ p_server ∧ p_server < (p_c.At.length : Int))) (pre1 : (0 ≤ p_c.At.getD (p_server).toNat d_Int ∧ p_c.At.getD (p_server).toNat d_Int < (p_c.Ways.length : Int))) : Cal Try.prog 158 #[.agg #[.string (bs (p_c.Name)), .slice A1 p_c.Ways.length c1, .slice A2 p_c.At.length c2, .slice A3 p_c.Store.length c3], .int .i64 (p_server)] w fun v w' => ∃ A_1 c_1 A_2 c_2, v = .agg #[.string (bs ((i_Shift_table p_c p_server).Name)), .slice A_1 (((i_Shift_table p_c p_server).Cols).length) c_1, .slice A_2 (((i_Shift_table p_c p_server).Idxs).length) c_2] ∧ RdS w' (Iv 0 w'.heap.size) (RF e_Str) 1 A_1 ((i_Shift_table p_c p_server).Cols).length c_1 ((i_Shift_table p_c p_server).Cols) ∧ RdS w' (Iv 0 w'.heap.size) (RF e_Idx) 3 A_2 ((i_Shift_table p_c p_server).Idxs).length c_2 ((i_Shift_table p_c p_server).Idxs) ∧ ok_Table (i_Shift_table p_c p_server) ∧ Ex w w' := by
 have hol5 : p_c.Name.length ≤ 1073741824 := o4.1
 have hol6 := o4.2.1.1
 have hol7 := o4.2.2.1.1
 have hol8 := o4.2.2.2.1
 refine Cal.of (vs := [.agg #[.string (bs (p_c.Name)), .slice A1 p_c.Ways.length c1, .slice A2 p_c.At.length c2, .slice A3 p_c.Store.length c3], .int .i64 (p_server)]) Try.func158 rfl Try.ntmps158 rfl (CW.seq (CW.region (sd rfl (yl_box (cs := [.string (bs (p_c.Name)), .slice A1 p_c.Ways.length c1, .slice A2 p_c.At.length c2, .slice A3 p_c.Store.length c3]) rfl rfl rfl ?_))))
 intro b9 w10 hs11 hz12 hB13 hE14
 refine sd rfl (yl_alloc Try.ty59 (cs := [.string (bs (([] : Str))), .slice none 0 0, .slice none 0 0]) rfl rfl ?_)
 intro b15 w16 hs17 hz18 hB19 hE20
 refine SeqR.done (tn (CW.seq ?_))
 have q21 := Box.ex hB13 hE20
 obtain ⟨eb24, eo24, ec24, eA24, eS24, ebl24, el24, eR24, eC24⟩ := RdS.atD (RdS.ex good_Int (RdS.ex good_Int h2 hE14) hE20) d_Int (i := (p_server).toNat) (by first | omega | assumption | (simp only [IntKind.wrap_i64] at *; omega))
 obtain rfl := eR24
 have eC24 : Cells w16 eb24 (eo24 + ((p_server).toNat) * 1) [.int .i64 ((p_c.At.getD ((p_server).toNat) d_Int))] := eC24
 refine CW.drawsI 7 (vgetI [DetI (.pointer (some ⟨b9, 0 + 1, none⟩)), DetI (.slice A1 p_c.Ways.length c1), DetI (.pointer (some ⟨b9, 0 + 2, none⟩)), DetI (.slice A2 p_c.At.length c2), DetI (.int .i64 (p_server)), DetI (.pointer (some ⟨eb24, eo24 + ((p_server).toNat) * 1, none⟩)), DetI (.int .i64 ((p_c.At.getD ((p_server).toNat) d_Int)))]) Try.follows rfl rfl rfl rfl rfl rfl (vgetI_stable ⟨StableI.det _, StableI.det _, StableI.det _, StableI.det _, StableI.det _, StableI.det _, StableI.det _, trivial⟩) ⟨?_, ?_, ?_, ?_, ?_, ?_, ?_, trivial⟩ ?_
 ·exact fun _ _ h => os rfl ((yl_fieldAddr Try.fd91_1 rfl (h.old 2 _ rfl rfl) kI))
 ·exact fun _ _ h => os rfl ((yl_load1 Try.ty88 rfl (h.dt 0 5 rfl rfl rfl) (((Box.ex q21 h.ex).cell 1).trans rfl) kI))
 ·exact fun _ _ h => os rfl ((yl_fieldAddr Try.fd91_2 rfl (h.old 2 _ rfl rfl) kI))
 ·exact fun _ _ h => os rfl ((yl_load1 Try.ty81 rfl (h.dt 2 7 rfl rfl rfl) (((Box.ex q21 h.ex).cell 2).trans rfl) kI))
 ·exact fun _ _ h => os rfl ((yl_move rfl (h.old 1 _ rfl rfl) kI))
 ·intro L52 w53 hi54
  have hE55 := hi54.ex
  have hE55z := Ex.size hE55
  exact os rfl ((yl_indexAddr Try.un81 Try.ty3 rfl (hi54.dt 3 8 rfl rfl rfl) (hi54.dt 4 9 rfl rfl rfl) eA24 (by first | omega | assumption | (simp only [IntKind.wrap_i64] at *; omega)) (by first | omega | assumption | (simp only [IntKind.wrap_i64] at *; omega)) kI))
 ·exact fun _ _ h => os rfl ((yl_load1 Try.ty3 rfl (h.dt 5 10 rfl rfl rfl) ((Cells.ex eC24 h.ex) 0 _ rfl) kI))
 ·intro fl67 fh68 L64 w65 hp66
  have hE69 := hp66.ex
  have hE69z := Ex.size hE69
  have hx70 := hp66.old 4 _ rfl rfl
  obtain ⟨eb76, eo76, ec76, eA76, eS76, ebl76, el76, eR76, eC76⟩ := RdS.atD (RdS.ex good_Table (RdS.ex good_Table (RdS.ex good_Table h1 hE14) hE20) hE69) d_Table (i := ((p_c.At.getD ((p_server).toNat) d_Int)).toNat) (by first | omega | assumption | (simp only [IntKind.wrap_i64] at *; omega))
  obtain ⟨A77, c77, A78, c78, rfl, h77, h78⟩ := eR76
  have eC76 : Cells w65 eb76 (eo76 + (((p_c.At.getD ((p_server).toNat) d_Int)).toNat) * 3) [.string (bs ((p_c.Ways.getD (((p_c.At.getD ((p_server).toNat) d_Int)).toNat) d_Table).Name)), .slice A77 (((p_c.Ways.getD (((p_c.At.getD ((p_server).toNat) d_Int)).toNat) d_Table).Cols).length) c77, .slice A78 (((p_c.Ways.getD (((p_c.At.getD ((p_server).toNat) d_Int)).toNat) d_Table).Idxs).length) c78] := eC76
  refine sd rfl (yl_indexAddr Try.un88 Try.ty59 rfl (hp66.nt 1 6 rfl rfl rfl) (hp66.nt 6 11 rfl rfl rfl) eA76 (by first | omega | assumption | (simp only [IntKind.wrap_i64] at *; omega)) (by first | omega | assumption | (simp only [IntKind.wrap_i64] at *; omega)) (sd rfl (yl_loadN (cs := [.string (bs ((p_c.Ways.getD (((p_c.At.getD ((p_server).toNat) d_Int)).toNat) d_Table).Name)), .slice A77 (((p_c.Ways.getD (((p_c.At.getD ((p_server).toNat) d_Int)).toNat) d_Table).Cols).length) c77, .slice A78 (((p_c.Ways.getD (((p_c.At.getD ((p_server).toNat) d_Int)).toNat) d_Table).Idxs).length) c78]) Try.ty59 rfl rfl eC76 rfl (SeqR.u rfl rfl (yl_store (vs := [.string (bs ((p_c.Ways.getD (((p_c.At.getD ((p_server).toNat) d_Int)).toNat) d_Table).Name)), .slice A77 (((p_c.Ways.getD (((p_c.At.getD ((p_server).toNat) d_Int)).toNat) d_Table).Cols).length) c77, .slice A78 (((p_c.Ways.getD (((p_c.At.getD ((p_server).toNat) d_Int)).toNat) d_Table).Idxs).length) c78]) Try.ty59 rfl hx70 rfl rfl rfl rfl (Box.ex hB19 hE69) (Nat.le_of_ble_eq_true rfl) ?_)))))
  intro w80 hB81 hO82
  have hB81 : Box w80 b15 59 [.string (bs ((p_c.Ways.getD (((p_c.At.getD ((p_server).toNat) d_Int)).toNat) d_Table).Name)), .slice A77 (((p_c.Ways.getD (((p_c.At.getD ((p_server).toNat) d_Int)).toNat) d_Table).Cols).length) c77, .slice A78 (((p_c.Ways.getD (((p_c.At.getD ((p_server).toNat) d_Int)).toNat) d_Table).Idxs).length) c78] := hB81
  have hO82z := hO82.size
  refine SeqR.done (tn (CW.sub (Sub.cons (d := 4) hx70 (Sub.nil _)) (CW.ret (rr rfl (.cons ⟨_, rfl, run_loadN Try.ty59 (cs := [.string (bs ((p_c.Ways.getD (((p_c.At.getD ((p_server).toNat) d_Int)).toNat) d_Table).Name)), .slice A77 (((p_c.Ways.getD (((p_c.At.getD ((p_server).toNat) d_Int)).toNat) d_Table).Cols).length) c77, .slice A78 (((p_c.Ways.getD (((p_c.At.getD ((p_server).toNat) d_Int)).toNat) d_Table).Idxs).length) c78]) rfl (hB81.cells (n := 3) rfl)⟩ .nil) ?_))))
  have hM83 : (i_Shift_table p_c p_server) = ((p_c.Ways.getD (((p_c.At.getD ((p_server).toNat) d_Int)).toNat) d_Table)) := by simp only [i_Shift_table, cond_true, cond_false, loopE_done, loopE_ret]
  rw [hM83]
  exact ⟨A77, c77, A78, c78, rfl, (RdS.up (RdS.only good_Str h77 hO82 (by simp only [Iv]; omega)) good_Str), (RdS.up (RdS.only good_Idx h78 hO82 (by simp only [Iv]; omega)) good_Idx), (okL.getD o4.2.1 ok_d_Table _), (Below.only (Ex.trans (Ex.trans (Ex.trans (Ex.refl w) hE14) hE20) hE69) hO82 (by omega))⟩
set_option maxRecDepth 100000 in
set_option maxHeartbeats 2000000 in
theorem c_i_Shift_need {A1 : Option Addr} {c1 : Nat} {A2 : Option Addr} {c2 : Nat} {A3 : Option Addr} {c3 : Nat} {w : World} (p_c : DShift) (h1 : RdS w (Iv 0 w.heap.size) R_Table 3 A1 p_c.Ways.length c1 p_c.Ways) (h2 : RdS w (Iv 0 w.heap.size) (RF e_Int) 1 A2 p_c.At.length c2 p_c.At) (h3 : RdS w (Iv 0 w.heap.size) (RF e_Write) 3 A3 p_c.Store.length c3 p_c.Store) (o4 : ok_Shift p_c) (pre0 : ShiftOk p_c) : Cal Try.prog 97 #[.agg #[.string (bs (p_c.Name)), .slice A1 p_c.Ways.length c1, .slice A2 p_c.At.length c2, .slice A3 p_c.Store.length c3]] w fun v w' => v = .int .i64 ((i_Shift_need p_c)) ∧ Ex w w' := by
 have hol5 : p_c.Name.length ≤ 1073741824 := o4.1
 have hol6 := o4.2.1.1
 have hol7 := o4.2.2.1.1
 have hol8 := o4.2.2.2.1
 refine Cal.of (vs := [.agg #[.string (bs (p_c.Name)), .slice A1 p_c.Ways.length c1, .slice A2 p_c.At.length c2, .slice A3 p_c.Store.length c3]]) Try.func97 rfl Try.ntmps97 rfl (CW.seq (CW.region (sd rfl (yl_box (cs := [.string (bs (p_c.Name)), .slice A1 p_c.Ways.length c1, .slice A2 p_c.At.length c2, .slice A3 p_c.Store.length c3]) rfl rfl rfl ?_))))
 intro b9 w10 hs11 hz12 hB13 hE14
 refine sd rfl (yl_assign rfl rfl (SeqR.done (tn (CW.seq (CW.region (sd rfl (yl_assign rfl rfl (SeqR.done (tn (CW.seq ?_))))))))))
 refine CW.seq (CW.region (sd rfl (yl_fieldAddr Try.fd91_2 rfl rfl (sd rfl (yl_load1 Try.ty81 rfl rfl ((hB13.cell 2).trans rfl) (sd rfl (yl_len Try.un81 rfl rfl (sd rfl (yl_move rfl rfl (SeqR.done (tn (CW.block ?_))))))))))))
 refine CW.loop (fun m17 L18 w19 => ∃ (k15 : Nat) (x16 : Int), m17 = p_c.At.length - k15 ∧ k15 ≤ p_c.At.length ∧ w10.heap.size ≤ w19.heap.size ∧ lkp L18 1 = some (.pointer (some ⟨b9, 0, none⟩)) ∧ lkp L18 3 = some (.int .i64 (x16)) ∧ lkp L18 7 = some (.int .i64 ((p_c.At.length : Int))) ∧ lkp L18 8 = some (.int .i64 ((k15 : Int))) ∧ Box w19 b9 91 [.string (bs (p_c.Name)), .slice A1 p_c.Ways.length c1, .slice A2 p_c.At.length c2, .slice A3 p_c.Store.length c3] ∧ RdS w19 (Iv 0 w.heap.size) R_Table 3 A1 p_c.Ways.length c1 p_c.Ways ∧ RdS w19 (Iv 0 w.heap.size) (RF e_Int) 1 A2 p_c.At.length c2 p_c.At ∧ RdS w19 (Iv 0 w.heap.size) (RF e_Write) 3 A3 p_c.Store.length c3 p_c.Store ∧ Ex w w19 ∧ loopM (B_i_Shift_need_0 p_c) (p_c.At.length - k15) k15 (x16) = loopM (B_i_Shift_need_0 p_c) (p_c.At.length - 0) 0 (1)) (p_c.At.length - 0) ?_ ?_
 ·exact ⟨0, 1, rfl, (by omega), Nat.le_refl _, rfl, rfl, rfl, rfl, hB13, (RdS.ex good_Table h1 hE14), (RdS.ex good_Int h2 hE14), (RdS.ex good_Write h3 hE14), (Ex.trans (Ex.refl w) hE14), rfl⟩
 ·rintro m24 L25 w26 ⟨k15, x16, rfl, hk27, hsz29, hl30, hl31, hl32, hl33, hf34, hf35, hf36, hf37, hf38, hI28⟩
  refine CW.sub (Sub.cons hl30 (Sub.cons hl31 (Sub.cons hl32 (Sub.cons hl33 (Sub.nil _))))) ?_
  have hf34z := Box.lt hf34
  have hf38z := Ex.size hf38
  have hbg39 := RdS.big hf36
  rcases Nat.lt_or_ge k15 p_c.At.length with hlt40 | hlt40
  ·have hso := ShiftOk.at_ pre0 hlt40
   refine CW.seq (CW.region (sd rfl (yl_lss rfl rfl rfl (SeqR.done (tn (CW.seq (CW.cond_t rfl (lt_t hlt40) (CW.skip (tn ?_)))))))))
   refine CW.seq (CW.block (CW.seq (CW.region (sd rfl (yl_move rfl rfl (sd rfl (yl_assign rfl rfl (SeqR.done (tn (CW.seq ?_))))))))))
   refine CW.drawsI 5 (vgetI [DetI (.agg #[.string (bs (p_c.Name)), .slice A1 p_c.Ways.length c1, .slice A2 p_c.At.length c2, .slice A3 p_c.Store.length c3]), DetI (.agg #[.string (bs (p_c.Name)), .slice A1 p_c.Ways.length c1, .slice A2 p_c.At.length c2, .slice A3 p_c.Store.length c3]), DetI (.int .i64 ((k15 : Int))), fun lo hi v wq => ∃ A42 c42 A43 c43, v = .agg #[.string (bs ((i_Shift_table p_c (k15 : Int)).Name)), .slice A42 (((i_Shift_table p_c (k15 : Int)).Cols).length) c42, .slice A43 (((i_Shift_table p_c (k15 : Int)).Idxs).length) c43] ∧ RdS wq Any (RF e_Str) 1 A42 ((i_Shift_table p_c (k15 : Int)).Cols).length c42 ((i_Shift_table p_c (k15 : Int)).Cols) ∧ RdS wq Any (RF e_Idx) 3 A43 ((i_Shift_table p_c (k15 : Int)).Idxs).length c43 ((i_Shift_table p_c (k15 : Int)).Idxs) ∧ ok_Table (i_Shift_table p_c (k15 : Int)), DetI (.int .i64 ((i_Shift_stageOf p_c (i_Shift_table p_c (k15 : Int)))))]) Try.follows rfl rfl rfl rfl rfl rfl (vgetI_stable ⟨StableI.det _, StableI.det _, StableI.det _, (fun _ _ _ _ _ ⟨A42, c42, A43, c43, hv, h42, h43, ho44⟩ e => ⟨A42, c42, A43, c43, hv, RdS.ex good_Str h42 e, RdS.ex good_Idx h43 e, ho44⟩), StableI.det _, trivial⟩) ⟨?_, ?_, ?_, ?_, ?_, trivial⟩ ?_
   ·exact fun _ _ h => os rfl ((yl_loadN (cs := [.string (bs (p_c.Name)), .slice A1 p_c.Ways.length c1, .slice A2 p_c.At.length c2, .slice A3 p_c.Store.length c3]) Try.ty91 rfl (h.old 1 _ rfl rfl) ((Box.ex hf34 h.ex).cells (n := 4) rfl) rfl kI))
   ·exact fun _ _ h => os rfl ((yl_loadN (cs := [.string (bs (p_c.Name)), .slice A1 p_c.Ways.length c1, .slice A2 p_c.At.length c2, .slice A3 p_c.Store.length c3]) Try.ty91 rfl (h.old 1 _ rfl rfl) ((Box.ex hf34 h.ex).cells (n := 4) rfl) rfl kI))
   ·exact fun _ _ h => os rfl ((yl_move rfl (h.old 4 _ rfl rfl) kI))
   ·intro L63 w64 hi65
    have hE66 := hi65.ex
    have hE66z := Ex.size hE66
    refine OpR.op' rfl (yl_call Try.en158 rfl (opvs_cons (hi65.dt 1 12 rfl rfl rfl) (opvs_cons (hi65.dt 2 13 rfl rfl rfl) opvs_nil)) (Cal.mono (c_i_Shift_table p_c (k15 : Int) (RdS.up (RdS.ex good_Table hf35 hE66) good_Table) (RdS.up (RdS.ex good_Int hf36 hE66) good_Int) (RdS.up (RdS.ex good_Write hf37 hE66) good_Write) o4 (by first | omega | assumption | (simp only [IntKind.wrap_i64] at *; omega)) (by first | omega | assumption | (simp only [IntKind.wrap_i64] at *; omega))) ?_))
    rintro v76 w72 ⟨A73, c73, A74, c74, rfl, h73, h74, ho75, hE77⟩
    exact ⟨⟨A73, c73, A74, c74, rfl, RdS.wide good_Str h73 (fun _ hh _ => trivial), RdS.wide good_Idx h74 (fun _ hh _ => trivial), ho75⟩, hE77⟩
   ·intro L78 w79 hi80
    have hE81 := hi80.ex
    have hE81z := Ex.size hE81
    obtain ⟨lo84, hh85, _, hx83, hr86, hr87, hr88, A42_89, c42_90, A43_91, c43_92, rfl, h93, h94, h95⟩ := hi80.dep 3 14 rfl rfl
    refine OpR.op' rfl (yl_call Try.en152 rfl (opvs_cons (hi80.dt 0 11 rfl rfl rfl) (opvs_cons hx83 opvs_nil)) (Cal.mono (c_i_Shift_stageOf p_c (i_Shift_table p_c (k15 : Int)) (RdS.up (RdS.ex good_Table hf35 hE81) good_Table) (RdS.up (RdS.ex good_Int hf36 hE81) good_Int) (RdS.up (RdS.ex good_Write hf37 hE81) good_Write) (RdS.up h93 good_Str) (RdS.up h94 good_Idx) o4 h95 (by first | omega | assumption | (simp only [IntKind.wrap_i64] at *; omega))) ?_))
    rintro v100 w99 ⟨rfl, hE101⟩
    exact ⟨rfl, hE101⟩
   ·intro fl105 fh106 L102 w103 hp104
    have hE107 := hp104.ex
    have hE107z := Ex.size hE107
    refine SeqR.done (tn (CW.sub (Sub.cons (d := 1) (hp104.old 1 _ rfl rfl) (Sub.cons (d := 3) (hp104.old 3 _ rfl rfl) (Sub.cons (d := 7) (hp104.old 7 _ rfl rfl) (Sub.cons (d := 8) (hp104.old 8 _ rfl rfl) (Sub.cons (d := 15) (hp104.nt 4 15 rfl rfl rfl) (Sub.nil _)))))) (CW.block (CW.seq (CW.region (sd rfl (yl_eql rfl rfl rfl (sd rfl (yl_assign rfl rfl (SeqR.done ?_))))))))))
    refine tn (bcase (decide ((i_Shift_stageOf p_c (i_Shift_table p_c (k15 : Int))) = 3)) (fun hb113 => ?_) (fun hb113 => ?_))
    ·have hb113p := dec_t hb113
     refine CW.cond_t rfl hb113 (CW.seq (CW.region (sd rfl (yl_assign rfl rfl (SeqR.done (tn (CW.ret (br (br ?_)))))))))
     refine tr (tr ?_)
     have hB115 : B_i_Shift_need_0 p_c k15 (x16) = .ret 2 := by simp only [B_i_Shift_need_0, hb113, cond_true, cond_false, loopE_done, loopE_ret]
     have hL114 : loopM (B_i_Shift_need_0 p_c) (p_c.At.length - 0) 0 (1) = .ret 2 := hI28.symm.trans (loopM.ret hlt40 hB115)
     refine br (tr (rr rfl (.cons rfl .nil) ?_))
     have hM116 : (i_Shift_need p_c) = (2) := by simp only [i_Shift_need, hb113, hL114, cond_true, cond_false, loopE_done, loopE_ret]
     rw [hM116]
     exact ⟨rfl, (Ex.trans hf38 hE107)⟩
    ·have hb113p := dec_f hb113
     refine CW.cond_f rfl hb113 (CW.seq (CW.region (sd rfl (yl_eql rfl rfl rfl (sd rfl (yl_assign rfl rfl (SeqR.done (tn (bcase (decide ((i_Shift_stageOf p_c (i_Shift_table p_c (k15 : Int))) = 0)) (fun hb118 => ?_) (fun hb118 => ?_))))))))))
     ·have hb118p := dec_t hb118
      refine CW.cond_t rfl hb118 (CW.region (sd rfl (yl_assign rfl rfl (SeqR.done (bn (bn (tn (CW.region (sd rfl (yl_inc rfl rfl rfl (by omega) ?_))))))))))
      refine sd rfl (yl_move rfl rfl (SeqR.done (tn ?_)))
      have hB119 : B_i_Shift_need_0 p_c k15 (x16) = .cont (0) := by simp only [B_i_Shift_need_0, hb113, hb118, cond_true, cond_false, loopE_done, loopE_ret]
      exact ⟨p_c.At.length - (k15 + 1), by omega, k15 + 1, 0, rfl, hlt40, (by omega), rfl, rfl, rfl, rfl, (Box.ex hf34 hE107), (RdS.ex good_Table hf35 hE107), (RdS.ex good_Int hf36 hE107), (RdS.ex good_Write hf37 hE107), (Ex.trans hf38 hE107), (loopM.cont hlt40 hB119).symm.trans hI28⟩
     ·have hb118p := dec_f hb118
      refine CW.cond_f rfl hb118 (CW.skip (bn (bn (tn (CW.region (sd rfl (yl_inc rfl rfl rfl (by omega) (sd rfl (yl_move rfl rfl (SeqR.done ?_))))))))))
      refine tn ?_
      have hB125 : B_i_Shift_need_0 p_c k15 (x16) = .cont (x16) := by simp only [B_i_Shift_need_0, hb113, hb118, cond_true, cond_false, loopE_done, loopE_ret]
      exact ⟨p_c.At.length - (k15 + 1), by omega, k15 + 1, x16, rfl, hlt40, (by omega), rfl, rfl, rfl, rfl, (Box.ex hf34 hE107), (RdS.ex good_Table hf35 hE107), (RdS.ex good_Int hf36 hE107), (RdS.ex good_Write hf37 hE107), (Ex.trans hf38 hE107), (loopM.cont hlt40 hB125).symm.trans hI28⟩
  ·refine CW.seq (CW.region (sd rfl (yl_lss rfl rfl rfl (SeqR.done (tn (CW.seq (CW.cond_f rfl (lt_f hlt40) (CW.exit (tx ?_)))))))))
   refine tx ?_
   have hL131 : loopM (B_i_Shift_need_0 p_c) (p_c.At.length - 0) 0 (1) = .done (x16) := hI28.symm.trans (loopM.stop hlt40)
   refine bx (tn (CW.seq (CW.region (sd rfl (yl_move rfl rfl (sd rfl (yl_assign rfl rfl (SeqR.done (tn (CW.ret ?_))))))))))
   refine rr rfl (.cons rfl .nil) ?_
   have hM132 : (i_Shift_need p_c) = (x16) := by simp only [i_Shift_need, hL131, cond_true, cond_false, loopE_done, loopE_ret]
   rw [hM132]
   exact ⟨rfl, hf38⟩
set_option maxRecDepth 100000 in
set_option maxHeartbeats 2000000 in
theorem c_i_NeedOf {A1 : Option Addr} {c1 : Nat} {A2 : Option Addr} {c2 : Nat} {A3 : Option Addr} {c3 : Nat} {w : World} (p_c : DShift) (h1 : RdS w (Iv 0 w.heap.size) R_Table 3 A1 p_c.Ways.length c1 p_c.Ways) (h2 : RdS w (Iv 0 w.heap.size) (RF e_Int) 1 A2 p_c.At.length c2 p_c.At) (h3 : RdS w (Iv 0 w.heap.size) (RF e_Write) 3 A3 p_c.Store.length c3 p_c.Store) (o4 : ok_Shift p_c) : Cal Try.prog 40 #[.agg #[.string (bs (p_c.Name)), .slice A1 p_c.Ways.length c1, .slice A2 p_c.At.length c2, .slice A3 p_c.Store.length c3]] w fun v w' => v = .tuple #[.int .i64 ((i_NeedOf p_c).1), .bool ((i_NeedOf p_c).2)] ∧ Ex w w' := by
 have hol5 : p_c.Name.length ≤ 1073741824 := o4.1
 have hol6 := o4.2.1.1
 have hol7 := o4.2.2.1.1
 have hol8 := o4.2.2.2.1
 refine Cal.of (vs := [.agg #[.string (bs (p_c.Name)), .slice A1 p_c.Ways.length c1, .slice A2 p_c.At.length c2, .slice A3 p_c.Store.length c3]]) Try.func40 rfl Try.ntmps40 rfl (CW.seq (CW.region (sd rfl (yl_box (cs := [.string (bs (p_c.Name)), .slice A1 p_c.Ways.length c1, .slice A2 p_c.At.length c2, .slice A3 p_c.Store.length c3]) rfl rfl rfl ?_))))
 intro b9 w10 hs11 hz12 hB13 hE14
 refine sd rfl (yl_assign rfl rfl (sd rfl (yl_assign rfl rfl (SeqR.done (tn (CW.seq (CW.seq (CW.region (sd rfl (yl_loadN (cs := [.string (bs (p_c.Name)), .slice A1 p_c.Ways.length c1, .slice A2 p_c.At.length c2, .slice A3 p_c.Store.length c3]) Try.ty91 rfl rfl (hB13.cells (n := 4) rfl) rfl ?_))))))))))
 have q15 := RdS.ex good_Table h1 hE14
 have q16 := RdS.ex good_Int h2 hE14
 have q17 := RdS.ex good_Write h3 hE14
 refine sd rfl (yl_call Try.en92 rfl (opvs_cons rfl opvs_nil) (Cal.mono (c_i_GoodShift p_c (RdS.up q15 good_Table) (RdS.up q16 good_Int) (RdS.up q17 good_Write) o4) ?_))
 rintro v19 w18 ⟨rfl, hE20⟩
 have hE20z := Ex.size hE20
 refine sd rfl (yl_not rfl rfl (SeqR.done (tn (bcase (i_GoodShift p_c) (fun hb21 => ?_) (fun hb21 => ?_)))))
 ·obtain ⟨hb21p0, hb21p1⟩ := f_i_GoodShift hb21
  refine CW.cond_f rfl (not_t hb21) (CW.skip (tn (CW.seq (CW.region (sd rfl (yl_loadN (cs := [.string (bs (p_c.Name)), .slice A1 p_c.Ways.length c1, .slice A2 p_c.At.length c2, .slice A3 p_c.Store.length c3]) Try.ty91 rfl rfl ((Box.ex hB13 hE20).cells (n := 4) rfl) rfl (sd rfl (yl_call Try.en97 rfl (opvs_cons rfl opvs_nil) (Cal.mono (c_i_Shift_need p_c (RdS.up (RdS.ex good_Table q15 hE20) good_Table) (RdS.up (RdS.ex good_Int q16 hE20) good_Int) (RdS.up (RdS.ex good_Write q17 hE20) good_Write) o4 (by first | omega | assumption | (simp only [IntKind.wrap_i64] at *; omega))) ?_)))))))))
  rintro v27 w26 ⟨rfl, hE28⟩
  have hE28z := Ex.size hE28
  refine sd rfl (yl_assign rfl rfl (sd rfl (yl_assign rfl rfl (SeqR.done (tn (CW.ret (rr rfl (.cons rfl (.cons rfl .nil)) ?_)))))))
  have hM29 : (i_NeedOf p_c) = (((i_Shift_need p_c), true)) := by simp only [i_NeedOf, hb21, cond_true, cond_false, loopE_done, loopE_ret]
  rw [hM29]
  exact ⟨rfl, (Ex.trans (Ex.trans (Ex.trans (Ex.refl w) hE14) hE20) hE28)⟩
 ·refine CW.cond_t rfl (not_f hb21) (CW.seq (CW.region (sd rfl (yl_assign rfl rfl (sd rfl (yl_assign rfl rfl (SeqR.done (tn (CW.ret (tr ?_))))))))))
  refine rr rfl (.cons rfl (.cons rfl .nil)) ?_
  have hM33 : (i_NeedOf p_c) = ((0, false)) := by simp only [i_NeedOf, hb21, cond_true, cond_false, loopE_done, loopE_ret]
  rw [hM33]
  exact ⟨rfl, (Ex.trans (Ex.trans (Ex.refl w) hE14) hE20)⟩
set_option maxRecDepth 100000 in
set_option maxHeartbeats 2000000 in
theorem c_l_FnExactNeedOf {A1 : Option Addr} {c1 : Nat} {A2 : Option Addr} {c2 : Nat} {A3 : Option Addr} {c3 : Nat} {w : World} (p_aC : DShift) (h1 : RdS w (Iv 0 w.heap.size) R_Table 3 A1 p_aC.Ways.length c1 p_aC.Ways) (h2 : RdS w (Iv 0 w.heap.size) (RF e_Int) 1 A2 p_aC.At.length c2 p_aC.At) (h3 : RdS w (Iv 0 w.heap.size) (RF e_Write) 3 A3 p_aC.Store.length c3 p_aC.Store) (pre0 : wf_Shift p_aC) : Cal Try.prog 8 #[.agg #[.string (bs (p_aC.Name)), .slice A1 p_aC.Ways.length c1, .slice A2 p_aC.At.length c2, .slice A3 p_aC.Store.length c3]] w fun v w' => v = .bool ((l_FnExactNeedOf p_aC)) ∧ Ex w w' := by
 refine Cal.of (vs := [.agg #[.string (bs (p_aC.Name)), .slice A1 p_aC.Ways.length c1, .slice A2 p_aC.At.length c2, .slice A3 p_aC.Store.length c3]]) Try.func8 rfl Try.ntmps8 rfl (CW.seq (CW.region (sd rfl (yl_box (cs := [.string (bs (p_aC.Name)), .slice A1 p_aC.Ways.length c1, .slice A2 p_aC.At.length c2, .slice A3 p_aC.Store.length c3]) rfl rfl rfl ?_))))
 intro b4 w5 hs6 hz7 hB8 hE9
 refine sd rfl (yl_assign rfl rfl (SeqR.done (tn (CW.seq (CW.region (sd rfl (yl_assign rfl rfl (SeqR.done (tn (CW.seq ?_))))))))))
 refine CW.region (sd rfl (yl_loadN (cs := [.string (bs (p_aC.Name)), .slice A1 p_aC.Ways.length c1, .slice A2 p_aC.At.length c2, .slice A3 p_aC.Store.length c3]) Try.ty84 rfl rfl (hB8.cells (n := 4) rfl) rfl (sd rfl (yl_move rfl rfl ?_))))
 have q10 := RdS.ex good_Table h1 hE9
 have q11 := RdS.ex good_Int h2 hE9
 have q12 := RdS.ex good_Write h3 hE9
 refine sd rfl (yl_call Try.en34 rfl (opvs_cons rfl (opvs_cons rfl opvs_nil)) (Cal.mono (c_l_szShift p_aC 1048576 (RdS.up q10 good_Table) (RdS.up q11 good_Int) (RdS.up q12 good_Write)) ?_))
 rintro v14 w13 ⟨rfl, hE15⟩
 have hE15z := Ex.size hE15
 refine sd rfl (yl_assign rfl rfl (SeqR.done (tn (CW.seq (CW.seq (CW.region (sd rfl (yl_move rfl rfl (sd rfl (yl_lss rfl rfl rfl (SeqR.done ?_)))))))))))
 refine tn (bcase (decide ((l_szShift p_aC 1048576) < 0)) (fun hb16 => ?_) (fun hb16 => ?_))
 ·have hb16p := dec_t hb16
  refine CW.cond_t rfl hb16 (CW.seq (CW.region (sd rfl (yl_assign rfl rfl (SeqR.done (tn (CW.ret (tr (rr rfl (.cons rfl .nil) ?_)))))))))
  have hM17 : (l_FnExactNeedOf p_aC) = (true) := by simp only [l_FnExactNeedOf, hb16, cond_true, cond_false, loopE_done, loopE_ret]
  rw [hM17]
  exact ⟨rfl, (Ex.trans (Ex.trans (Ex.refl w) hE9) hE15)⟩
 ·have hb16p := dec_f hb16
  refine CW.cond_f rfl hb16 (CW.skip (tn (CW.seq (CW.region ?_))))
  have q20 := Box.ex hB8 hE15
  refine sd rfl (yl_loadN (cs := [.string (bs (p_aC.Name)), .slice A1 p_aC.Ways.length c1, .slice A2 p_aC.At.length c2, .slice A3 p_aC.Store.length c3]) Try.ty84 rfl rfl (q20.cells (n := 4) rfl) rfl ?_)
  have q21 := RdS.ex good_Table q10 hE15
  have q22 := RdS.ex good_Int q11 hE15
  have q23 := RdS.ex good_Write q12 hE15
  refine sd rfl (yl_call Try.en36 rfl (opvs_cons rfl opvs_nil) (Cal.mono (c_l_toShift p_aC (RdS.up q21 good_Table) (RdS.up q22 good_Int) (RdS.up q23 good_Write) ((szok_Shift pre0 (by decide) (dec_f hb16)).1)) ?_))
  rintro v28 w24 ⟨A25, c25, lo25, hi25, A26, c26, lo26, hi26, A27, c27, lo27, hi27, rfl, h25, h26, h27, hrn30, hrn31, hrn32, hrn33, hrn34, hrn35, hE29⟩
  have hE29z := Ex.size hE29
  refine sd rfl (yl_call Try.en39 rfl (opvs_cons rfl opvs_nil) (Cal.mono (c_s_NeedOf p_aC (RdS.up (OwnL.rd good_Table h25) good_Table) (RdS.up (OwnL.rd good_Int h26) good_Int) (RdS.up (OwnL.rd good_Write h27) good_Write) ((szok_Shift pre0 (by decide) (dec_f hb16)).1)) ?_))
  rintro v40 w39 ⟨rfl, hE41⟩
  have hE41z := Ex.size hE41
  refine sd rfl (yl_move rfl rfl (sd rfl (yl_extract rfl rfl rfl (sd rfl (yl_extract rfl rfl rfl (sd rfl (yl_assign rfl rfl (sd rfl (yl_assign rfl rfl (SeqR.done (tn (CW.seq (CW.region ?_)))))))))))))
  have q43 := Box.ex (Box.ex q20 hE29) hE41
  refine sd rfl (yl_loadN (cs := [.string (bs (p_aC.Name)), .slice A1 p_aC.Ways.length c1, .slice A2 p_aC.At.length c2, .slice A3 p_aC.Store.length c3]) Try.ty84 rfl rfl (q43.cells (n := 4) rfl) rfl ?_)
  have q45 := RdS.ex good_Table (RdS.ex good_Table q21 hE29) hE41
  have q47 := RdS.ex good_Int (RdS.ex good_Int q22 hE29) hE41
  have q49 := RdS.ex good_Write (RdS.ex good_Write q23 hE29) hE41
  refine sd rfl (yl_call Try.en36 rfl (opvs_cons rfl opvs_nil) (Cal.mono (c_l_toShift p_aC (RdS.up q45 good_Table) (RdS.up q47 good_Int) (RdS.up q49 good_Write) ((szok_Shift pre0 (by decide) (dec_f hb16)).1)) ?_))
  rintro v54 w50 ⟨A51, c51, lo51, hi51, A52, c52, lo52, hi52, A53, c53, lo53, hi53, rfl, h51, h52, h53, hrn56, hrn57, hrn58, hrn59, hrn60, hrn61, hE55⟩
  have hE55z := Ex.size hE55
  refine sd rfl (yl_alloc Try.ty91 (cs := [.string (bs (([] : Str))), .slice none 0 0, .slice none 0 0, .slice none 0 0]) rfl rfl ?_)
  intro b62 w63 hs64 hz65 hB66 hE67
  refine SeqR.u rfl rfl (yl_store (vs := [.string (bs (p_aC.Name)), .slice A51 p_aC.Ways.length c51, .slice A52 p_aC.At.length c52, .slice A53 p_aC.Store.length c53]) Try.ty91 rfl rfl rfl rfl rfl rfl hB66 (Nat.le_of_ble_eq_true rfl) ?_)
  intro w68 hB69 hO70
  have hB69 : Box w68 b62 91 [.string (bs (p_aC.Name)), .slice A51 p_aC.Ways.length c51, .slice A52 p_aC.At.length c52, .slice A53 p_aC.Store.length c53] := hB69
  have hO70z := hO70.size
  refine SeqR.done (tn (CW.seq (CW.region (sd rfl (yl_loadN (cs := [.string (bs (p_aC.Name)), .slice A51 p_aC.Ways.length c51, .slice A52 p_aC.At.length c52, .slice A53 p_aC.Store.length c53]) Try.ty91 rfl rfl (hB69.cells (n := 4) rfl) rfl ?_)))))
  have q73 := OwnL.only good_Table (OwnL.ex good_Table h51 hE67) hO70 (by omega)
  have q76 := OwnL.only good_Int (OwnL.ex good_Int h52 hE67) hO70 (by omega)
  have q79 := OwnL.only good_Write (OwnL.ex good_Write h53 hE67) hO70 (by omega)
  refine sd rfl (yl_call Try.en40 rfl (opvs_cons rfl opvs_nil) (Cal.mono (c_i_NeedOf p_aC (RdS.up (OwnL.rd good_Table q73) good_Table) (RdS.up (OwnL.rd good_Int q76) good_Int) (RdS.up (OwnL.rd good_Write q79) good_Write) ((szok_Shift pre0 (by decide) (dec_f hb16)).1)) ?_))
  rintro v81 w80 ⟨rfl, hE82⟩
  have hE82z := Ex.size hE82
  refine sd rfl (yl_move rfl rfl (sd rfl (yl_extract rfl rfl rfl (sd rfl (yl_extract rfl rfl rfl (sd rfl (yl_assign rfl rfl (sd rfl (yl_assign rfl rfl (SeqR.done (tn (CW.seq (CW.seq ?_)))))))))))))
  refine CW.region (sd rfl (yl_move rfl rfl (sd rfl (yl_move rfl rfl (sd rfl (yl_neq rfl rfl rfl (sd rfl (yl_move rfl rfl (bcase (decide (((i_NeedOf p_aC).1) = ((s_NeedOf p_aC).1))) (fun hb83 => ?_) (fun hb83 => ?_))))))))))
  ·have hb83p := dec_t hb83
   refine sy rfl rfl (not_t hb83) (yl_move rfl rfl (sy rfl rfl (not_t hb83) (yl_move rfl rfl (sy rfl rfl (not_t hb83) (yl_bneq Try.un4 rfl rfl rfl (sd rfl (yl_pick_f rfl rfl (not_t hb83) rfl (SeqR.done (tn (bcase (((i_NeedOf p_aC).2) == ((s_NeedOf p_aC).2)) (fun hb84 => ?_) (fun hb84 => ?_)))))))))))
   ·refine CW.cond_f rfl (not_t hb84) (CW.skip (tn (CW.seq (CW.seq (CW.drawsI 5 (vgetI [DetI (.agg #[.string (bs (p_aC.Name)), .slice A51 p_aC.Ways.length c51, .slice A52 p_aC.At.length c52, .slice A53 p_aC.Store.length c53]), DetI (.agg #[.string (bs (p_aC.Name)), .slice A1 p_aC.Ways.length c1, .slice A2 p_aC.At.length c2, .slice A3 p_aC.Store.length c3]), fun lo hi v wq => ∃ A103 c103 lo103 hi103 A104 c104 lo104 hi104 A105 c105 lo105 hi105, v = .agg #[.string (bs (p_aC.Name)), .slice A103 p_aC.Ways.length c103, .slice A104 p_aC.At.length c104, .slice A105 p_aC.Store.length c105] ∧ OwnL wq lo103 hi103 59 3 R_Table A103 p_aC.Ways.length c103 p_aC.Ways ∧ OwnL wq lo104 hi104 3 1 (RF e_Int) A104 p_aC.At.length c104 p_aC.At ∧ OwnL wq lo105 hi105 54 3 (RF e_Write) A105 p_aC.Store.length c105 p_aC.Store ∧ (lo ≤ lo103 ∧ lo103 ≤ hi103 ∧ hi103 ≤ hi) ∧ (lo ≤ lo104 ∧ lo104 ≤ hi104 ∧ hi104 ≤ hi) ∧ (lo ≤ lo105 ∧ lo105 ≤ hi105 ∧ hi105 ≤ hi) ∧ (hi103 ≤ lo104 ∨ hi104 ≤ lo103) ∧ (hi103 ≤ lo105 ∨ hi105 ≤ lo103) ∧ (hi104 ≤ lo105 ∨ hi105 ≤ lo104), DetI (.bool ((l_eqShift p_aC p_aC))), DetI (.bool (!(l_eqShift p_aC p_aC)))]) Try.follows rfl rfl rfl rfl rfl rfl (vgetI_stable ⟨StableI.det _, StableI.det _, (fun _ _ _ _ _ ⟨A103, c103, lo103, hi103, A104, c104, lo104, hi104, A105, c105, lo105, hi105, hv, h103, h104, h105, hr0, hr1, hr2, hr3, hr4, hr5⟩ e => ⟨A103, c103, lo103, hi103, A104, c104, lo104, hi104, A105, c105, lo105, hi105, hv, OwnL.ex good_Table h103 e, OwnL.ex good_Int h104 e, OwnL.ex good_Write h105 e, hr0, hr1, hr2, hr3, hr4, hr5⟩), StableI.det _, StableI.det _, trivial⟩) ⟨?_, ?_, ?_, ?_, ?_, trivial⟩ ?_)))))
    ·exact fun _ _ h => os rfl ((yl_loadN (cs := [.string (bs (p_aC.Name)), .slice A51 p_aC.Ways.length c51, .slice A52 p_aC.At.length c52, .slice A53 p_aC.Store.length c53]) Try.ty91 rfl (h.old 6 _ rfl rfl) ((Box.ex (Box.ex hB69 hE82) h.ex).cells (n := 4) rfl) rfl kI))
    ·intro L119 w120 hi121
     have hE122 := hi121.ex
     have hE122z := Ex.size hE122
     exact os rfl ((yl_loadN (cs := [.string (bs (p_aC.Name)), .slice A1 p_aC.Ways.length c1, .slice A2 p_aC.At.length c2, .slice A3 p_aC.Store.length c3]) Try.ty84 rfl (hi121.old 1 _ rfl rfl) ((Box.ex (Box.ex (Box.only (Box.ex (Box.ex q43 hE55) hE67) hO70 (by omega)) hE82) hE122).cells (n := 4) rfl) rfl kI))
    ·intro L125 w126 hi127
     have hE128 := hi127.ex
     have hE128z := Ex.size hE128
     refine OpR.op' rfl (yl_call Try.en36 rfl (opvs_cons (hi127.dt 1 36 rfl rfl rfl) opvs_nil) (Cal.mono (c_l_toShift p_aC (RdS.up (RdS.ex good_Table (RdS.ex good_Table (RdS.only good_Table (RdS.ex good_Table (RdS.ex good_Table q45 hE55) hE67) hO70 (by simp only [Iv]; omega)) hE82) hE128) good_Table) (RdS.up (RdS.ex good_Int (RdS.ex good_Int (RdS.only good_Int (RdS.ex good_Int (RdS.ex good_Int q47 hE55) hE67) hO70 (by simp only [Iv]; omega)) hE82) hE128) good_Int) (RdS.up (RdS.ex good_Write (RdS.ex good_Write (RdS.only good_Write (RdS.ex good_Write (RdS.ex good_Write q49 hE55) hE67) hO70 (by simp only [Iv]; omega)) hE82) hE128) good_Write) ((szok_Shift pre0 (by decide) (dec_f hb16)).1)) ?_))
     rintro v137 w133 ⟨A134, c134, lo134, hi134, A135, c135, lo135, hi135, A136, c136, lo136, hi136, rfl, h134, h135, h136, hrn139, hrn140, hrn141, hrn142, hrn143, hrn144, hE138⟩
     exact ⟨⟨A134, c134, lo134, hi134, A135, c135, lo135, hi135, A136, c136, lo136, hi136, rfl, h134, h135, h136, hrn139, hrn140, hrn141, hrn142, hrn143, hrn144⟩, hE138⟩
    ·intro L145 w146 hi147
     have hE148 := hi147.ex
     obtain ⟨lo151, hh152, _, hx150, hr153, hr154, hr155, A103_156, c103_157, lo103_158, hi103_159, A104_160, c104_161, lo104_162, hi104_163, A105_164, c105_165, lo105_166, hi105_167, rfl, h168, h169, h170, hrn171, hrn172, hrn173, hrn174, hrn175, hrn176⟩ := hi147.dep 2 37 rfl rfl
     refine OpR.op' rfl (yl_call Try.en38 rfl (opvs_cons (hi147.dt 0 35 rfl rfl rfl) (opvs_cons hx150 opvs_nil)) (Cal.mono (c_l_eqShift p_aC p_aC (RdS.up (OwnL.rd good_Table (OwnL.ex good_Table (OwnL.ex good_Table q73 hE82) hE148)) good_Table) (RdS.up (OwnL.rd good_Int (OwnL.ex good_Int (OwnL.ex good_Int q76 hE82) hE148)) good_Int) (RdS.up (OwnL.rd good_Write (OwnL.ex good_Write (OwnL.ex good_Write q79 hE82) hE148)) good_Write) (RdS.up (OwnL.rd good_Table h168) good_Table) (RdS.up (OwnL.rd good_Int h169) good_Int) (RdS.up (OwnL.rd good_Write h170) good_Write)) ?_))
     rintro v187 w186 ⟨rfl, hE188⟩
     exact ⟨rfl, hE188⟩
    ·exact fun _ _ h => os rfl ((yl_not rfl (h.dt 3 38 rfl rfl rfl) kI))
    ·intro fl197 fh198 L194 w195 hp196
     have hE199 := hp196.ex
     have hE199z := Ex.size hE199
     have hr201 := hp196.rng 2 rfl
     obtain ⟨_, hx200, A103_202, c103_203, lo103_204, hi103_205, A104_206, c104_207, lo104_208, hi104_209, A105_210, c105_211, lo105_212, hi105_213, rfl, h214, h215, h216, hrn217, hrn218, hrn219, hrn220, hrn221, hrn222⟩ := hp196.new 2 37 rfl rfl
     refine SeqR.done (tn (CW.sub (Sub.cons (d := 39) (hp196.nt 4 39 rfl rfl rfl) (Sub.nil _)) (bcase (l_eqShift p_aC p_aC) (fun hb224 => ?_) (fun hb224 => ?_))))
     ·refine CW.cond_f rfl (not_t hb224) (CW.skip (tn (CW.seq (CW.region (sd rfl (yl_assign rfl rfl (SeqR.done (tn (CW.ret ?_)))))))))
      refine rr rfl (.cons rfl .nil) ?_
      have hM225 : (l_FnExactNeedOf p_aC) = (true) := by simp only [l_FnExactNeedOf, hb16, hb83, hb84, hb224, cond_true, cond_false, loopE_done, loopE_ret]
      rw [hM225]
      exact ⟨rfl, (Ex.trans (Ex.trans (Below.only (Ex.trans (Ex.trans (Ex.trans (Ex.trans (Ex.trans (Ex.trans (Ex.refl w) hE9) hE15) hE29) hE41) hE55) hE67) hO70 (by omega)) hE82) hE199)⟩
     ·refine CW.cond_t rfl (not_f hb224) (CW.seq (CW.region (sd rfl (yl_assign rfl rfl (SeqR.done (tn (CW.ret (tr (rr rfl (.cons rfl .nil) ?_)))))))))
      have hM235 : (l_FnExactNeedOf p_aC) = (false) := by simp only [l_FnExactNeedOf, hb16, hb83, hb84, hb224, cond_true, cond_false, loopE_done, loopE_ret]
      rw [hM235]
      exact ⟨rfl, (Ex.trans (Ex.trans (Below.only (Ex.trans (Ex.trans (Ex.trans (Ex.trans (Ex.trans (Ex.trans (Ex.refl w) hE9) hE15) hE29) hE41) hE55) hE67) hO70 (by omega)) hE82) hE199)⟩
   ·refine CW.cond_t rfl (not_f hb84) (CW.seq (CW.region (sd rfl (yl_assign rfl rfl (SeqR.done (tn (CW.ret (tr (rr rfl (.cons rfl .nil) ?_)))))))))
    have hM245 : (l_FnExactNeedOf p_aC) = (false) := by simp only [l_FnExactNeedOf, hb16, hb83, hb84, cond_true, cond_false, loopE_done, loopE_ret]
    rw [hM245]
    exact ⟨rfl, (Ex.trans (Below.only (Ex.trans (Ex.trans (Ex.trans (Ex.trans (Ex.trans (Ex.trans (Ex.refl w) hE9) hE15) hE29) hE41) hE55) hE67) hO70 (by omega)) hE82)⟩
  ·have hb83p := dec_f hb83
   refine sz rfl rfl (not_f hb83) (sz rfl rfl (not_f hb83) (sz rfl rfl (not_f hb83) (sd rfl (yl_pick_t rfl rfl (not_f hb83) rfl (SeqR.done (tn (CW.cond_t rfl rfl (CW.seq (CW.region ?_)))))))))
   refine sd rfl (yl_assign rfl rfl (SeqR.done (tn (CW.ret (tr (rr rfl (.cons rfl .nil) ?_))))))
   have hM254 : (l_FnExactNeedOf p_aC) = (false) := by simp only [l_FnExactNeedOf, hb16, hb83, cond_true, cond_false, loopE_done, loopE_ret]
   rw [hM254]
   exact ⟨rfl, (Ex.trans (Below.only (Ex.trans (Ex.trans (Ex.trans (Ex.trans (Ex.trans (Ex.trans (Ex.refl w) hE9) hE15) hE29) hE41) hE55) hE67) hO70 (by omega)) hE82)⟩
end Go.Proofs.Ytfmepgbpbbneaaa
