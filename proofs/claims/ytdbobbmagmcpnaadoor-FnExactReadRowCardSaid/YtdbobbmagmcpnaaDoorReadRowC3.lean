/- Read Row: what each call returns, part 3. -/
import Derived.Test.YtdbobbmagmcpnaaDoorReadRowC2
set_option linter.unusedVariables false
set_option linter.unusedSimpArgs false
namespace Go.Proofs.YtdbobbmagmcpnaaDoor
open Go.RowKit Go.X
set_option maxRecDepth 100000 in
set_option maxHeartbeats 2000000 in
theorem c_l_FnExactReadRow {A1 : Option Addr} {c1 : Nat} {A2 : Option Addr} {c2 : Nat} {w : World} (p_0 : DTable) (p_1 : DWrite) (h1 : RdS w (Iv 0 w.heap.size) (RF e_Str) 1 A1 p_0.Cols.length c1 p_0.Cols) (h2 : RdS w (Iv 0 w.heap.size) (RF e_Idx) 3 A2 p_0.Idxs.length c2 p_0.Idxs) (pre0 : wf_Table p_0) (pre1 : wf_Write p_1) : Cal Tryd.prog 3 #[.agg #[.string (bs (p_0.Name)), .slice A1 p_0.Cols.length c1, .slice A2 p_0.Idxs.length c2], .agg #[.string (bs (p_1.Key)), .string (bs (p_1.Val)), .bool (p_1.Gone)]] w fun v w' => v = .bool ((l_FnExactReadRow p_0 p_1)) ∧ Ex w w' := by
 refine Cal.of (vs := [.agg #[.string (bs (p_0.Name)), .slice A1 p_0.Cols.length c1, .slice A2 p_0.Idxs.length c2], .agg #[.string (bs (p_1.Key)), .string (bs (p_1.Val)), .bool (p_1.Gone)]]) Tryd.func3 rfl Tryd.ntmps3 rfl (CW.seq (CW.region (sd rfl (yl_box (cs := [.string (bs (p_0.Name)), .slice A1 p_0.Cols.length c1, .slice A2 p_0.Idxs.length c2]) rfl rfl rfl ?_))))
 intro b3 w4 hs5 hz6 hB7 hE8
 refine sd rfl (yl_box (cs := [.string (bs (p_1.Key)), .string (bs (p_1.Val)), .bool (p_1.Gone)]) rfl rfl rfl ?_)
 intro b9 w10 hs11 hz12 hB13 hE14
 refine sd rfl (yl_assign rfl rfl (SeqR.done (tn (CW.seq (CW.region (sd rfl (yl_assign rfl rfl (SeqR.done (tn (CW.seq ?_))))))))))
 refine CW.region ?_
 have q15 := Box.ex hB7 hE14
 refine sd rfl (yl_loadN (cs := [.string (bs (p_0.Name)), .slice A1 p_0.Cols.length c1, .slice A2 p_0.Idxs.length c2]) Tryd.ty25 rfl rfl (q15.cells (n := 3) rfl) rfl (sd rfl (yl_move rfl rfl ?_)))
 have q17 := RdS.ex good_Str (RdS.ex good_Str h1 hE8) hE14
 have q19 := RdS.ex good_Idx (RdS.ex good_Idx h2 hE8) hE14
 refine sd rfl (yl_call Tryd.en5 rfl (opvs_cons rfl (opvs_cons rfl opvs_nil)) (Cal.mono (c_l_szTable p_0 1048576 (RdS.up q17 good_Str) (RdS.up q19 good_Idx)) ?_))
 rintro v21 w20 ⟨rfl, hE22⟩
 have hE22z := Ex.size hE22
 refine sd rfl (yl_assign rfl rfl (SeqR.done (tn (CW.seq (CW.seq (CW.region (sd rfl (yl_move rfl rfl (sd rfl (yl_lss rfl rfl rfl (SeqR.done ?_)))))))))))
 refine tn (bcase (decide ((l_szTable p_0 1048576) < 0)) (fun hb23 => ?_) (fun hb23 => ?_))
 ·have hb23p := dec_t hb23
  refine CW.cond_t rfl hb23 (CW.seq (CW.region (sd rfl (yl_assign rfl rfl (SeqR.done (tn (CW.ret (tr (rr rfl (.cons rfl .nil) ?_)))))))))
  have hM24 : (l_FnExactReadRow p_0 p_1) = (true) := by simp only [l_FnExactReadRow, hb23, cond_true, cond_false, loopE_done, loopE_ret]
  rw [hM24]
  exact ⟨rfl, (Ex.trans (Ex.trans (Ex.trans (Ex.refl w) hE8) hE14) hE22)⟩
 ·have hb23p := dec_f hb23
  refine CW.cond_f rfl hb23 (CW.skip (tn (CW.seq (CW.region ?_))))
  have q28 := Box.ex hB13 hE22
  refine sd rfl (yl_loadN (cs := [.string (bs (p_1.Key)), .string (bs (p_1.Val)), .bool (p_1.Gone)]) Tryd.ty27 rfl rfl (q28.cells (n := 3) rfl) rfl (sd rfl (yl_move rfl rfl (sd rfl (yl_call Tryd.en6 rfl (opvs_cons rfl (opvs_cons rfl opvs_nil)) (Cal.mono (c_l_szWrite p_1 (l_szTable p_0 1048576)) ?_))))))
  rintro v30 w29 ⟨rfl, hE31⟩
  have hE31z := Ex.size hE31
  refine sd rfl (yl_assign rfl rfl (SeqR.done (tn (CW.seq (CW.seq (CW.region (sd rfl (yl_move rfl rfl (sd rfl (yl_lss rfl rfl rfl (SeqR.done ?_)))))))))))
  refine tn (bcase (decide ((l_szWrite p_1 (l_szTable p_0 1048576)) < 0)) (fun hb32 => ?_) (fun hb32 => ?_))
  ·have hb32p := dec_t hb32
   refine CW.cond_t rfl hb32 (CW.seq (CW.region (sd rfl (yl_assign rfl rfl (SeqR.done (tn (CW.ret (tr (rr rfl (.cons rfl .nil) ?_)))))))))
   have hM33 : (l_FnExactReadRow p_0 p_1) = (true) := by simp only [l_FnExactReadRow, hb23, hb32, cond_true, cond_false, loopE_done, loopE_ret]
   rw [hM33]
   exact ⟨rfl, (Ex.trans (Ex.trans (Ex.trans (Ex.trans (Ex.refl w) hE8) hE14) hE22) hE31)⟩
  ·have hb32p := dec_f hb32
   refine CW.cond_f rfl hb32 (CW.skip (tn (CW.seq ?_)))
   have q39 := Box.ex (Box.ex q15 hE22) hE31
   have q41 := RdS.ex good_Str (RdS.ex good_Str q17 hE22) hE31
   have q43 := RdS.ex good_Idx (RdS.ex good_Idx q19 hE22) hE31
   have q47 := Box.ex q28 hE31
   refine CW.drawsG 11 (fun _ _ => False) (fun i G b => (i = 9 ∧ (G.fl 8) ≤ b ∧ b < (G.fh 8))) (vgetG [DetG (.agg #[.string (bs (p_0.Name)), .slice A1 p_0.Cols.length c1, .slice A2 p_0.Idxs.length c2]), fun G v wq => ∃ A45 c45 lo45 hi45 A46 c46 lo46 hi46, v = .agg #[.string (bs (p_0.Name)), .slice A45 p_0.Cols.length c45, .slice A46 p_0.Idxs.length c46] ∧ OwnL wq lo45 hi45 9 1 (RF e_Str) A45 p_0.Cols.length c45 p_0.Cols ∧ OwnL wq lo46 hi46 74 3 (RF e_Idx) A46 p_0.Idxs.length c46 p_0.Idxs ∧ ((G.fl 1) ≤ lo45 ∧ lo45 ≤ hi45 ∧ hi45 ≤ (G.fh 1)) ∧ ((G.fl 1) ≤ lo46 ∧ lo46 ≤ hi46 ∧ hi46 ≤ (G.fh 1)) ∧ (hi45 ≤ lo46 ∨ hi46 ≤ lo45), DetG (.agg #[.string (bs (p_1.Key)), .string (bs (p_1.Val)), .bool (p_1.Gone)]), DetG (.agg #[.string (bs (p_1.Key)), .string (bs (p_1.Val)), .bool (p_1.Gone)]), fun G v wq => ∃ A50 c50 lo50 hi50, v = .tuple #[.agg #[.slice A50 (((s_ReadRow p_0 p_1).1.Vals).length) c50], .bool ((s_ReadRow p_0 p_1).2)] ∧ OwnL wq lo50 hi50 9 1 (RF e_Str) A50 (((s_ReadRow p_0 p_1).1.Vals).length) c50 ((s_ReadRow p_0 p_1).1.Vals) ∧ ok_Row ((s_ReadRow p_0 p_1).1) ∧ ((G.fl 4) ≤ lo50 ∧ lo50 ≤ hi50 ∧ hi50 ≤ (G.fh 4)), fun G v wq => ∃ A50 c50 lo50 hi50, v = .tuple #[.agg #[.slice A50 (((s_ReadRow p_0 p_1).1.Vals).length) c50], .bool ((s_ReadRow p_0 p_1).2)] ∧ OwnL wq lo50 hi50 9 1 (RF e_Str) A50 (((s_ReadRow p_0 p_1).1.Vals).length) c50 ((s_ReadRow p_0 p_1).1.Vals) ∧ ((G.fl 4) ≤ lo50 ∧ lo50 ≤ hi50 ∧ hi50 ≤ (G.fh 4)), fun G v wq => ∃ A50 c50 lo50 hi50, v = .agg #[.slice A50 (((s_ReadRow p_0 p_1).1.Vals).length) c50] ∧ OwnL wq lo50 hi50 9 1 (RF e_Str) A50 (((s_ReadRow p_0 p_1).1.Vals).length) c50 ((s_ReadRow p_0 p_1).1.Vals) ∧ ((G.fl 4) ≤ lo50 ∧ lo50 ≤ hi50 ∧ hi50 ≤ (G.fh 4)), DetG (.bool ((s_ReadRow p_0 p_1).2)), fun G v wq => v = .pointer (some ⟨(G.fl 8), 0, none⟩) ∧ (G.dn 9 = false → Box wq (G.fl 8) 31 [.slice none 0 0]) ∧ (G.fl 8) < (G.fh 8), fun G v wq => ∃ A50 c50 lo50 hi50, Box wq (G.fl 8) 31 [.slice A50 (((s_ReadRow p_0 p_1).1.Vals).length) c50] ∧ OwnL wq lo50 hi50 9 1 (RF e_Str) A50 (((s_ReadRow p_0 p_1).1.Vals).length) c50 ((s_ReadRow p_0 p_1).1.Vals) ∧ ((G.fl 4) ≤ lo50 ∧ lo50 ≤ hi50 ∧ hi50 ≤ (G.fh 4)), DetG (.bool ((s_ReadRow p_0 p_1).2))]) Tryd.follows rfl rfl rfl rfl rfl rfl (fun _ _ _ _ _ h => h) (fun i G w lo hi b K hn hh hp => by exact (match hp with | ⟨e, q1, q2⟩ => by subst e; exact .inr (by have := K.rng 8 (hh 8 rfl); omega))) (vgetG_kept ⟨(KeptG.det _), (by rintro i G v w w' K hn hh hj ⟨A45, c45, lo45, hi45, A46, c46, lo46, hi46, hv, h0, h1, hr0, hr1, hr2⟩ e; have d1 : G.dn 1 = true := hj; have u1 := Gh.ufl (lo := w.heap.size) (hi := w'.heap.size) d1 hn; have t1 := Gh.ufh (lo := w.heap.size) (hi := w'.heap.size) d1 hn; exact ⟨A45, c45, lo45, hi45, A46, c46, lo46, hi46, hv, (by exact OwnL.chg good_Str h0 e (fun b hb hp => by obtain ⟨rfl, q1, q2⟩ := hp; have := K.rng 1 d1; have := K.rng 8 (hh 8 rfl); have := K.sep 8 1 (hh 8 rfl) d1 rfl; skip; omega)), (by exact OwnL.chg good_Idx h1 e (fun b hb hp => by obtain ⟨rfl, q1, q2⟩ := hp; have := K.rng 1 d1; have := K.rng 8 (hh 8 rfl); have := K.sep 8 1 (hh 8 rfl) d1 rfl; skip; omega)), (by simp only [u1, t1]; exact hr0), (by simp only [u1, t1]; exact hr1), hr2⟩), (KeptG.det _), (KeptG.det _), (by rintro i G v w w' K hn hh hj ⟨A50, c50, lo50, hi50, hv, h0, h1, hr0⟩ e; have d4 : G.dn 4 = true := hj; have u4 := Gh.ufl (lo := w.heap.size) (hi := w'.heap.size) d4 hn; have t4 := Gh.ufh (lo := w.heap.size) (hi := w'.heap.size) d4 hn; exact ⟨A50, c50, lo50, hi50, hv, (by exact OwnL.chg good_Str h0 e (fun b hb hp => by obtain ⟨rfl, q1, q2⟩ := hp; have := K.rng 4 d4; have := K.rng 8 (hh 8 rfl); have := K.sep 8 4 (hh 8 rfl) d4 rfl; skip; omega)), h1, (by simp only [u4, t4]; exact hr0)⟩), (by rintro i G v w w' K hn hh hj ⟨A50, c50, lo50, hi50, hv, h0, hr0⟩ e; have d4 : G.dn 4 = true := K.cl 5 4 hj rfl; have u4 := Gh.ufl (lo := w.heap.size) (hi := w'.heap.size) d4 hn; have t4 := Gh.ufh (lo := w.heap.size) (hi := w'.heap.size) d4 hn; exact ⟨A50, c50, lo50, hi50, hv, (by exact OwnL.chg good_Str h0 e (fun b hb hp => by obtain ⟨rfl, q1, q2⟩ := hp; have := K.rng 4 d4; have := K.rng 8 (hh 8 rfl); have := K.sep 8 4 (hh 8 rfl) d4 rfl; skip; omega)), (by simp only [u4, t4]; exact hr0)⟩), (by rintro i G v w w' K hn hh hj ⟨A50, c50, lo50, hi50, hv, h0, hr0⟩ e; have d4 : G.dn 4 = true := K.cl 6 4 hj rfl; have u4 := Gh.ufl (lo := w.heap.size) (hi := w'.heap.size) d4 hn; have t4 := Gh.ufh (lo := w.heap.size) (hi := w'.heap.size) d4 hn; exact ⟨A50, c50, lo50, hi50, hv, (by exact OwnL.chg good_Str h0 e (fun b hb hp => by obtain ⟨rfl, q1, q2⟩ := hp; have := K.rng 4 d4; have := K.rng 8 (hh 8 rfl); have := K.sep 8 4 (hh 8 rfl) d4 rfl; skip; omega)), (by simp only [u4, t4]; exact hr0)⟩), (KeptG.det _), (by rintro i G v w w' K hn hh hj ⟨hv, h0, he0⟩ e; have d8 : G.dn 8 = true := hj; have u8 := Gh.ufl (lo := w.heap.size) (hi := w'.heap.size) d8 hn; have t8 := Gh.ufh (lo := w.heap.size) (hi := w'.heap.size) d8 hn; exact ⟨(by simp only [u8, t8]; exact hv), (by intro hd; simp only [u8, t8]; exact Box.chg (h0 (Gh.off hd).2) e (fun hp => by obtain ⟨rfl, q1, q2⟩ := hp; exact absurd rfl (Gh.off hd).1)), (by simp only [u8, t8]; exact he0)⟩), (by rintro i G v w w' K hn hh hj ⟨A50, c50, lo50, hi50, h0, h1, hr0⟩ e; have d4 : G.dn 4 = true := K.cl 9 4 hj rfl; have u4 := Gh.ufl (lo := w.heap.size) (hi := w'.heap.size) d4 hn; have t4 := Gh.ufh (lo := w.heap.size) (hi := w'.heap.size) d4 hn; have d8 : G.dn 8 = true := K.cl 9 8 hj rfl; have u8 := Gh.ufl (lo := w.heap.size) (hi := w'.heap.size) d8 hn; have t8 := Gh.ufh (lo := w.heap.size) (hi := w'.heap.size) d8 hn; exact ⟨A50, c50, lo50, hi50, (by simp only [u4, t4, u8, t8]; exact Box.chg h0 e (fun hp => by obtain ⟨rfl, q1, q2⟩ := hp; rw [hj] at hn; cases hn)), (by exact OwnL.chg good_Str h1 e (fun b hb hp => by obtain ⟨rfl, q1, q2⟩ := hp; rw [hj] at hn; cases hn)), (by simp only [u4, t4, u8, t8]; exact hr0)⟩), (KeptG.det _), trivial⟩) ⟨?_, ?_, ?_, ?_, ?_, ?_, ?_, ?_, ?_, ?_, ?_, trivial⟩ ?_
   ·intro L58 w59 G57 hgk60
    have hE61 := hgk60.st.ex.ex (fun b h => h.elim (fun h => h.elim) (fun h => h))
    have hE61z := Ex.size hE61
    exact OpR.op' rfl (Yl.sameG (yl_loadN (cs := [.string (bs (p_0.Name)), .slice A1 p_0.Cols.length c1, .slice A2 p_0.Idxs.length c2]) Tryd.ty25 rfl (hgk60.old 2 _ rfl rfl) ((Box.ex q39 hE61).cells (n := 3) rfl) rfl kI))
   ·intro L65 w66 G64 hgk67
    have hE68 := hgk67.st.ex.ex (fun b h => h.elim (fun h => h.elim) (fun h => h))
    have hE68z := Ex.size hE68
    obtain ⟨_, hx69, rfl⟩ := hgk67.val 0 27 rfl rfl
    refine OpR.op' rfl (yl_call Tryd.en8 rfl (opvs_cons hx69 opvs_nil) (Cal.mono (c_l_toTable p_0 (RdS.up (RdS.ex good_Str q41 hE68) good_Str) (RdS.up (RdS.ex good_Idx q43 hE68) good_Idx) ((szok_Table pre0 (by decide) (dec_f hb23)).1)) ?_))
    rintro v75 w72 ⟨A73, c73, lo73, hi73, A74, c74, lo74, hi74, rfl, h73, h74, hrn77, hrn78, hrn79, hE76⟩
    exact ⟨Chg.of_ex hE76, A73, c73, lo73, hi73, A74, c74, lo74, hi74, rfl, h73, h74, hrn77, hrn78, hrn79⟩
   ·intro L81 w82 G80 hgk83
    have hE84 := hgk83.st.ex.ex (fun b h => h.elim (fun h => h.elim) (fun h => h))
    have hE84z := Ex.size hE84
    exact OpR.op' rfl (Yl.sameG (yl_loadN (cs := [.string (bs (p_1.Key)), .string (bs (p_1.Val)), .bool (p_1.Gone)]) Tryd.ty27 rfl (hgk83.old 3 _ rfl rfl) ((Box.ex q47 hE84).cells (n := 3) rfl) rfl kI))
   ·intro L88 w89 G87 hgk90
    have hE91 := hgk90.st.ex.ex (fun b h => h.elim (fun h => h.elim) (fun h => h))
    have hE91z := Ex.size hE91
    obtain ⟨_, hx92, rfl⟩ := hgk90.val 2 29 rfl rfl
    refine OpR.op' rfl (yl_call Tryd.en9 rfl (opvs_cons hx92 opvs_nil) (Cal.mono (c_l_toWrite p_1 ((szok_Write pre1 (szok_Table pre0 (by decide) (dec_f hb23)).2 (dec_f hb32)).1)) ?_))
    rintro v94 w93 ⟨rfl, hE95⟩
    exact ⟨Chg.of_ex hE95, rfl⟩
   ·intro L97 w98 G96 hgk99
    have hE100 := hgk99.st.ex.ex (fun b h => h.elim (fun h => h.elim) (fun h => h))
    have hE100z := Ex.size hE100
    obtain ⟨_, hx101, A45_102, c45_103, lo45_104, hi45_105, A46_106, c46_107, lo46_108, hi46_109, rfl, h110, h111, hrn112, hrn113, hrn114⟩ := hgk99.val 1 28 rfl rfl
    obtain ⟨_, hx115, rfl⟩ := hgk99.val 3 30 rfl rfl
    have hr116 := hgk99.st.rng 1 (hgk99.has 1 rfl)
    refine OpR.op' rfl (yl_call Tryd.en7 rfl (opvs_cons hx101 (opvs_cons hx115 opvs_nil)) (Cal.mono (c_s_ReadRow p_0 p_1 (RdS.up (OwnL.rd good_Str h110) good_Str) (RdS.up (OwnL.rd good_Idx h111) good_Idx) ((szok_Table pre0 (by decide) (dec_f hb23)).1) ((szok_Write pre1 (szok_Table pre0 (by decide) (dec_f hb23)).2 (dec_f hb32)).1)) ?_))
    rintro v122 w119 ⟨A120, c120, lo120, hi120, rfl, h120, ho121, hrn124, hE123⟩
    exact ⟨Chg.of_ex hE123, A120, c120, lo120, hi120, rfl, h120, ho121, hrn124⟩
   ·intro L126 w127 G125 hgk128
    have hE129 := hgk128.st.ex.ex (fun b h => h.elim (fun h => h.elim) (fun h => h))
    have hE129z := Ex.size hE129
    obtain ⟨_, hx130, A50_131, c50_132, lo50_133, hi50_134, rfl, h135, h136, hrn137⟩ := hgk128.val 4 31 rfl rfl
    have hr138 := hgk128.st.rng 4 (hgk128.has 4 rfl)
    exact OpR.op' rfl (Yl.sameG (yl_move rfl hx130 ⟨fun _ _ => ⟨A50_131, c50_132, lo50_133, hi50_134, rfl, h135, (show ((G125.fl 4) ≤ lo50_133 ∧ lo50_133 ≤ hi50_134 ∧ hi50_134 ≤ (G125.fh 4)) by omega)⟩, rfl⟩))
   ·intro L140 w141 G139 hgk142
    have hE143 := hgk142.st.ex.ex (fun b h => h.elim (fun h => h.elim) (fun h => h))
    have hE143z := Ex.size hE143
    obtain ⟨_, hx144, A50_145, c50_146, lo50_147, hi50_148, rfl, h149, hrn150⟩ := hgk142.val 5 26 rfl rfl
    have hr151 := hgk142.st.rng 4 (hgk142.has 4 rfl)
    have hr152 := hgk142.st.rng 5 (hgk142.has 5 rfl)
    have hsp153 := hgk142.st.ord 5 4 (hgk142.has 5 rfl) rfl
    exact OpR.op' rfl (Yl.sameG (yl_extract rfl hx144 rfl ⟨fun _ _ => ⟨A50_145, c50_146, lo50_147, hi50_148, rfl, h149, (show ((G139.fl 4) ≤ lo50_147 ∧ lo50_147 ≤ hi50_148 ∧ hi50_148 ≤ (G139.fh 4)) by omega)⟩, rfl⟩))
   ·intro L155 w156 G154 hgk157
    have hE158 := hgk157.st.ex.ex (fun b h => h.elim (fun h => h.elim) (fun h => h))
    have hE158z := Ex.size hE158
    obtain ⟨_, hx159, A50_160, c50_161, lo50_162, hi50_163, rfl, h164, hrn165⟩ := hgk157.val 5 26 rfl rfl
    have hr166 := hgk157.st.rng 4 (hgk157.has 4 rfl)
    have hr167 := hgk157.st.rng 5 (hgk157.has 5 rfl)
    have hsp168 := hgk157.st.ord 5 4 (hgk157.has 5 rfl) rfl
    exact OpR.op' rfl (Yl.sameG (yl_extract rfl hx159 rfl kI))
   ·intro L170 w171 G169 hgk172
    have hE173 := hgk172.st.ex.ex (fun b h => h.elim (fun h => h.elim) (fun h => h))
    have hE173z := Ex.size hE173
    refine OpR.op' rfl (yl_alloc Tryd.ty31 (cs := [.slice none 0 0]) rfl rfl ?_)
    intro b174 w175 hs176 hz177 hB178 hE179
    subst hs176
    exact ⟨Chg.of_ex hE179, rfl, fun _ => hB178, by rw [Gh.sfl, Gh.sfh]; omega⟩
   ·intro L181 w182 G180 hgk183
    have hE184 := hgk183.st.ex.ex (fun b h => h.elim (fun h => h.elim) (fun h => h))
    have hE184z := Ex.size hE184
    obtain ⟨_, hx185, rfl, h186, he187⟩ := hgk183.val 8 6 rfl rfl
    have h186 := h186 hgk183.new
    obtain ⟨_, hx188, A50_189, c50_190, lo50_191, hi50_192, rfl, h193, hrn194⟩ := hgk183.val 6 32 rfl rfl
    have hr195 := hgk183.st.rng 4 (hgk183.has 4 rfl)
    have hr196 := hgk183.st.rng 6 (hgk183.has 6 rfl)
    have hr197 := hgk183.st.rng 8 (hgk183.has 8 rfl)
    have hsp198 := hgk183.st.ord 6 4 (hgk183.has 6 rfl) rfl
    have hsp199 := hgk183.st.sep 4 8 (hgk183.has 4 rfl) (hgk183.has 8 rfl) rfl
    have hsp200 := hgk183.st.sep 6 8 (hgk183.has 6 rfl) (hgk183.has 8 rfl) rfl
    refine OpR.op' rfl (yl_store (vs := [.slice A50_189 (((s_ReadRow p_0 p_1).1.Vals).length) c50_190]) Tryd.ty31 rfl hx185 hx188 rfl rfl rfl h186 (Nat.le_of_ble_eq_true rfl) ?_)
    intro w201 hB202 hO203
    have hO203z := hO203.size
    exact ⟨Chg.of_only hO203 (⟨rfl, Nat.le_refl _, by omega⟩), A50_189, c50_190, lo50_191, hi50_192, hB202, (OwnL.only good_Str h193 hO203 (by omega)), (show ((G180.fl 4) ≤ lo50_191 ∧ lo50_191 ≤ hi50_192 ∧ hi50_192 ≤ (G180.fh 4)) by omega)⟩
   ·intro L206 w207 G205 hgk208
    have hE209 := hgk208.st.ex.ex (fun b h => h.elim (fun h => h.elim) (fun h => h))
    have hE209z := Ex.size hE209
    obtain ⟨_, hx210, rfl⟩ := hgk208.val 7 33 rfl rfl
    exact OpR.op' rfl (Yl.sameG (yl_assign rfl hx210 kI))
   ·intro G211 L212 w213 hgp214
    have hE215 := hgp214.st.ex.ex (fun b h => h.elim (fun h => h.elim) (fun h => h))
    have hE215z := Ex.size hE215
    obtain ⟨_, hx218, A45_219, c45_220, lo45_221, hi45_222, A46_223, c46_224, lo46_225, hi46_226, rfl, h227, h228, hrn229, hrn230, hrn231⟩ := hgp214.val 1 28 rfl rfl
    obtain ⟨_, hx232, A50_233, c50_234, lo50_235, hi50_236, rfl, h237, h238, hrn239⟩ := hgp214.val 4 31 rfl rfl
    obtain ⟨_, hx240, A50_241, c50_242, lo50_243, hi50_244, rfl, h245, hrn246⟩ := hgp214.val 5 26 rfl rfl
    obtain ⟨_, hx247, A50_248, c50_249, lo50_250, hi50_251, rfl, h252, hrn253⟩ := hgp214.val 6 32 rfl rfl
    obtain ⟨_, hx254, rfl, -, he255⟩ := hgp214.val 8 6 rfl rfl
    obtain ⟨_, A50_256, c50_257, lo50_258, hi50_259, h260, h261, hrn262⟩ := hgp214.fact 9 rfl
    obtain ⟨_, hx263, rfl⟩ := hgp214.val 10 7 rfl rfl
    have hr264 := hgp214.st.rng 1 (hgp214.has 1 rfl)
    have hr265 := hgp214.st.rng 4 (hgp214.has 4 rfl)
    have hr266 := hgp214.st.rng 5 (hgp214.has 5 rfl)
    have hr267 := hgp214.st.rng 6 (hgp214.has 6 rfl)
    have hr268 := hgp214.st.rng 8 (hgp214.has 8 rfl)
    have hr269 := hgp214.st.rng 9 (hgp214.has 9 rfl)
    have hsp270 := hgp214.st.ord 4 1 (hgp214.has 4 rfl) rfl
    have hsp271 := hgp214.st.ord 5 1 (hgp214.has 5 rfl) rfl
    have hsp272 := hgp214.st.ord 6 1 (hgp214.has 6 rfl) rfl
    have hsp273 := hgp214.st.sep 1 8 (hgp214.has 1 rfl) (hgp214.has 8 rfl) rfl
    have hsp274 := hgp214.st.ord 9 1 (hgp214.has 9 rfl) rfl
    have hsp275 := hgp214.st.ord 5 4 (hgp214.has 5 rfl) rfl
    have hsp276 := hgp214.st.ord 6 4 (hgp214.has 6 rfl) rfl
    have hsp277 := hgp214.st.sep 4 8 (hgp214.has 4 rfl) (hgp214.has 8 rfl) rfl
    have hsp278 := hgp214.st.ord 9 4 (hgp214.has 9 rfl) rfl
    have hsp279 := hgp214.st.ord 6 5 (hgp214.has 6 rfl) rfl
    have hsp280 := hgp214.st.sep 5 8 (hgp214.has 5 rfl) (hgp214.has 8 rfl) rfl
    have hsp281 := hgp214.st.ord 9 5 (hgp214.has 9 rfl) rfl
    have hsp282 := hgp214.st.sep 6 8 (hgp214.has 6 rfl) (hgp214.has 8 rfl) rfl
    have hsp283 := hgp214.st.ord 9 6 (hgp214.has 9 rfl) rfl
    have hsp284 := hgp214.st.ord 9 8 (hgp214.has 9 rfl) rfl
    refine SeqR.done (tn (CW.sub (Sub.cons (d := 2) (hgp214.old 2 _ rfl rfl) (Sub.cons (d := 3) (hgp214.old 3 _ rfl rfl) (Sub.cons (d := 6) hx254 (Sub.cons (d := 7) hx263 (Sub.nil _))))) (CW.seq (CW.region ?_))))
    have q285 := Box.ex q39 hE215
    refine sd rfl (yl_loadN (cs := [.string (bs (p_0.Name)), .slice A1 p_0.Cols.length c1, .slice A2 p_0.Idxs.length c2]) Tryd.ty25 rfl rfl (q285.cells (n := 3) rfl) rfl ?_)
    have q286 := RdS.ex good_Str q41 hE215
    have q287 := RdS.ex good_Idx q43 hE215
    refine sd rfl (yl_call Tryd.en8 rfl (opvs_cons rfl opvs_nil) (Cal.mono (c_l_toTable p_0 (RdS.up q286 good_Str) (RdS.up q287 good_Idx) ((szok_Table pre0 (by decide) (dec_f hb23)).1)) ?_))
    rintro v291 w288 ⟨A289, c289, lo289, hi289, A290, c290, lo290, hi290, rfl, h289, h290, hrn293, hrn294, hrn295, hE292⟩
    have hE292z := Ex.size hE292
    refine sd rfl (yl_alloc Tryd.ty36 (cs := [.string (bs (([] : Str))), .slice none 0 0, .slice none 0 0]) rfl rfl ?_)
    intro b296 w297 hs298 hz299 hB300 hE301
    refine SeqR.u rfl rfl (yl_store (vs := [.string (bs (p_0.Name)), .slice A289 p_0.Cols.length c289, .slice A290 p_0.Idxs.length c290]) Tryd.ty36 rfl rfl rfl rfl rfl rfl hB300 (Nat.le_of_ble_eq_true rfl) ?_)
    intro w302 hB303 hO304
    have hB303 : Box w302 b296 36 [.string (bs (p_0.Name)), .slice A289 p_0.Cols.length c289, .slice A290 p_0.Idxs.length c290] := hB303
    have hO304z := hO304.size
    refine SeqR.done (tn (CW.seq ?_))
    have q308 := Box.only (Box.ex (Box.ex (Box.ex q47 hE215) hE292) hE301) hO304 (by omega)
    have q312 := OwnL.only good_Str (OwnL.ex good_Str h289 hE301) hO304 (by omega)
    have q315 := OwnL.only good_Idx (OwnL.ex good_Idx h290 hE301) hO304 (by omega)
    refine CW.drawsG 10 (fun _ _ => False) (fun i G b => (i = 8 ∧ (G.fl 7) ≤ b ∧ b < (G.fh 7))) (vgetG [DetG (.agg #[.string (bs (p_0.Name)), .slice A289 p_0.Cols.length c289, .slice A290 p_0.Idxs.length c290]), DetG (.agg #[.string (bs (p_1.Key)), .string (bs (p_1.Val)), .bool (p_1.Gone)]), DetG (.agg #[.string (bs (p_1.Key)), .string (bs (p_1.Val)), .bool (p_1.Gone)]), fun G v wq => ∃ A317 c317 lo317 hi317, v = .tuple #[.agg #[.slice A317 (((i_ReadRow p_0 p_1).1.Vals).length) c317], .bool ((i_ReadRow p_0 p_1).2)] ∧ OwnL wq lo317 hi317 9 1 (RF e_Str) A317 (((i_ReadRow p_0 p_1).1.Vals).length) c317 ((i_ReadRow p_0 p_1).1.Vals) ∧ ok_Row ((i_ReadRow p_0 p_1).1) ∧ ((G.fl 3) ≤ lo317 ∧ lo317 ≤ hi317 ∧ hi317 ≤ (G.fh 3)), fun G v wq => ∃ A317 c317 lo317 hi317, v = .tuple #[.agg #[.slice A317 (((i_ReadRow p_0 p_1).1.Vals).length) c317], .bool ((i_ReadRow p_0 p_1).2)] ∧ OwnL wq lo317 hi317 9 1 (RF e_Str) A317 (((i_ReadRow p_0 p_1).1.Vals).length) c317 ((i_ReadRow p_0 p_1).1.Vals) ∧ ((G.fl 3) ≤ lo317 ∧ lo317 ≤ hi317 ∧ hi317 ≤ (G.fh 3)), fun G v wq => ∃ A317 c317 lo317 hi317, v = .agg #[.slice A317 (((i_ReadRow p_0 p_1).1.Vals).length) c317] ∧ OwnL wq lo317 hi317 9 1 (RF e_Str) A317 (((i_ReadRow p_0 p_1).1.Vals).length) c317 ((i_ReadRow p_0 p_1).1.Vals) ∧ ((G.fl 3) ≤ lo317 ∧ lo317 ≤ hi317 ∧ hi317 ≤ (G.fh 3)), DetG (.bool ((i_ReadRow p_0 p_1).2)), fun G v wq => v = .pointer (some ⟨(G.fl 7), 0, none⟩) ∧ (G.dn 8 = false → Box wq (G.fl 7) 31 [.slice none 0 0]) ∧ (G.fl 7) < (G.fh 7), fun G v wq => ∃ A317 c317 lo317 hi317, Box wq (G.fl 7) 31 [.slice A317 (((i_ReadRow p_0 p_1).1.Vals).length) c317] ∧ OwnL wq lo317 hi317 9 1 (RF e_Str) A317 (((i_ReadRow p_0 p_1).1.Vals).length) c317 ((i_ReadRow p_0 p_1).1.Vals) ∧ ((G.fl 3) ≤ lo317 ∧ lo317 ≤ hi317 ∧ hi317 ≤ (G.fh 3)), DetG (.bool ((i_ReadRow p_0 p_1).2))]) Tryd.follows rfl rfl rfl rfl rfl rfl (fun _ _ _ _ _ h => h) (fun i G w lo hi b K hn hh hp => by exact (match hp with | ⟨e, q1, q2⟩ => by subst e; exact .inr (by have := K.rng 7 (hh 7 rfl); omega))) (vgetG_kept ⟨(KeptG.det _), (KeptG.det _), (KeptG.det _), (by rintro i G v w w' K hn hh hj ⟨A317, c317, lo317, hi317, hv, h0, h1, hr0⟩ e; have d3 : G.dn 3 = true := hj; have u3 := Gh.ufl (lo := w.heap.size) (hi := w'.heap.size) d3 hn; have t3 := Gh.ufh (lo := w.heap.size) (hi := w'.heap.size) d3 hn; exact ⟨A317, c317, lo317, hi317, hv, (by exact OwnL.chg good_Str h0 e (fun b hb hp => by obtain ⟨rfl, q1, q2⟩ := hp; have := K.rng 3 d3; have := K.rng 7 (hh 7 rfl); have := K.sep 7 3 (hh 7 rfl) d3 rfl; skip; omega)), h1, (by simp only [u3, t3]; exact hr0)⟩), (by rintro i G v w w' K hn hh hj ⟨A317, c317, lo317, hi317, hv, h0, hr0⟩ e; have d3 : G.dn 3 = true := K.cl 4 3 hj rfl; have u3 := Gh.ufl (lo := w.heap.size) (hi := w'.heap.size) d3 hn; have t3 := Gh.ufh (lo := w.heap.size) (hi := w'.heap.size) d3 hn; exact ⟨A317, c317, lo317, hi317, hv, (by exact OwnL.chg good_Str h0 e (fun b hb hp => by obtain ⟨rfl, q1, q2⟩ := hp; have := K.rng 3 d3; have := K.rng 7 (hh 7 rfl); have := K.sep 7 3 (hh 7 rfl) d3 rfl; skip; omega)), (by simp only [u3, t3]; exact hr0)⟩), (by rintro i G v w w' K hn hh hj ⟨A317, c317, lo317, hi317, hv, h0, hr0⟩ e; have d3 : G.dn 3 = true := K.cl 5 3 hj rfl; have u3 := Gh.ufl (lo := w.heap.size) (hi := w'.heap.size) d3 hn; have t3 := Gh.ufh (lo := w.heap.size) (hi := w'.heap.size) d3 hn; exact ⟨A317, c317, lo317, hi317, hv, (by exact OwnL.chg good_Str h0 e (fun b hb hp => by obtain ⟨rfl, q1, q2⟩ := hp; have := K.rng 3 d3; have := K.rng 7 (hh 7 rfl); have := K.sep 7 3 (hh 7 rfl) d3 rfl; skip; omega)), (by simp only [u3, t3]; exact hr0)⟩), (KeptG.det _), (by rintro i G v w w' K hn hh hj ⟨hv, h0, he0⟩ e; have d7 : G.dn 7 = true := hj; have u7 := Gh.ufl (lo := w.heap.size) (hi := w'.heap.size) d7 hn; have t7 := Gh.ufh (lo := w.heap.size) (hi := w'.heap.size) d7 hn; exact ⟨(by simp only [u7, t7]; exact hv), (by intro hd; simp only [u7, t7]; exact Box.chg (h0 (Gh.off hd).2) e (fun hp => by obtain ⟨rfl, q1, q2⟩ := hp; exact absurd rfl (Gh.off hd).1)), (by simp only [u7, t7]; exact he0)⟩), (by rintro i G v w w' K hn hh hj ⟨A317, c317, lo317, hi317, h0, h1, hr0⟩ e; have d3 : G.dn 3 = true := K.cl 8 3 hj rfl; have u3 := Gh.ufl (lo := w.heap.size) (hi := w'.heap.size) d3 hn; have t3 := Gh.ufh (lo := w.heap.size) (hi := w'.heap.size) d3 hn; have d7 : G.dn 7 = true := K.cl 8 7 hj rfl; have u7 := Gh.ufl (lo := w.heap.size) (hi := w'.heap.size) d7 hn; have t7 := Gh.ufh (lo := w.heap.size) (hi := w'.heap.size) d7 hn; exact ⟨A317, c317, lo317, hi317, (by simp only [u3, t3, u7, t7]; exact Box.chg h0 e (fun hp => by obtain ⟨rfl, q1, q2⟩ := hp; rw [hj] at hn; cases hn)), (by exact OwnL.chg good_Str h1 e (fun b hb hp => by obtain ⟨rfl, q1, q2⟩ := hp; rw [hj] at hn; cases hn)), (by simp only [u3, t3, u7, t7]; exact hr0)⟩), (KeptG.det _), trivial⟩) ⟨?_, ?_, ?_, ?_, ?_, ?_, ?_, ?_, ?_, ?_, trivial⟩ ?_
    ·intro L325 w326 G324 hgk327
     have hE328 := hgk327.st.ex.ex (fun b h => h.elim (fun h => h.elim) (fun h => h))
     have hE328z := Ex.size hE328
     exact OpR.op' rfl (Yl.sameG (yl_loadN (cs := [.string (bs (p_0.Name)), .slice A289 p_0.Cols.length c289, .slice A290 p_0.Idxs.length c290]) Tryd.ty36 rfl (hgk327.old 8 _ rfl rfl) ((Box.ex hB303 hE328).cells (n := 3) rfl) rfl kI))
    ·intro L332 w333 G331 hgk334
     have hE335 := hgk334.st.ex.ex (fun b h => h.elim (fun h => h.elim) (fun h => h))
     have hE335z := Ex.size hE335
     exact OpR.op' rfl (Yl.sameG (yl_loadN (cs := [.string (bs (p_1.Key)), .string (bs (p_1.Val)), .bool (p_1.Gone)]) Tryd.ty27 rfl (hgk334.old 3 _ rfl rfl) ((Box.ex q308 hE335).cells (n := 3) rfl) rfl kI))
    ·intro L339 w340 G338 hgk341
     have hE342 := hgk341.st.ex.ex (fun b h => h.elim (fun h => h.elim) (fun h => h))
     have hE342z := Ex.size hE342
     obtain ⟨_, hx343, rfl⟩ := hgk341.val 1 38 rfl rfl
     refine OpR.op' rfl (yl_call Tryd.en9 rfl (opvs_cons hx343 opvs_nil) (Cal.mono (c_l_toWrite p_1 ((szok_Write pre1 (szok_Table pre0 (by decide) (dec_f hb23)).2 (dec_f hb32)).1)) ?_))
     rintro v345 w344 ⟨rfl, hE346⟩
     exact ⟨Chg.of_ex hE346, rfl⟩
    ·intro L348 w349 G347 hgk350
     have hE351 := hgk350.st.ex.ex (fun b h => h.elim (fun h => h.elim) (fun h => h))
     have hE351z := Ex.size hE351
     obtain ⟨_, hx352, rfl⟩ := hgk350.val 0 37 rfl rfl
     obtain ⟨_, hx353, rfl⟩ := hgk350.val 2 39 rfl rfl
     refine OpR.op' rfl (yl_call Tryd.en10 rfl (opvs_cons hx352 (opvs_cons hx353 opvs_nil)) (Cal.mono (c_i_ReadRow p_0 p_1 (RdS.up (OwnL.rd good_Str (OwnL.ex good_Str q312 hE351)) good_Str) (RdS.up (OwnL.rd good_Idx (OwnL.ex good_Idx q315 hE351)) good_Idx) ((szok_Table pre0 (by decide) (dec_f hb23)).1) ((szok_Write pre1 (szok_Table pre0 (by decide) (dec_f hb23)).2 (dec_f hb32)).1)) ?_))
     rintro v361 w358 ⟨A359, c359, lo359, hi359, rfl, h359, ho360, hrn363, hE362⟩
     exact ⟨Chg.of_ex hE362, A359, c359, lo359, hi359, rfl, h359, ho360, hrn363⟩
    ·intro L365 w366 G364 hgk367
     have hE368 := hgk367.st.ex.ex (fun b h => h.elim (fun h => h.elim) (fun h => h))
     have hE368z := Ex.size hE368
     obtain ⟨_, hx369, A317_370, c317_371, lo317_372, hi317_373, rfl, h374, h375, hrn376⟩ := hgk367.val 3 40 rfl rfl
     have hr377 := hgk367.st.rng 3 (hgk367.has 3 rfl)
     exact OpR.op' rfl (Yl.sameG (yl_move rfl hx369 ⟨fun _ _ => ⟨A317_370, c317_371, lo317_372, hi317_373, rfl, h374, (show ((G364.fl 3) ≤ lo317_372 ∧ lo317_372 ≤ hi317_373 ∧ hi317_373 ≤ (G364.fh 3)) by omega)⟩, rfl⟩))
    ·intro L379 w380 G378 hgk381
     have hE382 := hgk381.st.ex.ex (fun b h => h.elim (fun h => h.elim) (fun h => h))
     have hE382z := Ex.size hE382
     obtain ⟨_, hx383, A317_384, c317_385, lo317_386, hi317_387, rfl, h388, hrn389⟩ := hgk381.val 4 36 rfl rfl
     have hr390 := hgk381.st.rng 3 (hgk381.has 3 rfl)
     have hr391 := hgk381.st.rng 4 (hgk381.has 4 rfl)
     have hsp392 := hgk381.st.ord 4 3 (hgk381.has 4 rfl) rfl
     exact OpR.op' rfl (Yl.sameG (yl_extract rfl hx383 rfl ⟨fun _ _ => ⟨A317_384, c317_385, lo317_386, hi317_387, rfl, h388, (show ((G378.fl 3) ≤ lo317_386 ∧ lo317_386 ≤ hi317_387 ∧ hi317_387 ≤ (G378.fh 3)) by omega)⟩, rfl⟩))
    ·intro L394 w395 G393 hgk396
     have hE397 := hgk396.st.ex.ex (fun b h => h.elim (fun h => h.elim) (fun h => h))
     have hE397z := Ex.size hE397
     obtain ⟨_, hx398, A317_399, c317_400, lo317_401, hi317_402, rfl, h403, hrn404⟩ := hgk396.val 4 36 rfl rfl
     have hr405 := hgk396.st.rng 3 (hgk396.has 3 rfl)
     have hr406 := hgk396.st.rng 4 (hgk396.has 4 rfl)
     have hsp407 := hgk396.st.ord 4 3 (hgk396.has 4 rfl) rfl
     exact OpR.op' rfl (Yl.sameG (yl_extract rfl hx398 rfl kI))
    ·intro L409 w410 G408 hgk411
     have hE412 := hgk411.st.ex.ex (fun b h => h.elim (fun h => h.elim) (fun h => h))
     have hE412z := Ex.size hE412
     refine OpR.op' rfl (yl_alloc Tryd.ty31 (cs := [.slice none 0 0]) rfl rfl ?_)
     intro b413 w414 hs415 hz416 hB417 hE418
     subst hs415
     exact ⟨Chg.of_ex hE418, rfl, fun _ => hB417, by rw [Gh.sfl, Gh.sfh]; omega⟩
    ·intro L420 w421 G419 hgk422
     have hE423 := hgk422.st.ex.ex (fun b h => h.elim (fun h => h.elim) (fun h => h))
     have hE423z := Ex.size hE423
     obtain ⟨_, hx424, rfl, h425, he426⟩ := hgk422.val 7 9 rfl rfl
     have h425 := h425 hgk422.new
     obtain ⟨_, hx427, A317_428, c317_429, lo317_430, hi317_431, rfl, h432, hrn433⟩ := hgk422.val 5 41 rfl rfl
     have hr434 := hgk422.st.rng 3 (hgk422.has 3 rfl)
     have hr435 := hgk422.st.rng 5 (hgk422.has 5 rfl)
     have hr436 := hgk422.st.rng 7 (hgk422.has 7 rfl)
     have hsp437 := hgk422.st.ord 5 3 (hgk422.has 5 rfl) rfl
     have hsp438 := hgk422.st.sep 3 7 (hgk422.has 3 rfl) (hgk422.has 7 rfl) rfl
     have hsp439 := hgk422.st.sep 5 7 (hgk422.has 5 rfl) (hgk422.has 7 rfl) rfl
     refine OpR.op' rfl (yl_store (vs := [.slice A317_428 (((i_ReadRow p_0 p_1).1.Vals).length) c317_429]) Tryd.ty31 rfl hx424 hx427 rfl rfl rfl h425 (Nat.le_of_ble_eq_true rfl) ?_)
     intro w440 hB441 hO442
     have hO442z := hO442.size
     exact ⟨Chg.of_only hO442 (⟨rfl, Nat.le_refl _, by omega⟩), A317_428, c317_429, lo317_430, hi317_431, hB441, (OwnL.only good_Str h432 hO442 (by omega)), (show ((G419.fl 3) ≤ lo317_430 ∧ lo317_430 ≤ hi317_431 ∧ hi317_431 ≤ (G419.fh 3)) by omega)⟩
    ·intro L445 w446 G444 hgk447
     have hE448 := hgk447.st.ex.ex (fun b h => h.elim (fun h => h.elim) (fun h => h))
     have hE448z := Ex.size hE448
     obtain ⟨_, hx449, rfl⟩ := hgk447.val 6 42 rfl rfl
     exact OpR.op' rfl (Yl.sameG (yl_assign rfl hx449 kI))
    ·intro G450 L451 w452 hgp453
     have hE454 := hgp453.st.ex.ex (fun b h => h.elim (fun h => h.elim) (fun h => h))
     have hE454z := Ex.size hE454
     obtain ⟨_, hx460, A317_461, c317_462, lo317_463, hi317_464, rfl, h465, h466, hrn467⟩ := hgp453.val 3 40 rfl rfl
     obtain ⟨_, hx468, A317_469, c317_470, lo317_471, hi317_472, rfl, h473, hrn474⟩ := hgp453.val 4 36 rfl rfl
     obtain ⟨_, hx475, A317_476, c317_477, lo317_478, hi317_479, rfl, h480, hrn481⟩ := hgp453.val 5 41 rfl rfl
     obtain ⟨_, hx482, rfl, -, he483⟩ := hgp453.val 7 9 rfl rfl
     obtain ⟨_, A317_484, c317_485, lo317_486, hi317_487, h488, h489, hrn490⟩ := hgp453.fact 8 rfl
     obtain ⟨_, hx491, rfl⟩ := hgp453.val 9 10 rfl rfl
     have hr492 := hgp453.st.rng 3 (hgp453.has 3 rfl)
     have hr493 := hgp453.st.rng 4 (hgp453.has 4 rfl)
     have hr494 := hgp453.st.rng 5 (hgp453.has 5 rfl)
     have hr495 := hgp453.st.rng 7 (hgp453.has 7 rfl)
     have hr496 := hgp453.st.rng 8 (hgp453.has 8 rfl)
     have hsp497 := hgp453.st.ord 4 3 (hgp453.has 4 rfl) rfl
     have hsp498 := hgp453.st.ord 5 3 (hgp453.has 5 rfl) rfl
     have hsp499 := hgp453.st.sep 3 7 (hgp453.has 3 rfl) (hgp453.has 7 rfl) rfl
     have hsp500 := hgp453.st.ord 8 3 (hgp453.has 8 rfl) rfl
     have hsp501 := hgp453.st.ord 5 4 (hgp453.has 5 rfl) rfl
     have hsp502 := hgp453.st.sep 4 7 (hgp453.has 4 rfl) (hgp453.has 7 rfl) rfl
     have hsp503 := hgp453.st.ord 8 4 (hgp453.has 8 rfl) rfl
     have hsp504 := hgp453.st.sep 5 7 (hgp453.has 5 rfl) (hgp453.has 7 rfl) rfl
     have hsp505 := hgp453.st.ord 8 5 (hgp453.has 8 rfl) rfl
     have hsp506 := hgp453.st.ord 8 7 (hgp453.has 8 rfl) rfl
     refine SeqR.done (tn (CW.sub (Sub.cons (d := 2) (hgp453.old 2 _ rfl rfl) (Sub.cons (d := 3) (hgp453.old 3 _ rfl rfl) (Sub.cons (d := 6) (hgp453.old 6 _ rfl rfl) (Sub.cons (d := 7) (hgp453.old 7 _ rfl rfl) (Sub.cons (d := 8) (hgp453.old 8 _ rfl rfl) (Sub.cons (d := 9) hx482 (Sub.cons (d := 10) hx491 (Sub.nil _)))))))) (CW.seq (CW.seq (CW.region (sd rfl (yl_loadN (cs := [.slice A317_484 (((i_ReadRow p_0 p_1).1.Vals).length) c317_485]) Tryd.ty31 rfl rfl (h488.cells (n := 1) rfl) rfl ?_)))))))
     have q510 := Box.ex (Box.only (Box.ex (Box.ex h260 hE292) hE301) hO304 (by omega)) hE454
     refine sd rfl (yl_loadN (cs := [.slice A50_256 (((s_ReadRow p_0 p_1).1.Vals).length) c50_257]) Tryd.ty31 rfl rfl (q510.cells (n := 1) rfl) rfl ?_)
     have q516 := OwnL.ex good_Str (OwnL.only good_Str (OwnL.ex good_Str (OwnL.ex good_Str h261 hE292) hE301) hO304 (by omega)) hE454
     refine sd rfl (yl_call Tryd.en11 rfl (opvs_cons rfl (opvs_cons rfl opvs_nil)) (Cal.mono (c_l_eqRow ((i_ReadRow p_0 p_1).1) ((s_ReadRow p_0 p_1).1) (RdS.up (OwnL.rd good_Str h489) good_Str) (RdS.up (OwnL.rd good_Str q516) good_Str)) ?_))
     rintro v518 w517 ⟨rfl, hE519⟩
     have hE519z := Ex.size hE519
     refine sd rfl (yl_not rfl rfl (sd rfl (yl_move rfl rfl (bcase (l_eqRow ((i_ReadRow p_0 p_1).1) ((s_ReadRow p_0 p_1).1)) (fun hb520 => ?_) (fun hb520 => ?_)))))
     ·refine sy rfl rfl (not_t hb520) (yl_move rfl rfl (sy rfl rfl (not_t hb520) (yl_move rfl rfl (sy rfl rfl (not_t hb520) (yl_bneq Tryd.un4 rfl rfl rfl (sd rfl (yl_pick_f rfl rfl (not_t hb520) rfl (SeqR.done (tn (bcase (((i_ReadRow p_0 p_1).2) == ((s_ReadRow p_0 p_1).2)) (fun hb521 => ?_) (fun hb521 => ?_)))))))))))
      ·refine CW.cond_f rfl (not_t hb521) (CW.skip (tn (CW.seq (CW.seq ?_))))
       have q523 := Box.ex (Box.ex hB303 hE454) hE519
       have q528 := Box.ex (Box.ex (Box.only (Box.ex (Box.ex q285 hE292) hE301) hO304 (by omega)) hE454) hE519
       have q533 := RdS.ex good_Str (RdS.ex good_Str (RdS.only good_Str (RdS.ex good_Str (RdS.ex good_Str q286 hE292) hE301) hO304 (by simp only [Iv]; omega)) hE454) hE519
       have q538 := RdS.ex good_Idx (RdS.ex good_Idx (RdS.only good_Idx (RdS.ex good_Idx (RdS.ex good_Idx q287 hE292) hE301) hO304 (by simp only [Iv]; omega)) hE454) hE519
       have q544 := OwnL.ex good_Str (OwnL.ex good_Str q312 hE454) hE519
       have q547 := OwnL.ex good_Idx (OwnL.ex good_Idx q315 hE454) hE519
       refine CW.drawsI 5 (vgetI [DetI (.agg #[.string (bs (p_0.Name)), .slice A289 p_0.Cols.length c289, .slice A290 p_0.Idxs.length c290]), DetI (.agg #[.string (bs (p_0.Name)), .slice A1 p_0.Cols.length c1, .slice A2 p_0.Idxs.length c2]), fun lo hi v wq => ∃ A540 c540 lo540 hi540 A541 c541 lo541 hi541, v = .agg #[.string (bs (p_0.Name)), .slice A540 p_0.Cols.length c540, .slice A541 p_0.Idxs.length c541] ∧ OwnL wq lo540 hi540 9 1 (RF e_Str) A540 p_0.Cols.length c540 p_0.Cols ∧ OwnL wq lo541 hi541 74 3 (RF e_Idx) A541 p_0.Idxs.length c541 p_0.Idxs ∧ (lo ≤ lo540 ∧ lo540 ≤ hi540 ∧ hi540 ≤ hi) ∧ (lo ≤ lo541 ∧ lo541 ≤ hi541 ∧ hi541 ≤ hi) ∧ (hi540 ≤ lo541 ∨ hi541 ≤ lo540), DetI (.bool ((l_eqTable p_0 p_0))), DetI (.bool (!(l_eqTable p_0 p_0)))]) Tryd.follows rfl rfl rfl rfl rfl rfl (vgetI_stable ⟨StableI.det _, StableI.det _, (fun _ _ _ _ _ ⟨A540, c540, lo540, hi540, A541, c541, lo541, hi541, hv, h540, h541, hr0, hr1, hr2⟩ e => ⟨A540, c540, lo540, hi540, A541, c541, lo541, hi541, hv, OwnL.ex good_Str h540 e, OwnL.ex good_Idx h541 e, hr0, hr1, hr2⟩), StableI.det _, StableI.det _, trivial⟩) ⟨?_, ?_, ?_, ?_, ?_, trivial⟩ ?_
       ·exact fun _ _ h => os rfl ((yl_loadN (cs := [.string (bs (p_0.Name)), .slice A289 p_0.Cols.length c289, .slice A290 p_0.Idxs.length c290]) Tryd.ty36 rfl (h.old 8 _ rfl rfl) ((Box.ex q523 h.ex).cells (n := 3) rfl) rfl kI))
       ·exact fun _ _ h => os rfl ((yl_loadN (cs := [.string (bs (p_0.Name)), .slice A1 p_0.Cols.length c1, .slice A2 p_0.Idxs.length c2]) Tryd.ty25 rfl (h.old 2 _ rfl rfl) ((Box.ex q528 h.ex).cells (n := 3) rfl) rfl kI))
       ·intro L561 w562 hi563
        have hE564 := hi563.ex
        refine OpR.op' rfl (yl_call Tryd.en8 rfl (opvs_cons (hi563.dt 1 53 rfl rfl rfl) opvs_nil) (Cal.mono (c_l_toTable p_0 (RdS.up (RdS.ex good_Str q533 hE564) good_Str) (RdS.up (RdS.ex good_Idx q538 hE564) good_Idx) ((szok_Table pre0 (by decide) (dec_f hb23)).1)) ?_))
        rintro v571 w568 ⟨A569, c569, lo569, hi569, A570, c570, lo570, hi570, rfl, h569, h570, hrn573, hrn574, hrn575, hE572⟩
        exact ⟨⟨A569, c569, lo569, hi569, A570, c570, lo570, hi570, rfl, h569, h570, hrn573, hrn574, hrn575⟩, hE572⟩
       ·intro L576 w577 hi578
        have hE579 := hi578.ex
        obtain ⟨lo582, hh583, _, hx581, hr584, hr585, hr586, A540_587, c540_588, lo540_589, hi540_590, A541_591, c541_592, lo541_593, hi541_594, rfl, h595, h596, hrn597, hrn598, hrn599⟩ := hi578.dep 2 54 rfl rfl
        refine OpR.op' rfl (yl_call Tryd.en12 rfl (opvs_cons (hi578.dt 0 52 rfl rfl rfl) (opvs_cons hx581 opvs_nil)) (Cal.mono (c_l_eqTable p_0 p_0 (RdS.up (OwnL.rd good_Str (OwnL.ex good_Str q544 hE579)) good_Str) (RdS.up (OwnL.rd good_Idx (OwnL.ex good_Idx q547 hE579)) good_Idx) (RdS.up (OwnL.rd good_Str h595) good_Str) (RdS.up (OwnL.rd good_Idx h596) good_Idx)) ?_))
        rintro v607 w606 ⟨rfl, hE608⟩
        exact ⟨rfl, hE608⟩
       ·exact fun _ _ h => os rfl ((yl_not rfl (h.dt 3 55 rfl rfl rfl) kI))
       ·intro fl617 fh618 L614 w615 hp616
        have hE619 := hp616.ex
        have hE619z := Ex.size hE619
        have hr628 := hp616.rng 2 rfl
        obtain ⟨_, hx627, A540_629, c540_630, lo540_631, hi540_632, A541_633, c541_634, lo541_635, hi541_636, rfl, h637, h638, hrn639, hrn640, hrn641⟩ := hp616.new 2 54 rfl rfl
        refine SeqR.done (tn (CW.sub (Sub.cons (d := 2) (hp616.old 2 _ rfl rfl) (Sub.cons (d := 3) (hp616.old 3 _ rfl rfl) (Sub.cons (d := 6) (hp616.old 6 _ rfl rfl) (Sub.cons (d := 7) (hp616.old 7 _ rfl rfl) (Sub.cons (d := 8) (hp616.old 8 _ rfl rfl) (Sub.cons (d := 9) (hp616.old 9 _ rfl rfl) (Sub.cons (d := 10) (hp616.old 10 _ rfl rfl) (Sub.cons (d := 56) (hp616.nt 4 56 rfl rfl rfl) (Sub.nil _))))))))) (bcase (l_eqTable p_0 p_0) (fun hb643 => ?_) (fun hb643 => ?_))))
        ·refine CW.cond_f rfl (not_t hb643) (CW.skip (tn (CW.seq (CW.region (sd rfl (yl_assign rfl rfl (SeqR.done (tn (CW.seq ?_)))))))))
         refine CW.region (sd rfl (yl_loadN (cs := [.string (bs (p_0.Name)), .slice A289 p_0.Cols.length c289, .slice A290 p_0.Idxs.length c290]) Tryd.ty36 rfl rfl ((Box.ex q523 hE619).cells (n := 3) rfl) rfl (sd rfl (yl_move rfl rfl (sd rfl (yl_call Tryd.en13 rfl (opvs_cons rfl (opvs_cons rfl opvs_nil)) (Cal.mono (c_l_markTable p_0 1 (OwnL.ex good_Str q544 hE619) (OwnL.ex good_Idx q547 hE619) (by omega) (by omega) (by omega) (by first | omega | assumption | (simp only [IntKind.wrap_i64] at *; omega))) ?_)))))))
         rintro v648 w647 ⟨rfl, h650, h651, hm649⟩
         have hm649z := Mut.size hm649
         have hrf652 := rf_markTable p_0 1 (by first | omega | assumption | (simp only [IntKind.wrap_i64] at *; omega))
         refine sd rfl (yl_assign rfl rfl (SeqR.done (tn (CW.seq (CW.seq (CW.region (sd rfl (yl_move rfl rfl (sd rfl (yl_lss rfl rfl rfl (sd rfl (yl_move rfl rfl ?_))))))))))))
         refine bcase (decide (((l_markTable p_0 1).1) < 0)) (fun hb653 => ?_) (fun hb653 => ?_)
         ·have hb653p := dec_t hb653
          refine sz rfl rfl hb653 (sz rfl rfl hb653 (sz rfl rfl hb653 (sz rfl rfl hb653 (sd rfl (yl_pick_t rfl rfl hb653 rfl (sd rfl (yl_move rfl rfl (sz rfl rfl rfl (sz rfl rfl rfl (sz rfl rfl rfl ?_))))))))))
          refine sd rfl (yl_pick_t rfl rfl rfl rfl (SeqR.done (tn (CW.cond_t rfl rfl (CW.seq (CW.region (sd rfl (yl_assign rfl rfl (SeqR.done (tn ?_))))))))))
          refine CW.ret (tr (rr rfl (.cons rfl .nil) ?_))
          have hM654 : (l_FnExactReadRow p_0 p_1) = (false) := by simp only [l_FnExactReadRow, hb23, hb32, hb520, hb521, hb643, hb653, cond_true, cond_false, loopE_done, loopE_ret]
          rw [hM654]
          exact ⟨rfl, (Ex.mut (Ex.trans (Ex.trans (Ex.trans (Below.only (Ex.trans (Ex.trans (Ex.trans (Ex.trans (Ex.trans (Ex.trans (Ex.trans (Ex.refl w) hE8) hE14) hE22) hE31) hE215) hE292) hE301) hO304 (by omega)) hE454) hE519) hE619) hm649 (fun k hk => by simp only [InR, or_false] at hk; omega))⟩
         ·have hb653p := dec_f hb653
          have q669 := Box.mut (Box.ex (Box.ex h488 hE519) hE619) hm649 (fun k hk => by simp only [InR, or_false] at hk; omega)
          refine sy rfl rfl hb653 (yl_loadN (cs := [.slice A317_484 (((i_ReadRow p_0 p_1).1.Vals).length) c317_485]) Tryd.ty31 rfl rfl (q669.cells (n := 1) rfl) rfl ?_)
          have q672 := Box.mut (Box.ex (Box.ex q510 hE519) hE619) hm649 (fun k hk => by simp only [InR, or_false] at hk; omega)
          refine sy rfl rfl hb653 (yl_loadN (cs := [.slice A50_256 (((s_ReadRow p_0 p_1).1.Vals).length) c50_257]) Tryd.ty31 rfl rfl (q672.cells (n := 1) rfl) rfl ?_)
          have q676 := OwnL.mut good_Str (OwnL.ex good_Str (OwnL.ex good_Str h489 hE519) hE619) hm649 (fun k hk => by simp only [InR, or_false] at hk; omega)
          have q680 := OwnL.mut good_Str (OwnL.ex good_Str (OwnL.ex good_Str q516 hE519) hE619) hm649 (fun k hk => by simp only [InR, or_false] at hk; omega)
          refine sy rfl rfl hb653 (yl_call Tryd.en11 rfl (opvs_cons rfl (opvs_cons rfl opvs_nil)) (Cal.mono (c_l_eqRow ((i_ReadRow p_0 p_1).1) ((s_ReadRow p_0 p_1).1) (RdS.up (OwnL.rd good_Str q676) good_Str) (RdS.up (OwnL.rd good_Str q680) good_Str)) ?_))
          rintro v682 w681 ⟨rfl, hE683⟩
          have hE683z := Ex.size hE683
          refine sy rfl rfl hb653 (yl_not rfl rfl (sd rfl (yl_pick_f rfl rfl hb653 rfl (sd rfl (yl_move rfl rfl (sy rfl rfl (not_t hb520) (yl_move rfl rfl (sy rfl rfl (not_t hb520) (yl_move rfl rfl (sy rfl rfl (not_t hb520) (yl_bneq Tryd.un4 rfl rfl rfl (sd rfl (yl_pick_f rfl rfl (not_t hb520) rfl (SeqR.done (tn ?_)))))))))))))))
          refine CW.cond_f rfl (not_t hb521) (CW.skip (tn (CW.seq (CW.region (sd rfl (yl_assign rfl rfl (SeqR.done (tn (CW.seq ?_)))))))))
          refine CW.region ?_
          have q684 := Box.ex q669 hE683
          refine sd rfl (yl_loadN (cs := [.slice A317_484 (((i_ReadRow p_0 p_1).1.Vals).length) c317_485]) Tryd.ty31 rfl rfl (q684.cells (n := 1) rfl) rfl (sd rfl (yl_move rfl rfl (sd rfl (yl_call Tryd.en14 rfl (opvs_cons rfl (opvs_cons rfl opvs_nil)) (Cal.mono (c_l_markRow ((i_ReadRow p_0 p_1).1) 1 (OwnL.ex good_Str q676 hE683) (by omega) (by first | omega | assumption | (simp only [IntKind.wrap_i64] at *; omega))) ?_))))))
          rintro v687 w686 ⟨rfl, h689, hm688⟩
          have hm688z := Mut.size hm688
          have hrf690 := rf_markRow ((i_ReadRow p_0 p_1).1) 1 (by first | omega | assumption | (simp only [IntKind.wrap_i64] at *; omega))
          refine sd rfl (yl_assign rfl rfl (SeqR.done (tn (CW.seq (CW.region (sd rfl (yl_assign rfl rfl (SeqR.done (tn (CW.seq ?_))))))))))
          refine CW.region ?_
          have q691 := Box.mut q684 hm688 (fun k hk => by simp only [InR, or_false] at hk; omega)
          refine sd rfl (yl_loadN (cs := [.slice A317_484 (((i_ReadRow p_0 p_1).1.Vals).length) c317_485]) Tryd.ty31 rfl rfl (q691.cells (n := 1) rfl) rfl (sd rfl (yl_move rfl rfl ?_)))
          have hle692 := OwnL.len h689
          refine sd rfl (yl_call Tryd.en15 rfl (opvs_cons rfl (opvs_cons rfl opvs_nil)) (Cal.mono (Cal.args (by rw [← hle692] <;> rfl) (c_l_heldRow ((l_markRow ((i_ReadRow p_0 p_1).1) 1).2) 1 (RdS.fix (RdS.up (OwnL.rd good_Str h689) good_Str)) (by first | omega | assumption | (simp only [IntKind.wrap_i64] at *; omega)))) ?_))
          rintro v695 w694 ⟨rfl, hE696⟩
          have hE696z := Ex.size hE696
          have hrf697 := rf_heldRow ((l_markRow ((i_ReadRow p_0 p_1).1) 1).2) 1 (by first | omega | assumption | (simp only [IntKind.wrap_i64] at *; omega))
          refine sd rfl (yl_assign rfl rfl (SeqR.done (tn (CW.seq (CW.seq (CW.region (sd rfl (yl_move rfl rfl (sd rfl (yl_lss rfl rfl rfl (SeqR.done ?_)))))))))))
          refine tn (bcase (decide ((l_heldRow ((l_markRow ((i_ReadRow p_0 p_1).1) 1).2) 1) < 0)) (fun hb698 => ?_) (fun hb698 => ?_))
          ·have hb698p := dec_t hb698
           refine CW.cond_t rfl hb698 (CW.seq (CW.region (sd rfl (yl_assign rfl rfl (SeqR.done (tn (CW.ret (tr (rr rfl (.cons rfl .nil) ?_)))))))))
           have hM699 : (l_FnExactReadRow p_0 p_1) = (false) := by simp only [l_FnExactReadRow, hb23, hb32, hb520, hb521, hb643, hb653, hb698, cond_true, cond_false, loopE_done, loopE_ret]
           rw [hM699]
           exact ⟨rfl, (Ex.trans (Ex.mut (Ex.trans (Ex.mut (Ex.trans (Ex.trans (Ex.trans (Below.only (Ex.trans (Ex.trans (Ex.trans (Ex.trans (Ex.trans (Ex.trans (Ex.trans (Ex.refl w) hE8) hE14) hE22) hE31) hE215) hE292) hE301) hO304 (by omega)) hE454) hE519) hE619) hm649 (fun k hk => by simp only [InR, or_false] at hk; omega)) hE683) hm688 (fun k hk => by simp only [InR, or_false] at hk; omega)) hE696)⟩
          ·have hb698p := dec_f hb698
           refine CW.cond_f rfl hb698 (CW.skip (tn (CW.seq (CW.seq (CW.region (sd rfl (yl_move rfl rfl (sd rfl (yl_move rfl rfl (sd rfl (yl_neq rfl rfl rfl ?_)))))))))))
           refine SeqR.done (tn (bcase (decide ((l_heldRow ((l_markRow ((i_ReadRow p_0 p_1).1) 1).2) 1) = ((l_markRow ((i_ReadRow p_0 p_1).1) 1).1))) (fun hb715 => ?_) (fun hb715 => ?_)))
           ·have hb715p := dec_t hb715
            refine CW.cond_f rfl (not_t hb715) (CW.skip (tn (CW.seq (CW.drawsG 11 (fun _ _ => False) (fun i G b => (i = 9 ∧ (G.fl 8) ≤ b ∧ b < (G.fh 8))) (vgetG [DetG (.agg #[.string (bs (p_0.Name)), .slice A1 p_0.Cols.length c1, .slice A2 p_0.Idxs.length c2]), fun G v wq => ∃ A732 c732 lo732 hi732 A733 c733 lo733 hi733, v = .agg #[.string (bs (p_0.Name)), .slice A732 p_0.Cols.length c732, .slice A733 p_0.Idxs.length c733] ∧ OwnL wq lo732 hi732 9 1 (RF e_Str) A732 p_0.Cols.length c732 p_0.Cols ∧ OwnL wq lo733 hi733 74 3 (RF e_Idx) A733 p_0.Idxs.length c733 p_0.Idxs ∧ ((G.fl 1) ≤ lo732 ∧ lo732 ≤ hi732 ∧ hi732 ≤ (G.fh 1)) ∧ ((G.fl 1) ≤ lo733 ∧ lo733 ≤ hi733 ∧ hi733 ≤ (G.fh 1)) ∧ (hi732 ≤ lo733 ∨ hi733 ≤ lo732), DetG (.agg #[.string (bs (p_1.Key)), .string (bs (p_1.Val)), .bool (p_1.Gone)]), DetG (.agg #[.string (bs (p_1.Key)), .string (bs (p_1.Val)), .bool (p_1.Gone)]), fun G v wq => ∃ A743 c743 lo743 hi743, v = .tuple #[.agg #[.slice A743 (((i_ReadRow p_0 p_1).1.Vals).length) c743], .bool ((i_ReadRow p_0 p_1).2)] ∧ OwnL wq lo743 hi743 9 1 (RF e_Str) A743 (((i_ReadRow p_0 p_1).1.Vals).length) c743 ((i_ReadRow p_0 p_1).1.Vals) ∧ ok_Row ((i_ReadRow p_0 p_1).1) ∧ ((G.fl 4) ≤ lo743 ∧ lo743 ≤ hi743 ∧ hi743 ≤ (G.fh 4)), fun G v wq => ∃ A743 c743 lo743 hi743, v = .tuple #[.agg #[.slice A743 (((i_ReadRow p_0 p_1).1.Vals).length) c743], .bool ((i_ReadRow p_0 p_1).2)] ∧ OwnL wq lo743 hi743 9 1 (RF e_Str) A743 (((i_ReadRow p_0 p_1).1.Vals).length) c743 ((i_ReadRow p_0 p_1).1.Vals) ∧ ((G.fl 4) ≤ lo743 ∧ lo743 ≤ hi743 ∧ hi743 ≤ (G.fh 4)), fun G v wq => ∃ A743 c743 lo743 hi743, v = .agg #[.slice A743 (((i_ReadRow p_0 p_1).1.Vals).length) c743] ∧ OwnL wq lo743 hi743 9 1 (RF e_Str) A743 (((i_ReadRow p_0 p_1).1.Vals).length) c743 ((i_ReadRow p_0 p_1).1.Vals) ∧ ((G.fl 4) ≤ lo743 ∧ lo743 ≤ hi743 ∧ hi743 ≤ (G.fh 4)), DetG (.bool ((i_ReadRow p_0 p_1).2)), fun G v wq => v = .pointer (some ⟨(G.fl 8), 0, none⟩) ∧ (G.dn 9 = false → Box wq (G.fl 8) 31 [.slice none 0 0]) ∧ (G.fl 8) < (G.fh 8), fun G v wq => ∃ A743 c743 lo743 hi743, Box wq (G.fl 8) 31 [.slice A743 (((i_ReadRow p_0 p_1).1.Vals).length) c743] ∧ OwnL wq lo743 hi743 9 1 (RF e_Str) A743 (((i_ReadRow p_0 p_1).1.Vals).length) c743 ((i_ReadRow p_0 p_1).1.Vals) ∧ ((G.fl 4) ≤ lo743 ∧ lo743 ≤ hi743 ∧ hi743 ≤ (G.fh 4)), DetG (.bool ((i_ReadRow p_0 p_1).2))]) Tryd.follows rfl rfl rfl rfl rfl rfl (fun _ _ _ _ _ h => h) (fun i G w lo hi b K hn hh hp => by exact (match hp with | ⟨e, q1, q2⟩ => by subst e; exact .inr (by have := K.rng 8 (hh 8 rfl); omega))) (vgetG_kept ⟨(KeptG.det _), (by rintro i G v w w' K hn hh hj ⟨A732, c732, lo732, hi732, A733, c733, lo733, hi733, hv, h0, h1, hr0, hr1, hr2⟩ e; have d1 : G.dn 1 = true := hj; have u1 := Gh.ufl (lo := w.heap.size) (hi := w'.heap.size) d1 hn; have t1 := Gh.ufh (lo := w.heap.size) (hi := w'.heap.size) d1 hn; exact ⟨A732, c732, lo732, hi732, A733, c733, lo733, hi733, hv, (by exact OwnL.chg good_Str h0 e (fun b hb hp => by obtain ⟨rfl, q1, q2⟩ := hp; have := K.rng 1 d1; have := K.rng 8 (hh 8 rfl); have := K.sep 8 1 (hh 8 rfl) d1 rfl; skip; omega)), (by exact OwnL.chg good_Idx h1 e (fun b hb hp => by obtain ⟨rfl, q1, q2⟩ := hp; have := K.rng 1 d1; have := K.rng 8 (hh 8 rfl); have := K.sep 8 1 (hh 8 rfl) d1 rfl; skip; omega)), (by simp only [u1, t1]; exact hr0), (by simp only [u1, t1]; exact hr1), hr2⟩), (KeptG.det _), (KeptG.det _), (by rintro i G v w w' K hn hh hj ⟨A743, c743, lo743, hi743, hv, h0, h1, hr0⟩ e; have d4 : G.dn 4 = true := hj; have u4 := Gh.ufl (lo := w.heap.size) (hi := w'.heap.size) d4 hn; have t4 := Gh.ufh (lo := w.heap.size) (hi := w'.heap.size) d4 hn; exact ⟨A743, c743, lo743, hi743, hv, (by exact OwnL.chg good_Str h0 e (fun b hb hp => by obtain ⟨rfl, q1, q2⟩ := hp; have := K.rng 4 d4; have := K.rng 8 (hh 8 rfl); have := K.sep 8 4 (hh 8 rfl) d4 rfl; skip; omega)), h1, (by simp only [u4, t4]; exact hr0)⟩), (by rintro i G v w w' K hn hh hj ⟨A743, c743, lo743, hi743, hv, h0, hr0⟩ e; have d4 : G.dn 4 = true := K.cl 5 4 hj rfl; have u4 := Gh.ufl (lo := w.heap.size) (hi := w'.heap.size) d4 hn; have t4 := Gh.ufh (lo := w.heap.size) (hi := w'.heap.size) d4 hn; exact ⟨A743, c743, lo743, hi743, hv, (by exact OwnL.chg good_Str h0 e (fun b hb hp => by obtain ⟨rfl, q1, q2⟩ := hp; have := K.rng 4 d4; have := K.rng 8 (hh 8 rfl); have := K.sep 8 4 (hh 8 rfl) d4 rfl; skip; omega)), (by simp only [u4, t4]; exact hr0)⟩), (by rintro i G v w w' K hn hh hj ⟨A743, c743, lo743, hi743, hv, h0, hr0⟩ e; have d4 : G.dn 4 = true := K.cl 6 4 hj rfl; have u4 := Gh.ufl (lo := w.heap.size) (hi := w'.heap.size) d4 hn; have t4 := Gh.ufh (lo := w.heap.size) (hi := w'.heap.size) d4 hn; exact ⟨A743, c743, lo743, hi743, hv, (by exact OwnL.chg good_Str h0 e (fun b hb hp => by obtain ⟨rfl, q1, q2⟩ := hp; have := K.rng 4 d4; have := K.rng 8 (hh 8 rfl); have := K.sep 8 4 (hh 8 rfl) d4 rfl; skip; omega)), (by simp only [u4, t4]; exact hr0)⟩), (KeptG.det _), (by rintro i G v w w' K hn hh hj ⟨hv, h0, he0⟩ e; have d8 : G.dn 8 = true := hj; have u8 := Gh.ufl (lo := w.heap.size) (hi := w'.heap.size) d8 hn; have t8 := Gh.ufh (lo := w.heap.size) (hi := w'.heap.size) d8 hn; exact ⟨(by simp only [u8, t8]; exact hv), (by intro hd; simp only [u8, t8]; exact Box.chg (h0 (Gh.off hd).2) e (fun hp => by obtain ⟨rfl, q1, q2⟩ := hp; exact absurd rfl (Gh.off hd).1)), (by simp only [u8, t8]; exact he0)⟩), (by rintro i G v w w' K hn hh hj ⟨A743, c743, lo743, hi743, h0, h1, hr0⟩ e; have d4 : G.dn 4 = true := K.cl 9 4 hj rfl; have u4 := Gh.ufl (lo := w.heap.size) (hi := w'.heap.size) d4 hn; have t4 := Gh.ufh (lo := w.heap.size) (hi := w'.heap.size) d4 hn; have d8 : G.dn 8 = true := K.cl 9 8 hj rfl; have u8 := Gh.ufl (lo := w.heap.size) (hi := w'.heap.size) d8 hn; have t8 := Gh.ufh (lo := w.heap.size) (hi := w'.heap.size) d8 hn; exact ⟨A743, c743, lo743, hi743, (by simp only [u4, t4, u8, t8]; exact Box.chg h0 e (fun hp => by obtain ⟨rfl, q1, q2⟩ := hp; rw [hj] at hn; cases hn)), (by exact OwnL.chg good_Str h1 e (fun b hb hp => by obtain ⟨rfl, q1, q2⟩ := hp; rw [hj] at hn; cases hn)), (by simp only [u4, t4, u8, t8]; exact hr0)⟩), (KeptG.det _), trivial⟩) ⟨?_, ?_, ?_, ?_, ?_, ?_, ?_, ?_, ?_, ?_, ?_, trivial⟩ ?_))))
            ·intro L751 w752 G750 hgk753
             have hE754 := hgk753.st.ex.ex (fun b h => h.elim (fun h => h.elim) (fun h => h))
             have hE754z := Ex.size hE754
             exact OpR.op' rfl (Yl.sameG (yl_loadN (cs := [.string (bs (p_0.Name)), .slice A1 p_0.Cols.length c1, .slice A2 p_0.Idxs.length c2]) Tryd.ty25 rfl (hgk753.old 2 _ rfl rfl) ((Box.ex (Box.ex (Box.mut (Box.ex (Box.mut (Box.ex q528 hE619) hm649 (fun k hk => by simp only [InR, or_false] at hk; omega)) hE683) hm688 (fun k hk => by simp only [InR, or_false] at hk; omega)) hE696) hE754).cells (n := 3) rfl) rfl kI))
            ·intro L758 w759 G757 hgk760
             have hE761 := hgk760.st.ex.ex (fun b h => h.elim (fun h => h.elim) (fun h => h))
             have hE761z := Ex.size hE761
             obtain ⟨_, hx762, rfl⟩ := hgk760.val 0 85 rfl rfl
             refine OpR.op' rfl (yl_call Tryd.en8 rfl (opvs_cons hx762 opvs_nil) (Cal.mono (c_l_toTable p_0 (RdS.up (RdS.ex good_Str (RdS.ex good_Str (RdS.mut good_Str (RdS.ex good_Str (RdS.mut good_Str (RdS.ex good_Str q533 hE619) hm649 (fun k hk => by simp only [InR, or_false, Iv, Ge] at hk ⊢; omega)) hE683) hm688 (fun k hk => by simp only [InR, or_false, Iv, Ge] at hk ⊢; omega)) hE696) hE761) good_Str) (RdS.up (RdS.ex good_Idx (RdS.ex good_Idx (RdS.mut good_Idx (RdS.ex good_Idx (RdS.mut good_Idx (RdS.ex good_Idx q538 hE619) hm649 (fun k hk => by simp only [InR, or_false, Iv, Ge] at hk ⊢; omega)) hE683) hm688 (fun k hk => by simp only [InR, or_false, Iv, Ge] at hk ⊢; omega)) hE696) hE761) good_Idx) ((szok_Table pre0 (by decide) (dec_f hb23)).1)) ?_))
             rintro v768 w765 ⟨A766, c766, lo766, hi766, A767, c767, lo767, hi767, rfl, h766, h767, hrn770, hrn771, hrn772, hE769⟩
             exact ⟨Chg.of_ex hE769, A766, c766, lo766, hi766, A767, c767, lo767, hi767, rfl, h766, h767, hrn770, hrn771, hrn772⟩
            ·intro L774 w775 G773 hgk776
             have hE777 := hgk776.st.ex.ex (fun b h => h.elim (fun h => h.elim) (fun h => h))
             have hE777z := Ex.size hE777
             exact OpR.op' rfl (Yl.sameG (yl_loadN (cs := [.string (bs (p_1.Key)), .string (bs (p_1.Val)), .bool (p_1.Gone)]) Tryd.ty27 rfl (hgk776.old 3 _ rfl rfl) ((Box.ex (Box.ex (Box.mut (Box.ex (Box.mut (Box.ex (Box.ex (Box.ex q308 hE454) hE519) hE619) hm649 (fun k hk => by simp only [InR, or_false] at hk; omega)) hE683) hm688 (fun k hk => by simp only [InR, or_false] at hk; omega)) hE696) hE777).cells (n := 3) rfl) rfl kI))
            ·intro L781 w782 G780 hgk783
             have hE784 := hgk783.st.ex.ex (fun b h => h.elim (fun h => h.elim) (fun h => h))
             have hE784z := Ex.size hE784
             obtain ⟨_, hx785, rfl⟩ := hgk783.val 2 87 rfl rfl
             refine OpR.op' rfl (yl_call Tryd.en9 rfl (opvs_cons hx785 opvs_nil) (Cal.mono (c_l_toWrite p_1 ((szok_Write pre1 (szok_Table pre0 (by decide) (dec_f hb23)).2 (dec_f hb32)).1)) ?_))
             rintro v787 w786 ⟨rfl, hE788⟩
             exact ⟨Chg.of_ex hE788, rfl⟩
            ·intro L790 w791 G789 hgk792
             have hE793 := hgk792.st.ex.ex (fun b h => h.elim (fun h => h.elim) (fun h => h))
             have hE793z := Ex.size hE793
             obtain ⟨_, hx794, A732_795, c732_796, lo732_797, hi732_798, A733_799, c733_800, lo733_801, hi733_802, rfl, h803, h804, hrn805, hrn806, hrn807⟩ := hgk792.val 1 86 rfl rfl
             obtain ⟨_, hx808, rfl⟩ := hgk792.val 3 88 rfl rfl
             have hr809 := hgk792.st.rng 1 (hgk792.has 1 rfl)
             refine OpR.op' rfl (yl_call Tryd.en10 rfl (opvs_cons hx794 (opvs_cons hx808 opvs_nil)) (Cal.mono (c_i_ReadRow p_0 p_1 (RdS.up (OwnL.rd good_Str h803) good_Str) (RdS.up (OwnL.rd good_Idx h804) good_Idx) ((szok_Table pre0 (by decide) (dec_f hb23)).1) ((szok_Write pre1 (szok_Table pre0 (by decide) (dec_f hb23)).2 (dec_f hb32)).1)) ?_))
             rintro v815 w812 ⟨A813, c813, lo813, hi813, rfl, h813, ho814, hrn817, hE816⟩
             exact ⟨Chg.of_ex hE816, A813, c813, lo813, hi813, rfl, h813, ho814, hrn817⟩
            ·intro L819 w820 G818 hgk821
             have hE822 := hgk821.st.ex.ex (fun b h => h.elim (fun h => h.elim) (fun h => h))
             have hE822z := Ex.size hE822
             obtain ⟨_, hx823, A743_824, c743_825, lo743_826, hi743_827, rfl, h828, h829, hrn830⟩ := hgk821.val 4 89 rfl rfl
             have hr831 := hgk821.st.rng 4 (hgk821.has 4 rfl)
             exact OpR.op' rfl (Yl.sameG (yl_move rfl hx823 ⟨fun _ _ => ⟨A743_824, c743_825, lo743_826, hi743_827, rfl, h828, (show ((G818.fl 4) ≤ lo743_826 ∧ lo743_826 ≤ hi743_827 ∧ hi743_827 ≤ (G818.fh 4)) by omega)⟩, rfl⟩))
            ·intro L833 w834 G832 hgk835
             have hE836 := hgk835.st.ex.ex (fun b h => h.elim (fun h => h.elim) (fun h => h))
             have hE836z := Ex.size hE836
             obtain ⟨_, hx837, A743_838, c743_839, lo743_840, hi743_841, rfl, h842, hrn843⟩ := hgk835.val 5 84 rfl rfl
             have hr844 := hgk835.st.rng 4 (hgk835.has 4 rfl)
             have hr845 := hgk835.st.rng 5 (hgk835.has 5 rfl)
             have hsp846 := hgk835.st.ord 5 4 (hgk835.has 5 rfl) rfl
             exact OpR.op' rfl (Yl.sameG (yl_extract rfl hx837 rfl ⟨fun _ _ => ⟨A743_838, c743_839, lo743_840, hi743_841, rfl, h842, (show ((G832.fl 4) ≤ lo743_840 ∧ lo743_840 ≤ hi743_841 ∧ hi743_841 ≤ (G832.fh 4)) by omega)⟩, rfl⟩))
            ·intro L848 w849 G847 hgk850
             have hE851 := hgk850.st.ex.ex (fun b h => h.elim (fun h => h.elim) (fun h => h))
             have hE851z := Ex.size hE851
             obtain ⟨_, hx852, A743_853, c743_854, lo743_855, hi743_856, rfl, h857, hrn858⟩ := hgk850.val 5 84 rfl rfl
             have hr859 := hgk850.st.rng 4 (hgk850.has 4 rfl)
             have hr860 := hgk850.st.rng 5 (hgk850.has 5 rfl)
             have hsp861 := hgk850.st.ord 5 4 (hgk850.has 5 rfl) rfl
             exact OpR.op' rfl (Yl.sameG (yl_extract rfl hx852 rfl kI))
            ·intro L863 w864 G862 hgk865
             have hE866 := hgk865.st.ex.ex (fun b h => h.elim (fun h => h.elim) (fun h => h))
             have hE866z := Ex.size hE866
             refine OpR.op' rfl (yl_alloc Tryd.ty31 (cs := [.slice none 0 0]) rfl rfl ?_)
             intro b867 w868 hs869 hz870 hB871 hE872
             subst hs869
             exact ⟨Chg.of_ex hE872, rfl, fun _ => hB871, by rw [Gh.sfl, Gh.sfh]; omega⟩
            ·intro L874 w875 G873 hgk876
             have hE877 := hgk876.st.ex.ex (fun b h => h.elim (fun h => h.elim) (fun h => h))
             have hE877z := Ex.size hE877
             obtain ⟨_, hx878, rfl, h879, he880⟩ := hgk876.val 8 14 rfl rfl
             have h879 := h879 hgk876.new
             obtain ⟨_, hx881, A743_882, c743_883, lo743_884, hi743_885, rfl, h886, hrn887⟩ := hgk876.val 6 90 rfl rfl
             have hr888 := hgk876.st.rng 4 (hgk876.has 4 rfl)
             have hr889 := hgk876.st.rng 6 (hgk876.has 6 rfl)
             have hr890 := hgk876.st.rng 8 (hgk876.has 8 rfl)
             have hsp891 := hgk876.st.ord 6 4 (hgk876.has 6 rfl) rfl
             have hsp892 := hgk876.st.sep 4 8 (hgk876.has 4 rfl) (hgk876.has 8 rfl) rfl
             have hsp893 := hgk876.st.sep 6 8 (hgk876.has 6 rfl) (hgk876.has 8 rfl) rfl
             refine OpR.op' rfl (yl_store (vs := [.slice A743_882 (((i_ReadRow p_0 p_1).1.Vals).length) c743_883]) Tryd.ty31 rfl hx878 hx881 rfl rfl rfl h879 (Nat.le_of_ble_eq_true rfl) ?_)
             intro w894 hB895 hO896
             have hO896z := hO896.size
             exact ⟨Chg.of_only hO896 (⟨rfl, Nat.le_refl _, by omega⟩), A743_882, c743_883, lo743_884, hi743_885, hB895, (OwnL.only good_Str h886 hO896 (by omega)), (show ((G873.fl 4) ≤ lo743_884 ∧ lo743_884 ≤ hi743_885 ∧ hi743_885 ≤ (G873.fh 4)) by omega)⟩
            ·intro L899 w900 G898 hgk901
             have hE902 := hgk901.st.ex.ex (fun b h => h.elim (fun h => h.elim) (fun h => h))
             have hE902z := Ex.size hE902
             obtain ⟨_, hx903, rfl⟩ := hgk901.val 7 91 rfl rfl
             exact OpR.op' rfl (Yl.sameG (yl_assign rfl hx903 kI))
            ·intro G904 L905 w906 hgp907
             have hE908 := hgp907.st.ex.ex (fun b h => h.elim (fun h => h.elim) (fun h => h))
             have hE908z := Ex.size hE908
             obtain ⟨_, hx913, A732_914, c732_915, lo732_916, hi732_917, A733_918, c733_919, lo733_920, hi733_921, rfl, h922, h923, hrn924, hrn925, hrn926⟩ := hgp907.val 1 86 rfl rfl
             obtain ⟨_, hx927, A743_928, c743_929, lo743_930, hi743_931, rfl, h932, h933, hrn934⟩ := hgp907.val 4 89 rfl rfl
             obtain ⟨_, hx935, A743_936, c743_937, lo743_938, hi743_939, rfl, h940, hrn941⟩ := hgp907.val 5 84 rfl rfl
             obtain ⟨_, hx942, A743_943, c743_944, lo743_945, hi743_946, rfl, h947, hrn948⟩ := hgp907.val 6 90 rfl rfl
             obtain ⟨_, hx949, rfl, -, he950⟩ := hgp907.val 8 14 rfl rfl
             obtain ⟨_, A743_951, c743_952, lo743_953, hi743_954, h955, h956, hrn957⟩ := hgp907.fact 9 rfl
             obtain ⟨_, hx958, rfl⟩ := hgp907.val 10 15 rfl rfl
             have hr959 := hgp907.st.rng 1 (hgp907.has 1 rfl)
             have hr960 := hgp907.st.rng 4 (hgp907.has 4 rfl)
             have hr961 := hgp907.st.rng 5 (hgp907.has 5 rfl)
             have hr962 := hgp907.st.rng 6 (hgp907.has 6 rfl)
             have hr963 := hgp907.st.rng 8 (hgp907.has 8 rfl)
             have hr964 := hgp907.st.rng 9 (hgp907.has 9 rfl)
             have hsp965 := hgp907.st.ord 4 1 (hgp907.has 4 rfl) rfl
             have hsp966 := hgp907.st.ord 5 1 (hgp907.has 5 rfl) rfl
             have hsp967 := hgp907.st.ord 6 1 (hgp907.has 6 rfl) rfl
             have hsp968 := hgp907.st.sep 1 8 (hgp907.has 1 rfl) (hgp907.has 8 rfl) rfl
             have hsp969 := hgp907.st.ord 9 1 (hgp907.has 9 rfl) rfl
             have hsp970 := hgp907.st.ord 5 4 (hgp907.has 5 rfl) rfl
             have hsp971 := hgp907.st.ord 6 4 (hgp907.has 6 rfl) rfl
             have hsp972 := hgp907.st.sep 4 8 (hgp907.has 4 rfl) (hgp907.has 8 rfl) rfl
             have hsp973 := hgp907.st.ord 9 4 (hgp907.has 9 rfl) rfl
             have hsp974 := hgp907.st.ord 6 5 (hgp907.has 6 rfl) rfl
             have hsp975 := hgp907.st.sep 5 8 (hgp907.has 5 rfl) (hgp907.has 8 rfl) rfl
             have hsp976 := hgp907.st.ord 9 5 (hgp907.has 9 rfl) rfl
             have hsp977 := hgp907.st.sep 6 8 (hgp907.has 6 rfl) (hgp907.has 8 rfl) rfl
             have hsp978 := hgp907.st.ord 9 6 (hgp907.has 9 rfl) rfl
             have hsp979 := hgp907.st.ord 9 8 (hgp907.has 9 rfl) rfl
             refine SeqR.done (tn (CW.sub (Sub.cons (d := 6) (hgp907.old 6 _ rfl rfl) (Sub.cons (d := 7) (hgp907.old 7 _ rfl rfl) (Sub.cons (d := 9) (hgp907.old 9 _ rfl rfl) (Sub.cons (d := 12) (hgp907.old 12 _ rfl rfl) (Sub.cons (d := 14) hx949 (Sub.cons (d := 15) hx958 (Sub.nil _))))))) (CW.seq (CW.seq (CW.region (sd rfl (yl_loadN (cs := [.slice A743_951 (((i_ReadRow p_0 p_1).1.Vals).length) c743_952]) Tryd.ty31 rfl rfl (h955.cells (n := 1) rfl) rfl (sd rfl (yl_loadN (cs := [.slice A50_256 (((s_ReadRow p_0 p_1).1.Vals).length) c50_257]) Tryd.ty31 rfl rfl ((Box.ex (Box.ex (Box.mut (Box.ex q672 hE683) hm688 (fun k hk => by simp only [InR, or_false] at hk; omega)) hE696) hE908).cells (n := 1) rfl) rfl (sd rfl (yl_call Tryd.en11 rfl (opvs_cons rfl (opvs_cons rfl opvs_nil)) (Cal.mono (c_l_eqRow ((i_ReadRow p_0 p_1).1) ((s_ReadRow p_0 p_1).1) (RdS.up (OwnL.rd good_Str h956) good_Str) (RdS.up (OwnL.rd good_Str (OwnL.ex good_Str (OwnL.ex good_Str (OwnL.mut good_Str (OwnL.ex good_Str q680 hE683) hm688 (fun k hk => by simp only [InR, or_false] at hk; omega)) hE696) hE908)) good_Str)) ?_))))))))))))
             rintro v991 w990 ⟨rfl, hE992⟩
             have hE992z := Ex.size hE992
             refine sd rfl (yl_not rfl rfl (sd rfl (yl_move rfl rfl (sy rfl rfl (not_t hb520) (yl_move rfl rfl (sy rfl rfl (not_t hb520) (yl_move rfl rfl (sy rfl rfl (not_t hb520) (yl_bneq Tryd.un4 rfl rfl rfl (sd rfl (yl_pick_f rfl rfl (not_t hb520) rfl (SeqR.done (tn (CW.cond_f rfl (not_t hb521) ?_))))))))))))))
             refine CW.skip (tn (CW.seq (CW.region (sd rfl (yl_assign rfl rfl (SeqR.done (tn (CW.seq (CW.region ?_)))))))))
             refine sd rfl (yl_loadN (cs := [.slice A317_484 (((i_ReadRow p_0 p_1).1.Vals).length) c317_485]) Tryd.ty31 rfl rfl ((Box.ex (Box.ex (Box.ex q691 hE696) hE908) hE992).cells (n := 1) rfl) rfl (sd rfl (yl_move rfl rfl ?_)))
             have q999 := OwnL.ex good_Str (OwnL.ex good_Str (OwnL.ex good_Str h689 hE696) hE908) hE992
             have hle996 := OwnL.len q999
             refine sd rfl (yl_call Tryd.en15 rfl (opvs_cons rfl (opvs_cons rfl opvs_nil)) (Cal.mono (Cal.args (by rw [← hle996] <;> rfl) (c_l_heldRow ((l_markRow ((i_ReadRow p_0 p_1).1) 1).2) 1 (RdS.fix (RdS.up (OwnL.rd good_Str q999) good_Str)) (by first | omega | assumption | (simp only [IntKind.wrap_i64] at *; omega)))) ?_))
             rintro v1002 w1001 ⟨rfl, hE1003⟩
             have hE1003z := Ex.size hE1003
             have hrf1004 := rf_heldRow ((l_markRow ((i_ReadRow p_0 p_1).1) 1).2) 1 (by first | omega | assumption | (simp only [IntKind.wrap_i64] at *; omega))
             refine sd rfl (yl_assign rfl rfl (SeqR.done (tn (CW.seq (CW.seq (CW.region (sd rfl (yl_move rfl rfl (sd rfl (yl_lss rfl rfl rfl (SeqR.done ?_)))))))))))
             refine tn (CW.cond_f rfl hb698 (CW.skip (tn (CW.seq (CW.seq (CW.region (sd rfl (yl_move rfl rfl (sd rfl (yl_move rfl rfl ?_))))))))))
             refine sd rfl (yl_neq rfl rfl rfl (SeqR.done (tn (CW.cond_f rfl (not_t hb715) (CW.skip (tn (CW.seq (CW.region (sd rfl (yl_assign rfl rfl ?_))))))))))
             refine SeqR.done (tn (CW.ret (rr rfl (.cons rfl .nil) ?_)))
             have hM1005 : (l_FnExactReadRow p_0 p_1) = (true) := by simp only [l_FnExactReadRow, hb23, hb32, hb520, hb521, hb643, hb653, hb698, hb715, cond_true, cond_false, loopE_done, loopE_ret]
             rw [hM1005]
             have q1022 := Ex.trans (Ex.trans (Ex.trans (Ex.mut (Ex.trans (Ex.mut (Ex.trans (Ex.trans (Ex.trans (Below.only (Ex.trans (Ex.trans (Ex.trans (Ex.trans (Ex.trans (Ex.trans (Ex.trans (Ex.refl w) hE8) hE14) hE22) hE31) hE215) hE292) hE301) hO304 (by omega)) hE454) hE519) hE619) hm649 (fun k hk => by simp only [InR, or_false] at hk; omega)) hE683) hm688 (fun k hk => by simp only [InR, or_false] at hk; omega)) hE696) hE908) hE992
             exact ⟨rfl, (Ex.trans q1022 hE1003)⟩
           ·have hb715p := dec_f hb715
            refine CW.cond_t rfl (not_f hb715) (CW.seq (CW.region (sd rfl (yl_assign rfl rfl (SeqR.done (tn (CW.ret (tr (rr rfl (.cons rfl .nil) ?_)))))))))
            have hM1024 : (l_FnExactReadRow p_0 p_1) = (false) := by simp only [l_FnExactReadRow, hb23, hb32, hb520, hb521, hb643, hb653, hb698, hb715, cond_true, cond_false, loopE_done, loopE_ret]
            rw [hM1024]
            exact ⟨rfl, (Ex.trans (Ex.mut (Ex.trans (Ex.mut (Ex.trans (Ex.trans (Ex.trans (Below.only (Ex.trans (Ex.trans (Ex.trans (Ex.trans (Ex.trans (Ex.trans (Ex.trans (Ex.refl w) hE8) hE14) hE22) hE31) hE215) hE292) hE301) hO304 (by omega)) hE454) hE519) hE619) hm649 (fun k hk => by simp only [InR, or_false] at hk; omega)) hE683) hm688 (fun k hk => by simp only [InR, or_false] at hk; omega)) hE696)⟩
        ·refine CW.cond_t rfl (not_f hb643) (CW.seq (CW.region (sd rfl (yl_assign rfl rfl (SeqR.done (tn (CW.ret (tr (rr rfl (.cons rfl .nil) ?_)))))))))
         have hM1040 : (l_FnExactReadRow p_0 p_1) = (false) := by simp only [l_FnExactReadRow, hb23, hb32, hb520, hb521, hb643, cond_true, cond_false, loopE_done, loopE_ret]
         rw [hM1040]
         exact ⟨rfl, (Ex.trans (Ex.trans (Ex.trans (Below.only (Ex.trans (Ex.trans (Ex.trans (Ex.trans (Ex.trans (Ex.trans (Ex.trans (Ex.refl w) hE8) hE14) hE22) hE31) hE215) hE292) hE301) hO304 (by omega)) hE454) hE519) hE619)⟩
      ·refine CW.cond_t rfl (not_f hb521) (CW.seq (CW.region (sd rfl (yl_assign rfl rfl (SeqR.done (tn (CW.ret (tr (rr rfl (.cons rfl .nil) ?_)))))))))
       have hM1052 : (l_FnExactReadRow p_0 p_1) = (false) := by simp only [l_FnExactReadRow, hb23, hb32, hb520, hb521, cond_true, cond_false, loopE_done, loopE_ret]
       rw [hM1052]
       exact ⟨rfl, (Ex.trans (Ex.trans (Below.only (Ex.trans (Ex.trans (Ex.trans (Ex.trans (Ex.trans (Ex.trans (Ex.trans (Ex.refl w) hE8) hE14) hE22) hE31) hE215) hE292) hE301) hO304 (by omega)) hE454) hE519)⟩
     ·refine sz rfl rfl (not_f hb520) (sz rfl rfl (not_f hb520) (sz rfl rfl (not_f hb520) (sd rfl (yl_pick_t rfl rfl (not_f hb520) rfl (SeqR.done (tn (CW.cond_t rfl rfl (CW.seq (CW.region ?_)))))))))
      refine sd rfl (yl_assign rfl rfl (SeqR.done (tn (CW.ret (tr (rr rfl (.cons rfl .nil) ?_))))))
      have hM1063 : (l_FnExactReadRow p_0 p_1) = (false) := by simp only [l_FnExactReadRow, hb23, hb32, hb520, cond_true, cond_false, loopE_done, loopE_ret]
      rw [hM1063]
      exact ⟨rfl, (Ex.trans (Ex.trans (Below.only (Ex.trans (Ex.trans (Ex.trans (Ex.trans (Ex.trans (Ex.trans (Ex.trans (Ex.refl w) hE8) hE14) hE22) hE31) hE215) hE292) hE301) hO304 (by omega)) hE454) hE519)⟩
end Go.Proofs.YtdbobbmagmcpnaaDoor
