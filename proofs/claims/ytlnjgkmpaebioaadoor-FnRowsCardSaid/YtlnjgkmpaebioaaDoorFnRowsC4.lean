/- Fn Rows: what each call returns, part 4. -/
import Derived.Test.YtlnjgkmpaebioaaDoorFnRowsC3
set_option maxRecDepth 100000
set_option maxHeartbeats 2000000
open Go.Proofs.Tryd Go.Proofs.YtlnjgkmpaebioaaDoor.Tryd
set_option linter.unusedVariables false
set_option linter.unusedSimpArgs false
namespace Go.Proofs.YtlnjgkmpaebioaaDoor
open Go.RowKit Go.X
theorem c_s_DrawReadRow {A1 : Option Addr} {c1 : Nat} {w : World} (p_code : List Int) (h1 : RdS w (Iv 0 w.heap.size) (RF e_U8) 1 A1 p_code.length c1 p_code) (o2 : (okL okT) p_code) (pre0 : codeOk p_code) : Cal Tryd.prog 14 #[.slice A1 p_code.length c1] w fun v w' => ∃ A_1 c_1 lo_1 hi_1 A_2 c_2 lo_2 hi_2, v = .tuple #[.agg #[.string (bs ((s_DrawReadRow p_code).1.Name)), .slice A_1 (((s_DrawReadRow p_code).1.Cols).length) c_1, .slice A_2 (((s_DrawReadRow p_code).1.Idxs).length) c_2], .agg #[.string (bs ((s_DrawReadRow p_code).2.Key)), .string (bs ((s_DrawReadRow p_code).2.Val)), .bool ((s_DrawReadRow p_code).2.Gone)]] ∧ OwnL w' lo_1 hi_1 9 1 (RF e_Str) A_1 (((s_DrawReadRow p_code).1.Cols).length) c_1 ((s_DrawReadRow p_code).1.Cols) ∧ OwnL w' lo_2 hi_2 42 3 (RF e_Idx) A_2 (((s_DrawReadRow p_code).1.Idxs).length) c_2 ((s_DrawReadRow p_code).1.Idxs) ∧ ok_Table ((s_DrawReadRow p_code).1) ∧ ok_Write ((s_DrawReadRow p_code).2) ∧ (w.heap.size ≤ lo_1 ∧ lo_1 ≤ hi_1 ∧ hi_1 ≤ w'.heap.size) ∧ (w.heap.size ≤ lo_2 ∧ lo_2 ≤ hi_2 ∧ hi_2 ≤ w'.heap.size) ∧ (hi_1 ≤ lo_2 ∨ hi_2 ≤ lo_1) ∧ Ex w w' := by
 have hol3 := o2.1
 refine Cal.of func14 rfl ntmps14 rfl (CW.seq (CW.region (sd rfl (yl_alloc ty26 (cs := [.string (bs (([] : Str))), .slice none 0 0, .slice none 0 0]) rfl rfl ?_))))
 intro b4 w5 hs6 hz7 hB8 hE9
 refine sd rfl (yl_alloc ty34 (cs := [.string (bs (([] : Str))), .string (bs (([] : Str))), .bool (false)]) rfl rfl ?_)
 intro b10 w11 hs12 hz13 hB14 hE15
 refine dn (CW.seq (CW.region (sd rfl (yl_move rfl rfl (sd rfl (yl_build (cs := [.slice A1 p_code.length c1, .int .i64 (0), .int .u64 (0)]) rfl (oc rfl oz) (by kernel_rfl) (sd rfl (yl_box rfl rfl rfl ?_))))))))
 intro b16 w17 hs18 hz19 hB20 hE21
 refine sd rfl (yl_assign rfl rfl (dn (CW.seq (CW.region (sd rfl (yl_move rfl rfl ?_))))))
 have q24 := RdS.ex good_U8 (RdS.ex good_U8 (RdS.ex good_U8 h1 hE9) hE15) hE21
 refine sd rfl (yl_call en33 rfl (oc rfl oz) (Cal.mono (c_s_l1Cur_table p_code (0, 0) hB20 q24 (by omega) (by omega) o2 (by omega) (by assumption)) ?_))
 rintro v32 w25 ⟨A26, c26, lo26, hi26, A27, c27, lo27, hi27, rfl, h26, h27, ho28, hp29, hp30, hp31, hB34, hrn35, hrn36, hrn37, hc33⟩
 have hc33z := Chg.size hc33
 have hB34z := Box.lt hB34
 have hrf38 := rf_table (c := p_code) (by assumption) (0, 0)
 refine sd rfl (yl_alloc ty26 (cs := [.string (bs (([] : Str))), .slice none 0 0, .slice none 0 0]) rfl rfl ?_)
 intro b39 w40 hs41 hz42 hB43 hE44
 refine SeqR.u rfl rfl (yl_store (vs := [.string (bs ((s_l1Cur_table p_code (0, 0)).1.Name)), .slice A26 (((s_l1Cur_table p_code (0, 0)).1.Cols).length) c26, .slice A27 (((s_l1Cur_table p_code (0, 0)).1.Idxs).length) c27]) ty26 rfl rfl rfl rfl rfl rfl hB43 (Nat.le_of_ble_eq_true rfl) ?_)
 intro w45 hB46 hO47
 have hB46 : Box w45 b39 26 [.string (bs ((s_l1Cur_table p_code (0, 0)).1.Name)), .slice A26 (((s_l1Cur_table p_code (0, 0)).1.Cols).length) c26, .slice A27 (((s_l1Cur_table p_code (0, 0)).1.Idxs).length) c27] := hB46
 have hO47z := hO47.size
 refine dn (CW.seq ?_)
 have q52 := RdS.only good_U8 (RdS.ex good_U8 (RdS.chg good_U8 q24 hc33 (fun k hl hk => by simp only [InR, or_false, Iv, Ge] at hk ⊢; omega)) hE44) hO47 (by simp only [Iv]; omega)
 have q54 := OwnL.only good_Str (OwnL.ex good_Str h26 hE44) hO47 (by omega)
 have q56 := OwnL.only good_Idx (OwnL.ex good_Idx h27 hE44) hO47 (by omega)
 have hrf66 := rf_row p_code ((s_l1Cur_table p_code (0, 0)).2) ((s_l1Cur_table p_code (0, 0)).1) (by omega)
 have hrf67 := rf_l25Write ((s_l1Cur_table p_code (0, 0)).1) ((s_l1Cur_row p_code ((s_l1Cur_table p_code (0, 0)).2) ((s_l1Cur_table p_code (0, 0)).1)).1) (by omega) (by omega) ((rf_row p_code ((s_l1Cur_table p_code (0, 0)).2) ((s_l1Cur_table p_code (0, 0)).1) (by omega)).2)
 refine CW.drawsG 6 (fun G b => G.dn 3 = true ∧ InR [(b16, b16 + 1)] b) (fun i G b => (i = 3 ∧ b16 ≤ b ∧ b < b16 + 1)) (vgetG [DetG (.agg #[.string (bs ((s_l1Cur_table p_code (0, 0)).1.Name)), .slice A26 (((s_l1Cur_table p_code (0, 0)).1.Cols).length) c26, .slice A27 (((s_l1Cur_table p_code (0, 0)).1.Idxs).length) c27]), DetG (.pointer (some ⟨b16, 0, none⟩)), DetG (.agg #[.string (bs ((s_l1Cur_table p_code (0, 0)).1.Name)), .slice A26 (((s_l1Cur_table p_code (0, 0)).1.Cols).length) c26, .slice A27 (((s_l1Cur_table p_code (0, 0)).1.Idxs).length) c27]), fun G v wq => ∃ A58 c58 lo58 hi58, v = .agg #[.slice A58 (((s_l1Cur_row p_code ((s_l1Cur_table p_code (0, 0)).2) ((s_l1Cur_table p_code (0, 0)).1)).1.Vals).length) c58] ∧ OwnL wq lo58 hi58 9 1 (RF e_Str) A58 (((s_l1Cur_row p_code ((s_l1Cur_table p_code (0, 0)).2) ((s_l1Cur_table p_code (0, 0)).1)).1.Vals).length) c58 ((s_l1Cur_row p_code ((s_l1Cur_table p_code (0, 0)).2) ((s_l1Cur_table p_code (0, 0)).1)).1.Vals) ∧ ok_Row ((s_l1Cur_row p_code ((s_l1Cur_table p_code (0, 0)).2) ((s_l1Cur_table p_code (0, 0)).1)).1) ∧ (((s_l1Cur_table p_code (0, 0)).2).1 ≤ ((s_l1Cur_row p_code ((s_l1Cur_table p_code (0, 0)).2) ((s_l1Cur_table p_code (0, 0)).1)).2).1 ∧ ((s_l1Cur_row p_code ((s_l1Cur_table p_code (0, 0)).2) ((s_l1Cur_table p_code (0, 0)).1)).2).1 ≤ ((s_l1Cur_table p_code (0, 0)).2).1 + 64) ∧ Box wq b16 55 [.slice A1 p_code.length c1, .int .i64 (((s_l1Cur_row p_code ((s_l1Cur_table p_code (0, 0)).2) ((s_l1Cur_table p_code (0, 0)).1)).2).1), .int .u64 (((s_l1Cur_row p_code ((s_l1Cur_table p_code (0, 0)).2) ((s_l1Cur_table p_code (0, 0)).1)).2).2)] ∧ ((G.fl 3) ≤ lo58 ∧ lo58 ≤ hi58 ∧ hi58 ≤ (G.fh 3)), DetG (.agg #[.string (bs ((s_l25Write ((s_l1Cur_table p_code (0, 0)).1) ((s_l1Cur_row p_code ((s_l1Cur_table p_code (0, 0)).2) ((s_l1Cur_table p_code (0, 0)).1)).1)).Key)), .string (bs ((s_l25Write ((s_l1Cur_table p_code (0, 0)).1) ((s_l1Cur_row p_code ((s_l1Cur_table p_code (0, 0)).2) ((s_l1Cur_table p_code (0, 0)).1)).1)).Val)), .bool ((s_l25Write ((s_l1Cur_table p_code (0, 0)).1) ((s_l1Cur_row p_code ((s_l1Cur_table p_code (0, 0)).2) ((s_l1Cur_table p_code (0, 0)).1)).1)).Gone)]), fun G v wq => v = .pointer (some ⟨(G.fl 5), 0, none⟩) ∧ Box wq (G.fl 5) 34 [.string (bs (([] : Str))), .string (bs (([] : Str))), .bool (false)] ∧ (G.fl 5) < (G.fh 5)]) Tryd.follows rfl rfl rfl rfl rfl rfl (fun _ _ _ _ _ h => ⟨Gh.udn h.1, h.2⟩) (fun i G w lo hi b K hn hh hp => by exact (match hp with | ⟨e, q1, q2⟩ => by subst e; exact .inl ⟨Gh.sdn, .inl ⟨q1, q2⟩⟩)) (vgetG_kept ⟨(KeptG.det _), (KeptG.det _), (KeptG.det _), (by rintro i G v w w' K hn hh hj ⟨A58, c58, lo58, hi58, hv, h0, h1, h2, h3, hr0⟩ e; have d3 : G.dn 3 = true := hj; have u3 := Gh.ufl (lo := w.heap.size) (hi := w'.heap.size) d3 hn; have t3 := Gh.ufh (lo := w.heap.size) (hi := w'.heap.size) d3 hn; exact ⟨A58, c58, lo58, hi58, hv, (by exact OwnL.chg good_Str h0 e (fun b hb hp => by obtain ⟨rfl, q1, q2⟩ := hp; rw [hj] at hn; cases hn)), h1, h2, (by exact Box.chg h3 e (fun hp => by obtain ⟨rfl, q1, q2⟩ := hp; rw [hj] at hn; cases hn)), (by simp only [u3, t3]; exact hr0)⟩), (KeptG.det _), (by rintro i G v w w' K hn hh hj ⟨hv, h0, he0⟩ e; have d5 : G.dn 5 = true := hj; have u5 := Gh.ufl (lo := w.heap.size) (hi := w'.heap.size) d5 hn; have t5 := Gh.ufh (lo := w.heap.size) (hi := w'.heap.size) d5 hn; exact ⟨(by simp only [u5, t5]; exact hv), (by simp only [u5, t5]; exact Box.chg h0 e (fun hp => by obtain ⟨rfl, q1, q2⟩ := hp; have := K.rng 5 d5; skip; omega)), (by simp only [u5, t5]; exact he0)⟩), trivial⟩) ⟨?_, ?_, ?_, ?_, ?_, ?_, trivial⟩ ?_
 ·intro L69 w70 G68 hgk71
  have hE72 : Chg (fun b => InR [(b16, b16 + 1)] b ∨ w45.heap.size ≤ b) w45 w70 := hgk71.st.ex.imp (fun b _ h => h.imp (fun h => h.2) (fun h => h))
  have hE72z := Chg.size hE72
  exact OpR.op' rfl (Yl.sameG (yl_loadN ty26 rfl (hgk71.old 5 _ rfl rfl) ((Box.chg hB46 hE72 (by have := Box.lt hB46; simp only [InR, or_false]; omega)).cells (n := 3) rfl) rfl kI))
 ·intro L76 w77 G75 hgk78
  have hE79 := hgk78.st.ex.ex (fun b h => h.elim (fun h => hgk78.no rfl h) (fun h => h))
  have hE79z := Ex.size hE79
  exact OpR.op' rfl (Yl.sameG (yl_move rfl (hgk78.old 4 _ rfl rfl) kI))
 ·intro L82 w83 G81 hgk84
  have hE85 := hgk84.st.ex.ex (fun b h => h.elim (fun h => hgk84.no rfl h) (fun h => h))
  have hE85z := Ex.size hE85
  exact OpR.op' rfl (Yl.sameG (yl_loadN ty26 rfl (hgk84.old 5 _ rfl rfl) ((Box.ex hB46 hE85).cells (n := 3) rfl) rfl kI))
 ·intro L89 w90 G88 hgk91
  have hE92 := hgk91.st.ex.ex (fun b h => h.elim (fun h => hgk91.nw h) (fun h => h))
  have hE92z := Ex.size hE92
  obtain ⟨_, hx93, rfl⟩ := hgk91.val 1 13 rfl rfl
  obtain ⟨_, hx94, rfl⟩ := hgk91.val 2 14 rfl rfl
  refine OpR.op' rfl (yl_call en34 rfl (oc hx93 (oc hx94 oz)) (Cal.mono (c_s_l1Cur_row p_code ((s_l1Cur_table p_code (0, 0)).2) ((s_l1Cur_table p_code (0, 0)).1) (Box.ex (Box.only (Box.ex hB34 hE44) hO47 (by omega)) hE92) (RdS.ex good_U8 q52 hE92) (by omega) (by omega) (OwnL.rdI good_Str (OwnL.ex good_Str q54 hE92)) (by omega) (by omega) (OwnL.rdI good_Idx (OwnL.ex good_Idx q56 hE92)) (by omega) (by omega) o2 ho28 (by first | omega | assumption | (simp only [wI] at *; omega)) (by omega) (by assumption)) ?_))
  rintro v103 w99 ⟨A100, c100, lo100, hi100, rfl, h100, ho101, hp102, hB106, hrn105, hE104⟩
  exact ⟨hE104.imp (fun k _ hk => hk.elim (fun hk => (⟨rfl, hk.1, hk.2⟩)) False.elim), A100, c100, lo100, hi100, rfl, h100, ho101, hp102, hB106, hrn105⟩
 ·intro L108 w109 G107 hgk110
  have hE111 : Chg (fun b => InR [(b16, b16 + 1)] b ∨ w45.heap.size ≤ b) w45 w109 := hgk110.st.ex.imp (fun b _ h => h.imp (fun h => h.2) (fun h => h))
  have hE111z := Chg.size hE111
  obtain ⟨_, hx112, rfl⟩ := hgk110.val 0 12 rfl rfl
  obtain ⟨_, hx113, A58_114, c58_115, lo58_116, hi58_117, rfl, h118, h119, h120, h121, hrn122⟩ := hgk110.val 3 15 rfl rfl
  have hr123 := hgk110.st.rng 3 (hgk110.has 3 rfl)
  refine OpR.op' rfl (yl_call en27 rfl (oc hx112 (oc hx113 oz)) (Cal.mono (c_s_l25Write ((s_l1Cur_table p_code (0, 0)).1) ((s_l1Cur_row p_code ((s_l1Cur_table p_code (0, 0)).2) ((s_l1Cur_table p_code (0, 0)).1)).1) (RdS.up (OwnL.rd good_Str (OwnL.chg good_Str q54 hE111 (fun k hl hk => by simp only [InR, or_false] at hk; omega))) good_Str) (RdS.up (OwnL.rd good_Idx (OwnL.chg good_Idx q56 hE111 (fun k hl hk => by simp only [InR, or_false] at hk; omega))) good_Idx) (RdS.up (OwnL.rd good_Str h118) good_Str) ho28 h119 (by first | omega | assumption | (simp only [wI] at *; omega))) ?_))
  rintro v130 w129 ⟨rfl, hE131⟩
  exact ⟨Chg.of_ex hE131, rfl⟩
 ·intro L133 w134 G132 hgk135
  have hE136 : Chg (fun b => InR [(b16, b16 + 1)] b ∨ w45.heap.size ≤ b) w45 w134 := hgk135.st.ex.imp (fun b _ h => h.imp (fun h => h.2) (fun h => h))
  have hE136z := Chg.size hE136
  refine OpR.op' rfl (yl_alloc ty34 (cs := [.string (bs (([] : Str))), .string (bs (([] : Str))), .bool (false)]) rfl rfl ?_)
  intro b137 w138 hs139 hz140 hB141 hE142
  subst hs139
  exact ⟨Chg.of_ex hE142, rfl, hB141, by rw [Gh.sfl, Gh.sfh]; omega⟩
 ·intro G143 L144 w145 hgp146
  have hE147 : Chg (fun b => InR [(b16, b16 + 1)] b ∨ w45.heap.size ≤ b) w45 w145 := hgp146.st.ex.imp (fun b _ h => h.imp (fun h => h.2) (fun h => h))
  have hE147z := Chg.size hE147
  obtain ⟨_, hx152, A58_153, c58_154, lo58_155, hi58_156, rfl, h157, h158, h159, h160, hrn161⟩ := hgp146.val 3 15 rfl rfl
  obtain ⟨_, hx162, rfl⟩ := hgp146.val 4 16 rfl rfl
  obtain ⟨_, hx163, rfl, h164, he165⟩ := hgp146.val 5 6 rfl rfl
  have hbz166 := Box.lt h160
  have hr167 := hgp146.st.rng 3 (hgp146.has 3 rfl)
  have hr168 := hgp146.st.rng 5 (hgp146.has 5 rfl)
  have hsp169 := hgp146.st.sep 3 5 (hgp146.has 3 rfl) (hgp146.has 5 rfl) rfl
  refine SeqR.u rfl rfl (yl_store (vs := [.string (bs ((s_l25Write ((s_l1Cur_table p_code (0, 0)).1) ((s_l1Cur_row p_code ((s_l1Cur_table p_code (0, 0)).2) ((s_l1Cur_table p_code (0, 0)).1)).1)).Key)), .string (bs ((s_l25Write ((s_l1Cur_table p_code (0, 0)).1) ((s_l1Cur_row p_code ((s_l1Cur_table p_code (0, 0)).2) ((s_l1Cur_table p_code (0, 0)).1)).1)).Val)), .bool ((s_l25Write ((s_l1Cur_table p_code (0, 0)).1) ((s_l1Cur_row p_code ((s_l1Cur_table p_code (0, 0)).2) ((s_l1Cur_table p_code (0, 0)).1)).1)).Gone)]) ty34 rfl hx163 hx162 rfl rfl rfl h164 (Nat.le_of_ble_eq_true rfl) ?_)
  intro w170 hB171 hO172
  have hB171 : Box w170 (G143.fl 5) 34 [.string (bs ((s_l25Write ((s_l1Cur_table p_code (0, 0)).1) ((s_l1Cur_row p_code ((s_l1Cur_table p_code (0, 0)).2) ((s_l1Cur_table p_code (0, 0)).1)).1)).Key)), .string (bs ((s_l25Write ((s_l1Cur_table p_code (0, 0)).1) ((s_l1Cur_row p_code ((s_l1Cur_table p_code (0, 0)).2) ((s_l1Cur_table p_code (0, 0)).1)).1)).Val)), .bool ((s_l25Write ((s_l1Cur_table p_code (0, 0)).1) ((s_l1Cur_row p_code ((s_l1Cur_table p_code (0, 0)).2) ((s_l1Cur_table p_code (0, 0)).1)).1)).Gone)] := hB171
  have hO172z := hO172.size
  refine dn (CW.sub (Sub.cons (d := 2) (hgp146.old 2 _ rfl rfl) (Sub.cons (d := 3) (hgp146.old 3 _ rfl rfl) (Sub.cons (d := 4) (hgp146.old 4 _ rfl rfl) (Sub.cons (d := 5) (hgp146.old 5 _ rfl rfl) (Sub.cons (d := 6) hx163 (Sub.nil _)))))) (CW.seq (CW.seq (CW.region (sd rfl (yl_move rfl rfl ?_))))))
  have q175 := RdS.only good_U8 (RdS.chg good_U8 q52 hE147 (fun k hl hk => by simp only [InR, or_false, Iv, Ge] at hk ⊢; omega)) hO172 (by simp only [Iv]; omega)
  refine sd rfl (yl_call en35 rfl (oc rfl (oc rfl oz)) (Cal.mono (c_s_l1Cur_pick p_code ((s_l1Cur_row p_code ((s_l1Cur_table p_code (0, 0)).2) ((s_l1Cur_table p_code (0, 0)).1)).2) 6 (Box.only h160 hO172 (by omega)) q175 (by omega) (by omega) o2 (by omega) (by assumption)) ?_))
  rintro v179 w176 ⟨rfl, hp177, hp178, hB181, hc180⟩
  have hc180z := Chg.size hc180
  have hB181z := Box.lt hB181
  refine dn (CW.block (CW.seq (CW.region (sd rfl (yl_eql rfl rfl rfl (sd rfl (yl_assign rfl rfl (dn ?_))))))))
  refine bcase (decide (((s_l1Cur_pick p_code ((s_l1Cur_row p_code ((s_l1Cur_table p_code (0, 0)).2) ((s_l1Cur_table p_code (0, 0)).1)).2) 6).1) = 0)) (fun hb182 => ?_) (fun hb182 => ?_)
  ·have hb182p := dec_t hb182
   refine CW.cond_t rfl hb182 (CW.region (sd rfl (yl_move rfl rfl (sd rfl (yl_fieldAddr fd34_0 rfl rfl ?_)))))
   have q183 := Box.chg hB171 hc180 (by have := Box.lt hB171; simp only [InR, or_false]; omega)
   refine sd rfl (yl_load1 ty9 rfl rfl ((q183.cell 0).trans rfl) (sd rfl (yl_call en36 rfl (oc rfl (oc rfl (oc rfl oz))) (Cal.mono (c_s_l1Cur_spoilt p_code ((s_l1Cur_pick p_code ((s_l1Cur_row p_code ((s_l1Cur_table p_code (0, 0)).2) ((s_l1Cur_table p_code (0, 0)).1)).2) 6).2) ((s_l25Write ((s_l1Cur_table p_code (0, 0)).1) ((s_l1Cur_row p_code ((s_l1Cur_table p_code (0, 0)).2) ((s_l1Cur_table p_code (0, 0)).1)).1)).Key) ([97, 47, 46, 49] : Str) hB181 (RdS.chg good_U8 q175 hc180 (fun k hl hk => by simp only [InR, or_false, Iv, Ge] at hk ⊢; omega)) (by omega) (by omega) o2 ((ok_l25Write (by omega) (by omega) (rf_row p_code ((s_l1Cur_table p_code (0, 0)).2) ((s_l1Cur_table p_code (0, 0)).1) (by omega)).2).1) (okS.lit rfl) (by first | omega | assumption | (simp only [wI] at *; omega)) (by first | omega | assumption | (simp only [wI] at *; omega) | (simp only [List.length_append, List.length_cons, List.length_nil]; omega)) (by omega) (by assumption)) ?_))))
   rintro v188 w185 ⟨rfl, ho186, hp187, hB190, hc189⟩
   have hc189z := Chg.size hc189
   have hB190z := Box.lt hB190
   refine sd rfl (yl_fieldAddr fd34_0 rfl rfl (SeqR.u rfl rfl (yl_store (vs := [.string (bs ((s_l1Cur_spoilt p_code ((s_l1Cur_pick p_code ((s_l1Cur_row p_code ((s_l1Cur_table p_code (0, 0)).2) ((s_l1Cur_table p_code (0, 0)).1)).2) 6).2) ((s_l25Write ((s_l1Cur_table p_code (0, 0)).1) ((s_l1Cur_row p_code ((s_l1Cur_table p_code (0, 0)).2) ((s_l1Cur_table p_code (0, 0)).1)).1)).Key) ([97, 47, 46, 49] : Str)).1))]) ty9 rfl rfl rfl rfl rfl rfl (Box.chg q183 hc189 (by have := Box.lt q183; simp only [InR, or_false]; omega)) (Nat.le_of_ble_eq_true rfl) ?_)))
   intro w192 hB193 hO194
   have hB193 : Box w192 (G143.fl 5) 34 [.string (bs ((s_l1Cur_spoilt p_code ((s_l1Cur_pick p_code ((s_l1Cur_row p_code ((s_l1Cur_table p_code (0, 0)).2) ((s_l1Cur_table p_code (0, 0)).1)).2) 6).2) ((s_l25Write ((s_l1Cur_table p_code (0, 0)).1) ((s_l1Cur_row p_code ((s_l1Cur_table p_code (0, 0)).2) ((s_l1Cur_table p_code (0, 0)).1)).1)).Key) ([97, 47, 46, 49] : Str)).1)), .string (bs ((s_l25Write ((s_l1Cur_table p_code (0, 0)).1) ((s_l1Cur_row p_code ((s_l1Cur_table p_code (0, 0)).2) ((s_l1Cur_table p_code (0, 0)).1)).1)).Val)), .bool ((s_l25Write ((s_l1Cur_table p_code (0, 0)).1) ((s_l1Cur_row p_code ((s_l1Cur_table p_code (0, 0)).2) ((s_l1Cur_table p_code (0, 0)).1)).1)).Gone)] := hB193
   have hO194z := hO194.size
   refine SeqR.done (bn (tn (CW.seq ?_)))
   have q196 := Box.only (Box.chg hB46 hE147 (by have := Box.lt hB46; simp only [InR, or_false]; omega)) hO172 (by omega)
   have q197 := Box.chg q196 hc180 (by have := Box.lt q196; simp only [InR, or_false]; omega)
   refine CW.drawsG 3 (fun G b => G.dn 2 = true ∧ InR [(b4, b4 + 1)] b) (fun i G b => (i = 2 ∧ b4 ≤ b ∧ b < b4 + 1)) (vgetG [DetG (.agg #[.string (bs ((s_l1Cur_table p_code (0, 0)).1.Name)), .slice A26 (((s_l1Cur_table p_code (0, 0)).1.Cols).length) c26, .slice A27 (((s_l1Cur_table p_code (0, 0)).1.Idxs).length) c27]), DetG (.agg #[.string (bs ((s_l1Cur_spoilt p_code ((s_l1Cur_pick p_code ((s_l1Cur_row p_code ((s_l1Cur_table p_code (0, 0)).2) ((s_l1Cur_table p_code (0, 0)).1)).2) 6).2) ((s_l25Write ((s_l1Cur_table p_code (0, 0)).1) ((s_l1Cur_row p_code ((s_l1Cur_table p_code (0, 0)).2) ((s_l1Cur_table p_code (0, 0)).1)).1)).Key) ([97, 47, 46, 49] : Str)).1)), .string (bs ((s_l25Write ((s_l1Cur_table p_code (0, 0)).1) ((s_l1Cur_row p_code ((s_l1Cur_table p_code (0, 0)).2) ((s_l1Cur_table p_code (0, 0)).1)).1)).Val)), .bool ((s_l25Write ((s_l1Cur_table p_code (0, 0)).1) ((s_l1Cur_row p_code ((s_l1Cur_table p_code (0, 0)).2) ((s_l1Cur_table p_code (0, 0)).1)).1)).Gone)]), fun G v wq => Box wq b4 26 [.string (bs ((s_l1Cur_table p_code (0, 0)).1.Name)), .slice A26 (((s_l1Cur_table p_code (0, 0)).1.Cols).length) c26, .slice A27 (((s_l1Cur_table p_code (0, 0)).1.Idxs).length) c27]]) Tryd.follows rfl rfl rfl rfl rfl rfl (fun _ _ _ _ _ h => ⟨Gh.udn h.1, h.2⟩) (fun i G w lo hi b K hn hh hp => by exact (match hp with | ⟨e, q1, q2⟩ => by subst e; exact .inl ⟨Gh.sdn, .inl ⟨q1, q2⟩⟩)) (vgetG_kept ⟨(KeptG.det _), (KeptG.det _), (by rintro i G v w w' K hn hh hj h0 e; exact (by exact Box.chg h0 e (fun hp => by obtain ⟨rfl, q1, q2⟩ := hp; rw [hj] at hn; cases hn))), trivial⟩) ⟨?_, ?_, ?_, trivial⟩ ?_
   ·intro L202 w203 G201 hgk204
    have hE205 := hgk204.st.ex.ex (fun b h => h.elim (fun h => hgk204.no rfl h) (fun h => h))
    have hE205z := Ex.size hE205
    exact OpR.op' rfl (Yl.sameG (yl_loadN ty26 rfl (hgk204.old 5 _ rfl rfl) ((Box.ex (Box.only (Box.chg q197 hc189 (by have := Box.lt q197; simp only [InR, or_false]; omega)) hO194 (by omega)) hE205).cells (n := 3) rfl) rfl kI))
   ·intro L209 w210 G208 hgk211
    have hE212 : Chg (fun b => InR [(b4, b4 + 1)] b ∨ w192.heap.size ≤ b) w192 w210 := hgk211.st.ex.imp (fun b _ h => h.imp (fun h => h.2) (fun h => h))
    have hE212z := Chg.size hE212
    exact OpR.op' rfl (Yl.sameG (yl_loadN ty34 rfl (hgk211.old 6 _ rfl rfl) ((Box.chg hB193 hE212 (by have := Box.lt hB193; simp only [InR, or_false]; omega)).cells (n := 3) rfl) rfl kI))
   ·intro L216 w217 G215 hgk218
    have hE219 := hgk218.st.ex.ex (fun b h => h.elim (fun h => hgk218.nw h) (fun h => h))
    have hE219z := Ex.size hE219
    obtain ⟨_, hx221, rfl⟩ := hgk218.val 0 36 rfl rfl
    have q223 := Box.ex (Box.ex hB8 hE15) hE21
    have q226 := Box.only (Box.ex (Box.chg q223 hc33 (by have := Box.lt q223; simp only [InR, or_false]; omega)) hE44) hO47 (by omega)
    have q228 := Box.only (Box.chg q226 hE147 (by have := Box.lt q226; simp only [InR, or_false]; omega)) hO172 (by omega)
    have q229 := Box.chg q228 hc180 (by have := Box.lt q228; simp only [InR, or_false]; omega)
    refine OpR.op' rfl (yl_store (vs := [.string (bs ((s_l1Cur_table p_code (0, 0)).1.Name)), .slice A26 (((s_l1Cur_table p_code (0, 0)).1.Cols).length) c26, .slice A27 (((s_l1Cur_table p_code (0, 0)).1.Idxs).length) c27]) ty26 rfl (hgk218.old 2 _ rfl rfl) hx221 rfl rfl rfl (Box.ex (Box.only (Box.chg q229 hc189 (by have := Box.lt q229; simp only [InR, or_false]; omega)) hO194 (by omega)) hE219) (Nat.le_of_ble_eq_true rfl) ?_)
    intro w233 hB234 hO235
    have hO235z := hO235.size
    exact ⟨Chg.of_only hO235 (⟨rfl, Nat.le_refl _, by omega⟩), hB234⟩
   ·intro G236 L237 w238 hgp239
    have hE240 : Chg (fun b => InR [(b4, b4 + 1)] b ∨ w192.heap.size ≤ b) w192 w238 := hgp239.st.ex.imp (fun b _ h => h.imp (fun h => h.2) (fun h => h))
    have hE240z := Chg.size hE240
    have hx242 := hgp239.old 3 _ rfl rfl
    obtain ⟨_, hx243, rfl⟩ := hgp239.val 1 37 rfl rfl
    obtain ⟨_, h244⟩ := hgp239.fact 2 rfl
    have hr245 := hgp239.st.rng 2 (hgp239.has 2 rfl)
    have q246 := Box.ex hB14 hE21
    have q249 := Box.only (Box.ex (Box.chg q246 hc33 (by have := Box.lt q246; simp only [InR, or_false]; omega)) hE44) hO47 (by omega)
    have q251 := Box.only (Box.chg q249 hE147 (by have := Box.lt q249; simp only [InR, or_false]; omega)) hO172 (by omega)
    have q252 := Box.chg q251 hc180 (by have := Box.lt q251; simp only [InR, or_false]; omega)
    have q254 := Box.only (Box.chg q252 hc189 (by have := Box.lt q252; simp only [InR, or_false]; omega)) hO194 (by omega)
    refine SeqR.u rfl rfl (yl_store (vs := [.string (bs ((s_l1Cur_spoilt p_code ((s_l1Cur_pick p_code ((s_l1Cur_row p_code ((s_l1Cur_table p_code (0, 0)).2) ((s_l1Cur_table p_code (0, 0)).1)).2) 6).2) ((s_l25Write ((s_l1Cur_table p_code (0, 0)).1) ((s_l1Cur_row p_code ((s_l1Cur_table p_code (0, 0)).2) ((s_l1Cur_table p_code (0, 0)).1)).1)).Key) ([97, 47, 46, 49] : Str)).1)), .string (bs ((s_l25Write ((s_l1Cur_table p_code (0, 0)).1) ((s_l1Cur_row p_code ((s_l1Cur_table p_code (0, 0)).2) ((s_l1Cur_table p_code (0, 0)).1)).1)).Val)), .bool ((s_l25Write ((s_l1Cur_table p_code (0, 0)).1) ((s_l1Cur_row p_code ((s_l1Cur_table p_code (0, 0)).2) ((s_l1Cur_table p_code (0, 0)).1)).1)).Gone)]) ty34 rfl hx242 hx243 rfl rfl rfl (Box.chg q254 hE240 (by have := Box.lt q254; simp only [InR, or_false]; omega)) (Nat.le_of_ble_eq_true rfl) ?_)
    intro w256 hB257 hO258
    have hB257 : Box w256 b10 34 [.string (bs ((s_l1Cur_spoilt p_code ((s_l1Cur_pick p_code ((s_l1Cur_row p_code ((s_l1Cur_table p_code (0, 0)).2) ((s_l1Cur_table p_code (0, 0)).1)).2) 6).2) ((s_l25Write ((s_l1Cur_table p_code (0, 0)).1) ((s_l1Cur_row p_code ((s_l1Cur_table p_code (0, 0)).2) ((s_l1Cur_table p_code (0, 0)).1)).1)).Key) ([97, 47, 46, 49] : Str)).1)), .string (bs ((s_l25Write ((s_l1Cur_table p_code (0, 0)).1) ((s_l1Cur_row p_code ((s_l1Cur_table p_code (0, 0)).2) ((s_l1Cur_table p_code (0, 0)).1)).1)).Val)), .bool ((s_l25Write ((s_l1Cur_table p_code (0, 0)).1) ((s_l1Cur_row p_code ((s_l1Cur_table p_code (0, 0)).2) ((s_l1Cur_table p_code (0, 0)).1)).1)).Gone)] := hB257
    have hO258z := hO258.size
    refine dn (CW.sub (Sub.cons (d := 2) (hgp239.old 2 _ rfl rfl) (Sub.cons (d := 3) hx242 (Sub.nil _))) (CW.ret (rr rfl (.cons ⟨_, rfl, run_loadN ty26 (cs := [.string (bs ((s_l1Cur_table p_code (0, 0)).1.Name)), .slice A26 (((s_l1Cur_table p_code (0, 0)).1.Cols).length) c26, .slice A27 (((s_l1Cur_table p_code (0, 0)).1.Idxs).length) c27]) rfl ((Box.only h244 hO258 (by omega)).cells (n := 3) rfl)⟩ (.cons ⟨_, rfl, run_loadN ty34 (cs := [.string (bs ((s_l1Cur_spoilt p_code ((s_l1Cur_pick p_code ((s_l1Cur_row p_code ((s_l1Cur_table p_code (0, 0)).2) ((s_l1Cur_table p_code (0, 0)).1)).2) 6).2) ((s_l25Write ((s_l1Cur_table p_code (0, 0)).1) ((s_l1Cur_row p_code ((s_l1Cur_table p_code (0, 0)).2) ((s_l1Cur_table p_code (0, 0)).1)).1)).Key) ([97, 47, 46, 49] : Str)).1)), .string (bs ((s_l25Write ((s_l1Cur_table p_code (0, 0)).1) ((s_l1Cur_row p_code ((s_l1Cur_table p_code (0, 0)).2) ((s_l1Cur_table p_code (0, 0)).1)).1)).Val)), .bool ((s_l25Write ((s_l1Cur_table p_code (0, 0)).1) ((s_l1Cur_row p_code ((s_l1Cur_table p_code (0, 0)).2) ((s_l1Cur_table p_code (0, 0)).1)).1)).Gone)]) rfl (hB257.cells (n := 3) rfl)⟩ .nil)) ?_)))
    have hM260 : (s_DrawReadRow p_code) = (((s_l1Cur_table p_code (0, 0)).1, (⟨(s_l1Cur_spoilt p_code ((s_l1Cur_pick p_code ((s_l1Cur_row p_code ((s_l1Cur_table p_code (0, 0)).2) ((s_l1Cur_table p_code (0, 0)).1)).2) 6).2) ((s_l25Write ((s_l1Cur_table p_code (0, 0)).1) ((s_l1Cur_row p_code ((s_l1Cur_table p_code (0, 0)).2) ((s_l1Cur_table p_code (0, 0)).1)).1)).Key) ([97, 47, 46, 49] : Str)).1, (s_l25Write ((s_l1Cur_table p_code (0, 0)).1) ((s_l1Cur_row p_code ((s_l1Cur_table p_code (0, 0)).2) ((s_l1Cur_table p_code (0, 0)).1)).1)).Val, (s_l25Write ((s_l1Cur_table p_code (0, 0)).1) ((s_l1Cur_row p_code ((s_l1Cur_table p_code (0, 0)).2) ((s_l1Cur_table p_code (0, 0)).1)).1)).Gone⟩ : DWrite))) := by simp only [s_DrawReadRow, hb182, cL]
    have q266 := OwnL.chg good_Str (OwnL.only good_Str (OwnL.chg good_Str (OwnL.chg good_Str (OwnL.only good_Str (OwnL.chg good_Str q54 hE147 (fun k hl hk => by simp only [InR, or_false] at hk; omega)) hO172 (by omega)) hc180 (fun k hl hk => by simp only [InR, or_false] at hk; omega)) hc189 (fun k hl hk => by simp only [InR, or_false] at hk; omega)) hO194 (by omega)) hE240 (fun k hl hk => by simp only [InR, or_false] at hk; omega)
    have q273 := OwnL.chg good_Idx (OwnL.only good_Idx (OwnL.chg good_Idx (OwnL.chg good_Idx (OwnL.only good_Idx (OwnL.chg good_Idx q56 hE147 (fun k hl hk => by simp only [InR, or_false] at hk; omega)) hO172 (by omega)) hc180 (fun k hl hk => by simp only [InR, or_false] at hk; omega)) hc189 (fun k hl hk => by simp only [InR, or_false] at hk; omega)) hO194 (by omega)) hE240 (fun k hl hk => by simp only [InR, or_false] at hk; omega)
    rw [hM260]
    have q284 := Ex.chg (Ex.chg (Below.only (Ex.chg (Below.only (Ex.trans (Ex.chg (Ex.trans (Ex.trans (Ex.trans (Ex.refl w) hE9) hE15) hE21) hc33 (fun k hk => by simp only [InR, or_false] at hk; omega)) hE44) hO47 (by omega)) hE147 (fun k hk => by simp only [InR, or_false] at hk; omega)) hO172 (by omega)) hc180 (fun k hk => by simp only [InR, or_false] at hk; omega)) hc189 (fun k hk => by simp only [InR, or_false] at hk; omega)
    exact ⟨A26, c26, lo26, hi26, A27, c27, lo27, hi27, rfl, (OwnL.only good_Str q266 hO258 (by omega)), (OwnL.only good_Idx q273 hO258 (by omega)), ho28, ⟨ho186, (ok_l25Write (by omega) (by omega) (rf_row p_code ((s_l1Cur_table p_code (0, 0)).2) ((s_l1Cur_table p_code (0, 0)).1) (by omega)).2).2⟩, (by omega), (by omega), (by omega), (Below.only (Ex.chg (Below.only q284 hO194 (by omega)) hE240 (fun k hk => by simp only [InR, or_false] at hk; omega)) hO258 (by omega))⟩
  ·have hb182p := dec_f hb182
   refine CW.cond_f rfl hb182 (CW.seq (CW.region (sd rfl (yl_eql rfl rfl rfl (sd rfl (yl_assign rfl rfl (dn (bcase (decide (((s_l1Cur_pick p_code ((s_l1Cur_row p_code ((s_l1Cur_table p_code (0, 0)).2) ((s_l1Cur_table p_code (0, 0)).1)).2) 6).1) = 1)) (fun hb288 => ?_) (fun hb288 => ?_)))))))))
   ·have hb288p := dec_t hb288
    refine CW.cond_t rfl hb288 (CW.region (sd rfl (yl_move rfl rfl (sd rfl (yl_fieldAddr fd34_1 rfl rfl ?_)))))
    have q289 := Box.chg hB171 hc180 (by have := Box.lt hB171; simp only [InR, or_false]; omega)
    refine sd rfl (yl_load1 ty9 rfl rfl ((q289.cell 1).trans rfl) (sd rfl (yl_call en36 rfl (oc rfl (oc rfl (oc rfl oz))) (Cal.mono (c_s_l1Cur_spoilt p_code ((s_l1Cur_pick p_code ((s_l1Cur_row p_code ((s_l1Cur_table p_code (0, 0)).2) ((s_l1Cur_table p_code (0, 0)).1)).2) 6).2) ((s_l25Write ((s_l1Cur_table p_code (0, 0)).1) ((s_l1Cur_row p_code ((s_l1Cur_table p_code (0, 0)).2) ((s_l1Cur_table p_code (0, 0)).1)).1)).Val) ([97, 44, 46, 49] : Str) hB181 (RdS.chg good_U8 q175 hc180 (fun k hl hk => by simp only [InR, or_false, Iv, Ge] at hk ⊢; omega)) (by omega) (by omega) o2 ((ok_l25Write (by omega) (by omega) (rf_row p_code ((s_l1Cur_table p_code (0, 0)).2) ((s_l1Cur_table p_code (0, 0)).1) (by omega)).2).2) (okS.lit rfl) (by first | omega | assumption | (simp only [wI] at *; omega)) (by first | omega | assumption | (simp only [wI] at *; omega) | (simp only [List.length_append, List.length_cons, List.length_nil]; omega)) (by omega) (by assumption)) ?_))))
    rintro v294 w291 ⟨rfl, ho292, hp293, hB296, hc295⟩
    have hc295z := Chg.size hc295
    have hB296z := Box.lt hB296
    refine sd rfl (yl_fieldAddr fd34_1 rfl rfl (SeqR.u rfl rfl (yl_store (vs := [.string (bs ((s_l1Cur_spoilt p_code ((s_l1Cur_pick p_code ((s_l1Cur_row p_code ((s_l1Cur_table p_code (0, 0)).2) ((s_l1Cur_table p_code (0, 0)).1)).2) 6).2) ((s_l25Write ((s_l1Cur_table p_code (0, 0)).1) ((s_l1Cur_row p_code ((s_l1Cur_table p_code (0, 0)).2) ((s_l1Cur_table p_code (0, 0)).1)).1)).Val) ([97, 44, 46, 49] : Str)).1))]) ty9 rfl rfl rfl rfl rfl rfl (Box.chg q289 hc295 (by have := Box.lt q289; simp only [InR, or_false]; omega)) (Nat.le_of_ble_eq_true rfl) ?_)))
    intro w298 hB299 hO300
    have hB299 : Box w298 (G143.fl 5) 34 [.string (bs ((s_l25Write ((s_l1Cur_table p_code (0, 0)).1) ((s_l1Cur_row p_code ((s_l1Cur_table p_code (0, 0)).2) ((s_l1Cur_table p_code (0, 0)).1)).1)).Key)), .string (bs ((s_l1Cur_spoilt p_code ((s_l1Cur_pick p_code ((s_l1Cur_row p_code ((s_l1Cur_table p_code (0, 0)).2) ((s_l1Cur_table p_code (0, 0)).1)).2) 6).2) ((s_l25Write ((s_l1Cur_table p_code (0, 0)).1) ((s_l1Cur_row p_code ((s_l1Cur_table p_code (0, 0)).2) ((s_l1Cur_table p_code (0, 0)).1)).1)).Val) ([97, 44, 46, 49] : Str)).1)), .bool ((s_l25Write ((s_l1Cur_table p_code (0, 0)).1) ((s_l1Cur_row p_code ((s_l1Cur_table p_code (0, 0)).2) ((s_l1Cur_table p_code (0, 0)).1)).1)).Gone)] := hB299
    have hO300z := hO300.size
    refine SeqR.done (bn (tn (CW.seq ?_)))
    have q302 := Box.only (Box.chg hB46 hE147 (by have := Box.lt hB46; simp only [InR, or_false]; omega)) hO172 (by omega)
    have q303 := Box.chg q302 hc180 (by have := Box.lt q302; simp only [InR, or_false]; omega)
    refine CW.drawsG 3 (fun G b => G.dn 2 = true ∧ InR [(b4, b4 + 1)] b) (fun i G b => (i = 2 ∧ b4 ≤ b ∧ b < b4 + 1)) (vgetG [DetG (.agg #[.string (bs ((s_l1Cur_table p_code (0, 0)).1.Name)), .slice A26 (((s_l1Cur_table p_code (0, 0)).1.Cols).length) c26, .slice A27 (((s_l1Cur_table p_code (0, 0)).1.Idxs).length) c27]), DetG (.agg #[.string (bs ((s_l25Write ((s_l1Cur_table p_code (0, 0)).1) ((s_l1Cur_row p_code ((s_l1Cur_table p_code (0, 0)).2) ((s_l1Cur_table p_code (0, 0)).1)).1)).Key)), .string (bs ((s_l1Cur_spoilt p_code ((s_l1Cur_pick p_code ((s_l1Cur_row p_code ((s_l1Cur_table p_code (0, 0)).2) ((s_l1Cur_table p_code (0, 0)).1)).2) 6).2) ((s_l25Write ((s_l1Cur_table p_code (0, 0)).1) ((s_l1Cur_row p_code ((s_l1Cur_table p_code (0, 0)).2) ((s_l1Cur_table p_code (0, 0)).1)).1)).Val) ([97, 44, 46, 49] : Str)).1)), .bool ((s_l25Write ((s_l1Cur_table p_code (0, 0)).1) ((s_l1Cur_row p_code ((s_l1Cur_table p_code (0, 0)).2) ((s_l1Cur_table p_code (0, 0)).1)).1)).Gone)]), fun G v wq => Box wq b4 26 [.string (bs ((s_l1Cur_table p_code (0, 0)).1.Name)), .slice A26 (((s_l1Cur_table p_code (0, 0)).1.Cols).length) c26, .slice A27 (((s_l1Cur_table p_code (0, 0)).1.Idxs).length) c27]]) Tryd.follows rfl rfl rfl rfl rfl rfl (fun _ _ _ _ _ h => ⟨Gh.udn h.1, h.2⟩) (fun i G w lo hi b K hn hh hp => by exact (match hp with | ⟨e, q1, q2⟩ => by subst e; exact .inl ⟨Gh.sdn, .inl ⟨q1, q2⟩⟩)) (vgetG_kept ⟨(KeptG.det _), (KeptG.det _), (by rintro i G v w w' K hn hh hj h0 e; exact (by exact Box.chg h0 e (fun hp => by obtain ⟨rfl, q1, q2⟩ := hp; rw [hj] at hn; cases hn))), trivial⟩) ⟨?_, ?_, ?_, trivial⟩ ?_
    ·intro L308 w309 G307 hgk310
     have hE311 := hgk310.st.ex.ex (fun b h => h.elim (fun h => hgk310.no rfl h) (fun h => h))
     have hE311z := Ex.size hE311
     exact OpR.op' rfl (Yl.sameG (yl_loadN ty26 rfl (hgk310.old 5 _ rfl rfl) ((Box.ex (Box.only (Box.chg q303 hc295 (by have := Box.lt q303; simp only [InR, or_false]; omega)) hO300 (by omega)) hE311).cells (n := 3) rfl) rfl kI))
    ·intro L315 w316 G314 hgk317
     have hE318 : Chg (fun b => InR [(b4, b4 + 1)] b ∨ w298.heap.size ≤ b) w298 w316 := hgk317.st.ex.imp (fun b _ h => h.imp (fun h => h.2) (fun h => h))
     have hE318z := Chg.size hE318
     exact OpR.op' rfl (Yl.sameG (yl_loadN ty34 rfl (hgk317.old 6 _ rfl rfl) ((Box.chg hB299 hE318 (by have := Box.lt hB299; simp only [InR, or_false]; omega)).cells (n := 3) rfl) rfl kI))
    ·intro L322 w323 G321 hgk324
     have hE325 := hgk324.st.ex.ex (fun b h => h.elim (fun h => hgk324.nw h) (fun h => h))
     have hE325z := Ex.size hE325
     obtain ⟨_, hx327, rfl⟩ := hgk324.val 0 36 rfl rfl
     have q329 := Box.ex (Box.ex hB8 hE15) hE21
     have q332 := Box.only (Box.ex (Box.chg q329 hc33 (by have := Box.lt q329; simp only [InR, or_false]; omega)) hE44) hO47 (by omega)
     have q334 := Box.only (Box.chg q332 hE147 (by have := Box.lt q332; simp only [InR, or_false]; omega)) hO172 (by omega)
     have q335 := Box.chg q334 hc180 (by have := Box.lt q334; simp only [InR, or_false]; omega)
     refine OpR.op' rfl (yl_store (vs := [.string (bs ((s_l1Cur_table p_code (0, 0)).1.Name)), .slice A26 (((s_l1Cur_table p_code (0, 0)).1.Cols).length) c26, .slice A27 (((s_l1Cur_table p_code (0, 0)).1.Idxs).length) c27]) ty26 rfl (hgk324.old 2 _ rfl rfl) hx327 rfl rfl rfl (Box.ex (Box.only (Box.chg q335 hc295 (by have := Box.lt q335; simp only [InR, or_false]; omega)) hO300 (by omega)) hE325) (Nat.le_of_ble_eq_true rfl) ?_)
     intro w339 hB340 hO341
     have hO341z := hO341.size
     exact ⟨Chg.of_only hO341 (⟨rfl, Nat.le_refl _, by omega⟩), hB340⟩
    ·intro G342 L343 w344 hgp345
     have hE346 : Chg (fun b => InR [(b4, b4 + 1)] b ∨ w298.heap.size ≤ b) w298 w344 := hgp345.st.ex.imp (fun b _ h => h.imp (fun h => h.2) (fun h => h))
     have hE346z := Chg.size hE346
     have hx348 := hgp345.old 3 _ rfl rfl
     obtain ⟨_, hx349, rfl⟩ := hgp345.val 1 37 rfl rfl
     obtain ⟨_, h350⟩ := hgp345.fact 2 rfl
     have hr351 := hgp345.st.rng 2 (hgp345.has 2 rfl)
     have q352 := Box.ex hB14 hE21
     have q355 := Box.only (Box.ex (Box.chg q352 hc33 (by have := Box.lt q352; simp only [InR, or_false]; omega)) hE44) hO47 (by omega)
     have q357 := Box.only (Box.chg q355 hE147 (by have := Box.lt q355; simp only [InR, or_false]; omega)) hO172 (by omega)
     have q358 := Box.chg q357 hc180 (by have := Box.lt q357; simp only [InR, or_false]; omega)
     have q360 := Box.only (Box.chg q358 hc295 (by have := Box.lt q358; simp only [InR, or_false]; omega)) hO300 (by omega)
     refine SeqR.u rfl rfl (yl_store (vs := [.string (bs ((s_l25Write ((s_l1Cur_table p_code (0, 0)).1) ((s_l1Cur_row p_code ((s_l1Cur_table p_code (0, 0)).2) ((s_l1Cur_table p_code (0, 0)).1)).1)).Key)), .string (bs ((s_l1Cur_spoilt p_code ((s_l1Cur_pick p_code ((s_l1Cur_row p_code ((s_l1Cur_table p_code (0, 0)).2) ((s_l1Cur_table p_code (0, 0)).1)).2) 6).2) ((s_l25Write ((s_l1Cur_table p_code (0, 0)).1) ((s_l1Cur_row p_code ((s_l1Cur_table p_code (0, 0)).2) ((s_l1Cur_table p_code (0, 0)).1)).1)).Val) ([97, 44, 46, 49] : Str)).1)), .bool ((s_l25Write ((s_l1Cur_table p_code (0, 0)).1) ((s_l1Cur_row p_code ((s_l1Cur_table p_code (0, 0)).2) ((s_l1Cur_table p_code (0, 0)).1)).1)).Gone)]) ty34 rfl hx348 hx349 rfl rfl rfl (Box.chg q360 hE346 (by have := Box.lt q360; simp only [InR, or_false]; omega)) (Nat.le_of_ble_eq_true rfl) ?_)
     intro w362 hB363 hO364
     have hB363 : Box w362 b10 34 [.string (bs ((s_l25Write ((s_l1Cur_table p_code (0, 0)).1) ((s_l1Cur_row p_code ((s_l1Cur_table p_code (0, 0)).2) ((s_l1Cur_table p_code (0, 0)).1)).1)).Key)), .string (bs ((s_l1Cur_spoilt p_code ((s_l1Cur_pick p_code ((s_l1Cur_row p_code ((s_l1Cur_table p_code (0, 0)).2) ((s_l1Cur_table p_code (0, 0)).1)).2) 6).2) ((s_l25Write ((s_l1Cur_table p_code (0, 0)).1) ((s_l1Cur_row p_code ((s_l1Cur_table p_code (0, 0)).2) ((s_l1Cur_table p_code (0, 0)).1)).1)).Val) ([97, 44, 46, 49] : Str)).1)), .bool ((s_l25Write ((s_l1Cur_table p_code (0, 0)).1) ((s_l1Cur_row p_code ((s_l1Cur_table p_code (0, 0)).2) ((s_l1Cur_table p_code (0, 0)).1)).1)).Gone)] := hB363
     have hO364z := hO364.size
     refine dn (CW.sub (Sub.cons (d := 2) (hgp345.old 2 _ rfl rfl) (Sub.cons (d := 3) hx348 (Sub.nil _))) (CW.ret (rr rfl (.cons ⟨_, rfl, run_loadN ty26 (cs := [.string (bs ((s_l1Cur_table p_code (0, 0)).1.Name)), .slice A26 (((s_l1Cur_table p_code (0, 0)).1.Cols).length) c26, .slice A27 (((s_l1Cur_table p_code (0, 0)).1.Idxs).length) c27]) rfl ((Box.only h350 hO364 (by omega)).cells (n := 3) rfl)⟩ (.cons ⟨_, rfl, run_loadN ty34 (cs := [.string (bs ((s_l25Write ((s_l1Cur_table p_code (0, 0)).1) ((s_l1Cur_row p_code ((s_l1Cur_table p_code (0, 0)).2) ((s_l1Cur_table p_code (0, 0)).1)).1)).Key)), .string (bs ((s_l1Cur_spoilt p_code ((s_l1Cur_pick p_code ((s_l1Cur_row p_code ((s_l1Cur_table p_code (0, 0)).2) ((s_l1Cur_table p_code (0, 0)).1)).2) 6).2) ((s_l25Write ((s_l1Cur_table p_code (0, 0)).1) ((s_l1Cur_row p_code ((s_l1Cur_table p_code (0, 0)).2) ((s_l1Cur_table p_code (0, 0)).1)).1)).Val) ([97, 44, 46, 49] : Str)).1)), .bool ((s_l25Write ((s_l1Cur_table p_code (0, 0)).1) ((s_l1Cur_row p_code ((s_l1Cur_table p_code (0, 0)).2) ((s_l1Cur_table p_code (0, 0)).1)).1)).Gone)]) rfl (hB363.cells (n := 3) rfl)⟩ .nil)) ?_)))
     have hM366 : (s_DrawReadRow p_code) = (((s_l1Cur_table p_code (0, 0)).1, (⟨(s_l25Write ((s_l1Cur_table p_code (0, 0)).1) ((s_l1Cur_row p_code ((s_l1Cur_table p_code (0, 0)).2) ((s_l1Cur_table p_code (0, 0)).1)).1)).Key, (s_l1Cur_spoilt p_code ((s_l1Cur_pick p_code ((s_l1Cur_row p_code ((s_l1Cur_table p_code (0, 0)).2) ((s_l1Cur_table p_code (0, 0)).1)).2) 6).2) ((s_l25Write ((s_l1Cur_table p_code (0, 0)).1) ((s_l1Cur_row p_code ((s_l1Cur_table p_code (0, 0)).2) ((s_l1Cur_table p_code (0, 0)).1)).1)).Val) ([97, 44, 46, 49] : Str)).1, (s_l25Write ((s_l1Cur_table p_code (0, 0)).1) ((s_l1Cur_row p_code ((s_l1Cur_table p_code (0, 0)).2) ((s_l1Cur_table p_code (0, 0)).1)).1)).Gone⟩ : DWrite))) := by simp only [s_DrawReadRow, hb182, hb288, cL]
     have q372 := OwnL.chg good_Str (OwnL.only good_Str (OwnL.chg good_Str (OwnL.chg good_Str (OwnL.only good_Str (OwnL.chg good_Str q54 hE147 (fun k hl hk => by simp only [InR, or_false] at hk; omega)) hO172 (by omega)) hc180 (fun k hl hk => by simp only [InR, or_false] at hk; omega)) hc295 (fun k hl hk => by simp only [InR, or_false] at hk; omega)) hO300 (by omega)) hE346 (fun k hl hk => by simp only [InR, or_false] at hk; omega)
     have q379 := OwnL.chg good_Idx (OwnL.only good_Idx (OwnL.chg good_Idx (OwnL.chg good_Idx (OwnL.only good_Idx (OwnL.chg good_Idx q56 hE147 (fun k hl hk => by simp only [InR, or_false] at hk; omega)) hO172 (by omega)) hc180 (fun k hl hk => by simp only [InR, or_false] at hk; omega)) hc295 (fun k hl hk => by simp only [InR, or_false] at hk; omega)) hO300 (by omega)) hE346 (fun k hl hk => by simp only [InR, or_false] at hk; omega)
     rw [hM366]
     have q390 := Ex.chg (Ex.chg (Below.only (Ex.chg (Below.only (Ex.trans (Ex.chg (Ex.trans (Ex.trans (Ex.trans (Ex.refl w) hE9) hE15) hE21) hc33 (fun k hk => by simp only [InR, or_false] at hk; omega)) hE44) hO47 (by omega)) hE147 (fun k hk => by simp only [InR, or_false] at hk; omega)) hO172 (by omega)) hc180 (fun k hk => by simp only [InR, or_false] at hk; omega)) hc295 (fun k hk => by simp only [InR, or_false] at hk; omega)
     exact ⟨A26, c26, lo26, hi26, A27, c27, lo27, hi27, rfl, (OwnL.only good_Str q372 hO364 (by omega)), (OwnL.only good_Idx q379 hO364 (by omega)), ho28, ⟨(ok_l25Write (by omega) (by omega) (rf_row p_code ((s_l1Cur_table p_code (0, 0)).2) ((s_l1Cur_table p_code (0, 0)).1) (by omega)).2).1, ho292⟩, (by omega), (by omega), (by omega), (Below.only (Ex.chg (Below.only q390 hO300 (by omega)) hE346 (fun k hk => by simp only [InR, or_false] at hk; omega)) hO364 (by omega))⟩
   ·have hb288p := dec_f hb288
    refine CW.cond_f rfl hb288 (CW.seq (CW.region (sd rfl (yl_eql rfl rfl rfl (sd rfl (yl_assign rfl rfl (dn (bcase (decide (((s_l1Cur_pick p_code ((s_l1Cur_row p_code ((s_l1Cur_table p_code (0, 0)).2) ((s_l1Cur_table p_code (0, 0)).1)).2) 6).1) = 2)) (fun hb394 => ?_) (fun hb394 => ?_)))))))))
    ·have hb394p := dec_t hb394
     refine CW.cond_t rfl hb394 (CW.region (sd rfl (yl_fieldAddr fd34_2 rfl rfl (SeqR.u rfl rfl (yl_store (vs := [.bool (true)]) ty4 rfl rfl rfl rfl rfl rfl (Box.chg hB171 hc180 (by have := Box.lt hB171; simp only [InR, or_false]; omega)) (Nat.le_of_ble_eq_true rfl) ?_)))))
     intro w396 hB397 hO398
     have hB397 : Box w396 (G143.fl 5) 34 [.string (bs ((s_l25Write ((s_l1Cur_table p_code (0, 0)).1) ((s_l1Cur_row p_code ((s_l1Cur_table p_code (0, 0)).2) ((s_l1Cur_table p_code (0, 0)).1)).1)).Key)), .string (bs ((s_l25Write ((s_l1Cur_table p_code (0, 0)).1) ((s_l1Cur_row p_code ((s_l1Cur_table p_code (0, 0)).2) ((s_l1Cur_table p_code (0, 0)).1)).1)).Val)), .bool (true)] := hB397
     have hO398z := hO398.size
     refine SeqR.done (bn (tn (CW.seq ?_)))
     have q400 := Box.only (Box.chg hB46 hE147 (by have := Box.lt hB46; simp only [InR, or_false]; omega)) hO172 (by omega)
     refine CW.drawsG 3 (fun G b => G.dn 2 = true ∧ InR [(b4, b4 + 1)] b) (fun i G b => (i = 2 ∧ b4 ≤ b ∧ b < b4 + 1)) (vgetG [DetG (.agg #[.string (bs ((s_l1Cur_table p_code (0, 0)).1.Name)), .slice A26 (((s_l1Cur_table p_code (0, 0)).1.Cols).length) c26, .slice A27 (((s_l1Cur_table p_code (0, 0)).1.Idxs).length) c27]), DetG (.agg #[.string (bs ((s_l25Write ((s_l1Cur_table p_code (0, 0)).1) ((s_l1Cur_row p_code ((s_l1Cur_table p_code (0, 0)).2) ((s_l1Cur_table p_code (0, 0)).1)).1)).Key)), .string (bs ((s_l25Write ((s_l1Cur_table p_code (0, 0)).1) ((s_l1Cur_row p_code ((s_l1Cur_table p_code (0, 0)).2) ((s_l1Cur_table p_code (0, 0)).1)).1)).Val)), .bool (true)]), fun G v wq => Box wq b4 26 [.string (bs ((s_l1Cur_table p_code (0, 0)).1.Name)), .slice A26 (((s_l1Cur_table p_code (0, 0)).1.Cols).length) c26, .slice A27 (((s_l1Cur_table p_code (0, 0)).1.Idxs).length) c27]]) Tryd.follows rfl rfl rfl rfl rfl rfl (fun _ _ _ _ _ h => ⟨Gh.udn h.1, h.2⟩) (fun i G w lo hi b K hn hh hp => by exact (match hp with | ⟨e, q1, q2⟩ => by subst e; exact .inl ⟨Gh.sdn, .inl ⟨q1, q2⟩⟩)) (vgetG_kept ⟨(KeptG.det _), (KeptG.det _), (by rintro i G v w w' K hn hh hj h0 e; exact (by exact Box.chg h0 e (fun hp => by obtain ⟨rfl, q1, q2⟩ := hp; rw [hj] at hn; cases hn))), trivial⟩) ⟨?_, ?_, ?_, trivial⟩ ?_
     ·intro L405 w406 G404 hgk407
      have hE408 := hgk407.st.ex.ex (fun b h => h.elim (fun h => hgk407.no rfl h) (fun h => h))
      have hE408z := Ex.size hE408
      exact OpR.op' rfl (Yl.sameG (yl_loadN ty26 rfl (hgk407.old 5 _ rfl rfl) ((Box.ex (Box.only (Box.chg q400 hc180 (by have := Box.lt q400; simp only [InR, or_false]; omega)) hO398 (by omega)) hE408).cells (n := 3) rfl) rfl kI))
     ·intro L412 w413 G411 hgk414
      have hE415 : Chg (fun b => InR [(b4, b4 + 1)] b ∨ w396.heap.size ≤ b) w396 w413 := hgk414.st.ex.imp (fun b _ h => h.imp (fun h => h.2) (fun h => h))
      have hE415z := Chg.size hE415
      exact OpR.op' rfl (Yl.sameG (yl_loadN ty34 rfl (hgk414.old 6 _ rfl rfl) ((Box.chg hB397 hE415 (by have := Box.lt hB397; simp only [InR, or_false]; omega)).cells (n := 3) rfl) rfl kI))
     ·intro L419 w420 G418 hgk421
      have hE422 := hgk421.st.ex.ex (fun b h => h.elim (fun h => hgk421.nw h) (fun h => h))
      have hE422z := Ex.size hE422
      obtain ⟨_, hx424, rfl⟩ := hgk421.val 0 36 rfl rfl
      have q426 := Box.ex (Box.ex hB8 hE15) hE21
      have q429 := Box.only (Box.ex (Box.chg q426 hc33 (by have := Box.lt q426; simp only [InR, or_false]; omega)) hE44) hO47 (by omega)
      have q431 := Box.only (Box.chg q429 hE147 (by have := Box.lt q429; simp only [InR, or_false]; omega)) hO172 (by omega)
      refine OpR.op' rfl (yl_store (vs := [.string (bs ((s_l1Cur_table p_code (0, 0)).1.Name)), .slice A26 (((s_l1Cur_table p_code (0, 0)).1.Cols).length) c26, .slice A27 (((s_l1Cur_table p_code (0, 0)).1.Idxs).length) c27]) ty26 rfl (hgk421.old 2 _ rfl rfl) hx424 rfl rfl rfl (Box.ex (Box.only (Box.chg q431 hc180 (by have := Box.lt q431; simp only [InR, or_false]; omega)) hO398 (by omega)) hE422) (Nat.le_of_ble_eq_true rfl) ?_)
      intro w435 hB436 hO437
      have hO437z := hO437.size
      exact ⟨Chg.of_only hO437 (⟨rfl, Nat.le_refl _, by omega⟩), hB436⟩
     ·intro G438 L439 w440 hgp441
      have hE442 : Chg (fun b => InR [(b4, b4 + 1)] b ∨ w396.heap.size ≤ b) w396 w440 := hgp441.st.ex.imp (fun b _ h => h.imp (fun h => h.2) (fun h => h))
      have hE442z := Chg.size hE442
      have hx444 := hgp441.old 3 _ rfl rfl
      obtain ⟨_, hx445, rfl⟩ := hgp441.val 1 37 rfl rfl
      obtain ⟨_, h446⟩ := hgp441.fact 2 rfl
      have hr447 := hgp441.st.rng 2 (hgp441.has 2 rfl)
      have q448 := Box.ex hB14 hE21
      have q451 := Box.only (Box.ex (Box.chg q448 hc33 (by have := Box.lt q448; simp only [InR, or_false]; omega)) hE44) hO47 (by omega)
      have q453 := Box.only (Box.chg q451 hE147 (by have := Box.lt q451; simp only [InR, or_false]; omega)) hO172 (by omega)
      have q455 := Box.only (Box.chg q453 hc180 (by have := Box.lt q453; simp only [InR, or_false]; omega)) hO398 (by omega)
      refine SeqR.u rfl rfl (yl_store (vs := [.string (bs ((s_l25Write ((s_l1Cur_table p_code (0, 0)).1) ((s_l1Cur_row p_code ((s_l1Cur_table p_code (0, 0)).2) ((s_l1Cur_table p_code (0, 0)).1)).1)).Key)), .string (bs ((s_l25Write ((s_l1Cur_table p_code (0, 0)).1) ((s_l1Cur_row p_code ((s_l1Cur_table p_code (0, 0)).2) ((s_l1Cur_table p_code (0, 0)).1)).1)).Val)), .bool (true)]) ty34 rfl hx444 hx445 rfl rfl rfl (Box.chg q455 hE442 (by have := Box.lt q455; simp only [InR, or_false]; omega)) (Nat.le_of_ble_eq_true rfl) ?_)
      intro w457 hB458 hO459
      have hB458 : Box w457 b10 34 [.string (bs ((s_l25Write ((s_l1Cur_table p_code (0, 0)).1) ((s_l1Cur_row p_code ((s_l1Cur_table p_code (0, 0)).2) ((s_l1Cur_table p_code (0, 0)).1)).1)).Key)), .string (bs ((s_l25Write ((s_l1Cur_table p_code (0, 0)).1) ((s_l1Cur_row p_code ((s_l1Cur_table p_code (0, 0)).2) ((s_l1Cur_table p_code (0, 0)).1)).1)).Val)), .bool (true)] := hB458
      have hO459z := hO459.size
      refine dn (CW.sub (Sub.cons (d := 2) (hgp441.old 2 _ rfl rfl) (Sub.cons (d := 3) hx444 (Sub.nil _))) (CW.ret (rr rfl (.cons ⟨_, rfl, run_loadN ty26 (cs := [.string (bs ((s_l1Cur_table p_code (0, 0)).1.Name)), .slice A26 (((s_l1Cur_table p_code (0, 0)).1.Cols).length) c26, .slice A27 (((s_l1Cur_table p_code (0, 0)).1.Idxs).length) c27]) rfl ((Box.only h446 hO459 (by omega)).cells (n := 3) rfl)⟩ (.cons ⟨_, rfl, run_loadN ty34 (cs := [.string (bs ((s_l25Write ((s_l1Cur_table p_code (0, 0)).1) ((s_l1Cur_row p_code ((s_l1Cur_table p_code (0, 0)).2) ((s_l1Cur_table p_code (0, 0)).1)).1)).Key)), .string (bs ((s_l25Write ((s_l1Cur_table p_code (0, 0)).1) ((s_l1Cur_row p_code ((s_l1Cur_table p_code (0, 0)).2) ((s_l1Cur_table p_code (0, 0)).1)).1)).Val)), .bool (true)]) rfl (hB458.cells (n := 3) rfl)⟩ .nil)) ?_)))
      have hM461 : (s_DrawReadRow p_code) = (((s_l1Cur_table p_code (0, 0)).1, (⟨(s_l25Write ((s_l1Cur_table p_code (0, 0)).1) ((s_l1Cur_row p_code ((s_l1Cur_table p_code (0, 0)).2) ((s_l1Cur_table p_code (0, 0)).1)).1)).Key, (s_l25Write ((s_l1Cur_table p_code (0, 0)).1) ((s_l1Cur_row p_code ((s_l1Cur_table p_code (0, 0)).2) ((s_l1Cur_table p_code (0, 0)).1)).1)).Val, true⟩ : DWrite))) := by simp only [s_DrawReadRow, hb182, hb288, hb394, cL]
      rw [hM461]
      have q484 := Ex.chg (Below.only (Ex.chg (Below.only (Ex.chg (Below.only (Ex.trans (Ex.chg (Ex.trans (Ex.trans (Ex.trans (Ex.refl w) hE9) hE15) hE21) hc33 (fun k hk => by simp only [InR, or_false] at hk; omega)) hE44) hO47 (by omega)) hE147 (fun k hk => by simp only [InR, or_false] at hk; omega)) hO172 (by omega)) hc180 (fun k hk => by simp only [InR, or_false] at hk; omega)) hO398 (by omega)) hE442 (fun k hk => by simp only [InR, or_false] at hk; omega)
      exact ⟨A26, c26, lo26, hi26, A27, c27, lo27, hi27, rfl, (OwnL.only good_Str (OwnL.chg good_Str (OwnL.only good_Str (OwnL.chg good_Str (OwnL.only good_Str (OwnL.chg good_Str q54 hE147 (fun k hl hk => by simp only [InR, or_false] at hk; omega)) hO172 (by omega)) hc180 (fun k hl hk => by simp only [InR, or_false] at hk; omega)) hO398 (by omega)) hE442 (fun k hl hk => by simp only [InR, or_false] at hk; omega)) hO459 (by omega)), (OwnL.only good_Idx (OwnL.chg good_Idx (OwnL.only good_Idx (OwnL.chg good_Idx (OwnL.only good_Idx (OwnL.chg good_Idx q56 hE147 (fun k hl hk => by simp only [InR, or_false] at hk; omega)) hO172 (by omega)) hc180 (fun k hl hk => by simp only [InR, or_false] at hk; omega)) hO398 (by omega)) hE442 (fun k hl hk => by simp only [InR, or_false] at hk; omega)) hO459 (by omega)), ho28, ⟨(ok_l25Write (by omega) (by omega) (rf_row p_code ((s_l1Cur_table p_code (0, 0)).2) ((s_l1Cur_table p_code (0, 0)).1) (by omega)).2).1, (ok_l25Write (by omega) (by omega) (rf_row p_code ((s_l1Cur_table p_code (0, 0)).2) ((s_l1Cur_table p_code (0, 0)).1) (by omega)).2).2⟩, (by omega), (by omega), (by omega), (Below.only q484 hO459 (by omega))⟩
    ·have hb394p := dec_f hb394
     refine CW.cond_f rfl hb394 (CW.skip (bn (tn (CW.seq ?_))))
     have q487 := Box.only (Box.chg hB46 hE147 (by have := Box.lt hB46; simp only [InR, or_false]; omega)) hO172 (by omega)
     have q489 := Box.chg hB171 hc180 (by have := Box.lt hB171; simp only [InR, or_false]; omega)
     refine CW.drawsG 3 (fun G b => G.dn 2 = true ∧ InR [(b4, b4 + 1)] b) (fun i G b => (i = 2 ∧ b4 ≤ b ∧ b < b4 + 1)) (vgetG [DetG (.agg #[.string (bs ((s_l1Cur_table p_code (0, 0)).1.Name)), .slice A26 (((s_l1Cur_table p_code (0, 0)).1.Cols).length) c26, .slice A27 (((s_l1Cur_table p_code (0, 0)).1.Idxs).length) c27]), DetG (.agg #[.string (bs ((s_l25Write ((s_l1Cur_table p_code (0, 0)).1) ((s_l1Cur_row p_code ((s_l1Cur_table p_code (0, 0)).2) ((s_l1Cur_table p_code (0, 0)).1)).1)).Key)), .string (bs ((s_l25Write ((s_l1Cur_table p_code (0, 0)).1) ((s_l1Cur_row p_code ((s_l1Cur_table p_code (0, 0)).2) ((s_l1Cur_table p_code (0, 0)).1)).1)).Val)), .bool ((s_l25Write ((s_l1Cur_table p_code (0, 0)).1) ((s_l1Cur_row p_code ((s_l1Cur_table p_code (0, 0)).2) ((s_l1Cur_table p_code (0, 0)).1)).1)).Gone)]), fun G v wq => Box wq b4 26 [.string (bs ((s_l1Cur_table p_code (0, 0)).1.Name)), .slice A26 (((s_l1Cur_table p_code (0, 0)).1.Cols).length) c26, .slice A27 (((s_l1Cur_table p_code (0, 0)).1.Idxs).length) c27]]) Tryd.follows rfl rfl rfl rfl rfl rfl (fun _ _ _ _ _ h => ⟨Gh.udn h.1, h.2⟩) (fun i G w lo hi b K hn hh hp => by exact (match hp with | ⟨e, q1, q2⟩ => by subst e; exact .inl ⟨Gh.sdn, .inl ⟨q1, q2⟩⟩)) (vgetG_kept ⟨(KeptG.det _), (KeptG.det _), (by rintro i G v w w' K hn hh hj h0 e; exact (by exact Box.chg h0 e (fun hp => by obtain ⟨rfl, q1, q2⟩ := hp; rw [hj] at hn; cases hn))), trivial⟩) ⟨?_, ?_, ?_, trivial⟩ ?_
     ·intro L492 w493 G491 hgk494
      have hE495 := hgk494.st.ex.ex (fun b h => h.elim (fun h => hgk494.no rfl h) (fun h => h))
      have hE495z := Ex.size hE495
      exact OpR.op' rfl (Yl.sameG (yl_loadN ty26 rfl (hgk494.old 5 _ rfl rfl) ((Box.ex (Box.chg q487 hc180 (by have := Box.lt q487; simp only [InR, or_false]; omega)) hE495).cells (n := 3) rfl) rfl kI))
     ·intro L499 w500 G498 hgk501
      have hE502 : Chg (fun b => InR [(b4, b4 + 1)] b ∨ w176.heap.size ≤ b) w176 w500 := hgk501.st.ex.imp (fun b _ h => h.imp (fun h => h.2) (fun h => h))
      have hE502z := Chg.size hE502
      exact OpR.op' rfl (Yl.sameG (yl_loadN ty34 rfl (hgk501.old 6 _ rfl rfl) ((Box.chg q489 hE502 (by have := Box.lt q489; simp only [InR, or_false]; omega)).cells (n := 3) rfl) rfl kI))
     ·intro L506 w507 G505 hgk508
      have hE509 := hgk508.st.ex.ex (fun b h => h.elim (fun h => hgk508.nw h) (fun h => h))
      have hE509z := Ex.size hE509
      obtain ⟨_, hx511, rfl⟩ := hgk508.val 0 36 rfl rfl
      have q513 := Box.ex (Box.ex hB8 hE15) hE21
      have q516 := Box.only (Box.ex (Box.chg q513 hc33 (by have := Box.lt q513; simp only [InR, or_false]; omega)) hE44) hO47 (by omega)
      have q518 := Box.only (Box.chg q516 hE147 (by have := Box.lt q516; simp only [InR, or_false]; omega)) hO172 (by omega)
      refine OpR.op' rfl (yl_store (vs := [.string (bs ((s_l1Cur_table p_code (0, 0)).1.Name)), .slice A26 (((s_l1Cur_table p_code (0, 0)).1.Cols).length) c26, .slice A27 (((s_l1Cur_table p_code (0, 0)).1.Idxs).length) c27]) ty26 rfl (hgk508.old 2 _ rfl rfl) hx511 rfl rfl rfl (Box.ex (Box.chg q518 hc180 (by have := Box.lt q518; simp only [InR, or_false]; omega)) hE509) (Nat.le_of_ble_eq_true rfl) ?_)
      intro w521 hB522 hO523
      have hO523z := hO523.size
      exact ⟨Chg.of_only hO523 (⟨rfl, Nat.le_refl _, by omega⟩), hB522⟩
     ·intro G524 L525 w526 hgp527
      have hE528 : Chg (fun b => InR [(b4, b4 + 1)] b ∨ w176.heap.size ≤ b) w176 w526 := hgp527.st.ex.imp (fun b _ h => h.imp (fun h => h.2) (fun h => h))
      have hE528z := Chg.size hE528
      have hx530 := hgp527.old 3 _ rfl rfl
      obtain ⟨_, hx531, rfl⟩ := hgp527.val 1 37 rfl rfl
      obtain ⟨_, h532⟩ := hgp527.fact 2 rfl
      have hr533 := hgp527.st.rng 2 (hgp527.has 2 rfl)
      have q534 := Box.ex hB14 hE21
      have q537 := Box.only (Box.ex (Box.chg q534 hc33 (by have := Box.lt q534; simp only [InR, or_false]; omega)) hE44) hO47 (by omega)
      have q539 := Box.only (Box.chg q537 hE147 (by have := Box.lt q537; simp only [InR, or_false]; omega)) hO172 (by omega)
      have q540 := Box.chg q539 hc180 (by have := Box.lt q539; simp only [InR, or_false]; omega)
      refine SeqR.u rfl rfl (yl_store (vs := [.string (bs ((s_l25Write ((s_l1Cur_table p_code (0, 0)).1) ((s_l1Cur_row p_code ((s_l1Cur_table p_code (0, 0)).2) ((s_l1Cur_table p_code (0, 0)).1)).1)).Key)), .string (bs ((s_l25Write ((s_l1Cur_table p_code (0, 0)).1) ((s_l1Cur_row p_code ((s_l1Cur_table p_code (0, 0)).2) ((s_l1Cur_table p_code (0, 0)).1)).1)).Val)), .bool ((s_l25Write ((s_l1Cur_table p_code (0, 0)).1) ((s_l1Cur_row p_code ((s_l1Cur_table p_code (0, 0)).2) ((s_l1Cur_table p_code (0, 0)).1)).1)).Gone)]) ty34 rfl hx530 hx531 rfl rfl rfl (Box.chg q540 hE528 (by have := Box.lt q540; simp only [InR, or_false]; omega)) (Nat.le_of_ble_eq_true rfl) ?_)
      intro w542 hB543 hO544
      have hB543 : Box w542 b10 34 [.string (bs ((s_l25Write ((s_l1Cur_table p_code (0, 0)).1) ((s_l1Cur_row p_code ((s_l1Cur_table p_code (0, 0)).2) ((s_l1Cur_table p_code (0, 0)).1)).1)).Key)), .string (bs ((s_l25Write ((s_l1Cur_table p_code (0, 0)).1) ((s_l1Cur_row p_code ((s_l1Cur_table p_code (0, 0)).2) ((s_l1Cur_table p_code (0, 0)).1)).1)).Val)), .bool ((s_l25Write ((s_l1Cur_table p_code (0, 0)).1) ((s_l1Cur_row p_code ((s_l1Cur_table p_code (0, 0)).2) ((s_l1Cur_table p_code (0, 0)).1)).1)).Gone)] := hB543
      have hO544z := hO544.size
      refine dn (CW.sub (Sub.cons (d := 2) (hgp527.old 2 _ rfl rfl) (Sub.cons (d := 3) hx530 (Sub.nil _))) (CW.ret (rr rfl (.cons ⟨_, rfl, run_loadN ty26 (cs := [.string (bs ((s_l1Cur_table p_code (0, 0)).1.Name)), .slice A26 (((s_l1Cur_table p_code (0, 0)).1.Cols).length) c26, .slice A27 (((s_l1Cur_table p_code (0, 0)).1.Idxs).length) c27]) rfl ((Box.only h532 hO544 (by omega)).cells (n := 3) rfl)⟩ (.cons ⟨_, rfl, run_loadN ty34 (cs := [.string (bs ((s_l25Write ((s_l1Cur_table p_code (0, 0)).1) ((s_l1Cur_row p_code ((s_l1Cur_table p_code (0, 0)).2) ((s_l1Cur_table p_code (0, 0)).1)).1)).Key)), .string (bs ((s_l25Write ((s_l1Cur_table p_code (0, 0)).1) ((s_l1Cur_row p_code ((s_l1Cur_table p_code (0, 0)).2) ((s_l1Cur_table p_code (0, 0)).1)).1)).Val)), .bool ((s_l25Write ((s_l1Cur_table p_code (0, 0)).1) ((s_l1Cur_row p_code ((s_l1Cur_table p_code (0, 0)).2) ((s_l1Cur_table p_code (0, 0)).1)).1)).Gone)]) rfl (hB543.cells (n := 3) rfl)⟩ .nil)) ?_)))
      have hM546 : (s_DrawReadRow p_code) = (((s_l1Cur_table p_code (0, 0)).1, (s_l25Write ((s_l1Cur_table p_code (0, 0)).1) ((s_l1Cur_row p_code ((s_l1Cur_table p_code (0, 0)).2) ((s_l1Cur_table p_code (0, 0)).1)).1)))) := by simp only [s_DrawReadRow, hb182, hb288, hb394, cL]
      rw [hM546]
      have q566 := Ex.chg (Ex.chg (Below.only (Ex.chg (Below.only (Ex.trans (Ex.chg (Ex.trans (Ex.trans (Ex.trans (Ex.refl w) hE9) hE15) hE21) hc33 (fun k hk => by simp only [InR, or_false] at hk; omega)) hE44) hO47 (by omega)) hE147 (fun k hk => by simp only [InR, or_false] at hk; omega)) hO172 (by omega)) hc180 (fun k hk => by simp only [InR, or_false] at hk; omega)) hE528 (fun k hk => by simp only [InR, or_false] at hk; omega)
      exact ⟨A26, c26, lo26, hi26, A27, c27, lo27, hi27, rfl, (OwnL.only good_Str (OwnL.chg good_Str (OwnL.chg good_Str (OwnL.only good_Str (OwnL.chg good_Str q54 hE147 (fun k hl hk => by simp only [InR, or_false] at hk; omega)) hO172 (by omega)) hc180 (fun k hl hk => by simp only [InR, or_false] at hk; omega)) hE528 (fun k hl hk => by simp only [InR, or_false] at hk; omega)) hO544 (by omega)), (OwnL.only good_Idx (OwnL.chg good_Idx (OwnL.chg good_Idx (OwnL.only good_Idx (OwnL.chg good_Idx q56 hE147 (fun k hl hk => by simp only [InR, or_false] at hk; omega)) hO172 (by omega)) hc180 (fun k hl hk => by simp only [InR, or_false] at hk; omega)) hE528 (fun k hl hk => by simp only [InR, or_false] at hk; omega)) hO544 (by omega)), ho28, (ok_l25Write (by omega) (by omega) (rf_row p_code ((s_l1Cur_table p_code (0, 0)).2) ((s_l1Cur_table p_code (0, 0)).1) (by omega)).2), (by omega), (by omega), (by omega), (Below.only q566 hO544 (by omega))⟩
theorem c_s_l1Split {w : World} (p_s : Str) (p_b : Int) (o1 : okS p_s) : Cal Tryd.prog 60 #[.string (bs (p_s)), .int .u8 (p_b)] w fun v w' => ∃ A_1 c_1 lo_1 hi_1, v = .slice A_1 ((s_l1Split p_s p_b).length) c_1 ∧ OwnL w' lo_1 hi_1 9 1 (RF e_Str) A_1 ((s_l1Split p_s p_b).length) c_1 (s_l1Split p_s p_b) ∧ (okL okS) (s_l1Split p_s p_b) ∧ (w.heap.size ≤ lo_1 ∧ lo_1 ≤ hi_1 ∧ hi_1 ≤ w'.heap.size) ∧ Ex w w' := by
 have hol2 : p_s.length ≤ 1073741824 := o1
 refine Cal.of func60 rfl ntmps60 rfl (CW.seq (CW.region (sd rfl (yl_assign rfl rfl (dn (CW.seq (CW.region (sd rfl (yl_assign rfl rfl ?_)))))))))
 refine dn (CW.seq (CW.region (sd rfl (yl_assign rfl rfl (dn (CW.seq (CW.seq ?_)))))))
 refine CW.region (sd rfl (yl_assign rfl rfl (dn (CW.block (CW.loop (fun m26 L27 w28 => ∃ (k3 : Nat) (x21 : List Str) (x25 : Int) (A22 : Option Addr) (c23 : Nat) (u24 : Nat), m26 = p_s.length - k3 ∧ k3 ≤ p_s.length ∧ w.heap.size ≤ w28.heap.size ∧ lkp L27 0 = some (.string (bs (p_s))) ∧ lkp L27 1 = some (.int .u8 (p_b)) ∧ lkp L27 5 = some (.slice A22 x21.length c23) ∧ lkp L27 6 = some (.int .i64 (x25)) ∧ lkp L27 7 = some (.int .i64 ((k3 : Int))) ∧ OwnL w28 w.heap.size u24 9 1 (RF e_Str) A22 x21.length c23 x21 ∧ Ex w w28 ∧ (w.heap.size ≤ u24 ∧ u24 ≤ w28.heap.size) ∧ x21.length ≤ 0 + 1 * (k3 - 0) ∧ (∀ y ∈ x21, okS y) ∧ 0 ≤ x25 ∧ x25 ≤ (k3 : Int) ∧ loopM (B_s_l1Split_0 p_s p_b) (p_s.length - k3) k3 (x21, x25) = loopM (B_s_l1Split_0 p_s p_b) (p_s.length - 0) 0 (([] : List Str), 0)) (p_s.length - 0) ?_ ?_)))))
 ·exact ⟨0, ([] : List Str), 0, none, 0, w.heap.size, rfl, (by omega), Nat.le_refl _, rfl, rfl, rfl, rfl, rfl, (OwnL.nil w w.heap.size w.heap.size 9 1 (RF e_Str)), (Ex.refl w), (by omega), (by first | (simp; done) | (first | omega | (simp only [List.length_append, List.length_cons, List.length_nil, List.length_set, toS_length]; omega))), okE.nil, (by first | omega | assumption | (simp only [wI] at *; omega)), (by first | omega | assumption | (simp only [wI] at *; omega)), rfl⟩
 ·rintro m29 L30 w31 ⟨k3, x21, x25, A22, c23, u24, rfl, hk32, hsz34, hl35, hl36, hl37, hl38, hl39, hf40, hf41, hu42, hln43, hok44, hv45, hv46, hI33⟩
  refine CW.sub (Sub.cons hl35 (Sub.cons hl36 (Sub.cons hl37 (Sub.cons hl38 (Sub.cons hl39 (Sub.nil _)))))) ?_
  have hf41z := Ex.size hf41
  have hbg47 : p_s.length ≤ 1073741824 := o1
  rcases Nat.lt_or_ge k3 p_s.length with hlt48 | hlt48
  ·refine CW.seq (CW.seq (CW.region (sd rfl (yl_move rfl rfl (sd rfl (yl_move rfl rfl (sd rfl (yl_slen un9 (a := p_s) rfl rfl (sd rfl (yl_lss rfl rfl rfl (dn ?_)))))))))))
   refine CW.cond_t rfl (lt_t hlt48) (CW.skip (tn (CW.seq (CW.block (CW.seq (CW.region (sd rfl (yl_move rfl rfl (sd rfl (yl_move rfl rfl ?_))))))))))
   refine sd rfl (yl_sindexN un9 (a := p_s) rfl rfl rfl (by first | omega | assumption | (simp only [wI] at *; omega)) (sd rfl (yl_move rfl rfl (sd rfl (yl_eql rfl rfl rfl (dn (bcase (decide (((p_s.getD k3 0).toNat : Int) = p_b)) (fun hb49 => ?_) (fun hb49 => ?_))))))))
   ·have hb49p := dec_t hb49
    refine CW.cond_t rfl hb49 (CW.seq (CW.region (sd rfl (yl_move rfl rfl (sd rfl (yl_move rfl rfl (sd rfl (yl_move rfl rfl (sd rfl (yl_move rfl rfl (sd rfl (yl_sslice_lh un9 (a := p_s) (l := (x25).toNat) (h := k3) rfl rfl (toNat_op rfl (by omega)) rfl (by omega) (by omega) (sd rfl (yl_buildSlice (cs := [.string (bs (((p_s.take k3).drop ((x25).toNat))))]) un23 ty9 (by decide) rfl (oc rfl oz) (by kernel_rfl) ?_))))))))))))))
    intro b50 w51 hs52 hz53 hB54 hE55
    have hO56 : OwnL w51 b50 (b50 + 1) 9 1 (RF e_Str) (some ⟨b50, 0, none⟩) 1 1 ([((p_s.take k3).drop ((x25).toNat))] : List Str) := OwnL.of_box (S := fun _ => False) hB54 (Nat.le_refl _) (Nat.lt_succ_self _) (EncL.cons (c := [.string (bs (((p_s.take k3).drop ((x25).toNat))))]) rfl rfl EncL.nil) (Nat.le_of_ble_eq_true rfl) (fun h => h) (fun _ h => False.elim h)
    refine sd rfl (yl_appendL (S := (fun _ => False)) (lo := w.heap.size) (hi := u24) (xs := x21) (ys := ([((p_s.take k3).drop ((x25).toNat))] : List Str)) good_Str un23 ty9 rfl (Nat.le_of_ble_eq_true rfl) rfl rfl rfl (OwnL.ex good_Str hf40 hE55) (EncL.cons (c := [.string (bs (((p_s.take k3).drop ((x25).toNat))))]) rfl rfl EncL.nil) (Or.inr ⟨_, _, rfl, rfl, hB54.cells (o := 0) (n := 1) rfl⟩) rfl (by first | omega | (simp only [List.length_append, List.length_cons, List.length_nil, List.length_take, List.length_drop, List.length_replicate, List.length_set, toS_length]; omega)) (by first | omega | (simp only [List.length_append, List.length_cons, List.length_nil, List.length_take, List.length_drop, List.length_replicate, List.length_set, toS_length]; omega)) (by omega) (by omega) (fun _ h _ => False.elim h) (by omega) ?_)
    intro A58 c59 w60 row61 hO62 hG63 hrg64
    have hG63z := hG63.size
    refine sd rfl (yl_assign rfl rfl (dn (CW.region (sd rfl (yl_move rfl rfl (sd rfl (yl_inc rfl rfl rfl (by omega) (sd rfl (yl_assign rfl rfl (SeqR.done (bn ?_)))))))))))
    refine tn (CW.region (sd rfl (yl_move rfl rfl (sd rfl (yl_inc rfl rfl rfl (by omega) (sd rfl (yl_assign rfl rfl (dn ?_))))))))
    have hB65 : B_s_l1Split_0 p_s p_b k3 (x21, x25) = .cont ((x21 ++ ([((p_s.take k3).drop ((x25).toNat))] : List Str)), ((k3 + 1 : Nat) : Int)) := by simp only [B_s_l1Split_0, hb49, cL]
    exact ⟨p_s.length - (k3 + 1), by omega, k3 + 1, (x21 ++ ([((p_s.take k3).drop ((x25).toNat))] : List Str)), ((k3 + 1 : Nat) : Int), A58, c59, w60.heap.size, rfl, hlt48, (by omega), rfl, rfl, rfl, rfl, rfl, hO62, (Below.grown (Ex.trans hf41 hE55) hG63 (by omega) (fun k hk => by have := hrg64 k hk; omega)), (by omega), (by first | omega | (simp only [List.length_append, List.length_cons, List.length_nil, List.length_set, toS_length]; omega)), (okE.append hok44 ((okL.mk (Nat.le_of_ble_eq_true rfl) (okE.cons (okS.drop (okS.take o1 _) _) okE.nil))).2), (by first | omega | assumption | (simp only [wI] at *; omega)), (by first | omega | assumption | (simp only [wI] at *; omega)), (loopM.cont hlt48 hB65).symm.trans hI33⟩
   ·have hb49p := dec_f hb49
    refine CW.cond_f rfl hb49 (CW.skip (bn (tn (CW.region (sd rfl (yl_move rfl rfl (sd rfl (yl_inc rfl rfl rfl (by omega) (sd rfl (yl_assign rfl rfl (SeqR.done ?_)))))))))))
    refine tn ?_
    have hB68 : B_s_l1Split_0 p_s p_b k3 (x21, x25) = .cont (x21, x25) := by simp only [B_s_l1Split_0, hb49, cL]
    exact ⟨p_s.length - (k3 + 1), by omega, k3 + 1, x21, x25, A22, c23, u24, rfl, hlt48, (by omega), rfl, rfl, rfl, rfl, rfl, hf40, hf41, (by omega), (by first | omega | (simp only [List.length_append, List.length_cons, List.length_nil, List.length_set, toS_length]; omega)), hok44, (by first | omega | assumption | (simp only [wI] at *; omega)), (by first | omega | assumption | (simp only [wI] at *; omega)), (loopM.cont hlt48 hB68).symm.trans hI33⟩
  ·refine CW.seq (CW.seq (CW.region (sd rfl (yl_move rfl rfl (sd rfl (yl_move rfl rfl (sd rfl (yl_slen un9 (a := p_s) rfl rfl (sd rfl (yl_lss rfl rfl rfl (dn ?_)))))))))))
   refine CW.cond_f rfl (lt_f hlt48) (CW.exit (tx (tx ?_)))
   have hL69 : loopM (B_s_l1Split_0 p_s p_b) (p_s.length - 0) 0 (([] : List Str), 0) = .done (x21, x25) := hI33.symm.trans (loopM.stop hlt48)
   refine bx (tn (CW.seq (CW.region (sd rfl (yl_move rfl rfl (sd rfl (yl_move rfl rfl (sd rfl (yl_move rfl rfl (sd rfl (yl_sslice_lo un9 (a := p_s) (l := (x25).toNat) rfl rfl (toNat_op rfl (by omega)) (by omega) (sd rfl (yl_buildSlice (cs := [.string (bs ((p_s.drop ((x25).toNat))))]) un23 ty9 (by decide) rfl (oc rfl oz) (by kernel_rfl) ?_)))))))))))))
   intro b70 w71 hs72 hz73 hB74 hE75
   have hO76 : OwnL w71 b70 (b70 + 1) 9 1 (RF e_Str) (some ⟨b70, 0, none⟩) 1 1 ([(p_s.drop ((x25).toNat))] : List Str) := OwnL.of_box (S := fun _ => False) hB74 (Nat.le_refl _) (Nat.lt_succ_self _) (EncL.cons (c := [.string (bs ((p_s.drop ((x25).toNat))))]) rfl rfl EncL.nil) (Nat.le_of_ble_eq_true rfl) (fun h => h) (fun _ h => False.elim h)
   refine sd rfl (yl_appendL (S := (fun _ => False)) (lo := w.heap.size) (hi := u24) (xs := x21) (ys := ([(p_s.drop ((x25).toNat))] : List Str)) good_Str un23 ty9 rfl (Nat.le_of_ble_eq_true rfl) rfl rfl rfl (OwnL.ex good_Str hf40 hE75) (EncL.cons (c := [.string (bs ((p_s.drop ((x25).toNat))))]) rfl rfl EncL.nil) (Or.inr ⟨_, _, rfl, rfl, hB74.cells (o := 0) (n := 1) rfl⟩) rfl (by first | omega | (simp only [List.length_append, List.length_cons, List.length_nil, List.length_take, List.length_drop, List.length_replicate, List.length_set, toS_length]; omega)) (by first | omega | (simp only [List.length_append, List.length_cons, List.length_nil, List.length_take, List.length_drop, List.length_replicate, List.length_set, toS_length]; omega)) (by omega) (by omega) (fun _ h _ => False.elim h) (by omega) ?_)
   intro A78 c79 w80 row81 hO82 hG83 hrg84
   have hG83z := hG83.size
   refine sd rfl (yl_assign rfl rfl (dn (CW.ret (rr rfl (.cons rfl .nil) ?_))))
   have hM85 : (s_l1Split p_s p_b) = ((x21 ++ ([(p_s.drop ((x25).toNat))] : List Str))) := by simp only [s_l1Split, hL69, cL]
   rw [hM85]
   exact ⟨A78, c79, w.heap.size, w80.heap.size, rfl, hO82, (okL.mk (xs := (x21 ++ ([(p_s.drop ((x25).toNat))] : List Str))) (by first | omega | (simp only [List.length_append, List.length_cons, List.length_nil, List.length_take, List.length_drop, List.length_replicate, List.length_set, toS_length]; omega)) (okE.append hok44 ((okL.mk (Nat.le_of_ble_eq_true rfl) (okE.cons (okS.drop o1 _) okE.nil))).2)), (by omega), (Below.grown (Ex.trans hf41 hE75) hG83 (by omega) (fun k hk => by have := hrg84 k hk; omega))⟩
theorem c_s_l25Read {A1 : Option Addr} {c1 : Nat} {A2 : Option Addr} {c2 : Nat} {w : World} (p_t : DTable) (p_w : DWrite) (h1 : RdS w (Iv 0 w.heap.size) (RF e_Str) 1 A1 p_t.Cols.length c1 p_t.Cols) (h2 : RdS w (Iv 0 w.heap.size) (RF e_Idx) 3 A2 p_t.Idxs.length c2 p_t.Idxs) (o3 : ok_Table p_t) (o4 : ok_Write p_w) : Cal Tryd.prog 37 #[.agg #[.string (bs (p_t.Name)), .slice A1 p_t.Cols.length c1, .slice A2 p_t.Idxs.length c2], .agg #[.string (bs (p_w.Key)), .string (bs (p_w.Val)), .bool (p_w.Gone)]] w fun v w' => ∃ A_1 c_1 lo_1 hi_1, v = .tuple #[.agg #[.slice A_1 (((s_l25Read p_t p_w).1.Vals).length) c_1], .bool ((s_l25Read p_t p_w).2)] ∧ OwnL w' lo_1 hi_1 9 1 (RF e_Str) A_1 (((s_l25Read p_t p_w).1.Vals).length) c_1 ((s_l25Read p_t p_w).1.Vals) ∧ ok_Row ((s_l25Read p_t p_w).1) ∧ (w.heap.size ≤ lo_1 ∧ lo_1 ≤ hi_1 ∧ hi_1 ≤ w'.heap.size) ∧ Ex w w' := by
 have hol5 : p_t.Name.length ≤ 1073741824 := o3.1
 have hol6 := o3.2.1.1
 have hol7 := o3.2.2.1
 have hol8 : p_w.Key.length ≤ 1073741824 := o4.1
 have hol9 : p_w.Val.length ≤ 1073741824 := o4.2
 refine Cal.of func37 rfl ntmps37 rfl (CW.seq (CW.region (sd rfl (yl_box rfl rfl rfl ?_))))
 intro b10 w11 hs12 hz13 hB14 hE15
 refine sd rfl (yl_box rfl rfl rfl ?_)
 intro b16 w17 hs18 hz19 hB20 hE21
 refine sd rfl (yl_alloc ty28 (cs := [.slice none 0 0]) rfl rfl ?_)
 intro b22 w23 hs24 hz25 hB26 hE27
 refine sd rfl (yl_assign rfl rfl (dn (CW.seq (CW.seq (CW.region (sd rfl (yl_fieldAddr fd34_0 rfl rfl ?_)))))))
 have q28 := Box.ex hB20 hE27
 refine sd rfl (yl_load1 ty9 rfl rfl ((q28.cell 0).trans rfl) (sd rfl (yl_slen un9 (a := p_w.Key) rfl rfl (sd rfl (yl_lss rfl rfl rfl (dn (bcase (decide ((p_w.Key.length : Int) < 3)) (fun hb29 => ?_) (fun hb29 => ?_))))))))
 ·have hb29p := dec_t hb29
  refine CW.cond_t rfl hb29 (CW.seq (CW.region (sd rfl (yl_build (cs := [.slice none 0 0]) rfl opvs_nil (by kernel_rfl) (SeqR.u rfl rfl (yl_store (vs := [.slice none 0 0]) ty28 rfl rfl rfl rfl rfl rfl hB26 (Nat.le_of_ble_eq_true rfl) ?_))))))
  intro w30 hB31 hO32
  have hB31 : Box w30 b22 28 [.slice none 0 0] := hB31
  have hO32z := hO32.size
  refine sd rfl (yl_assign rfl rfl (dn (CW.ret (tr (rr rfl (.cons ⟨_, rfl, run_loadN ty28 (cs := [.slice none 0 0]) rfl (hB31.cells (n := 1) rfl)⟩ (.cons rfl .nil)) ?_)))))
  have hM33 : (s_l25Read p_t p_w) = (((⟨[]⟩ : DRow), false)) := by simp only [s_l25Read, hb29, cL]
  rw [hM33]
  exact ⟨none, 0, w30.heap.size, w30.heap.size, rfl, (OwnL.nil _ _ _ _ _ _), (okL.nil _), (by omega), (Below.only (Ex.trans (Ex.trans (Ex.trans (Ex.refl w) hE15) hE21) hE27) hO32 (by omega))⟩
 ·have hb29p := dec_f hb29
  refine CW.cond_f rfl hb29 (CW.skip (tn (CW.seq ?_)))
  have hrf49 := rf_l1Split p_w.Val 44
  refine CW.drawsG 10 (fun _ _ => False) (fun _ _ _ => False) (vgetG [DetG (.pointer (some ⟨b16, 0 + 0, none⟩)), DetG (.string (bs (p_w.Key))), DetG (.string (bs ((p_w.Key.drop 2)))), fun G v wq => ∃ A38, v = .slice A38 1 1 ∧ (G.dn 7 = false → OwnL wq (G.fl 3) (G.fh 3) 9 1 (RF e_Str) A38 1 1 ([(p_w.Key.drop 2)] : List Str)), DetG (.pointer (some ⟨b16, 0 + 1, none⟩)), DetG (.string (bs (p_w.Val))), fun G v wq => ∃ A42 c42 lo42 hi42, v = .slice A42 ((s_l1Split p_w.Val 44).length) c42 ∧ OwnL wq lo42 hi42 9 1 (RF e_Str) A42 ((s_l1Split p_w.Val 44).length) c42 (s_l1Split p_w.Val 44) ∧ (okL okS) (s_l1Split p_w.Val 44) ∧ ((G.fl 6) ≤ lo42 ∧ lo42 ≤ hi42 ∧ hi42 ≤ (G.fh 6)), fun G v wq => ∃ A44 c45, v = .slice A44 ((([(p_w.Key.drop 2)] : List Str) ++ (s_l1Split p_w.Val 44)).length) c45 ∧ OwnL wq (G.fl 7) (G.fh 7) 9 1 (RF e_Str) A44 ((([(p_w.Key.drop 2)] : List Str) ++ (s_l1Split p_w.Val 44)).length) c45 (([(p_w.Key.drop 2)] : List Str) ++ (s_l1Split p_w.Val 44)), fun G v wq => ∃ A44 c45, v = .agg #[.slice A44 ((([(p_w.Key.drop 2)] : List Str) ++ (s_l1Split p_w.Val 44)).length) c45] ∧ OwnL wq (G.fl 7) (G.fh 7) 9 1 (RF e_Str) A44 ((([(p_w.Key.drop 2)] : List Str) ++ (s_l1Split p_w.Val 44)).length) c45 (([(p_w.Key.drop 2)] : List Str) ++ (s_l1Split p_w.Val 44)), fun G v wq => v = .pointer (some ⟨(G.fl 9), 0, none⟩) ∧ Box wq (G.fl 9) 28 [.slice none 0 0] ∧ (G.fl 9) < (G.fh 9)]) Tryd.follows rfl rfl rfl rfl rfl rfl (fun _ _ _ _ _ h => h) (fun _ _ _ _ _ _ _ _ _ h => h.elim) (vgetG_kept ⟨(KeptG.det _), (KeptG.det _), (KeptG.det _), (by rintro i G v w w' K hn hh hj ⟨A38, hv, h0⟩ e; have d3 : G.dn 3 = true := hj; have u3 := Gh.ufl (lo := w.heap.size) (hi := w'.heap.size) d3 hn; have t3 := Gh.ufh (lo := w.heap.size) (hi := w'.heap.size) d3 hn; exact ⟨A38, hv, (by intro hd; simp only [u3, t3]; exact OwnL.chg good_Str (h0 (Gh.off hd).2) e (fun b hb hp => by exact hp.elim))⟩), (KeptG.det _), (KeptG.det _), (by rintro i G v w w' K hn hh hj ⟨A42, c42, lo42, hi42, hv, h0, h1, hr0⟩ e; have d6 : G.dn 6 = true := hj; have u6 := Gh.ufl (lo := w.heap.size) (hi := w'.heap.size) d6 hn; have t6 := Gh.ufh (lo := w.heap.size) (hi := w'.heap.size) d6 hn; exact ⟨A42, c42, lo42, hi42, hv, (by exact OwnL.chg good_Str h0 e (fun b hb hp => by exact hp.elim)), h1, (by simp only [u6, t6]; exact hr0)⟩), (by rintro i G v w w' K hn hh hj ⟨A44, c45, hv, h0⟩ e; have d7 : G.dn 7 = true := hj; have u7 := Gh.ufl (lo := w.heap.size) (hi := w'.heap.size) d7 hn; have t7 := Gh.ufh (lo := w.heap.size) (hi := w'.heap.size) d7 hn; exact ⟨A44, c45, hv, (by simp only [u7, t7]; exact OwnL.chg good_Str h0 e (fun b hb hp => by exact hp.elim))⟩), (by rintro i G v w w' K hn hh hj ⟨A44, c45, hv, h0⟩ e; have d7 : G.dn 7 = true := K.cl 8 7 hj rfl; have u7 := Gh.ufl (lo := w.heap.size) (hi := w'.heap.size) d7 hn; have t7 := Gh.ufh (lo := w.heap.size) (hi := w'.heap.size) d7 hn; exact ⟨A44, c45, hv, (by simp only [u7, t7]; exact OwnL.chg good_Str h0 e (fun b hb hp => by exact hp.elim))⟩), (by rintro i G v w w' K hn hh hj ⟨hv, h0, he0⟩ e; have d9 : G.dn 9 = true := hj; have u9 := Gh.ufl (lo := w.heap.size) (hi := w'.heap.size) d9 hn; have t9 := Gh.ufh (lo := w.heap.size) (hi := w'.heap.size) d9 hn; exact ⟨(by simp only [u9, t9]; exact hv), (by simp only [u9, t9]; exact Box.chg h0 e (fun hp => by exact hp.elim)), (by simp only [u9, t9]; exact he0)⟩), trivial⟩) ⟨?_, ?_, ?_, ?_, ?_, ?_, ?_, ?_, ?_, ?_, trivial⟩ ?_
  ·intro L51 w52 G50 hgk53
   have hE54 := hgk53.st.ex.ex (fun b h => h.elim (fun h => h.elim) (fun h => h))
   have hE54z := Ex.size hE54
   exact OpR.op' rfl (Yl.sameG (yl_fieldAddr fd34_0 rfl (hgk53.old 3 _ rfl rfl) kI))
  ·intro L57 w58 G56 hgk59
   have hE60 := hgk59.st.ex.ex (fun b h => h.elim (fun h => h.elim) (fun h => h))
   have hE60z := Ex.size hE60
   obtain ⟨_, hx61, rfl⟩ := hgk59.val 0 12 rfl rfl
   exact OpR.op' rfl (Yl.sameG (yl_load1 ty9 rfl hx61 (((Box.ex q28 hE60).cell 0).trans rfl) kI))
  ·intro L64 w65 G63 hgk66
   have hE67 := hgk66.st.ex.ex (fun b h => h.elim (fun h => h.elim) (fun h => h))
   have hE67z := Ex.size hE67
   obtain ⟨_, hx68, rfl⟩ := hgk66.val 1 13 rfl rfl
   exact OpR.op' rfl (Yl.sameG (yl_sslice_lo un9 (a := p_w.Key) (l := 2) rfl hx68 rfl (by omega) kI))
  ·intro L70 w71 G69 hgk72
   have hE73 := hgk72.st.ex.ex (fun b h => h.elim (fun h => h.elim) (fun h => h))
   have hE73z := Ex.size hE73
   obtain ⟨_, hx74, rfl⟩ := hgk72.val 2 14 rfl rfl
   refine OpR.op' rfl (yl_buildSlice (cs := [.string (bs ((p_w.Key.drop 2)))]) un23 ty9 (by decide) rfl (oc hx74 oz) (by kernel_rfl) ?_)
   intro b75 w76 hs77 hz78 hB79 hE80
   have hO81 : OwnL w76 b75 (b75 + 1) 9 1 (RF e_Str) (some ⟨b75, 0, none⟩) 1 1 ([(p_w.Key.drop 2)] : List Str) := OwnL.of_box (S := fun _ => False) hB79 (Nat.le_refl _) (Nat.lt_succ_self _) (EncL.cons (c := [.string (bs ((p_w.Key.drop 2)))]) rfl rfl EncL.nil) (Nat.le_of_ble_eq_true rfl) (fun h => h) (fun _ h => False.elim h)
   exact ⟨Chg.of_ex hE80, (some ⟨b75, 0, none⟩), rfl, fun _ => OwnL.more (lo' := w71.heap.size) (hi' := w76.heap.size) hO81 (by omega) (by omega)⟩
  ·intro L83 w84 G82 hgk85
   have hE86 := hgk85.st.ex.ex (fun b h => h.elim (fun h => h.elim) (fun h => h))
   have hE86z := Ex.size hE86
   exact OpR.op' rfl (Yl.sameG (yl_fieldAddr fd34_1 rfl (hgk85.old 3 _ rfl rfl) kI))
  ·intro L89 w90 G88 hgk91
   have hE92 := hgk91.st.ex.ex (fun b h => h.elim (fun h => h.elim) (fun h => h))
   have hE92z := Ex.size hE92
   obtain ⟨_, hx93, rfl⟩ := hgk91.val 4 16 rfl rfl
   exact OpR.op' rfl (Yl.sameG (yl_load1 ty9 rfl hx93 (((Box.ex q28 hE92).cell 1).trans rfl) kI))
  ·intro L96 w97 G95 hgk98
   have hE99 := hgk98.st.ex.ex (fun b h => h.elim (fun h => h.elim) (fun h => h))
   have hE99z := Ex.size hE99
   obtain ⟨_, hx100, rfl⟩ := hgk98.val 5 17 rfl rfl
   refine OpR.op' rfl (yl_call en60 rfl (oc hx100 (oc rfl oz)) (Cal.mono (c_s_l1Split p_w.Val 44 o4.2) ?_))
   rintro v104 w101 ⟨A102, c102, lo102, hi102, rfl, h102, ho103, hrn106, hE105⟩
   exact ⟨Chg.of_ex hE105, A102, c102, lo102, hi102, rfl, h102, ho103, hrn106⟩
  ·intro L108 w109 G107 hgk110
   have hE111 := hgk110.st.ex.ex (fun b h => h.elim (fun h => h.elim) (fun h => h))
   have hE111z := Ex.size hE111
   obtain ⟨_, hx112, A38_113, rfl, h114⟩ := hgk110.val 3 15 rfl rfl
   have h114 := h114 hgk110.new
   obtain ⟨_, hx115, A42_116, c42_117, lo42_118, hi42_119, rfl, h120, h121, hrn122⟩ := hgk110.val 6 18 rfl rfl
   have hr123 := hgk110.st.rng 3 (hgk110.has 3 rfl)
   have hr124 := hgk110.st.rng 6 (hgk110.has 6 rfl)
   have hsp125 := hgk110.st.sep 3 6 (hgk110.has 3 rfl) (hgk110.has 6 rfl) rfl
   have hol126 : (s_l1Split p_w.Val 44).length ≤ 2147483648 := h121.1
   refine OpR.op' rfl (yl_appendF (lo := w109.heap.size) (xs := ([(p_w.Key.drop 2)] : List Str)) (ys := (s_l1Split p_w.Val 44)) good_Str un23 ty9 rfl (Nat.le_of_ble_eq_true rfl) rfl hx112 hx115 (by first | omega | (simp only [List.length_append, List.length_cons, List.length_nil, List.length_take, List.length_drop, List.length_replicate, List.length_set, toS_length]; omega)) (OwnL.rd good_Str h114) (OwnL.rd good_Str h120) (by first | omega | (simp only [List.length_append, List.length_cons, List.length_nil, List.length_take, List.length_drop, List.length_replicate, List.length_set, toS_length]; omega)) (by first | omega | (simp only [List.length_append, List.length_cons, List.length_nil, List.length_take, List.length_drop, List.length_replicate, List.length_set, toS_length]; omega)) (by first | omega | (simp only [List.length_append, List.length_cons, List.length_nil, List.length_take, List.length_drop, List.length_replicate, List.length_set, toS_length]; omega)) (Nat.le_refl _) (fun _ _ h => h) (fun _ _ h => h) ?_)
   intro A129 c130 w131 hO132 hE133 hrg134
   have hE133z := hE133.size
   exact ⟨Chg.of_ex hE133, A129, c130, rfl, OwnL.more (lo' := w109.heap.size) (hi' := w131.heap.size) hO132 (by omega) (by omega)⟩
  ·intro L136 w137 G135 hgk138
   have hE139 := hgk138.st.ex.ex (fun b h => h.elim (fun h => h.elim) (fun h => h))
   have hE139z := Ex.size hE139
   obtain ⟨_, hx140, A44_141, c45_142, rfl, h143⟩ := hgk138.val 7 19 rfl rfl
   have hr144 := hgk138.st.rng 7 (hgk138.has 7 rfl)
   exact OpR.op' rfl (Yl.sameG (yl_build (cs := [.slice A44_141 ((([(p_w.Key.drop 2)] : List Str) ++ (s_l1Split p_w.Val 44)).length) c45_142]) rfl (oc hx140 oz) (by kernel_rfl) ⟨fun _ _ => ⟨A44_141, c45_142, rfl, (OwnL.more (lo' := (G135.fl 7)) (hi' := (G135.fh 7)) h143 (by omega) (by omega))⟩, rfl⟩))
  ·intro L146 w147 G145 hgk148
   have hE149 := hgk148.st.ex.ex (fun b h => h.elim (fun h => h.elim) (fun h => h))
   have hE149z := Ex.size hE149
   refine OpR.op' rfl (yl_alloc ty28 (cs := [.slice none 0 0]) rfl rfl ?_)
   intro b150 w151 hs152 hz153 hB154 hE155
   subst hs152
   exact ⟨Chg.of_ex hE155, rfl, hB154, by rw [Gh.sfl, Gh.sfh]; omega⟩
  ·intro G156 L157 w158 hgp159
   have hE160 := hgp159.st.ex.ex (fun b h => h.elim (fun h => h.elim) (fun h => h))
   have hE160z := Ex.size hE160
   obtain ⟨_, hx164, A42_165, c42_166, lo42_167, hi42_168, rfl, h169, h170, hrn171⟩ := hgp159.val 6 18 rfl rfl
   obtain ⟨_, hx172, A44_173, c45_174, rfl, h175⟩ := hgp159.val 7 19 rfl rfl
   obtain ⟨_, hx176, A44_177, c45_178, rfl, h179⟩ := hgp159.val 8 20 rfl rfl
   obtain ⟨_, hx180, rfl, h181, he182⟩ := hgp159.val 9 6 rfl rfl
   have hr183 := hgp159.st.rng 6 (hgp159.has 6 rfl)
   have hr184 := hgp159.st.rng 7 (hgp159.has 7 rfl)
   have hr185 := hgp159.st.rng 8 (hgp159.has 8 rfl)
   have hr186 := hgp159.st.rng 9 (hgp159.has 9 rfl)
   have hsp187 := hgp159.st.ord 7 6 (hgp159.has 7 rfl) rfl
   have hsp188 := hgp159.st.ord 8 6 (hgp159.has 8 rfl) rfl
   have hsp189 := hgp159.st.sep 6 9 (hgp159.has 6 rfl) (hgp159.has 9 rfl) rfl
   have hsp190 := hgp159.st.ord 8 7 (hgp159.has 8 rfl) rfl
   have hsp191 := hgp159.st.sep 7 9 (hgp159.has 7 rfl) (hgp159.has 9 rfl) rfl
   have hsp192 := hgp159.st.sep 8 9 (hgp159.has 8 rfl) (hgp159.has 9 rfl) rfl
   refine SeqR.u rfl rfl (yl_store (vs := [.slice A44_177 ((([(p_w.Key.drop 2)] : List Str) ++ (s_l1Split p_w.Val 44)).length) c45_178]) ty28 rfl hx180 hx176 rfl rfl rfl h181 (Nat.le_of_ble_eq_true rfl) ?_)
   intro w193 hB194 hO195
   have hB194 : Box w193 (G156.fl 9) 28 [.slice A44_177 ((([(p_w.Key.drop 2)] : List Str) ++ (s_l1Split p_w.Val 44)).length) c45_178] := hB194
   have hO195z := hO195.size
   refine dn (CW.sub (Sub.cons (d := 2) (hgp159.old 2 _ rfl rfl) (Sub.cons (d := 3) (hgp159.old 3 _ rfl rfl) (Sub.cons (d := 4) (hgp159.old 4 _ rfl rfl) (Sub.cons (d := 6) hx180 (Sub.nil _))))) (CW.seq ?_))
   have hol212 : (s_l1Split p_w.Val 44).length ≤ 2147483648 := h170.1
   refine bcase (s_l25Good p_t (⟨(([(p_w.Key.drop 2)] : List Str) ++ (s_l1Split p_w.Val 44))⟩ : DRow)) (fun hb214 => ?_) (fun hb214 => ?_)
   ·obtain ⟨hb214p0, hb214p1⟩ := f_s_l25Good hb214
    have q218 := Box.only (Box.ex (Box.ex (Box.ex hB14 hE21) hE27) hE160) hO195 (by omega)
    have q223 := RdS.only good_Str (RdS.ex good_Str (RdS.ex good_Str (RdS.ex good_Str (RdS.ex good_Str h1 hE15) hE21) hE27) hE160) hO195 (by simp only [Iv]; omega)
    have q228 := RdS.only good_Idx (RdS.ex good_Idx (RdS.ex good_Idx (RdS.ex good_Idx (RdS.ex good_Idx h2 hE15) hE21) hE27) hE160) hO195 (by simp only [Iv]; omega)
    have q230 := OwnL.only good_Str h179 hO195 (by omega)
    have hol231 : (s_l1Split p_w.Val 44).length ≤ 2147483648 := h170.1
    have hol234 : (s_l1Split p_w.Val 44).length ≤ 2147483648 := h170.1
    have q237 := Box.only (Box.ex q28 hE160) hO195 (by omega)
    refine CW.drawsG 13 (fun G b => G.dn 11 = true ∧ InR [(b22, b22 + 1)] b) (fun i G b => (i = 11 ∧ b22 ≤ b ∧ b < b22 + 1)) (vgetG [DetG (.agg #[.slice A44_177 ((([(p_w.Key.drop 2)] : List Str) ++ (s_l1Split p_w.Val 44)).length) c45_178]), DetG (.agg #[.string (bs (p_t.Name)), .slice A1 p_t.Cols.length c1, .slice A2 p_t.Idxs.length c2]), DetG (.agg #[.slice A44_177 ((([(p_w.Key.drop 2)] : List Str) ++ (s_l1Split p_w.Val 44)).length) c45_178]), DetG (.bool ((s_l25Good p_t (⟨(([(p_w.Key.drop 2)] : List Str) ++ (s_l1Split p_w.Val 44))⟩ : DRow)))), DetG (.bool ((s_l25Good p_t (⟨(([(p_w.Key.drop 2)] : List Str) ++ (s_l1Split p_w.Val 44))⟩ : DRow)))), DetG (.agg #[.string (bs (p_t.Name)), .slice A1 p_t.Cols.length c1, .slice A2 p_t.Idxs.length c2]), DetG (.agg #[.slice A44_177 ((([(p_w.Key.drop 2)] : List Str) ++ (s_l1Split p_w.Val 44)).length) c45_178]), DetG (.agg #[.string (bs ((s_l25Write p_t (⟨(([(p_w.Key.drop 2)] : List Str) ++ (s_l1Split p_w.Val 44))⟩ : DRow)).Key)), .string (bs ((s_l25Write p_t (⟨(([(p_w.Key.drop 2)] : List Str) ++ (s_l1Split p_w.Val 44))⟩ : DRow)).Val)), .bool ((s_l25Write p_t (⟨(([(p_w.Key.drop 2)] : List Str) ++ (s_l1Split p_w.Val 44))⟩ : DRow)).Gone)]), DetG (.agg #[.string (bs (p_w.Key)), .string (bs (p_w.Val)), .bool (p_w.Gone)]), DetG (.bool (((((s_l25Write p_t (⟨(([(p_w.Key.drop 2)] : List Str) ++ (s_l1Split p_w.Val 44))⟩ : DRow)).Key) == p_w.Key) && ((((s_l25Write p_t (⟨(([(p_w.Key.drop 2)] : List Str) ++ (s_l1Split p_w.Val 44))⟩ : DRow)).Val) == p_w.Val) && (((s_l25Write p_t (⟨(([(p_w.Key.drop 2)] : List Str) ++ (s_l1Split p_w.Val 44))⟩ : DRow)).Gone) == p_w.Gone))))), DetG (.bool (((((s_l25Write p_t (⟨(([(p_w.Key.drop 2)] : List Str) ++ (s_l1Split p_w.Val 44))⟩ : DRow)).Key) == p_w.Key) && ((((s_l25Write p_t (⟨(([(p_w.Key.drop 2)] : List Str) ++ (s_l1Split p_w.Val 44))⟩ : DRow)).Val) == p_w.Val) && (((s_l25Write p_t (⟨(([(p_w.Key.drop 2)] : List Str) ++ (s_l1Split p_w.Val 44))⟩ : DRow)).Gone) == p_w.Gone))))), fun G v wq => Box wq b22 28 [.slice A44_177 ((([(p_w.Key.drop 2)] : List Str) ++ (s_l1Split p_w.Val 44)).length) c45_178], DetG (.bool (((((s_l25Write p_t (⟨(([(p_w.Key.drop 2)] : List Str) ++ (s_l1Split p_w.Val 44))⟩ : DRow)).Key) == p_w.Key) && ((((s_l25Write p_t (⟨(([(p_w.Key.drop 2)] : List Str) ++ (s_l1Split p_w.Val 44))⟩ : DRow)).Val) == p_w.Val) && (((s_l25Write p_t (⟨(([(p_w.Key.drop 2)] : List Str) ++ (s_l1Split p_w.Val 44))⟩ : DRow)).Gone) == p_w.Gone)))))]) Tryd.follows rfl rfl rfl rfl rfl rfl (fun _ _ _ _ _ h => ⟨Gh.udn h.1, h.2⟩) (fun i G w lo hi b K hn hh hp => by exact (match hp with | ⟨e, q1, q2⟩ => by subst e; exact .inl ⟨Gh.sdn, .inl ⟨q1, q2⟩⟩)) (vgetG_kept ⟨(KeptG.det _), (KeptG.det _), (KeptG.det _), (KeptG.det _), (KeptG.det _), (KeptG.det _), (KeptG.det _), (KeptG.det _), (KeptG.det _), (KeptG.det _), (KeptG.det _), (by rintro i G v w w' K hn hh hj h0 e; exact (by exact Box.chg h0 e (fun hp => by obtain ⟨rfl, q1, q2⟩ := hp; rw [hj] at hn; cases hn))), (KeptG.det _), trivial⟩) ⟨?_, ?_, ?_, ?_, ?_, ?_, ?_, ?_, ?_, ?_, ?_, ?_, ?_, trivial⟩ ?_
    ·intro L240 w241 G239 hgk242
     have hE243 := hgk242.st.ex.ex (fun b h => h.elim (fun h => hgk242.no rfl h) (fun h => h))
     have hE243z := Ex.size hE243
     exact OpR.op' rfl (Yl.sameG (yl_loadN ty28 rfl (hgk242.old 6 _ rfl rfl) ((Box.ex hB194 hE243).cells (n := 1) rfl) rfl kI))
    ·intro L247 w248 G246 hgk249
     have hE250 := hgk249.st.ex.ex (fun b h => h.elim (fun h => hgk249.no rfl h) (fun h => h))
     have hE250z := Ex.size hE250
     exact OpR.op' rfl (Yl.sameG (yl_loadN ty26 rfl (hgk249.old 2 _ rfl rfl) ((Box.ex q218 hE250).cells (n := 3) rfl) rfl kI))
    ·intro L254 w255 G253 hgk256
     have hE257 := hgk256.st.ex.ex (fun b h => h.elim (fun h => hgk256.no rfl h) (fun h => h))
     have hE257z := Ex.size hE257
     exact OpR.op' rfl (Yl.sameG (yl_loadN ty28 rfl (hgk256.old 6 _ rfl rfl) ((Box.ex hB194 hE257).cells (n := 1) rfl) rfl kI))
    ·intro L261 w262 G260 hgk263
     have hE264 := hgk263.st.ex.ex (fun b h => h.elim (fun h => hgk263.no rfl h) (fun h => h))
     have hE264z := Ex.size hE264
     obtain ⟨_, hx265, rfl⟩ := hgk263.val 1 22 rfl rfl
     obtain ⟨_, hx266, rfl⟩ := hgk263.val 2 23 rfl rfl
     have hol271 : (s_l1Split p_w.Val 44).length ≤ 2147483648 := h170.1
     refine OpR.op' rfl (yl_call en23 rfl (oc hx265 (oc hx266 oz)) (Cal.mono (c_s_l25Good p_t (⟨(([(p_w.Key.drop 2)] : List Str) ++ (s_l1Split p_w.Val 44))⟩ : DRow) (RdS.up (RdS.ex good_Str q223 hE264) good_Str) (RdS.up (RdS.ex good_Idx q228 hE264) good_Idx) (RdS.up (OwnL.rd good_Str (OwnL.ex good_Str q230 hE264)) good_Str) o3 (okL.mk (xs := (([(p_w.Key.drop 2)] : List Str) ++ (s_l1Split p_w.Val 44))) (by first | omega | (simp only [List.length_append, List.length_cons, List.length_nil, List.length_take, List.length_drop, List.length_replicate, List.length_set, toS_length]; omega)) (okE.append ((okL.mk (Nat.le_of_ble_eq_true rfl) (okE.cons (okS.drop o4.1 _) okE.nil))).2 (h170).2))) ?_))
     rintro v273 w272 ⟨rfl, hE274⟩
     exact ⟨Chg.of_ex hE274, rfl⟩
    ·intro L276 w277 G275 hgk278
     have hE279 := hgk278.st.ex.ex (fun b h => h.elim (fun h => hgk278.no rfl h) (fun h => h))
     have hE279z := Ex.size hE279
     obtain ⟨_, hx280, rfl⟩ := hgk278.val 3 24 rfl rfl
     exact OpR.op' rfl (Yl.sameG (yl_move rfl hx280 kI))
    ·intro L282 w283 G281 hgk284
     have hE285 := hgk284.st.ex.ex (fun b h => h.elim (fun h => hgk284.no rfl h) (fun h => h))
     have hE285z := Ex.size hE285
     obtain ⟨_, hx286, rfl⟩ := hgk284.val 4 25 rfl rfl
     exact OpR.want rfl rfl hx286 hb214 (Yl.sameG (yl_loadN ty26 rfl (hgk284.old 2 _ rfl rfl) ((Box.ex q218 hE285).cells (n := 3) rfl) rfl kI))
    ·intro L290 w291 G289 hgk292
     have hE293 := hgk292.st.ex.ex (fun b h => h.elim (fun h => hgk292.no rfl h) (fun h => h))
     have hE293z := Ex.size hE293
     obtain ⟨_, hx294, rfl⟩ := hgk292.val 4 25 rfl rfl
     exact OpR.want rfl rfl hx294 hb214 (Yl.sameG (yl_loadN ty28 rfl (hgk292.old 6 _ rfl rfl) ((Box.ex hB194 hE293).cells (n := 1) rfl) rfl kI))
    ·intro L298 w299 G297 hgk300
     have hE301 := hgk300.st.ex.ex (fun b h => h.elim (fun h => hgk300.no rfl h) (fun h => h))
     have hE301z := Ex.size hE301
     obtain ⟨_, hx302, rfl⟩ := hgk300.val 4 25 rfl rfl
     obtain ⟨_, hx303, rfl⟩ := hgk300.val 5 26 rfl rfl
     obtain ⟨_, hx304, rfl⟩ := hgk300.val 6 27 rfl rfl
     have hol309 : (s_l1Split p_w.Val 44).length ≤ 2147483648 := h170.1
     refine OpR.want rfl rfl hx302 hb214 (yl_call en27 rfl (oc hx303 (oc hx304 oz)) (Cal.mono (c_s_l25Write p_t (⟨(([(p_w.Key.drop 2)] : List Str) ++ (s_l1Split p_w.Val 44))⟩ : DRow) (RdS.up (RdS.ex good_Str q223 hE301) good_Str) (RdS.up (RdS.ex good_Idx q228 hE301) good_Idx) (RdS.up (OwnL.rd good_Str (OwnL.ex good_Str q230 hE301)) good_Str) o3 (okL.mk (xs := (([(p_w.Key.drop 2)] : List Str) ++ (s_l1Split p_w.Val 44))) (by first | omega | (simp only [List.length_append, List.length_cons, List.length_nil, List.length_take, List.length_drop, List.length_replicate, List.length_set, toS_length]; omega)) (okE.append ((okL.mk (Nat.le_of_ble_eq_true rfl) (okE.cons (okS.drop o4.1 _) okE.nil))).2 (h170).2)) (by first | omega | assumption | (simp only [wI] at *; omega) | (simp only [List.length_append, List.length_cons, List.length_nil]; omega))) ?_))
     rintro v311 w310 ⟨rfl, hE312⟩
     exact ⟨Chg.of_ex hE312, rfl⟩
    ·intro L314 w315 G313 hgk316
     have hE317 : Chg (fun b => InR [(b22, b22 + 1)] b ∨ w193.heap.size ≤ b) w193 w315 := hgk316.st.ex.imp (fun b _ h => h.imp (fun h => h.2) (fun h => h))
     have hE317z := Chg.size hE317
     obtain ⟨_, hx318, rfl⟩ := hgk316.val 4 25 rfl rfl
     exact OpR.want rfl rfl hx318 hb214 (Yl.sameG (yl_loadN ty34 rfl (hgk316.old 3 _ rfl rfl) ((Box.chg q237 hE317 (by have := Box.lt q237; simp only [InR, or_false]; omega)).cells (n := 3) rfl) rfl kI))
    ·intro L322 w323 G321 hgk324
     have hE325 : Chg (fun b => InR [(b22, b22 + 1)] b ∨ w193.heap.size ≤ b) w193 w323 := hgk324.st.ex.imp (fun b _ h => h.imp (fun h => h.2) (fun h => h))
     have hE325z := Chg.size hE325
     obtain ⟨_, hx326, rfl⟩ := hgk324.val 4 25 rfl rfl
     obtain ⟨_, hx327, rfl⟩ := hgk324.val 7 28 rfl rfl
     obtain ⟨_, hx328, rfl⟩ := hgk324.val 8 29 rfl rfl
     exact OpR.want rfl rfl hx326 hb214 (Yl.sameG (yl_aeql (xs := [.string (bs ((s_l25Write p_t (⟨(([(p_w.Key.drop 2)] : List Str) ++ (s_l1Split p_w.Val 44))⟩ : DRow)).Key)), .string (bs ((s_l25Write p_t (⟨(([(p_w.Key.drop 2)] : List Str) ++ (s_l1Split p_w.Val 44))⟩ : DRow)).Val)), .bool ((s_l25Write p_t (⟨(([(p_w.Key.drop 2)] : List Str) ++ (s_l1Split p_w.Val 44))⟩ : DRow)).Gone)]) (ys := [.string (bs (p_w.Key)), .string (bs (p_w.Val)), .bool (p_w.Gone)]) Tryd.ae34 rfl hx327 hx328 kI))
    ·intro L330 w331 G329 hgk332
     have hE333 : Chg (fun b => InR [(b22, b22 + 1)] b ∨ w193.heap.size ≤ b) w193 w331 := hgk332.st.ex.imp (fun b _ h => h.imp (fun h => h.2) (fun h => h))
     have hE333z := Chg.size hE333
     obtain ⟨_, hx334, rfl⟩ := hgk332.val 9 30 rfl rfl
     obtain ⟨_, hx335, rfl⟩ := hgk332.val 4 25 rfl rfl
     exact OpR.op' rfl (Yl.sameG (yl_pick_t rfl hx335 hb214 hx334 kI))
    ·intro L337 w338 G336 hgk339
     have hE340 := hgk339.st.ex.ex (fun b h => h.elim (fun h => hgk339.nw h) (fun h => h))
     have hE340z := Ex.size hE340
     obtain ⟨_, hx342, rfl⟩ := hgk339.val 0 21 rfl rfl
     refine OpR.op' rfl (yl_store (vs := [.slice A44_177 ((([(p_w.Key.drop 2)] : List Str) ++ (s_l1Split p_w.Val 44)).length) c45_178]) ty28 rfl (hgk339.old 4 _ rfl rfl) hx342 rfl rfl rfl (Box.ex (Box.only (Box.ex hB26 hE160) hO195 (by omega)) hE340) (Nat.le_of_ble_eq_true rfl) ?_)
     intro w346 hB347 hO348
     have hO348z := hO348.size
     exact ⟨Chg.of_only hO348 (⟨rfl, Nat.le_refl _, by omega⟩), hB347⟩
    ·intro L350 w351 G349 hgk352
     have hE353 : Chg (fun b => InR [(b22, b22 + 1)] b ∨ w193.heap.size ≤ b) w193 w351 := hgk352.st.ex.imp (fun b _ h => h.imp (fun h => h.2) (fun h => h))
     have hE353z := Chg.size hE353
     obtain ⟨_, hx354, rfl⟩ := hgk352.val 10 31 rfl rfl
     exact OpR.op' rfl (Yl.sameG (yl_assign rfl hx354 kI))
    ·intro G355 L356 w357 hgp358
     have hE359 : Chg (fun b => InR [(b22, b22 + 1)] b ∨ w193.heap.size ≤ b) w193 w357 := hgp358.st.ex.imp (fun b _ h => h.imp (fun h => h.2) (fun h => h))
     have hE359z := Chg.size hE359
     obtain ⟨_, h361⟩ := hgp358.fact 11 rfl
     obtain ⟨_, hx362, rfl⟩ := hgp358.val 12 5 rfl rfl
     have hr363 := hgp358.st.rng 11 (hgp358.has 11 rfl)
     refine dn (CW.sub (Sub.cons (d := 4) (hgp358.old 4 _ rfl rfl) (Sub.cons (d := 5) hx362 (Sub.nil _))) (CW.ret (rr rfl (.cons ⟨_, rfl, run_loadN ty28 (cs := [.slice A44_177 ((([(p_w.Key.drop 2)] : List Str) ++ (s_l1Split p_w.Val 44)).length) c45_178]) rfl (h361.cells (n := 1) rfl)⟩ (.cons rfl .nil)) ?_)))
     have hM364 : (s_l25Read p_t p_w) = (((⟨(([(p_w.Key.drop 2)] : List Str) ++ (s_l1Split p_w.Val 44))⟩ : DRow), ((((s_l25Write p_t (⟨(([(p_w.Key.drop 2)] : List Str) ++ (s_l1Split p_w.Val 44))⟩ : DRow)).Key) == p_w.Key) && ((((s_l25Write p_t (⟨(([(p_w.Key.drop 2)] : List Str) ++ (s_l1Split p_w.Val 44))⟩ : DRow)).Val) == p_w.Val) && (((s_l25Write p_t (⟨(([(p_w.Key.drop 2)] : List Str) ++ (s_l1Split p_w.Val 44))⟩ : DRow)).Gone) == p_w.Gone))))) := by simp only [s_l25Read, hb29, hb214, cL]
     have hol366 : (s_l1Split p_w.Val 44).length ≤ 2147483648 := h170.1
     rw [hM364]
     exact ⟨A44_177, c45_178, (G156.fl 7), (G156.fh 7), rfl, (OwnL.chg good_Str q230 hE359 (fun k hl hk => by simp only [InR, or_false] at hk; omega)), (okL.mk (xs := (([(p_w.Key.drop 2)] : List Str) ++ (s_l1Split p_w.Val 44))) (by first | omega | (simp only [List.length_append, List.length_cons, List.length_nil, List.length_take, List.length_drop, List.length_replicate, List.length_set, toS_length]; omega)) (okE.append ((okL.mk (Nat.le_of_ble_eq_true rfl) (okE.cons (okS.drop o4.1 _) okE.nil))).2 (h170).2)), (by omega), (Ex.chg (Below.only (Ex.trans (Ex.trans (Ex.trans (Ex.trans (Ex.refl w) hE15) hE21) hE27) hE160) hO195 (by omega)) hE359 (fun k hk => by simp only [InR, or_false] at hk; omega))⟩
   ·have q388 := OwnL.only good_Str h179 hO195 (by omega)
    have hol389 : (s_l1Split p_w.Val 44).length ≤ 2147483648 := h170.1
    refine CW.drawsG 13 (fun G b => G.dn 11 = true ∧ InR [(b22, b22 + 1)] b) (fun i G b => (i = 11 ∧ b22 ≤ b ∧ b < b22 + 1)) (vgetG [DetG (.agg #[.slice A44_177 ((([(p_w.Key.drop 2)] : List Str) ++ (s_l1Split p_w.Val 44)).length) c45_178]), DetG (.agg #[.string (bs (p_t.Name)), .slice A1 p_t.Cols.length c1, .slice A2 p_t.Idxs.length c2]), DetG (.agg #[.slice A44_177 ((([(p_w.Key.drop 2)] : List Str) ++ (s_l1Split p_w.Val 44)).length) c45_178]), DetG (.bool ((s_l25Good p_t (⟨(([(p_w.Key.drop 2)] : List Str) ++ (s_l1Split p_w.Val 44))⟩ : DRow)))), DetG (.bool ((s_l25Good p_t (⟨(([(p_w.Key.drop 2)] : List Str) ++ (s_l1Split p_w.Val 44))⟩ : DRow)))), DetG (undef), DetG (undef), DetG (undef), DetG (undef), DetG (undef), DetG (.bool (false)), fun G v wq => Box wq b22 28 [.slice A44_177 ((([(p_w.Key.drop 2)] : List Str) ++ (s_l1Split p_w.Val 44)).length) c45_178], DetG (.bool (false))]) Tryd.follows rfl rfl rfl rfl rfl rfl (fun _ _ _ _ _ h => ⟨Gh.udn h.1, h.2⟩) (fun i G w lo hi b K hn hh hp => by exact (match hp with | ⟨e, q1, q2⟩ => by subst e; exact .inl ⟨Gh.sdn, .inl ⟨q1, q2⟩⟩)) (vgetG_kept ⟨(KeptG.det _), (KeptG.det _), (KeptG.det _), (KeptG.det _), (KeptG.det _), (KeptG.det _), (KeptG.det _), (KeptG.det _), (KeptG.det _), (KeptG.det _), (KeptG.det _), (by rintro i G v w w' K hn hh hj h0 e; exact (by exact Box.chg h0 e (fun hp => by obtain ⟨rfl, q1, q2⟩ := hp; rw [hj] at hn; cases hn))), (KeptG.det _), trivial⟩) ⟨?_, ?_, ?_, ?_, ?_, ?_, ?_, ?_, ?_, ?_, ?_, ?_, ?_, trivial⟩ ?_
    ·intro L393 w394 G392 hgk395
     have hE396 := hgk395.st.ex.ex (fun b h => h.elim (fun h => hgk395.no rfl h) (fun h => h))
     have hE396z := Ex.size hE396
     exact OpR.op' rfl (Yl.sameG (yl_loadN ty28 rfl (hgk395.old 6 _ rfl rfl) ((Box.ex hB194 hE396).cells (n := 1) rfl) rfl kI))
    ·intro L400 w401 G399 hgk402
     have hE403 := hgk402.st.ex.ex (fun b h => h.elim (fun h => hgk402.no rfl h) (fun h => h))
     have hE403z := Ex.size hE403
     exact OpR.op' rfl (Yl.sameG (yl_loadN ty26 rfl (hgk402.old 2 _ rfl rfl) ((Box.ex (Box.only (Box.ex (Box.ex (Box.ex hB14 hE21) hE27) hE160) hO195 (by omega)) hE403).cells (n := 3) rfl) rfl kI))
    ·intro L407 w408 G406 hgk409
     have hE410 := hgk409.st.ex.ex (fun b h => h.elim (fun h => hgk409.no rfl h) (fun h => h))
     have hE410z := Ex.size hE410
     exact OpR.op' rfl (Yl.sameG (yl_loadN ty28 rfl (hgk409.old 6 _ rfl rfl) ((Box.ex hB194 hE410).cells (n := 1) rfl) rfl kI))
    ·intro L414 w415 G413 hgk416
     have hE417 := hgk416.st.ex.ex (fun b h => h.elim (fun h => hgk416.no rfl h) (fun h => h))
     have hE417z := Ex.size hE417
     obtain ⟨_, hx418, rfl⟩ := hgk416.val 1 22 rfl rfl
     obtain ⟨_, hx419, rfl⟩ := hgk416.val 2 23 rfl rfl
     have hol424 : (s_l1Split p_w.Val 44).length ≤ 2147483648 := h170.1
     refine OpR.op' rfl (yl_call en23 rfl (oc hx418 (oc hx419 oz)) (Cal.mono (c_s_l25Good p_t (⟨(([(p_w.Key.drop 2)] : List Str) ++ (s_l1Split p_w.Val 44))⟩ : DRow) (RdS.up (RdS.ex good_Str (RdS.only good_Str (RdS.ex good_Str (RdS.ex good_Str (RdS.ex good_Str (RdS.ex good_Str h1 hE15) hE21) hE27) hE160) hO195 (by simp only [Iv]; omega)) hE417) good_Str) (RdS.up (RdS.ex good_Idx (RdS.only good_Idx (RdS.ex good_Idx (RdS.ex good_Idx (RdS.ex good_Idx (RdS.ex good_Idx h2 hE15) hE21) hE27) hE160) hO195 (by simp only [Iv]; omega)) hE417) good_Idx) (RdS.up (OwnL.rd good_Str (OwnL.ex good_Str q388 hE417)) good_Str) o3 (okL.mk (xs := (([(p_w.Key.drop 2)] : List Str) ++ (s_l1Split p_w.Val 44))) (by first | omega | (simp only [List.length_append, List.length_cons, List.length_nil, List.length_take, List.length_drop, List.length_replicate, List.length_set, toS_length]; omega)) (okE.append ((okL.mk (Nat.le_of_ble_eq_true rfl) (okE.cons (okS.drop o4.1 _) okE.nil))).2 (h170).2))) ?_))
     rintro v426 w425 ⟨rfl, hE427⟩
     exact ⟨Chg.of_ex hE427, rfl⟩
    ·intro L429 w430 G428 hgk431
     have hE432 := hgk431.st.ex.ex (fun b h => h.elim (fun h => hgk431.no rfl h) (fun h => h))
     have hE432z := Ex.size hE432
     obtain ⟨_, hx433, rfl⟩ := hgk431.val 3 24 rfl rfl
     exact OpR.op' rfl (Yl.sameG (yl_move rfl hx433 kI))
    ·intro L435 w436 G434 hgk437
     have hE438 := hgk437.st.ex.ex (fun b h => h.elim (fun h => hgk437.no rfl h) (fun h => h))
     have hE438z := Ex.size hE438
     obtain ⟨_, hx439, rfl⟩ := hgk437.val 4 25 rfl rfl
     exact OpR.skip rfl rfl hx439 hb214 ⟨Chg.refl _ _, rfl⟩
    ·intro L441 w442 G440 hgk443
     have hE444 := hgk443.st.ex.ex (fun b h => h.elim (fun h => hgk443.no rfl h) (fun h => h))
     have hE444z := Ex.size hE444
     obtain ⟨_, hx445, rfl⟩ := hgk443.val 4 25 rfl rfl
     exact OpR.skip rfl rfl hx445 hb214 ⟨Chg.refl _ _, rfl⟩
    ·intro L447 w448 G446 hgk449
     have hE450 := hgk449.st.ex.ex (fun b h => h.elim (fun h => hgk449.no rfl h) (fun h => h))
     have hE450z := Ex.size hE450
     obtain ⟨_, hx451, rfl⟩ := hgk449.val 4 25 rfl rfl
     exact OpR.skip rfl rfl hx451 hb214 ⟨Chg.refl _ _, rfl⟩
    ·intro L453 w454 G452 hgk455
     have hE456 : Chg (fun b => InR [(b22, b22 + 1)] b ∨ w193.heap.size ≤ b) w193 w454 := hgk455.st.ex.imp (fun b _ h => h.imp (fun h => h.2) (fun h => h))
     have hE456z := Chg.size hE456
     obtain ⟨_, hx457, rfl⟩ := hgk455.val 4 25 rfl rfl
     exact OpR.skip rfl rfl hx457 hb214 ⟨Chg.refl _ _, rfl⟩
    ·intro L459 w460 G458 hgk461
     have hE462 : Chg (fun b => InR [(b22, b22 + 1)] b ∨ w193.heap.size ≤ b) w193 w460 := hgk461.st.ex.imp (fun b _ h => h.imp (fun h => h.2) (fun h => h))
     have hE462z := Chg.size hE462
     obtain ⟨_, hx463, rfl⟩ := hgk461.val 4 25 rfl rfl
     exact OpR.skip rfl rfl hx463 hb214 ⟨Chg.refl _ _, rfl⟩
    ·intro L465 w466 G464 hgk467
     have hE468 : Chg (fun b => InR [(b22, b22 + 1)] b ∨ w193.heap.size ≤ b) w193 w466 := hgk467.st.ex.imp (fun b _ h => h.imp (fun h => h.2) (fun h => h))
     have hE468z := Chg.size hE468
     obtain ⟨_, hx469, rfl⟩ := hgk467.val 9 30 rfl rfl
     obtain ⟨_, hx470, rfl⟩ := hgk467.val 4 25 rfl rfl
     exact OpR.op' rfl (Yl.sameG (yl_pick_f rfl hx470 hb214 rfl kI))
    ·intro L472 w473 G471 hgk474
     have hE475 := hgk474.st.ex.ex (fun b h => h.elim (fun h => hgk474.nw h) (fun h => h))
     have hE475z := Ex.size hE475
     obtain ⟨_, hx477, rfl⟩ := hgk474.val 0 21 rfl rfl
     refine OpR.op' rfl (yl_store (vs := [.slice A44_177 ((([(p_w.Key.drop 2)] : List Str) ++ (s_l1Split p_w.Val 44)).length) c45_178]) ty28 rfl (hgk474.old 4 _ rfl rfl) hx477 rfl rfl rfl (Box.ex (Box.only (Box.ex hB26 hE160) hO195 (by omega)) hE475) (Nat.le_of_ble_eq_true rfl) ?_)
     intro w481 hB482 hO483
     have hO483z := hO483.size
     exact ⟨Chg.of_only hO483 (⟨rfl, Nat.le_refl _, by omega⟩), hB482⟩
    ·intro L485 w486 G484 hgk487
     have hE488 : Chg (fun b => InR [(b22, b22 + 1)] b ∨ w193.heap.size ≤ b) w193 w486 := hgk487.st.ex.imp (fun b _ h => h.imp (fun h => h.2) (fun h => h))
     have hE488z := Chg.size hE488
     obtain ⟨_, hx489, rfl⟩ := hgk487.val 10 31 rfl rfl
     exact OpR.op' rfl (Yl.sameG (yl_assign rfl hx489 kI))
    ·intro G490 L491 w492 hgp493
     have hE494 : Chg (fun b => InR [(b22, b22 + 1)] b ∨ w193.heap.size ≤ b) w193 w492 := hgp493.st.ex.imp (fun b _ h => h.imp (fun h => h.2) (fun h => h))
     have hE494z := Chg.size hE494
     obtain ⟨_, h496⟩ := hgp493.fact 11 rfl
     obtain ⟨_, hx497, rfl⟩ := hgp493.val 12 5 rfl rfl
     have hr498 := hgp493.st.rng 11 (hgp493.has 11 rfl)
     refine dn (CW.sub (Sub.cons (d := 4) (hgp493.old 4 _ rfl rfl) (Sub.cons (d := 5) hx497 (Sub.nil _))) (CW.ret (rr rfl (.cons ⟨_, rfl, run_loadN ty28 (cs := [.slice A44_177 ((([(p_w.Key.drop 2)] : List Str) ++ (s_l1Split p_w.Val 44)).length) c45_178]) rfl (h496.cells (n := 1) rfl)⟩ (.cons rfl .nil)) ?_)))
     have hM499 : (s_l25Read p_t p_w) = (((⟨(([(p_w.Key.drop 2)] : List Str) ++ (s_l1Split p_w.Val 44))⟩ : DRow), false)) := by simp only [s_l25Read, hb29, hb214, cL]
     have hol501 : (s_l1Split p_w.Val 44).length ≤ 2147483648 := h170.1
     rw [hM499]
     exact ⟨A44_177, c45_178, (G156.fl 7), (G156.fh 7), rfl, (OwnL.chg good_Str q388 hE494 (fun k hl hk => by simp only [InR, or_false] at hk; omega)), (okL.mk (xs := (([(p_w.Key.drop 2)] : List Str) ++ (s_l1Split p_w.Val 44))) (by first | omega | (simp only [List.length_append, List.length_cons, List.length_nil, List.length_take, List.length_drop, List.length_replicate, List.length_set, toS_length]; omega)) (okE.append ((okL.mk (Nat.le_of_ble_eq_true rfl) (okE.cons (okS.drop o4.1 _) okE.nil))).2 (h170).2)), (by omega), (Ex.chg (Below.only (Ex.trans (Ex.trans (Ex.trans (Ex.trans (Ex.refl w) hE15) hE21) hE27) hE160) hO195 (by omega)) hE494 (fun k hk => by simp only [InR, or_false] at hk; omega))⟩
theorem c_s_ReadRow {A1 : Option Addr} {c1 : Nat} {A2 : Option Addr} {c2 : Nat} {w : World} (p_t : DTable) (p_w : DWrite) (h1 : RdS w (Iv 0 w.heap.size) (RF e_Str) 1 A1 p_t.Cols.length c1 p_t.Cols) (h2 : RdS w (Iv 0 w.heap.size) (RF e_Idx) 3 A2 p_t.Idxs.length c2 p_t.Idxs) (o3 : ok_Table p_t) (o4 : ok_Write p_w) : Cal Tryd.prog 15 #[.agg #[.string (bs (p_t.Name)), .slice A1 p_t.Cols.length c1, .slice A2 p_t.Idxs.length c2], .agg #[.string (bs (p_w.Key)), .string (bs (p_w.Val)), .bool (p_w.Gone)]] w fun v w' => ∃ A_1 c_1 lo_1 hi_1, v = .tuple #[.agg #[.slice A_1 (((s_ReadRow p_t p_w).1.Vals).length) c_1], .bool ((s_ReadRow p_t p_w).2)] ∧ OwnL w' lo_1 hi_1 9 1 (RF e_Str) A_1 (((s_ReadRow p_t p_w).1.Vals).length) c_1 ((s_ReadRow p_t p_w).1.Vals) ∧ ok_Row ((s_ReadRow p_t p_w).1) ∧ (w.heap.size ≤ lo_1 ∧ lo_1 ≤ hi_1 ∧ hi_1 ≤ w'.heap.size) ∧ Ex w w' := by
 have hol5 : p_t.Name.length ≤ 1073741824 := o3.1
 have hol6 := o3.2.1.1
 have hol7 := o3.2.2.1
 have hol8 : p_w.Key.length ≤ 1073741824 := o4.1
 have hol9 : p_w.Val.length ≤ 1073741824 := o4.2
 refine Cal.of func15 rfl ntmps15 rfl (CW.seq (CW.region (sd rfl (yl_box rfl rfl rfl ?_))))
 intro b10 w11 hs12 hz13 hB14 hE15
 refine sd rfl (yl_box rfl rfl rfl ?_)
 intro b16 w17 hs18 hz19 hB20 hE21
 refine sd rfl (yl_alloc ty28 (cs := [.slice none 0 0]) rfl rfl ?_)
 intro b22 w23 hs24 hz25 hB26 hE27
 refine sd rfl (yl_assign rfl rfl (dn (CW.seq (CW.region ?_))))
 have q29 := Box.ex (Box.ex hB14 hE21) hE27
 refine sd rfl (yl_loadN ty26 rfl rfl (q29.cells (n := 3) rfl) rfl (sd rfl (yl_loadN ty34 rfl rfl ((Box.ex hB20 hE27).cells (n := 3) rfl) rfl ?_)))
 have q33 := RdS.ex good_Str (RdS.ex good_Str (RdS.ex good_Str h1 hE15) hE21) hE27
 have q36 := RdS.ex good_Idx (RdS.ex good_Idx (RdS.ex good_Idx h2 hE15) hE21) hE27
 refine sd rfl (yl_call en37 rfl (oc rfl (oc rfl oz)) (Cal.mono (c_s_l25Read p_t p_w (RdS.up q33 good_Str) (RdS.up q36 good_Idx) o3 o4) ?_))
 rintro v40 w37 ⟨A38, c38, lo38, hi38, rfl, h38, ho39, hrn42, hE41⟩
 have hE41z := Ex.size hE41
 refine sd rfl (yl_move rfl rfl (sd rfl (yl_extract rfl rfl rfl (sd rfl (yl_extract rfl rfl rfl (sd rfl (yl_alloc ty28 (cs := [.slice none 0 0]) rfl rfl ?_)))))))
 intro b43 w44 hs45 hz46 hB47 hE48
 refine SeqR.u rfl rfl (yl_store (vs := [.slice A38 (((s_l25Read p_t p_w).1.Vals).length) c38]) ty28 rfl rfl rfl rfl rfl rfl hB47 (Nat.le_of_ble_eq_true rfl) ?_)
 intro w49 hB50 hO51
 have hB50 : Box w49 b43 28 [.slice A38 (((s_l25Read p_t p_w).1.Vals).length) c38] := hB50
 have hO51z := hO51.size
 refine sd rfl (yl_assign rfl rfl (dn (CW.seq (CW.seq (CW.region (sd rfl (yl_move rfl rfl (sd rfl (yl_not rfl rfl (sd rfl (yl_move rfl rfl ?_)))))))))))
 refine bcase ((s_l25Read p_t p_w).2) (fun hb52 => ?_) (fun hb52 => ?_)
 ·refine sy rfl rfl (not_t hb52) (yl_loadN ty26 rfl rfl ((Box.only (Box.ex (Box.ex q29 hE41) hE48) hO51 (by omega)).cells (n := 3) rfl) rfl (sy rfl rfl (not_t hb52) (yl_call en38 rfl (oc rfl oz) (Cal.mono (c_s_GoodTable p_t (RdS.up (RdS.only good_Str (RdS.ex good_Str (RdS.ex good_Str q33 hE41) hE48) hO51 (by simp only [Iv]; omega)) good_Str) (RdS.up (RdS.only good_Idx (RdS.ex good_Idx (RdS.ex good_Idx q36 hE41) hE48) hO51 (by simp only [Iv]; omega)) good_Idx) o3) ?_))))
  rintro v63 w62 ⟨rfl, hE64⟩
  have hE64z := Ex.size hE64
  refine sy rfl rfl (not_t hb52) (yl_not rfl rfl (sd rfl (yl_pick_f rfl rfl (not_t hb52) rfl (dn (bcase (s_GoodTable p_t) (fun hb65 => ?_) (fun hb65 => ?_))))))
  ·have hb65p := f_s_GoodTable hb65
   refine CW.cond_f rfl (not_t hb65) (CW.skip (tn (CW.seq (CW.region (sd rfl (yl_loadN ty28 rfl rfl ((Box.ex hB50 hE64).cells (n := 1) rfl) rfl (SeqR.u rfl rfl (yl_store (vs := [.slice A38 (((s_l25Read p_t p_w).1.Vals).length) c38]) ty28 rfl rfl rfl rfl rfl rfl (Box.ex (Box.only (Box.ex (Box.ex hB26 hE41) hE48) hO51 (by omega)) hE64) (Nat.le_of_ble_eq_true rfl) ?_))))))))
   intro w71 hB72 hO73
   have hB72 : Box w71 b22 28 [.slice A38 (((s_l25Read p_t p_w).1.Vals).length) c38] := hB72
   have hO73z := hO73.size
   refine sd rfl (yl_assign rfl rfl (dn (CW.ret (rr rfl (.cons ⟨_, rfl, run_loadN ty28 (cs := [.slice A38 (((s_l25Read p_t p_w).1.Vals).length) c38]) rfl (hB72.cells (n := 1) rfl)⟩ (.cons rfl .nil)) ?_))))
   have hM74 : (s_ReadRow p_t p_w) = (((s_l25Read p_t p_w).1, true)) := by simp only [s_ReadRow, hb52, hb65, cL]
   rw [hM74]
   exact ⟨A38, c38, lo38, hi38, rfl, (OwnL.only good_Str (OwnL.ex good_Str (OwnL.only good_Str (OwnL.ex good_Str h38 hE48) hO51 (by omega)) hE64) hO73 (by omega)), ho39, (by omega), (Below.only (Ex.trans (Below.only (Ex.trans (Ex.trans (Ex.trans (Ex.trans (Ex.trans (Ex.refl w) hE15) hE21) hE27) hE41) hE48) hO51 (by omega)) hE64) hO73 (by omega))⟩
  ·refine CW.cond_t rfl (not_f hb65) (CW.seq (CW.region (sd rfl (yl_build (cs := [.slice none 0 0]) rfl opvs_nil (by kernel_rfl) (SeqR.u rfl rfl (yl_store (vs := [.slice none 0 0]) ty28 rfl rfl rfl rfl rfl rfl (Box.ex (Box.only (Box.ex (Box.ex hB26 hE41) hE48) hO51 (by omega)) hE64) (Nat.le_of_ble_eq_true rfl) ?_))))))
   intro w91 hB92 hO93
   have hB92 : Box w91 b22 28 [.slice none 0 0] := hB92
   have hO93z := hO93.size
   refine sd rfl (yl_assign rfl rfl (dn (CW.ret (tr (rr rfl (.cons ⟨_, rfl, run_loadN ty28 (cs := [.slice none 0 0]) rfl (hB92.cells (n := 1) rfl)⟩ (.cons rfl .nil)) ?_)))))
   have hM94 : (s_ReadRow p_t p_w) = (((⟨[]⟩ : DRow), false)) := by simp only [s_ReadRow, hb52, hb65, cL]
   rw [hM94]
   exact ⟨none, 0, w91.heap.size, w91.heap.size, rfl, (OwnL.nil _ _ _ _ _ _), (okL.nil _), (by omega), (Below.only (Ex.trans (Below.only (Ex.trans (Ex.trans (Ex.trans (Ex.trans (Ex.trans (Ex.refl w) hE15) hE21) hE27) hE41) hE48) hO51 (by omega)) hE64) hO93 (by omega))⟩
 ·refine sz rfl rfl (not_f hb52) (sz rfl rfl (not_f hb52) (sz rfl rfl (not_f hb52) (sd rfl (yl_pick_t rfl rfl (not_f hb52) rfl (dn (CW.cond_t rfl rfl (CW.seq (CW.region ?_))))))))
  refine sd rfl (yl_build (cs := [.slice none 0 0]) rfl opvs_nil (by kernel_rfl) (SeqR.u rfl rfl (yl_store (vs := [.slice none 0 0]) ty28 rfl rfl rfl rfl rfl rfl (Box.only (Box.ex (Box.ex hB26 hE41) hE48) hO51 (by omega)) (Nat.le_of_ble_eq_true rfl) ?_)))
  intro w106 hB107 hO108
  have hB107 : Box w106 b22 28 [.slice none 0 0] := hB107
  have hO108z := hO108.size
  refine sd rfl (yl_assign rfl rfl (dn (CW.ret (tr (rr rfl (.cons ⟨_, rfl, run_loadN ty28 (cs := [.slice none 0 0]) rfl (hB107.cells (n := 1) rfl)⟩ (.cons rfl .nil)) ?_)))))
  have hM109 : (s_ReadRow p_t p_w) = (((⟨[]⟩ : DRow), false)) := by simp only [s_ReadRow, hb52, cL]
  rw [hM109]
  exact ⟨none, 0, w106.heap.size, w106.heap.size, rfl, (OwnL.nil _ _ _ _ _ _), (okL.nil _), (by omega), (Below.only (Below.only (Ex.trans (Ex.trans (Ex.trans (Ex.trans (Ex.trans (Ex.refl w) hE15) hE21) hE27) hE41) hE48) hO51 (by omega)) hO108 (by omega))⟩
theorem c_s_DrawReadIdxKey {A1 : Option Addr} {c1 : Nat} {w : World} (p_code : List Int) (h1 : RdS w (Iv 0 w.heap.size) (RF e_U8) 1 A1 p_code.length c1 p_code) (o2 : (okL okT) p_code) (pre0 : codeOk p_code) : Cal Tryd.prog 16 #[.slice A1 p_code.length c1] w fun v w' => ∃ A_1 c_1 lo_1 hi_1 A_2 c_2 lo_2 hi_2, v = .tuple #[.agg #[.string (bs ((s_DrawReadIdxKey p_code).1.Name)), .slice A_1 (((s_DrawReadIdxKey p_code).1.Cols).length) c_1, .slice A_2 (((s_DrawReadIdxKey p_code).1.Idxs).length) c_2], .string (bs ((s_DrawReadIdxKey p_code).2.1)), .string (bs ((s_DrawReadIdxKey p_code).2.2))] ∧ OwnL w' lo_1 hi_1 9 1 (RF e_Str) A_1 (((s_DrawReadIdxKey p_code).1.Cols).length) c_1 ((s_DrawReadIdxKey p_code).1.Cols) ∧ OwnL w' lo_2 hi_2 42 3 (RF e_Idx) A_2 (((s_DrawReadIdxKey p_code).1.Idxs).length) c_2 ((s_DrawReadIdxKey p_code).1.Idxs) ∧ ok_Table ((s_DrawReadIdxKey p_code).1) ∧ okS ((s_DrawReadIdxKey p_code).2.1) ∧ okS ((s_DrawReadIdxKey p_code).2.2) ∧ (w.heap.size ≤ lo_1 ∧ lo_1 ≤ hi_1 ∧ hi_1 ≤ w'.heap.size) ∧ (w.heap.size ≤ lo_2 ∧ lo_2 ≤ hi_2 ∧ hi_2 ≤ w'.heap.size) ∧ (hi_1 ≤ lo_2 ∨ hi_2 ≤ lo_1) ∧ Ex w w' := by
 have hol3 := o2.1
 refine Cal.of func16 rfl ntmps16 rfl (CW.seq (CW.region (sd rfl (yl_alloc ty26 (cs := [.string (bs (([] : Str))), .slice none 0 0, .slice none 0 0]) rfl rfl ?_))))
 intro b4 w5 hs6 hz7 hB8 hE9
 refine sd rfl (yl_assign rfl rfl (sd rfl (yl_assign rfl rfl (dn (CW.seq (CW.region (sd rfl (yl_move rfl rfl (sd rfl (yl_build (cs := [.slice A1 p_code.length c1, .int .i64 (0), .int .u64 (0)]) rfl (oc rfl oz) (by kernel_rfl) (sd rfl (yl_box rfl rfl rfl ?_))))))))))))
 intro b10 w11 hs12 hz13 hB14 hE15
 refine sd rfl (yl_assign rfl rfl (dn (CW.seq (CW.region (sd rfl (yl_move rfl rfl ?_))))))
 have q17 := RdS.ex good_U8 (RdS.ex good_U8 h1 hE9) hE15
 refine sd rfl (yl_call en33 rfl (oc rfl oz) (Cal.mono (c_s_l1Cur_table p_code (0, 0) hB14 q17 (by omega) (by omega) o2 (by omega) (by assumption)) ?_))
 rintro v25 w18 ⟨A19, c19, lo19, hi19, A20, c20, lo20, hi20, rfl, h19, h20, ho21, hp22, hp23, hp24, hB27, hrn28, hrn29, hrn30, hc26⟩
 have hc26z := Chg.size hc26
 have hB27z := Box.lt hB27
 have hrf31 := rf_table (c := p_code) (by assumption) (0, 0)
 refine sd rfl (yl_alloc ty26 (cs := [.string (bs (([] : Str))), .slice none 0 0, .slice none 0 0]) rfl rfl ?_)
 intro b32 w33 hs34 hz35 hB36 hE37
 refine SeqR.u rfl rfl (yl_store (vs := [.string (bs ((s_l1Cur_table p_code (0, 0)).1.Name)), .slice A19 (((s_l1Cur_table p_code (0, 0)).1.Cols).length) c19, .slice A20 (((s_l1Cur_table p_code (0, 0)).1.Idxs).length) c20]) ty26 rfl rfl rfl rfl rfl rfl hB36 (Nat.le_of_ble_eq_true rfl) ?_)
 intro w38 hB39 hO40
 have hB39 : Box w38 b32 26 [.string (bs ((s_l1Cur_table p_code (0, 0)).1.Name)), .slice A19 (((s_l1Cur_table p_code (0, 0)).1.Cols).length) c19, .slice A20 (((s_l1Cur_table p_code (0, 0)).1.Idxs).length) c20] := hB39
 have hO40z := hO40.size
 refine dn (CW.seq (CW.region (sd rfl (yl_move rfl rfl (sd rfl (yl_buildSlice (cs := [.string (bs (([105] : Str))), .string (bs (([105] : Str))), .string (bs (([105] : Str))), .string (bs (([106] : Str))), .string (bs (([109] : Str))), .string (bs (([122] : Str)))]) un23 ty9 (by decide) rfl (oc rfl (oc rfl (oc rfl (oc rfl (oc rfl (oc rfl oz)))))) (by kernel_rfl) ?_))))))
 intro b41 w42 hs43 hz44 hB45 hE46
 have hO47 : OwnL w42 b41 (b41 + 1) 9 1 (RF e_Str) (some ⟨b41, 0, none⟩) 6 6 ([[105], [105], [105], [106], [109], [122]] : List Str) := OwnL.of_box (S := fun _ => False) hB45 (Nat.le_refl _) (Nat.lt_succ_self _) (EncL.cons (c := [.string (bs (([105] : Str)))]) rfl rfl (EncL.cons (c := [.string (bs (([105] : Str)))]) rfl rfl (EncL.cons (c := [.string (bs (([105] : Str)))]) rfl rfl (EncL.cons (c := [.string (bs (([106] : Str)))]) rfl rfl (EncL.cons (c := [.string (bs (([109] : Str)))]) rfl rfl (EncL.cons (c := [.string (bs (([122] : Str)))]) rfl rfl EncL.nil)))))) (Nat.le_of_ble_eq_true rfl) (fun h => h) (fun _ h => False.elim h)
 have q54 := RdS.ex good_U8 (RdS.only good_U8 (RdS.ex good_U8 (RdS.chg good_U8 q17 hc26 (fun k hl hk => by simp only [InR, or_false, Iv, Ge] at hk ⊢; omega)) hE37) hO40 (by simp only [Iv]; omega)) hE46
 have hle55 := OwnL.len hO47
 refine sd rfl (yl_call en19 rfl (oc rfl (oc rfl oz)) (Cal.mono (Cal.args (by rw [← hle55] <;> rfl) (c_s_l1Cur_of p_code ((s_l1Cur_table p_code (0, 0)).2) ([[105], [105], [105], [106], [109], [122]] : List Str) (Box.ex (Box.only (Box.ex hB27 hE37) hO40 (by omega)) hE46) q54 (by omega) (by omega) (RdS.fix (OwnL.rdI good_Str hO47)) (by omega) (by omega) o2 (okL.mk (Nat.le_of_ble_eq_true rfl) (okE.cons (okS.lit rfl) (okE.cons (okS.lit rfl) (okE.cons (okS.lit rfl) (okE.cons (okS.lit rfl) (okE.cons (okS.lit rfl) (okE.cons (okS.lit rfl) okE.nil))))))) (by first | omega | assumption | (simp only [wI] at *; omega) | (simp only [List.length_append, List.length_cons, List.length_nil]; omega)) (by omega) (by assumption))) ?_))
 rintro v59 w56 ⟨rfl, ho57, hp58, hB61, hc60⟩
 have hc60z := Chg.size hc60
 have hB61z := Box.lt hB61
 have hrf62 := of_len 1 p_code ((s_l1Cur_table p_code (0, 0)).2) ([[105], [105], [105], [106], [109], [122]] : List Str) (by decide)
 refine sd rfl (yl_assign rfl rfl (dn (CW.seq ?_)))
 have q63 := Box.ex hB39 hE46
 have q64 := Box.chg q63 hc60 (by have := Box.lt q63; simp only [InR, or_false]; omega)
 have hol65 : ((s_l1Cur_table p_code (0, 0)).1.Name).length ≤ 1073741824 := ho21.1
 have hol66 : ((s_l1Cur_table p_code (0, 0)).1.Name).length ≤ 1073741824 := ho21.1
 have hol67 : ((s_l1Cur_of p_code ((s_l1Cur_table p_code (0, 0)).2) ([[105], [105], [105], [106], [109], [122]] : List Str)).1).length ≤ 1073741824 := ho57
 have hol68 : ((s_l1Cur_table p_code (0, 0)).1.Name).length ≤ 1073741824 := ho21.1
 have hol69 : ((s_l1Cur_of p_code ((s_l1Cur_table p_code (0, 0)).2) ([[105], [105], [105], [106], [109], [122]] : List Str)).1).length ≤ 1073741824 := ho57
 have q73 := RdS.chg good_U8 q54 hc60 (fun k hl hk => by simp only [InR, or_false, Iv, Ge] at hk ⊢; omega)
 have hol78 : ((s_l1Cur_table p_code (0, 0)).1.Name).length ≤ 1073741824 := ho21.1
 have hol79 : ((s_l1Cur_of p_code ((s_l1Cur_table p_code (0, 0)).2) ([[105], [105], [105], [106], [109], [122]] : List Str)).1).length ≤ 1073741824 := ho57
 have hol80 : ((s_l1Cur_table p_code (0, 0)).1.Name).length ≤ 1073741824 := ho21.1
 have hol81 : ((s_l1Cur_of p_code ((s_l1Cur_table p_code (0, 0)).2) ([[105], [105], [105], [106], [109], [122]] : List Str)).1).length ≤ 1073741824 := ho57
 have hol89 : ((s_l1Cur_table p_code (0, 0)).1.Name).length ≤ 1073741824 := ho21.1
 have hol90 : ((s_l1Cur_of p_code ((s_l1Cur_table p_code (0, 0)).2) ([[105], [105], [105], [106], [109], [122]] : List Str)).1).length ≤ 1073741824 := ho57
 have hrf91 := of_len 3 p_code ((s_l1Cur_of p_code ((s_l1Cur_table p_code (0, 0)).2) ([[105], [105], [105], [106], [109], [122]] : List Str)).2) ([[120], [121], [97, 98, 99]] : List Str) (by decide)
 have hrf92 := of_len 2 p_code ((s_l1Cur_of p_code ((s_l1Cur_of p_code ((s_l1Cur_table p_code (0, 0)).2) ([[105], [105], [105], [106], [109], [122]] : List Str)).2) ([[120], [121], [97, 98, 99]] : List Str)).2) ([[49], [97], [122, 122]] : List Str) (by decide)
 refine CW.drawsG 16 (fun G b => (G.dn 8 = true ∧ InR [(b10, b10 + 1)] b) ∨ (G.dn 13 = true ∧ InR [(b10, b10 + 1)] b)) (fun i G b => (i = 8 ∧ b10 ≤ b ∧ b < b10 + 1) ∨ (i = 13 ∧ b10 ≤ b ∧ b < b10 + 1)) (vgetG [DetG (.pointer (some ⟨b32, 0 + 0, none⟩)), DetG (.string (bs ((s_l1Cur_table p_code (0, 0)).1.Name))), DetG (.string (bs (((s_l1Cur_table p_code (0, 0)).1.Name) ++ ([46] : Str)))), DetG (.string (bs ((s_l1Cur_of p_code ((s_l1Cur_table p_code (0, 0)).2) ([[105], [105], [105], [106], [109], [122]] : List Str)).1))), DetG (.string (bs ((((s_l1Cur_table p_code (0, 0)).1.Name) ++ ([46] : Str)) ++ ((s_l1Cur_of p_code ((s_l1Cur_table p_code (0, 0)).2) ([[105], [105], [105], [106], [109], [122]] : List Str)).1)))), DetG (.string (bs (((((s_l1Cur_table p_code (0, 0)).1.Name) ++ ([46] : Str)) ++ ((s_l1Cur_of p_code ((s_l1Cur_table p_code (0, 0)).2) ([[105], [105], [105], [106], [109], [122]] : List Str)).1)) ++ ([47] : Str)))), DetG (.pointer (some ⟨b10, 0, none⟩)), fun G v wq => ∃ A70, v = .slice A70 3 3 ∧ OwnL wq (G.fl 7) (G.fh 7) 9 1 (RF e_Str) A70 3 3 ([[120], [121], [97, 98, 99]] : List Str), fun G v wq => v = .string (bs ((s_l1Cur_of p_code ((s_l1Cur_of p_code ((s_l1Cur_table p_code (0, 0)).2) ([[105], [105], [105], [106], [109], [122]] : List Str)).2) ([[120], [121], [97, 98, 99]] : List Str)).1)) ∧ okS ((s_l1Cur_of p_code ((s_l1Cur_of p_code ((s_l1Cur_table p_code (0, 0)).2) ([[105], [105], [105], [106], [109], [122]] : List Str)).2) ([[120], [121], [97, 98, 99]] : List Str)).1) ∧ (((s_l1Cur_of p_code ((s_l1Cur_table p_code (0, 0)).2) ([[105], [105], [105], [106], [109], [122]] : List Str)).2).1 ≤ ((s_l1Cur_of p_code ((s_l1Cur_of p_code ((s_l1Cur_table p_code (0, 0)).2) ([[105], [105], [105], [106], [109], [122]] : List Str)).2) ([[120], [121], [97, 98, 99]] : List Str)).2).1 ∧ ((s_l1Cur_of p_code ((s_l1Cur_of p_code ((s_l1Cur_table p_code (0, 0)).2) ([[105], [105], [105], [106], [109], [122]] : List Str)).2) ([[120], [121], [97, 98, 99]] : List Str)).2).1 ≤ ((s_l1Cur_of p_code ((s_l1Cur_table p_code (0, 0)).2) ([[105], [105], [105], [106], [109], [122]] : List Str)).2).1 + 2) ∧ (G.dn 13 = false → Box wq b10 55 [.slice A1 p_code.length c1, .int .i64 (((s_l1Cur_of p_code ((s_l1Cur_of p_code ((s_l1Cur_table p_code (0, 0)).2) ([[105], [105], [105], [106], [109], [122]] : List Str)).2) ([[120], [121], [97, 98, 99]] : List Str)).2).1), .int .u64 (((s_l1Cur_of p_code ((s_l1Cur_of p_code ((s_l1Cur_table p_code (0, 0)).2) ([[105], [105], [105], [106], [109], [122]] : List Str)).2) ([[120], [121], [97, 98, 99]] : List Str)).2).2)]), DetG (.string (bs ((((((s_l1Cur_table p_code (0, 0)).1.Name) ++ ([46] : Str)) ++ ((s_l1Cur_of p_code ((s_l1Cur_table p_code (0, 0)).2) ([[105], [105], [105], [106], [109], [122]] : List Str)).1)) ++ ([47] : Str)) ++ ((s_l1Cur_of p_code ((s_l1Cur_of p_code ((s_l1Cur_table p_code (0, 0)).2) ([[105], [105], [105], [106], [109], [122]] : List Str)).2) ([[120], [121], [97, 98, 99]] : List Str)).1)))), DetG (.string (bs (((((((s_l1Cur_table p_code (0, 0)).1.Name) ++ ([46] : Str)) ++ ((s_l1Cur_of p_code ((s_l1Cur_table p_code (0, 0)).2) ([[105], [105], [105], [106], [109], [122]] : List Str)).1)) ++ ([47] : Str)) ++ ((s_l1Cur_of p_code ((s_l1Cur_of p_code ((s_l1Cur_table p_code (0, 0)).2) ([[105], [105], [105], [106], [109], [122]] : List Str)).2) ([[120], [121], [97, 98, 99]] : List Str)).1)) ++ ([47] : Str)))), DetG (.pointer (some ⟨b10, 0, none⟩)), fun G v wq => ∃ A82, v = .slice A82 3 3 ∧ OwnL wq (G.fl 12) (G.fh 12) 9 1 (RF e_Str) A82 3 3 ([[49], [97], [122, 122]] : List Str), fun G v wq => v = .string (bs ((s_l1Cur_of p_code ((s_l1Cur_of p_code ((s_l1Cur_of p_code ((s_l1Cur_table p_code (0, 0)).2) ([[105], [105], [105], [106], [109], [122]] : List Str)).2) ([[120], [121], [97, 98, 99]] : List Str)).2) ([[49], [97], [122, 122]] : List Str)).1)) ∧ okS ((s_l1Cur_of p_code ((s_l1Cur_of p_code ((s_l1Cur_of p_code ((s_l1Cur_table p_code (0, 0)).2) ([[105], [105], [105], [106], [109], [122]] : List Str)).2) ([[120], [121], [97, 98, 99]] : List Str)).2) ([[49], [97], [122, 122]] : List Str)).1) ∧ (((s_l1Cur_of p_code ((s_l1Cur_of p_code ((s_l1Cur_table p_code (0, 0)).2) ([[105], [105], [105], [106], [109], [122]] : List Str)).2) ([[120], [121], [97, 98, 99]] : List Str)).2).1 ≤ ((s_l1Cur_of p_code ((s_l1Cur_of p_code ((s_l1Cur_of p_code ((s_l1Cur_table p_code (0, 0)).2) ([[105], [105], [105], [106], [109], [122]] : List Str)).2) ([[120], [121], [97, 98, 99]] : List Str)).2) ([[49], [97], [122, 122]] : List Str)).2).1 ∧ ((s_l1Cur_of p_code ((s_l1Cur_of p_code ((s_l1Cur_of p_code ((s_l1Cur_table p_code (0, 0)).2) ([[105], [105], [105], [106], [109], [122]] : List Str)).2) ([[120], [121], [97, 98, 99]] : List Str)).2) ([[49], [97], [122, 122]] : List Str)).2).1 ≤ ((s_l1Cur_of p_code ((s_l1Cur_of p_code ((s_l1Cur_table p_code (0, 0)).2) ([[105], [105], [105], [106], [109], [122]] : List Str)).2) ([[120], [121], [97, 98, 99]] : List Str)).2).1 + 2) ∧ Box wq b10 55 [.slice A1 p_code.length c1, .int .i64 (((s_l1Cur_of p_code ((s_l1Cur_of p_code ((s_l1Cur_of p_code ((s_l1Cur_table p_code (0, 0)).2) ([[105], [105], [105], [106], [109], [122]] : List Str)).2) ([[120], [121], [97, 98, 99]] : List Str)).2) ([[49], [97], [122, 122]] : List Str)).2).1), .int .u64 (((s_l1Cur_of p_code ((s_l1Cur_of p_code ((s_l1Cur_of p_code ((s_l1Cur_table p_code (0, 0)).2) ([[105], [105], [105], [106], [109], [122]] : List Str)).2) ([[120], [121], [97, 98, 99]] : List Str)).2) ([[49], [97], [122, 122]] : List Str)).2).2)], DetG (.string (bs ((((((((s_l1Cur_table p_code (0, 0)).1.Name) ++ ([46] : Str)) ++ ((s_l1Cur_of p_code ((s_l1Cur_table p_code (0, 0)).2) ([[105], [105], [105], [106], [109], [122]] : List Str)).1)) ++ ([47] : Str)) ++ ((s_l1Cur_of p_code ((s_l1Cur_of p_code ((s_l1Cur_table p_code (0, 0)).2) ([[105], [105], [105], [106], [109], [122]] : List Str)).2) ([[120], [121], [97, 98, 99]] : List Str)).1)) ++ ([47] : Str)) ++ ((s_l1Cur_of p_code ((s_l1Cur_of p_code ((s_l1Cur_of p_code ((s_l1Cur_table p_code (0, 0)).2) ([[105], [105], [105], [106], [109], [122]] : List Str)).2) ([[120], [121], [97, 98, 99]] : List Str)).2) ([[49], [97], [122, 122]] : List Str)).1)))), DetG (.string (bs ((((((((s_l1Cur_table p_code (0, 0)).1.Name) ++ ([46] : Str)) ++ ((s_l1Cur_of p_code ((s_l1Cur_table p_code (0, 0)).2) ([[105], [105], [105], [106], [109], [122]] : List Str)).1)) ++ ([47] : Str)) ++ ((s_l1Cur_of p_code ((s_l1Cur_of p_code ((s_l1Cur_table p_code (0, 0)).2) ([[105], [105], [105], [106], [109], [122]] : List Str)).2) ([[120], [121], [97, 98, 99]] : List Str)).1)) ++ ([47] : Str)) ++ ((s_l1Cur_of p_code ((s_l1Cur_of p_code ((s_l1Cur_of p_code ((s_l1Cur_table p_code (0, 0)).2) ([[105], [105], [105], [106], [109], [122]] : List Str)).2) ([[120], [121], [97, 98, 99]] : List Str)).2) ([[49], [97], [122, 122]] : List Str)).1))))]) Tryd.follows rfl rfl rfl rfl rfl rfl (fun _ _ _ _ _ h => (fun h => h.imp (fun h => ⟨Gh.udn h.1, h.2⟩) (fun h => ⟨Gh.udn h.1, h.2⟩)) h) (fun i G w lo hi b K hn hh hp => by exact (hp.elim (fun ⟨e, q1, q2⟩ => by subst e; exact .inl (.inl ⟨Gh.sdn, .inl ⟨q1, q2⟩⟩)) (fun hp => (match hp with | ⟨e, q1, q2⟩ => by subst e; exact .inl (.inr (⟨Gh.sdn, .inl ⟨q1, q2⟩⟩)))))) (vgetG_kept ⟨(KeptG.det _), (KeptG.det _), (KeptG.det _), (KeptG.det _), (KeptG.det _), (KeptG.det _), (KeptG.det _), (by rintro i G v w w' K hn hh hj ⟨A70, hv, h0⟩ e; have d7 : G.dn 7 = true := hj; have u7 := Gh.ufl (lo := w.heap.size) (hi := w'.heap.size) d7 hn; have t7 := Gh.ufh (lo := w.heap.size) (hi := w'.heap.size) d7 hn; exact ⟨A70, hv, (by simp only [u7, t7]; exact OwnL.chg good_Str h0 e (fun b hb hp => by exact (hp.elim (fun ⟨e, q1, q2⟩ => by subst e; have := K.rng 7 d7; skip; omega) (fun hp => (match hp with | ⟨e, q1, q2⟩ => by subst e; have := K.rng 7 d7; skip; omega)))))⟩), (by rintro i G v w w' K hn hh hj ⟨hv, h0, h1, h2⟩ e; exact ⟨hv, h0, h1, (by intro hd; exact Box.chg (h2 (Gh.off hd).2) e (fun hp => by exact (hp.elim (fun ⟨e, q1, q2⟩ => by subst e; rw [hj] at hn; cases hn) (fun hp => (match hp with | ⟨e, q1, q2⟩ => by subst e; exact absurd rfl (Gh.off hd).1)))))⟩), (KeptG.det _), (KeptG.det _), (KeptG.det _), (by rintro i G v w w' K hn hh hj ⟨A82, hv, h0⟩ e; have d12 : G.dn 12 = true := hj; have u12 := Gh.ufl (lo := w.heap.size) (hi := w'.heap.size) d12 hn; have t12 := Gh.ufh (lo := w.heap.size) (hi := w'.heap.size) d12 hn; exact ⟨A82, hv, (by simp only [u12, t12]; exact OwnL.chg good_Str h0 e (fun b hb hp => by exact (hp.elim (fun ⟨e, q1, q2⟩ => by subst e; have := K.rng 12 d12; skip; omega) (fun hp => (match hp with | ⟨e, q1, q2⟩ => by subst e; have := K.rng 12 d12; skip; omega)))))⟩), (by rintro i G v w w' K hn hh hj ⟨hv, h0, h1, h2⟩ e; exact ⟨hv, h0, h1, (by exact Box.chg h2 e (fun hp => by exact (hp.elim (fun ⟨e, q1, q2⟩ => by subst e; rw [K.cl 13 8 hj rfl] at hn; cases hn) (fun hp => (match hp with | ⟨e, q1, q2⟩ => by subst e; rw [hj] at hn; cases hn)))))⟩), (KeptG.det _), (KeptG.det _), trivial⟩) ⟨?_, ?_, ?_, ?_, ?_, ?_, ?_, ?_, ?_, ?_, ?_, ?_, ?_, ?_, ?_, ?_, trivial⟩ ?_
 ·intro L94 w95 G93 hgk96
  have hE97 : Chg (fun b => InR [(b10, b10 + 1)] b ∨ w56.heap.size ≤ b) w56 w95 := hgk96.st.ex.imp (fun b _ h => h.imp (fun h => h.elim (fun h => h.2) (fun h => h.2)) (fun h => h))
  have hE97z := Chg.size hE97
  exact OpR.op' rfl (Yl.sameG (yl_fieldAddr fd26_0 rfl (hgk96.old 6 _ rfl rfl) kI))
 ·intro L100 w101 G99 hgk102
  have hE103 : Chg (fun b => InR [(b10, b10 + 1)] b ∨ w56.heap.size ≤ b) w56 w101 := hgk102.st.ex.imp (fun b _ h => h.imp (fun h => h.elim (fun h => h.2) (fun h => h.2)) (fun h => h))
  have hE103z := Chg.size hE103
  obtain ⟨_, hx104, rfl⟩ := hgk102.val 0 17 rfl rfl
  exact OpR.op' rfl (Yl.sameG (yl_load1 ty9 rfl hx104 (((Box.chg q64 hE103 (by have := Box.lt q64; simp only [InR, or_false]; omega)).cell 0).trans rfl) kI))
 ·intro L107 w108 G106 hgk109
  have hE110 : Chg (fun b => InR [(b10, b10 + 1)] b ∨ w56.heap.size ≤ b) w56 w108 := hgk109.st.ex.imp (fun b _ h => h.imp (fun h => h.elim (fun h => h.2) (fun h => h.2)) (fun h => h))
  have hE110z := Chg.size hE110
  obtain ⟨_, hx111, rfl⟩ := hgk109.val 1 18 rfl rfl
  have hol112 : ((s_l1Cur_table p_code (0, 0)).1.Name).length ≤ 1073741824 := ho21.1
  exact OpR.op' rfl (Yl.sameG (yl_sadd (a := ((s_l1Cur_table p_code (0, 0)).1.Name)) (b := ([46] : Str)) rfl hx111 rfl (by first | omega | (simp only [List.length_append, List.length_cons, List.length_nil, List.length_take, List.length_drop, toS_length]; omega)) kI))
 ·intro L114 w115 G113 hgk116
  have hE117 : Chg (fun b => InR [(b10, b10 + 1)] b ∨ w56.heap.size ≤ b) w56 w115 := hgk116.st.ex.imp (fun b _ h => h.imp (fun h => h.elim (fun h => h.2) (fun h => h.2)) (fun h => h))
  have hE117z := Chg.size hE117
  exact OpR.op' rfl (Yl.sameG (yl_move rfl (hgk116.old 7 _ rfl rfl) kI))
 ·intro L120 w121 G119 hgk122
  have hE123 : Chg (fun b => InR [(b10, b10 + 1)] b ∨ w56.heap.size ≤ b) w56 w121 := hgk122.st.ex.imp (fun b _ h => h.imp (fun h => h.elim (fun h => h.2) (fun h => h.2)) (fun h => h))
  have hE123z := Chg.size hE123
  obtain ⟨_, hx124, rfl⟩ := hgk122.val 2 19 rfl rfl
  obtain ⟨_, hx125, rfl⟩ := hgk122.val 3 20 rfl rfl
  have hol126 : ((s_l1Cur_table p_code (0, 0)).1.Name).length ≤ 1073741824 := ho21.1
  have hol127 : ((s_l1Cur_of p_code ((s_l1Cur_table p_code (0, 0)).2) ([[105], [105], [105], [106], [109], [122]] : List Str)).1).length ≤ 1073741824 := ho57
  exact OpR.op' rfl (Yl.sameG (yl_sadd (a := (((s_l1Cur_table p_code (0, 0)).1.Name) ++ ([46] : Str))) (b := ((s_l1Cur_of p_code ((s_l1Cur_table p_code (0, 0)).2) ([[105], [105], [105], [106], [109], [122]] : List Str)).1)) rfl hx124 hx125 (by first | omega | (simp only [List.length_append, List.length_cons, List.length_nil, List.length_take, List.length_drop, toS_length]; omega)) kI))
 ·intro L129 w130 G128 hgk131
  have hE132 : Chg (fun b => InR [(b10, b10 + 1)] b ∨ w56.heap.size ≤ b) w56 w130 := hgk131.st.ex.imp (fun b _ h => h.imp (fun h => h.elim (fun h => h.2) (fun h => h.2)) (fun h => h))
  have hE132z := Chg.size hE132
  obtain ⟨_, hx133, rfl⟩ := hgk131.val 4 21 rfl rfl
  have hol134 : ((s_l1Cur_table p_code (0, 0)).1.Name).length ≤ 1073741824 := ho21.1
  have hol135 : ((s_l1Cur_of p_code ((s_l1Cur_table p_code (0, 0)).2) ([[105], [105], [105], [106], [109], [122]] : List Str)).1).length ≤ 1073741824 := ho57
  exact OpR.op' rfl (Yl.sameG (yl_sadd (a := ((((s_l1Cur_table p_code (0, 0)).1.Name) ++ ([46] : Str)) ++ ((s_l1Cur_of p_code ((s_l1Cur_table p_code (0, 0)).2) ([[105], [105], [105], [106], [109], [122]] : List Str)).1))) (b := ([47] : Str)) rfl hx133 rfl (by first | omega | (simp only [List.length_append, List.length_cons, List.length_nil, List.length_take, List.length_drop, toS_length]; omega)) kI))
 ·intro L137 w138 G136 hgk139
  have hE140 := hgk139.st.ex.ex (fun b h => h.elim (fun h => h.elim (fun h => hgk139.no rfl h) (fun h => hgk139.no rfl h)) (fun h => h))
  have hE140z := Ex.size hE140
  exact OpR.op' rfl (Yl.sameG (yl_move rfl (hgk139.old 5 _ rfl rfl) kI))
 ·intro L143 w144 G142 hgk145
  have hE146 := hgk145.st.ex.ex (fun b h => h.elim (fun h => h.elim (fun h => hgk145.no rfl h) (fun h => hgk145.no rfl h)) (fun h => h))
  have hE146z := Ex.size hE146
  refine OpR.op' rfl (yl_buildSlice (cs := [.string (bs (([120] : Str))), .string (bs (([121] : Str))), .string (bs (([97, 98, 99] : Str)))]) un23 ty9 (by decide) rfl (oc rfl (oc rfl (oc rfl oz))) (by kernel_rfl) ?_)
  intro b147 w148 hs149 hz150 hB151 hE152
  have hO153 : OwnL w148 b147 (b147 + 1) 9 1 (RF e_Str) (some ⟨b147, 0, none⟩) 3 3 ([[120], [121], [97, 98, 99]] : List Str) := OwnL.of_box (S := fun _ => False) hB151 (Nat.le_refl _) (Nat.lt_succ_self _) (EncL.cons (c := [.string (bs (([120] : Str)))]) rfl rfl (EncL.cons (c := [.string (bs (([121] : Str)))]) rfl rfl (EncL.cons (c := [.string (bs (([97, 98, 99] : Str)))]) rfl rfl EncL.nil))) (Nat.le_of_ble_eq_true rfl) (fun h => h) (fun _ h => False.elim h)
  exact ⟨Chg.of_ex hE152, (some ⟨b147, 0, none⟩), rfl, OwnL.more (lo' := w144.heap.size) (hi' := w148.heap.size) hO153 (by omega) (by omega)⟩
 ·intro L155 w156 G154 hgk157
  have hE158 := hgk157.st.ex.ex (fun b h => h.elim (fun h => h.elim (fun h => hgk157.nw h) (fun h => hgk157.no rfl h)) (fun h => h))
  have hE158z := Ex.size hE158
  obtain ⟨_, hx159, rfl⟩ := hgk157.val 6 23 rfl rfl
  obtain ⟨_, hx160, A70_161, rfl, h162⟩ := hgk157.val 7 24 rfl rfl
  have hr163 := hgk157.st.rng 7 (hgk157.has 7 rfl)
  have hle166 := OwnL.len h162
  refine OpR.op' rfl (yl_call en19 rfl (oc hx159 (oc hx160 oz)) (Cal.mono (Cal.args (by rw [← hle166] <;> rfl) (c_s_l1Cur_of p_code ((s_l1Cur_of p_code ((s_l1Cur_table p_code (0, 0)).2) ([[105], [105], [105], [106], [109], [122]] : List Str)).2) ([[120], [121], [97, 98, 99]] : List Str) (Box.ex hB61 hE158) (RdS.ex good_U8 q73 hE158) (by omega) (by omega) (RdS.fix (OwnL.rdI good_Str h162)) (by omega) (by omega) o2 (okL.mk (Nat.le_of_ble_eq_true rfl) (okE.cons (okS.lit rfl) (okE.cons (okS.lit rfl) (okE.cons (okS.lit rfl) okE.nil)))) (by first | omega | assumption | (simp only [wI] at *; omega) | (simp only [List.length_append, List.length_cons, List.length_nil]; omega)) (by omega) (by assumption))) ?_))
  rintro v170 w167 ⟨rfl, ho168, hp169, hB172, hE171⟩
  exact ⟨hE171.imp (fun k _ hk => hk.elim (fun hk => (.inl ⟨rfl, hk.1, hk.2⟩)) False.elim), rfl, ho168, hp169, fun _ => hB172⟩
 ·intro L174 w175 G173 hgk176
  have hE177 : Chg (fun b => InR [(b10, b10 + 1)] b ∨ w56.heap.size ≤ b) w56 w175 := hgk176.st.ex.imp (fun b _ h => h.imp (fun h => h.elim (fun h => h.2) (fun h => h.2)) (fun h => h))
  have hE177z := Chg.size hE177
  obtain ⟨_, hx178, rfl⟩ := hgk176.val 5 22 rfl rfl
  obtain ⟨_, hx179, rfl, h180, h181, -⟩ := hgk176.val 8 25 rfl rfl
  have hr182 := hgk176.st.rng 8 (hgk176.has 8 rfl)
  have hol183 : ((s_l1Cur_table p_code (0, 0)).1.Name).length ≤ 1073741824 := ho21.1
  have hol184 : ((s_l1Cur_of p_code ((s_l1Cur_table p_code (0, 0)).2) ([[105], [105], [105], [106], [109], [122]] : List Str)).1).length ≤ 1073741824 := ho57
  have hol185 : ((s_l1Cur_of p_code ((s_l1Cur_of p_code ((s_l1Cur_table p_code (0, 0)).2) ([[105], [105], [105], [106], [109], [122]] : List Str)).2) ([[120], [121], [97, 98, 99]] : List Str)).1).length ≤ 1073741824 := h180
  exact OpR.op' rfl (Yl.sameG (yl_sadd (a := (((((s_l1Cur_table p_code (0, 0)).1.Name) ++ ([46] : Str)) ++ ((s_l1Cur_of p_code ((s_l1Cur_table p_code (0, 0)).2) ([[105], [105], [105], [106], [109], [122]] : List Str)).1)) ++ ([47] : Str))) (b := ((s_l1Cur_of p_code ((s_l1Cur_of p_code ((s_l1Cur_table p_code (0, 0)).2) ([[105], [105], [105], [106], [109], [122]] : List Str)).2) ([[120], [121], [97, 98, 99]] : List Str)).1)) rfl hx178 hx179 (by first | omega | (simp only [List.length_append, List.length_cons, List.length_nil, List.length_take, List.length_drop, toS_length]; omega)) kI))
 ·intro L187 w188 G186 hgk189
  have hE190 : Chg (fun b => InR [(b10, b10 + 1)] b ∨ w56.heap.size ≤ b) w56 w188 := hgk189.st.ex.imp (fun b _ h => h.imp (fun h => h.elim (fun h => h.2) (fun h => h.2)) (fun h => h))
  have hE190z := Chg.size hE190
  obtain ⟨_, hx191, rfl⟩ := hgk189.val 9 26 rfl rfl
  have hol192 : ((s_l1Cur_table p_code (0, 0)).1.Name).length ≤ 1073741824 := ho21.1
  have hol193 : ((s_l1Cur_of p_code ((s_l1Cur_table p_code (0, 0)).2) ([[105], [105], [105], [106], [109], [122]] : List Str)).1).length ≤ 1073741824 := ho57
  exact OpR.op' rfl (Yl.sameG (yl_sadd (a := ((((((s_l1Cur_table p_code (0, 0)).1.Name) ++ ([46] : Str)) ++ ((s_l1Cur_of p_code ((s_l1Cur_table p_code (0, 0)).2) ([[105], [105], [105], [106], [109], [122]] : List Str)).1)) ++ ([47] : Str)) ++ ((s_l1Cur_of p_code ((s_l1Cur_of p_code ((s_l1Cur_table p_code (0, 0)).2) ([[105], [105], [105], [106], [109], [122]] : List Str)).2) ([[120], [121], [97, 98, 99]] : List Str)).1))) (b := ([47] : Str)) rfl hx191 rfl (by first | omega | (simp only [List.length_append, List.length_cons, List.length_nil, List.length_take, List.length_drop, toS_length]; omega)) kI))
 ·intro L195 w196 G194 hgk197
  have hE198 : Chg (fun b => InR [(b10, b10 + 1)] b ∨ w56.heap.size ≤ b) w56 w196 := hgk197.st.ex.imp (fun b _ h => h.imp (fun h => h.elim (fun h => h.2) (fun h => hgk197.no rfl h)) (fun h => h))
  have hE198z := Chg.size hE198
  exact OpR.op' rfl (Yl.sameG (yl_move rfl (hgk197.old 5 _ rfl rfl) kI))
 ·intro L201 w202 G200 hgk203
  have hE204 : Chg (fun b => InR [(b10, b10 + 1)] b ∨ w56.heap.size ≤ b) w56 w202 := hgk203.st.ex.imp (fun b _ h => h.imp (fun h => h.elim (fun h => h.2) (fun h => hgk203.no rfl h)) (fun h => h))
  have hE204z := Chg.size hE204
  refine OpR.op' rfl (yl_buildSlice (cs := [.string (bs (([49] : Str))), .string (bs (([97] : Str))), .string (bs (([122, 122] : Str)))]) un23 ty9 (by decide) rfl (oc rfl (oc rfl (oc rfl oz))) (by kernel_rfl) ?_)
  intro b205 w206 hs207 hz208 hB209 hE210
  have hO211 : OwnL w206 b205 (b205 + 1) 9 1 (RF e_Str) (some ⟨b205, 0, none⟩) 3 3 ([[49], [97], [122, 122]] : List Str) := OwnL.of_box (S := fun _ => False) hB209 (Nat.le_refl _) (Nat.lt_succ_self _) (EncL.cons (c := [.string (bs (([49] : Str)))]) rfl rfl (EncL.cons (c := [.string (bs (([97] : Str)))]) rfl rfl (EncL.cons (c := [.string (bs (([122, 122] : Str)))]) rfl rfl EncL.nil))) (Nat.le_of_ble_eq_true rfl) (fun h => h) (fun _ h => False.elim h)
  exact ⟨Chg.of_ex hE210, (some ⟨b205, 0, none⟩), rfl, OwnL.more (lo' := w202.heap.size) (hi' := w206.heap.size) hO211 (by omega) (by omega)⟩
 ·intro L213 w214 G212 hgk215
  have hE216 : Chg (fun b => InR [(b10, b10 + 1)] b ∨ w56.heap.size ≤ b) w56 w214 := hgk215.st.ex.imp (fun b _ h => h.imp (fun h => h.elim (fun h => h.2) (fun h => hgk215.nw h)) (fun h => h))
  have hE216z := Chg.size hE216
  obtain ⟨_, hx217, rfl⟩ := hgk215.val 11 28 rfl rfl
  obtain ⟨_, rfl, h218, h219, h220⟩ := hgk215.fact 8 rfl
  have h220 := h220 hgk215.new
  obtain ⟨_, hx221, A82_222, rfl, h223⟩ := hgk215.val 12 29 rfl rfl
  have hr224 := hgk215.st.rng 8 (hgk215.has 8 rfl)
  have hr225 := hgk215.st.rng 12 (hgk215.has 12 rfl)
  have hsp226 := hgk215.st.sep 8 12 (hgk215.has 8 rfl) (hgk215.has 12 rfl) rfl
  have hle228 := OwnL.len h223
  refine OpR.op' rfl (yl_call en19 rfl (oc hx217 (oc hx221 oz)) (Cal.mono (Cal.args (by rw [← hle228] <;> rfl) (c_s_l1Cur_of p_code ((s_l1Cur_of p_code ((s_l1Cur_of p_code ((s_l1Cur_table p_code (0, 0)).2) ([[105], [105], [105], [106], [109], [122]] : List Str)).2) ([[120], [121], [97, 98, 99]] : List Str)).2) ([[49], [97], [122, 122]] : List Str) h220 (RdS.chg good_U8 q73 hE216 (fun k hl hk => by simp only [InR, or_false, Iv, Ge] at hk ⊢; omega)) (by omega) (by omega) (RdS.fix (OwnL.rdI good_Str h223)) (by omega) (by omega) o2 (okL.mk (Nat.le_of_ble_eq_true rfl) (okE.cons (okS.lit rfl) (okE.cons (okS.lit rfl) (okE.cons (okS.lit rfl) okE.nil)))) (by first | omega | assumption | (simp only [wI] at *; omega) | (simp only [List.length_append, List.length_cons, List.length_nil]; omega)) (by omega) (by assumption))) ?_))
  rintro v232 w229 ⟨rfl, ho230, hp231, hB234, hE233⟩
  exact ⟨hE233.imp (fun k _ hk => hk.elim (fun hk => (.inr (⟨rfl, hk.1, hk.2⟩))) False.elim), rfl, ho230, hp231, hB234⟩
 ·intro L236 w237 G235 hgk238
  have hE239 : Chg (fun b => InR [(b10, b10 + 1)] b ∨ w56.heap.size ≤ b) w56 w237 := hgk238.st.ex.imp (fun b _ h => h.imp (fun h => h.elim (fun h => h.2) (fun h => h.2)) (fun h => h))
  have hE239z := Chg.size hE239
  obtain ⟨_, hx240, rfl⟩ := hgk238.val 10 27 rfl rfl
  obtain ⟨_, hx241, rfl, h242, h243, h244⟩ := hgk238.val 13 30 rfl rfl
  have hr245 := hgk238.st.rng 13 (hgk238.has 13 rfl)
  have hol246 : ((s_l1Cur_table p_code (0, 0)).1.Name).length ≤ 1073741824 := ho21.1
  have hol247 : ((s_l1Cur_of p_code ((s_l1Cur_table p_code (0, 0)).2) ([[105], [105], [105], [106], [109], [122]] : List Str)).1).length ≤ 1073741824 := ho57
  have hol248 : ((s_l1Cur_of p_code ((s_l1Cur_of p_code ((s_l1Cur_of p_code ((s_l1Cur_table p_code (0, 0)).2) ([[105], [105], [105], [106], [109], [122]] : List Str)).2) ([[120], [121], [97, 98, 99]] : List Str)).2) ([[49], [97], [122, 122]] : List Str)).1).length ≤ 1073741824 := h242
  exact OpR.op' rfl (Yl.sameG (yl_sadd (a := (((((((s_l1Cur_table p_code (0, 0)).1.Name) ++ ([46] : Str)) ++ ((s_l1Cur_of p_code ((s_l1Cur_table p_code (0, 0)).2) ([[105], [105], [105], [106], [109], [122]] : List Str)).1)) ++ ([47] : Str)) ++ ((s_l1Cur_of p_code ((s_l1Cur_of p_code ((s_l1Cur_table p_code (0, 0)).2) ([[105], [105], [105], [106], [109], [122]] : List Str)).2) ([[120], [121], [97, 98, 99]] : List Str)).1)) ++ ([47] : Str))) (b := ((s_l1Cur_of p_code ((s_l1Cur_of p_code ((s_l1Cur_of p_code ((s_l1Cur_table p_code (0, 0)).2) ([[105], [105], [105], [106], [109], [122]] : List Str)).2) ([[120], [121], [97, 98, 99]] : List Str)).2) ([[49], [97], [122, 122]] : List Str)).1)) rfl hx240 hx241 (by first | omega | (simp only [List.length_append, List.length_cons, List.length_nil, List.length_take, List.length_drop, toS_length]; omega)) kI))
 ·intro L250 w251 G249 hgk252
  have hE253 : Chg (fun b => InR [(b10, b10 + 1)] b ∨ w56.heap.size ≤ b) w56 w251 := hgk252.st.ex.imp (fun b _ h => h.imp (fun h => h.elim (fun h => h.2) (fun h => h.2)) (fun h => h))
  have hE253z := Chg.size hE253
  obtain ⟨_, hx254, rfl⟩ := hgk252.val 14 31 rfl rfl
  exact OpR.op' rfl (Yl.sameG (yl_assign rfl hx254 kI))
 ·intro G255 L256 w257 hgp258
  have hE259 : Chg (fun b => InR [(b10, b10 + 1)] b ∨ w56.heap.size ≤ b) w56 w257 := hgp258.st.ex.imp (fun b _ h => h.imp (fun h => h.elim (fun h => h.2) (fun h => h.2)) (fun h => h))
  have hE259z := Chg.size hE259
  obtain ⟨_, hx264, A70_265, rfl, h266⟩ := hgp258.val 7 24 rfl rfl
  obtain ⟨_, hx267, rfl, h268, h269, -⟩ := hgp258.val 8 25 rfl rfl
  obtain ⟨_, hx270, A82_271, rfl, h272⟩ := hgp258.val 12 29 rfl rfl
  obtain ⟨_, hx273, rfl, h274, h275, h276⟩ := hgp258.val 13 30 rfl rfl
  obtain ⟨_, hx277, rfl⟩ := hgp258.val 15 8 rfl rfl
  have hbz278 := Box.lt h276
  have hr279 := hgp258.st.rng 7 (hgp258.has 7 rfl)
  have hr280 := hgp258.st.rng 8 (hgp258.has 8 rfl)
  have hr281 := hgp258.st.rng 12 (hgp258.has 12 rfl)
  have hr282 := hgp258.st.rng 13 (hgp258.has 13 rfl)
  have hsp283 := hgp258.st.ord 8 7 (hgp258.has 8 rfl) rfl
  have hsp284 := hgp258.st.sep 7 12 (hgp258.has 7 rfl) (hgp258.has 12 rfl) rfl
  have hsp285 := hgp258.st.ord 13 7 (hgp258.has 13 rfl) rfl
  have hsp286 := hgp258.st.sep 8 12 (hgp258.has 8 rfl) (hgp258.has 12 rfl) rfl
  have hsp287 := hgp258.st.ord 13 8 (hgp258.has 13 rfl) rfl
  have hsp288 := hgp258.st.ord 13 12 (hgp258.has 13 rfl) rfl
  refine dn (CW.sub (Sub.cons (d := 2) (hgp258.old 2 _ rfl rfl) (Sub.cons (d := 5) (hgp258.old 5 _ rfl rfl) (Sub.cons (d := 6) (hgp258.old 6 _ rfl rfl) (Sub.cons (d := 7) (hgp258.old 7 _ rfl rfl) (Sub.cons (d := 8) hx277 (Sub.nil _)))))) (CW.seq (CW.seq (CW.region (sd rfl (yl_move rfl rfl ?_))))))
  have q289 := RdS.chg good_U8 q73 hE259 (fun k hl hk => by simp only [InR, or_false, Iv, Ge] at hk ⊢; omega)
  refine sd rfl (yl_call en39 rfl (oc rfl (oc rfl oz)) (Cal.mono (c_s_l1Cur_one p_code ((s_l1Cur_of p_code ((s_l1Cur_of p_code ((s_l1Cur_of p_code ((s_l1Cur_table p_code (0, 0)).2) ([[105], [105], [105], [106], [109], [122]] : List Str)).2) ([[120], [121], [97, 98, 99]] : List Str)).2) ([[49], [97], [122, 122]] : List Str)).2) 3 h276 q289 (by omega) (by omega) o2 (by omega) (by assumption)) ?_))
  rintro v292 w290 ⟨rfl, hp291, hB294, hc293⟩
  have hc293z := Chg.size hc293
  have hB294z := Box.lt hB294
  refine dn (bcase ((s_l1Cur_one p_code ((s_l1Cur_of p_code ((s_l1Cur_of p_code ((s_l1Cur_of p_code ((s_l1Cur_table p_code (0, 0)).2) ([[105], [105], [105], [106], [109], [122]] : List Str)).2) ([[120], [121], [97, 98, 99]] : List Str)).2) ([[49], [97], [122, 122]] : List Str)).2) 3).1) (fun hb295 => ?_) (fun hb295 => ?_))
  ·refine CW.cond_t rfl hb295 (CW.region (sd rfl (yl_move rfl rfl (sd rfl (yl_move rfl rfl (sd rfl (yl_call en36 rfl (oc rfl (oc rfl (oc rfl oz))) (Cal.mono (c_s_l1Cur_spoilt p_code ((s_l1Cur_one p_code ((s_l1Cur_of p_code ((s_l1Cur_of p_code ((s_l1Cur_of p_code ((s_l1Cur_table p_code (0, 0)).2) ([[105], [105], [105], [106], [109], [122]] : List Str)).2) ([[120], [121], [97, 98, 99]] : List Str)).2) ([[49], [97], [122, 122]] : List Str)).2) 3).2) ((((((((s_l1Cur_table p_code (0, 0)).1.Name) ++ ([46] : Str)) ++ ((s_l1Cur_of p_code ((s_l1Cur_table p_code (0, 0)).2) ([[105], [105], [105], [106], [109], [122]] : List Str)).1)) ++ ([47] : Str)) ++ ((s_l1Cur_of p_code ((s_l1Cur_of p_code ((s_l1Cur_table p_code (0, 0)).2) ([[105], [105], [105], [106], [109], [122]] : List Str)).2) ([[120], [121], [97, 98, 99]] : List Str)).1)) ++ ([47] : Str)) ++ ((s_l1Cur_of p_code ((s_l1Cur_of p_code ((s_l1Cur_of p_code ((s_l1Cur_table p_code (0, 0)).2) ([[105], [105], [105], [106], [109], [122]] : List Str)).2) ([[120], [121], [97, 98, 99]] : List Str)).2) ([[49], [97], [122, 122]] : List Str)).1)) ([97, 47, 46, 49, 105] : Str) hB294 (RdS.chg good_U8 q289 hc293 (fun k hl hk => by simp only [InR, or_false, Iv, Ge] at hk ⊢; omega)) (by omega) (by omega) o2 (by unfold okS; simp only [List.length_append, List.length_cons, List.length_nil]; omega) (okS.lit rfl) (by first | omega | assumption | (simp only [wI] at *; omega) | (simp only [List.length_append, List.length_cons, List.length_nil]; omega)) (by first | omega | assumption | (simp only [wI] at *; omega) | (simp only [List.length_append, List.length_cons, List.length_nil]; omega)) (by omega) (by assumption)) ?_))))))))
   rintro v300 w297 ⟨rfl, ho298, hp299, hB302, hc301⟩
   have hc301z := Chg.size hc301
   have hB302z := Box.lt hB302
   refine sd rfl (yl_assign rfl rfl (dn (CW.seq (CW.region ?_))))
   have q303 := Box.chg q64 hE259 (by have := Box.lt q64; simp only [InR, or_false]; omega)
   have q304 := Box.chg q303 hc293 (by have := Box.lt q303; simp only [InR, or_false]; omega)
   refine sd rfl (yl_loadN ty26 rfl rfl ((Box.chg q304 hc301 (by have := Box.lt q304; simp only [InR, or_false]; omega)).cells (n := 3) rfl) rfl (sd rfl (yl_move rfl rfl (sd rfl (yl_move rfl rfl ?_)))))
   have q306 := Box.ex hB8 hE15
   have q310 := Box.ex (Box.only (Box.ex (Box.chg q306 hc26 (by have := Box.lt q306; simp only [InR, or_false]; omega)) hE37) hO40 (by omega)) hE46
   have q311 := Box.chg q310 hc60 (by have := Box.lt q310; simp only [InR, or_false]; omega)
   have q312 := Box.chg q311 hE259 (by have := Box.lt q311; simp only [InR, or_false]; omega)
   have q313 := Box.chg q312 hc293 (by have := Box.lt q312; simp only [InR, or_false]; omega)
   refine SeqR.u rfl rfl (yl_store (vs := [.string (bs ((s_l1Cur_table p_code (0, 0)).1.Name)), .slice A19 (((s_l1Cur_table p_code (0, 0)).1.Cols).length) c19, .slice A20 (((s_l1Cur_table p_code (0, 0)).1.Idxs).length) c20]) ty26 rfl rfl rfl rfl rfl rfl (Box.chg q313 hc301 (by have := Box.lt q313; simp only [InR, or_false]; omega)) (Nat.le_of_ble_eq_true rfl) ?_)
   intro w315 hB316 hO317
   have hB316 : Box w315 b4 26 [.string (bs ((s_l1Cur_table p_code (0, 0)).1.Name)), .slice A19 (((s_l1Cur_table p_code (0, 0)).1.Cols).length) c19, .slice A20 (((s_l1Cur_table p_code (0, 0)).1.Idxs).length) c20] := hB316
   have hO317z := hO317.size
   refine sd rfl (yl_assign rfl rfl (sd rfl (yl_assign rfl rfl (dn (CW.ret (rr rfl (.cons ⟨_, rfl, run_loadN ty26 (cs := [.string (bs ((s_l1Cur_table p_code (0, 0)).1.Name)), .slice A19 (((s_l1Cur_table p_code (0, 0)).1.Cols).length) c19, .slice A20 (((s_l1Cur_table p_code (0, 0)).1.Idxs).length) c20]) rfl (hB316.cells (n := 3) rfl)⟩ (.cons rfl (.cons rfl .nil))) ?_))))))
   have hM318 : (s_DrawReadIdxKey p_code) = (((s_l1Cur_table p_code (0, 0)).1, (s_l1Cur_of p_code ((s_l1Cur_table p_code (0, 0)).2) ([[105], [105], [105], [106], [109], [122]] : List Str)).1, (s_l1Cur_spoilt p_code ((s_l1Cur_one p_code ((s_l1Cur_of p_code ((s_l1Cur_of p_code ((s_l1Cur_of p_code ((s_l1Cur_table p_code (0, 0)).2) ([[105], [105], [105], [106], [109], [122]] : List Str)).2) ([[120], [121], [97, 98, 99]] : List Str)).2) ([[49], [97], [122, 122]] : List Str)).2) 3).2) ((((((((s_l1Cur_table p_code (0, 0)).1.Name) ++ ([46] : Str)) ++ ((s_l1Cur_of p_code ((s_l1Cur_table p_code (0, 0)).2) ([[105], [105], [105], [106], [109], [122]] : List Str)).1)) ++ ([47] : Str)) ++ ((s_l1Cur_of p_code ((s_l1Cur_of p_code ((s_l1Cur_table p_code (0, 0)).2) ([[105], [105], [105], [106], [109], [122]] : List Str)).2) ([[120], [121], [97, 98, 99]] : List Str)).1)) ++ ([47] : Str)) ++ ((s_l1Cur_of p_code ((s_l1Cur_of p_code ((s_l1Cur_of p_code ((s_l1Cur_table p_code (0, 0)).2) ([[105], [105], [105], [106], [109], [122]] : List Str)).2) ([[120], [121], [97, 98, 99]] : List Str)).2) ([[49], [97], [122, 122]] : List Str)).1)) ([97, 47, 46, 49, 105] : Str)).1)) := by simp only [s_DrawReadIdxKey, hb295, cL]
   have q325 := OwnL.chg good_Str (OwnL.chg good_Str (OwnL.chg good_Str (OwnL.chg good_Str (OwnL.ex good_Str (OwnL.only good_Str (OwnL.ex good_Str h19 hE37) hO40 (by omega)) hE46) hc60 (fun k hl hk => by simp only [InR, or_false] at hk; omega)) hE259 (fun k hl hk => by simp only [InR, or_false] at hk; omega)) hc293 (fun k hl hk => by simp only [InR, or_false] at hk; omega)) hc301 (fun k hl hk => by simp only [InR, or_false] at hk; omega)
   have q333 := OwnL.chg good_Idx (OwnL.chg good_Idx (OwnL.chg good_Idx (OwnL.chg good_Idx (OwnL.ex good_Idx (OwnL.only good_Idx (OwnL.ex good_Idx h20 hE37) hO40 (by omega)) hE46) hc60 (fun k hl hk => by simp only [InR, or_false] at hk; omega)) hE259 (fun k hl hk => by simp only [InR, or_false] at hk; omega)) hc293 (fun k hl hk => by simp only [InR, or_false] at hk; omega)) hc301 (fun k hl hk => by simp only [InR, or_false] at hk; omega)
   rw [hM318]
   have q344 := Ex.chg (Ex.chg (Ex.chg (Ex.chg (Ex.trans (Below.only (Ex.trans (Ex.chg (Ex.trans (Ex.trans (Ex.refl w) hE9) hE15) hc26 (fun k hk => by simp only [InR, or_false] at hk; omega)) hE37) hO40 (by omega)) hE46) hc60 (fun k hk => by simp only [InR, or_false] at hk; omega)) hE259 (fun k hk => by simp only [InR, or_false] at hk; omega)) hc293 (fun k hk => by simp only [InR, or_false] at hk; omega)) hc301 (fun k hk => by simp only [InR, or_false] at hk; omega)
   exact ⟨A19, c19, lo19, hi19, A20, c20, lo20, hi20, rfl, (OwnL.only good_Str q325 hO317 (by omega)), (OwnL.only good_Idx q333 hO317 (by omega)), ho21, ho57, ho298, (by omega), (by omega), (by omega), (Below.only q344 hO317 (by omega))⟩
  ·refine CW.cond_f rfl hb295 (CW.skip (tn (CW.seq (CW.region ?_))))
   have q346 := Box.chg q64 hE259 (by have := Box.lt q64; simp only [InR, or_false]; omega)
   refine sd rfl (yl_loadN ty26 rfl rfl ((Box.chg q346 hc293 (by have := Box.lt q346; simp only [InR, or_false]; omega)).cells (n := 3) rfl) rfl (sd rfl (yl_move rfl rfl (sd rfl (yl_move rfl rfl ?_)))))
   have q348 := Box.ex hB8 hE15
   have q352 := Box.ex (Box.only (Box.ex (Box.chg q348 hc26 (by have := Box.lt q348; simp only [InR, or_false]; omega)) hE37) hO40 (by omega)) hE46
   have q353 := Box.chg q352 hc60 (by have := Box.lt q352; simp only [InR, or_false]; omega)
   have q354 := Box.chg q353 hE259 (by have := Box.lt q353; simp only [InR, or_false]; omega)
   refine SeqR.u rfl rfl (yl_store (vs := [.string (bs ((s_l1Cur_table p_code (0, 0)).1.Name)), .slice A19 (((s_l1Cur_table p_code (0, 0)).1.Cols).length) c19, .slice A20 (((s_l1Cur_table p_code (0, 0)).1.Idxs).length) c20]) ty26 rfl rfl rfl rfl rfl rfl (Box.chg q354 hc293 (by have := Box.lt q354; simp only [InR, or_false]; omega)) (Nat.le_of_ble_eq_true rfl) ?_)
   intro w356 hB357 hO358
   have hB357 : Box w356 b4 26 [.string (bs ((s_l1Cur_table p_code (0, 0)).1.Name)), .slice A19 (((s_l1Cur_table p_code (0, 0)).1.Cols).length) c19, .slice A20 (((s_l1Cur_table p_code (0, 0)).1.Idxs).length) c20] := hB357
   have hO358z := hO358.size
   refine sd rfl (yl_assign rfl rfl (sd rfl (yl_assign rfl rfl (dn (CW.ret (rr rfl (.cons ⟨_, rfl, run_loadN ty26 (cs := [.string (bs ((s_l1Cur_table p_code (0, 0)).1.Name)), .slice A19 (((s_l1Cur_table p_code (0, 0)).1.Cols).length) c19, .slice A20 (((s_l1Cur_table p_code (0, 0)).1.Idxs).length) c20]) rfl (hB357.cells (n := 3) rfl)⟩ (.cons rfl (.cons rfl .nil))) ?_))))))
   have hM359 : (s_DrawReadIdxKey p_code) = (((s_l1Cur_table p_code (0, 0)).1, (s_l1Cur_of p_code ((s_l1Cur_table p_code (0, 0)).2) ([[105], [105], [105], [106], [109], [122]] : List Str)).1, (((((((s_l1Cur_table p_code (0, 0)).1.Name) ++ ([46] : Str)) ++ ((s_l1Cur_of p_code ((s_l1Cur_table p_code (0, 0)).2) ([[105], [105], [105], [106], [109], [122]] : List Str)).1)) ++ ([47] : Str)) ++ ((s_l1Cur_of p_code ((s_l1Cur_of p_code ((s_l1Cur_table p_code (0, 0)).2) ([[105], [105], [105], [106], [109], [122]] : List Str)).2) ([[120], [121], [97, 98, 99]] : List Str)).1)) ++ ([47] : Str)) ++ ((s_l1Cur_of p_code ((s_l1Cur_of p_code ((s_l1Cur_of p_code ((s_l1Cur_table p_code (0, 0)).2) ([[105], [105], [105], [106], [109], [122]] : List Str)).2) ([[120], [121], [97, 98, 99]] : List Str)).2) ([[49], [97], [122, 122]] : List Str)).1))) := by simp only [s_DrawReadIdxKey, hb295, cL]
   rw [hM359]
   have q383 := Below.only (Ex.chg (Ex.chg (Ex.chg (Ex.trans (Below.only (Ex.trans (Ex.chg (Ex.trans (Ex.trans (Ex.refl w) hE9) hE15) hc26 (fun k hk => by simp only [InR, or_false] at hk; omega)) hE37) hO40 (by omega)) hE46) hc60 (fun k hk => by simp only [InR, or_false] at hk; omega)) hE259 (fun k hk => by simp only [InR, or_false] at hk; omega)) hc293 (fun k hk => by simp only [InR, or_false] at hk; omega)) hO358 (by omega)
   exact ⟨A19, c19, lo19, hi19, A20, c20, lo20, hi20, rfl, (OwnL.only good_Str (OwnL.chg good_Str (OwnL.chg good_Str (OwnL.chg good_Str (OwnL.ex good_Str (OwnL.only good_Str (OwnL.ex good_Str h19 hE37) hO40 (by omega)) hE46) hc60 (fun k hl hk => by simp only [InR, or_false] at hk; omega)) hE259 (fun k hl hk => by simp only [InR, or_false] at hk; omega)) hc293 (fun k hl hk => by simp only [InR, or_false] at hk; omega)) hO358 (by omega)), (OwnL.only good_Idx (OwnL.chg good_Idx (OwnL.chg good_Idx (OwnL.chg good_Idx (OwnL.ex good_Idx (OwnL.only good_Idx (OwnL.ex good_Idx h20 hE37) hO40 (by omega)) hE46) hc60 (fun k hl hk => by simp only [InR, or_false] at hk; omega)) hE259 (fun k hl hk => by simp only [InR, or_false] at hk; omega)) hc293 (fun k hl hk => by simp only [InR, or_false] at hk; omega)) hO358 (by omega)), ho21, ho57, (by unfold okS; simp only [List.length_append, List.length_cons, List.length_nil]; omega), (by omega), (by omega), (by omega), q383⟩
theorem c_s_l25ReadEntry {A1 : Option Addr} {c1 : Nat} {A2 : Option Addr} {c2 : Nat} {w : World} (p_t : DTable) (p_name : Str) (p_key : Str) (h1 : RdS w (Iv 0 w.heap.size) (RF e_Str) 1 A1 p_t.Cols.length c1 p_t.Cols) (h2 : RdS w (Iv 0 w.heap.size) (RF e_Idx) 3 A2 p_t.Idxs.length c2 p_t.Idxs) (o3 : ok_Table p_t) (o4 : okS p_name) (o5 : okS p_key) : Cal Tryd.prog 40 #[.agg #[.string (bs (p_t.Name)), .slice A1 p_t.Cols.length c1, .slice A2 p_t.Idxs.length c2], .string (bs (p_name)), .string (bs (p_key))] w fun v w' => v = .tuple #[.string (bs ((s_l25ReadEntry p_t p_name p_key).1)), .string (bs ((s_l25ReadEntry p_t p_name p_key).2.1)), .bool ((s_l25ReadEntry p_t p_name p_key).2.2)] ∧ okS ((s_l25ReadEntry p_t p_name p_key).1) ∧ okS ((s_l25ReadEntry p_t p_name p_key).2.1) ∧ Ex w w' := by
 have hol6 : p_t.Name.length ≤ 1073741824 := o3.1
 have hol7 := o3.2.1.1
 have hol8 := o3.2.2.1
 have hol9 : p_name.length ≤ 1073741824 := o4
 have hol10 : p_key.length ≤ 1073741824 := o5
 refine Cal.of func40 rfl ntmps40 rfl (CW.seq (CW.region (sd rfl (yl_box rfl rfl rfl ?_))))
 intro b11 w12 hs13 hz14 hB15 hE16
 refine sd rfl (yl_assign rfl rfl (sd rfl (yl_assign rfl rfl (sd rfl (yl_assign rfl rfl (dn (CW.seq (CW.region (sd rfl (yl_move rfl rfl (sd rfl (yl_call en60 rfl (oc rfl (oc rfl oz)) (Cal.mono (c_s_l1Split p_key 47 o5) ?_)))))))))))))
 rintro v20 w17 ⟨A18, c18, lo18, hi18, rfl, h18, ho19, hrn22, hE21⟩
 have hE21z := Ex.size hE21
 have hrf23 := rf_l1Split p_key 47
 refine sd rfl (yl_assign rfl rfl (dn (CW.seq (CW.seq (bcase (decide (((s_l1Split p_key 47).length : Int) = 3)) (fun hb24 => ?_) (fun hb24 => ?_))))))
 ·have hb24p := dec_t hb24
  obtain ⟨eb26, eo26, _, eA26, _, ebl26, _, eR26, eC26⟩ := RdS.aD (OwnL.rd good_Str h18) d_Str (i := 0)
  obtain rfl := eR26
  have eC26 : Cells w17 eb26 (eo26 + 0 * 1) [.string (bs (((s_l1Split p_key 47).getD 0 d_Str)))] := eC26
  have hol28 : p_t.Name.length ≤ 1073741824 := o3.1
  have hol29 : p_t.Name.length ≤ 1073741824 := o3.1
  have hol30 : p_name.length ≤ 1073741824 := o4
  refine CW.drawsI 12 (vgetI ([.slice A18 ((s_l1Split p_key 47).length) c18, .int .i64 (((s_l1Split p_key 47).length : Int)), .bool (!(decide (((s_l1Split p_key 47).length : Int) = 3))), .bool (!(decide (((s_l1Split p_key 47).length : Int) = 3))), .slice A18 ((s_l1Split p_key 47).length) c18, .pointer (some ⟨eb26, eo26 + 0 * 1, none⟩), .string (bs (((s_l1Split p_key 47).getD 0 d_Str))), .pointer (some ⟨b11, 0 + 0, none⟩), .string (bs (p_t.Name)), .string (bs (p_t.Name ++ ([46] : Str))), .string (bs (p_name)), .string (bs ((p_t.Name ++ ([46] : Str)) ++ p_name))].map DetI)) Tryd.follows rfl rfl rfl rfl rfl rfl (vgetI_stable (stD _)) ⟨?_, ?_, ?_, ?_, ?_, ?_, ?_, ?_, ?_, ?_, ?_, ?_, trivial⟩ ?_
  ·exact oI rfl fun h => yl_move rfl (h.old 9 _ rfl rfl) kI
  ·exact oI rfl fun h => yl_len un23 rfl (h.dt 0 12 rfl rfl rfl) kI
  ·exact oI rfl fun h => yl_neq rfl (h.dt 1 13 rfl rfl rfl) rfl kI
  ·exact oI rfl fun h => yl_move rfl (h.dt 2 14 rfl rfl rfl) kI
  ·exact oW rfl rfl rfl rfl (not_t hb24) fun h => yl_move rfl (h.old 9 _ rfl rfl) kI
  ·intro L57 w58 hi59
   have hE60 := hi59.ex
   have hE60z := Ex.size hE60
   exact OpR.want rfl rfl (hi59.dt 3 15 rfl rfl rfl) (not_t hb24) (Yl.sameI (yl_ixN un23 ty9 rfl (hi59.dt 4 16 rfl rfl rfl) rfl eA26 kI))
  ·exact oW rfl rfl rfl rfl (not_t hb24) fun h => yl_load1 ty9 rfl (h.dt 5 17 rfl rfl rfl) ((Cells.ex eC26 h.ex) 0 _ rfl) kI
  ·exact oW rfl rfl rfl rfl (not_t hb24) fun h => yl_fieldAddr fd26_0 rfl (h.old 3 _ rfl rfl) kI
  ·exact oW rfl rfl rfl rfl (not_t hb24) fun h => yl_load1 ty9 rfl (h.dt 7 19 rfl rfl rfl) (((Box.ex (Box.ex hB15 hE21) h.ex).cell 0).trans rfl) kI
  ·intro L83 w84 hi85
   have hE86 := hi85.ex
   have hE86z := Ex.size hE86
   have hol89 : p_t.Name.length ≤ 1073741824 := o3.1
   exact OpR.want rfl rfl (hi85.dt 3 15 rfl rfl rfl) (not_t hb24) (Yl.sameI (yl_sadd (a := p_t.Name) (b := ([46] : Str)) rfl (hi85.dt 8 20 rfl rfl rfl) rfl (by first | omega | (simp only [List.length_append, List.length_cons, List.length_nil, List.length_take, List.length_drop, toS_length]; omega)) kI))
  ·exact oW rfl rfl rfl rfl (not_t hb24) fun h => yl_move rfl (h.old 1 _ rfl rfl) kI
  ·intro L96 w97 hi98
   have hE99 := hi98.ex
   have hE99z := Ex.size hE99
   have hol103 : p_t.Name.length ≤ 1073741824 := o3.1
   have hol104 : p_name.length ≤ 1073741824 := o4
   exact OpR.want rfl rfl (hi98.dt 3 15 rfl rfl rfl) (not_t hb24) (Yl.sameI (yl_sadd (a := (p_t.Name ++ ([46] : Str))) (b := p_name) rfl (hi98.dt 9 21 rfl rfl rfl) (hi98.dt 10 22 rfl rfl rfl) (by first | omega | (simp only [List.length_append, List.length_cons, List.length_nil, List.length_take, List.length_drop, toS_length]; omega)) kI))
  ·intro fl108 fh109 L105 w106 hp107
   have hE110 := hp107.ex
   have hE110z := Ex.size hE110
   have hx111 := hp107.old 9 _ rfl rfl
   have hx112 := hp107.nt 3 15 rfl rfl rfl
   refine sy rfl hx112 (not_t hb24) (yl_sneq (a := ((s_l1Split p_key 47).getD 0 d_Str)) (b := ((p_t.Name ++ ([46] : Str)) ++ p_name)) rfl (hp107.nt 6 18 rfl rfl rfl) (hp107.nt 11 23 rfl rfl rfl) (sd rfl (yl_pick_f rfl hx112 (not_t hb24) rfl (sd rfl (yl_move rfl rfl (bcase (((s_l1Split p_key 47).getD 0 d_Str) == ((p_t.Name ++ ([46] : Str)) ++ p_name)) (fun hb115 => ?_) (fun hb115 => ?_)))))))
   ·refine sy rfl rfl (not_t hb115) (yl_move rfl hx111 ?_)
    have q117 := OwnL.ex good_Str h18 hE110
    obtain ⟨eb118, eo118, _, eA118, _, ebl118, _, eR118, eC118⟩ := RdS.aD (OwnL.rd good_Str q117) d_Str (i := 1)
    obtain rfl := eR118
    have eC118 : Cells w106 eb118 (eo118 + 1 * 1) [.string (bs (((s_l1Split p_key 47).getD 1 d_Str)))] := eC118
    refine sy rfl rfl (not_t hb115) (yl_ixN un23 ty9 rfl rfl rfl eA118 (sy rfl rfl (not_t hb115) (yl_load1 ty9 rfl rfl (eC118 0 _ rfl) (sy rfl rfl (not_t hb115) (yl_call en46 rfl (oc rfl oz) (Cal.mono (c_s_l25Field ((s_l1Split p_key 47).getD 1 d_Str) (okS_l1Split o5 _ _)) ?_))))))
    rintro v120 w119 ⟨rfl, hE121⟩
    have hE121z := Ex.size hE121
    refine sy rfl rfl (not_t hb115) (yl_not rfl rfl (sd rfl (yl_pick_f rfl rfl (not_t hb115) rfl (sd rfl (yl_move rfl rfl (bcase (s_l25Field ((s_l1Split p_key 47).getD 1 d_Str)) (fun hb122 => ?_) (fun hb122 => ?_)))))))
    ·refine sy rfl rfl (not_t hb122) (yl_move rfl hx111 ?_)
     obtain ⟨eb125, eo125, _, eA125, _, ebl125, _, eR125, eC125⟩ := RdS.atD (OwnL.rd good_Str (OwnL.ex good_Str q117 hE121)) d_Str (i := 2) (by first | omega | assumption)
     obtain rfl := eR125
     have eC125 : Cells w119 eb125 (eo125 + 2 * 1) [.string (bs (((s_l1Split p_key 47).getD 2 d_Str)))] := eC125
     refine sy rfl rfl (not_t hb122) (yl_ixN un23 ty9 rfl rfl rfl eA125 (sy rfl rfl (not_t hb122) (yl_load1 ty9 rfl rfl (eC125 0 _ rfl) (sy rfl rfl (not_t hb122) (yl_call en46 rfl (oc rfl oz) (Cal.mono (c_s_l25Field ((s_l1Split p_key 47).getD 2 d_Str) (okS_l1Split o5 _ _)) ?_))))))
     rintro v127 w126 ⟨rfl, hE128⟩
     have hE128z := Ex.size hE128
     refine sy rfl rfl (not_t hb122) (yl_not rfl rfl (sd rfl (yl_pick_f rfl rfl (not_t hb122) rfl (dn (CW.sub (Sub.cons (d := 9) hx111 (Sub.cons (d := 39) rfl (Sub.nil _))) (bcase (s_l25Field ((s_l1Split p_key 47).getD 2 d_Str)) (fun hb129 => ?_) (fun hb129 => ?_)))))))
     ·refine CW.cond_f rfl (not_t hb129) (CW.skip (tn (CW.seq (CW.drawsI 9 (vgetI ([.slice A18 ((s_l1Split p_key 47).length) c18, .pointer (some ⟨eb118, eo118 + 1 * 1, none⟩), .string (bs (((s_l1Split p_key 47).getD 1 d_Str))), .slice A18 ((s_l1Split p_key 47).length) c18, .pointer (some ⟨eb125, eo125 + 2 * 1, none⟩), .string (bs (((s_l1Split p_key 47).getD 2 d_Str))), .string (bs (((s_l1Split p_key 47).getD 1 d_Str))), .string (bs (((s_l1Split p_key 47).getD 2 d_Str))), .bool (true)].map DetI)) Tryd.follows rfl rfl rfl rfl rfl rfl (vgetI_stable (stD _)) ⟨?_, ?_, ?_, ?_, ?_, ?_, ?_, ?_, ?_, trivial⟩ ?_))))
      ·exact oI rfl fun h => yl_move rfl (h.old 9 _ rfl rfl) kI
      ·intro L138 w139 hi140
       have hE141 := hi140.ex
       have hE141z := Ex.size hE141
       exact os rfl ((yl_ixN un23 ty9 rfl (hi140.dt 0 40 rfl rfl rfl) rfl eA118 kI))
      ·exact oI rfl fun h => yl_load1 ty9 rfl (h.dt 1 41 rfl rfl rfl) ((Cells.ex (Cells.ex (Cells.ex eC118 hE121) hE128) h.ex) 0 _ rfl) kI
      ·exact oI rfl fun h => yl_move rfl (h.old 9 _ rfl rfl) kI
      ·intro L154 w155 hi156
       have hE157 := hi156.ex
       have hE157z := Ex.size hE157
       exact os rfl ((yl_ixN un23 ty9 rfl (hi156.dt 3 43 rfl rfl rfl) rfl eA125 kI))
      ·exact oI rfl fun h => yl_load1 ty9 rfl (h.dt 4 44 rfl rfl rfl) ((Cells.ex (Cells.ex eC125 hE128) h.ex) 0 _ rfl) kI
      ·exact oI rfl fun h => yl_assign rfl (h.dt 2 42 rfl rfl rfl) kI
      ·exact oI rfl fun h => yl_assign rfl (h.dt 5 45 rfl rfl rfl) kI
      ·exact oI rfl fun _ => yl_assign rfl rfl kI
      ·intro fl182 fh183 L179 w180 hp181
       have hE184 := hp181.ex
       have hE184z := Ex.size hE184
       refine dn (CW.sub (Sub.cons (d := 6) (hp181.nt 6 6 rfl rfl rfl) (Sub.cons (d := 7) (hp181.nt 7 7 rfl rfl rfl) (Sub.cons (d := 8) (hp181.nt 8 8 rfl rfl rfl) (Sub.nil _)))) (CW.ret (rr rfl (.cons rfl (.cons rfl (.cons rfl .nil))) ?_)))
       have hM188 : (s_l25ReadEntry p_t p_name p_key) = ((((s_l1Split p_key 47).getD 1 d_Str), ((s_l1Split p_key 47).getD 2 d_Str), true)) := by simp only [s_l25ReadEntry, hb24, hb115, hb122, hb129, cL]
       rw [hM188]
       exact ⟨rfl, (okS_l1Split o5 _ _), (okS_l1Split o5 _ _), (Ex.trans (Ex.trans (Ex.trans (Ex.trans (Ex.trans (Ex.trans (Ex.refl w) hE16) hE21) hE110) hE121) hE128) hE184)⟩
     ·refine CW.cond_t rfl (not_f hb129) (CW.seq (CW.region (sd rfl (yl_assign rfl rfl (sd rfl (yl_assign rfl rfl (sd rfl (yl_assign rfl rfl (dn (CW.ret ?_))))))))))
      refine tr (rr rfl (.cons rfl (.cons rfl (.cons rfl .nil))) ?_)
      have hM195 : (s_l25ReadEntry p_t p_name p_key) = ((([] : Str), ([] : Str), false)) := by simp only [s_l25ReadEntry, hb24, hb115, hb122, hb129, cL]
      rw [hM195]
      exact ⟨rfl, (okS.lit rfl), (okS.lit rfl), (Ex.trans (Ex.trans (Ex.trans (Ex.trans (Ex.trans (Ex.refl w) hE16) hE21) hE110) hE121) hE128)⟩
    ·refine sz rfl rfl (not_f hb122) (sz rfl rfl (not_f hb122) (sz rfl rfl (not_f hb122) (sz rfl rfl (not_f hb122) (sz rfl rfl (not_f hb122) (sd rfl (yl_pick_t rfl rfl (not_f hb122) rfl (dn (CW.sub (Sub.cons (d := 9) hx111 (Sub.cons (d := 39) rfl (Sub.nil _))) ?_))))))))
     refine CW.cond_t rfl rfl (CW.seq (CW.region (sd rfl (yl_assign rfl rfl (sd rfl (yl_assign rfl rfl (sd rfl (yl_assign rfl rfl (dn (CW.ret ?_))))))))))
     refine tr (rr rfl (.cons rfl (.cons rfl (.cons rfl .nil))) ?_)
     have hM201 : (s_l25ReadEntry p_t p_name p_key) = ((([] : Str), ([] : Str), false)) := by simp only [s_l25ReadEntry, hb24, hb115, hb122, cL]
     rw [hM201]
     exact ⟨rfl, (okS.lit rfl), (okS.lit rfl), (Ex.trans (Ex.trans (Ex.trans (Ex.trans (Ex.refl w) hE16) hE21) hE110) hE121)⟩
   ·refine sz rfl rfl (not_f hb115) (sz rfl rfl (not_f hb115) (sz rfl rfl (not_f hb115) (sz rfl rfl (not_f hb115) (sz rfl rfl (not_f hb115) (sd rfl (yl_pick_t rfl rfl (not_f hb115) rfl (sd rfl (yl_move rfl rfl (sz rfl rfl rfl (sz rfl rfl rfl ?_))))))))))
    refine sz rfl rfl rfl (sz rfl rfl rfl (sz rfl rfl rfl (sd rfl (yl_pick_t rfl rfl rfl rfl (dn (CW.sub (Sub.cons (d := 9) hx111 (Sub.cons (d := 39) rfl (Sub.nil _))) (CW.cond_t rfl rfl (CW.seq ?_))))))))
    refine CW.region (sd rfl (yl_assign rfl rfl (sd rfl (yl_assign rfl rfl (sd rfl (yl_assign rfl rfl (dn (CW.ret (tr (rr rfl (.cons rfl (.cons rfl (.cons rfl .nil))) ?_))))))))))
    have hM206 : (s_l25ReadEntry p_t p_name p_key) = ((([] : Str), ([] : Str), false)) := by simp only [s_l25ReadEntry, hb24, hb115, cL]
    rw [hM206]
    exact ⟨rfl, (okS.lit rfl), (okS.lit rfl), (Ex.trans (Ex.trans (Ex.trans (Ex.refl w) hE16) hE21) hE110)⟩
 ·have hb24p := dec_f hb24
  refine CW.drawsI 12 (vgetI ([.slice A18 ((s_l1Split p_key 47).length) c18, .int .i64 (((s_l1Split p_key 47).length : Int)), .bool (!(decide (((s_l1Split p_key 47).length : Int) = 3))), .bool (!(decide (((s_l1Split p_key 47).length : Int) = 3))), undef, undef, undef, undef, undef, undef, undef, undef].map DetI)) Tryd.follows rfl rfl rfl rfl rfl rfl (vgetI_stable (stD _)) ⟨?_, ?_, ?_, ?_, ?_, ?_, ?_, ?_, ?_, ?_, ?_, ?_, trivial⟩ ?_
  ·exact oI rfl fun h => yl_move rfl (h.old 9 _ rfl rfl) kI
  ·exact oI rfl fun h => yl_len un23 rfl (h.dt 0 12 rfl rfl rfl) kI
  ·exact oI rfl fun h => yl_neq rfl (h.dt 1 13 rfl rfl rfl) rfl kI
  ·exact oI rfl fun h => yl_move rfl (h.dt 2 14 rfl rfl rfl) kI
  ·exact oS rfl rfl rfl rfl rfl (not_f hb24)
  ·exact oS rfl rfl rfl rfl rfl (not_f hb24)
  ·exact oS rfl rfl rfl rfl rfl (not_f hb24)
  ·exact oS rfl rfl rfl rfl rfl (not_f hb24)
  ·exact oS rfl rfl rfl rfl rfl (not_f hb24)
  ·exact oS rfl rfl rfl rfl rfl (not_f hb24)
  ·exact oS rfl rfl rfl rfl rfl (not_f hb24)
  ·exact oS rfl rfl rfl rfl rfl (not_f hb24)
  ·intro fl273 fh274 L270 w271 hp272
   have hE275 := hp272.ex
   have hE275z := Ex.size hE275
   have hx277 := hp272.nt 3 15 rfl rfl rfl
   refine sz rfl hx277 (not_f hb24) (sd rfl (yl_pick_t rfl hx277 (not_f hb24) rfl (sd rfl (yl_move rfl rfl (sz rfl rfl rfl (sz rfl rfl rfl (sz rfl rfl rfl (sz rfl rfl rfl (sz rfl rfl rfl (sd rfl (yl_pick_t rfl rfl rfl rfl ?_)))))))))))
   refine sd rfl (yl_move rfl rfl (sz rfl rfl rfl (sz rfl rfl rfl (sz rfl rfl rfl (sz rfl rfl rfl (sz rfl rfl rfl (sd rfl (yl_pick_t rfl rfl rfl rfl (dn ?_)))))))))
   refine CW.sub (Sub.cons (d := 9) (hp272.old 9 _ rfl rfl) (Sub.cons (d := 39) rfl (Sub.nil _))) (CW.cond_t rfl rfl (CW.seq (CW.region (sd rfl (yl_assign rfl rfl (sd rfl (yl_assign rfl rfl (sd rfl (yl_assign rfl rfl (dn ?_))))))))))
   refine CW.ret (tr (rr rfl (.cons rfl (.cons rfl (.cons rfl .nil))) ?_))
   have hM280 : (s_l25ReadEntry p_t p_name p_key) = ((([] : Str), ([] : Str), false)) := by simp only [s_l25ReadEntry, hb24, cL]
   rw [hM280]
   exact ⟨rfl, (okS.lit rfl), (okS.lit rfl), (Ex.trans (Ex.trans (Ex.trans (Ex.refl w) hE16) hE21) hE275)⟩
theorem c_s_ReadIdxKey {A1 : Option Addr} {c1 : Nat} {A2 : Option Addr} {c2 : Nat} {w : World} (p_t : DTable) (p_name : Str) (p_key : Str) (h1 : RdS w (Iv 0 w.heap.size) (RF e_Str) 1 A1 p_t.Cols.length c1 p_t.Cols) (h2 : RdS w (Iv 0 w.heap.size) (RF e_Idx) 3 A2 p_t.Idxs.length c2 p_t.Idxs) (o3 : ok_Table p_t) (o4 : okS p_name) (o5 : okS p_key) : Cal Tryd.prog 17 #[.agg #[.string (bs (p_t.Name)), .slice A1 p_t.Cols.length c1, .slice A2 p_t.Idxs.length c2], .string (bs (p_name)), .string (bs (p_key))] w fun v w' => v = .tuple #[.string (bs ((s_ReadIdxKey p_t p_name p_key).1)), .string (bs ((s_ReadIdxKey p_t p_name p_key).2.1)), .bool ((s_ReadIdxKey p_t p_name p_key).2.2)] ∧ okS ((s_ReadIdxKey p_t p_name p_key).1) ∧ okS ((s_ReadIdxKey p_t p_name p_key).2.1) ∧ Ex w w' := by
 have hol6 : p_t.Name.length ≤ 1073741824 := o3.1
 have hol7 := o3.2.1.1
 have hol8 := o3.2.2.1
 have hol9 : p_name.length ≤ 1073741824 := o4
 have hol10 : p_key.length ≤ 1073741824 := o5
 refine Cal.of func17 rfl ntmps17 rfl (CW.seq (CW.region (sd rfl (yl_box rfl rfl rfl ?_))))
 intro b11 w12 hs13 hz14 hB15 hE16
 refine sd rfl (yl_assign rfl rfl (sd rfl (yl_assign rfl rfl (sd rfl (yl_assign rfl rfl (dn (CW.seq (CW.region (sd rfl (yl_loadN ty26 rfl rfl (hB15.cells (n := 3) rfl) rfl (sd rfl (yl_move rfl rfl ?_))))))))))))
 refine sd rfl (yl_move rfl rfl ?_)
 have q17 := RdS.ex good_Str h1 hE16
 have q18 := RdS.ex good_Idx h2 hE16
 refine sd rfl (yl_call en40 rfl (oc rfl (oc rfl (oc rfl oz))) (Cal.mono (c_s_l25ReadEntry p_t p_name p_key (RdS.up q17 good_Str) (RdS.up q18 good_Idx) o3 o4 o5) ?_))
 rintro v22 w19 ⟨rfl, ho20, ho21, hE23⟩
 have hE23z := Ex.size hE23
 refine sd rfl (yl_move rfl rfl (sd rfl (yl_extract rfl rfl rfl (sd rfl (yl_extract rfl rfl rfl (sd rfl (yl_extract rfl rfl rfl (sd rfl (yl_assign rfl rfl (sd rfl (yl_assign rfl rfl (sd rfl (yl_assign rfl rfl (dn ?_))))))))))))))
 refine CW.seq (CW.seq (CW.region (sd rfl (yl_loadN ty26 rfl rfl ((Box.ex hB15 hE23).cells (n := 3) rfl) rfl (sd rfl (yl_move rfl rfl (sd rfl (yl_call en22 rfl (oc rfl (oc rfl oz)) (Cal.mono (c_s_IdxAt p_t p_name (RdS.up (RdS.ex good_Str q17 hE23) good_Str) (RdS.up (RdS.ex good_Idx q18 hE23) good_Idx) o3 o4) ?_)))))))))
 rintro v29 w27 ⟨rfl, ho28, hE30⟩
 have hE30z := Ex.size hE30
 refine sd rfl (yl_move rfl rfl (sd rfl (yl_extract rfl rfl rfl (sd rfl (yl_extract rfl rfl rfl (sd rfl (yl_alloc ty42 (cs := [.string (bs (([] : Str))), .int .i64 (0), .int .i64 (0)]) rfl rfl ?_)))))))
 intro b31 w32 hs33 hz34 hB35 hE36
 refine SeqR.u rfl rfl (yl_store (vs := [.string (bs ((s_IdxAt p_t p_name).1.Name)), .int .i64 ((s_IdxAt p_t p_name).1.Col), .int .i64 ((s_IdxAt p_t p_name).1.Stage)]) ty42 rfl rfl rfl rfl rfl rfl hB35 (Nat.le_of_ble_eq_true rfl) ?_)
 intro w37 hB38 hO39
 have hB38 : Box w37 b31 42 [.string (bs ((s_IdxAt p_t p_name).1.Name)), .int .i64 ((s_IdxAt p_t p_name).1.Col), .int .i64 ((s_IdxAt p_t p_name).1.Stage)] := hB38
 have hO39z := hO39.size
 refine sd rfl (yl_assign rfl rfl (dn (CW.seq (CW.region (sd rfl (yl_move rfl rfl (sd rfl (yl_not rfl rfl (sd rfl (yl_move rfl rfl (bcase ((s_IdxAt p_t p_name).2) (fun hb40 => ?_) (fun hb40 => ?_))))))))))))
 ·obtain ⟨hb40p0, hb40p1, hb40p2, hb40p3⟩ := f_s_IdxAt hb40
  refine sy rfl rfl (not_t hb40) (yl_move rfl rfl (sy rfl rfl (not_t hb40) (yl_not rfl rfl (sd rfl (yl_pick_f rfl rfl (not_t hb40) rfl (dn (bcase ((s_l25ReadEntry p_t p_name p_key).2.2) (fun hb41 => ?_) (fun hb41 => ?_))))))))
  ·refine CW.cond_f rfl (not_t hb41) (CW.skip (tn (CW.seq (CW.region (sd rfl (yl_move rfl rfl (sd rfl (yl_move rfl rfl (sd rfl (yl_assign rfl rfl (sd rfl (yl_assign rfl rfl ?_))))))))))))
   refine sd rfl (yl_assign rfl rfl (dn (CW.ret (rr rfl (.cons rfl (.cons rfl (.cons rfl .nil))) ?_))))
   have hM42 : (s_ReadIdxKey p_t p_name p_key) = (((s_l25ReadEntry p_t p_name p_key).1, (s_l25ReadEntry p_t p_name p_key).2.1, true)) := by simp only [s_ReadIdxKey, hb40, hb41, cL]
   rw [hM42]
   exact ⟨rfl, ho20, ho21, (Below.only (Ex.trans (Ex.trans (Ex.trans (Ex.trans (Ex.refl w) hE16) hE23) hE30) hE36) hO39 (by omega))⟩
  ·refine CW.cond_t rfl (not_f hb41) (CW.seq (CW.region (sd rfl (yl_assign rfl rfl (sd rfl (yl_assign rfl rfl (sd rfl (yl_assign rfl rfl (dn (CW.ret ?_))))))))))
   refine tr (rr rfl (.cons rfl (.cons rfl (.cons rfl .nil))) ?_)
   have hM48 : (s_ReadIdxKey p_t p_name p_key) = ((([] : Str), ([] : Str), false)) := by simp only [s_ReadIdxKey, hb40, hb41, cL]
   rw [hM48]
   exact ⟨rfl, (okS.lit rfl), (okS.lit rfl), (Below.only (Ex.trans (Ex.trans (Ex.trans (Ex.trans (Ex.refl w) hE16) hE23) hE30) hE36) hO39 (by omega))⟩
 ·refine sz rfl rfl (not_f hb40) (sz rfl rfl (not_f hb40) (sd rfl (yl_pick_t rfl rfl (not_f hb40) rfl (dn (CW.cond_t rfl rfl (CW.seq (CW.region (sd rfl (yl_assign rfl rfl ?_)))))))))
  refine sd rfl (yl_assign rfl rfl (sd rfl (yl_assign rfl rfl (dn (CW.ret (tr (rr rfl (.cons rfl (.cons rfl (.cons rfl .nil))) ?_)))))))
  have hM54 : (s_ReadIdxKey p_t p_name p_key) = ((([] : Str), ([] : Str), false)) := by simp only [s_ReadIdxKey, hb40, cL]
  rw [hM54]
  exact ⟨rfl, (okS.lit rfl), (okS.lit rfl), (Below.only (Ex.trans (Ex.trans (Ex.trans (Ex.trans (Ex.refl w) hE16) hE23) hE30) hE36) hO39 (by omega))⟩
end Go.Proofs.YtlnjgkmpaebioaaDoor
