/- Rows In: what each call returns, part 2. -/
import Derived.Test.YtdbobbmagmcpnaaGreatDoorRowsInC1
set_option linter.unusedVariables false
set_option linter.unusedSimpArgs false
namespace Go.Proofs.YtdbobbmagmcpnaaGreatDoor
open Go.RowKit Go.X
set_option maxRecDepth 100000 in
set_option maxHeartbeats 2000000 in
theorem c_s_l25Read {A1 : Option Addr} {c1 : Nat} {A2 : Option Addr} {c2 : Nat} {w : World} (p_t : DTable) (p_w : DWrite) (h1 : RdS w (Iv 0 w.heap.size) (RF e_Str) 1 A1 p_t.Cols.length c1 p_t.Cols) (h2 : RdS w (Iv 0 w.heap.size) (RF e_Idx) 3 A2 p_t.Idxs.length c2 p_t.Idxs) (o3 : ok_Table p_t) (o4 : ok_Write p_w) : Cal Tryz.prog 63 #[.agg #[.string (bs (p_t.Name)), .slice A1 p_t.Cols.length c1, .slice A2 p_t.Idxs.length c2], .agg #[.string (bs (p_w.Key)), .string (bs (p_w.Val)), .bool (p_w.Gone)]] w fun v w' => ∃ A_1 c_1 lo_1 hi_1, v = .tuple #[.agg #[.slice A_1 (((s_l25Read p_t p_w).1.Vals).length) c_1], .bool ((s_l25Read p_t p_w).2)] ∧ OwnL w' lo_1 hi_1 9 1 (RF e_Str) A_1 (((s_l25Read p_t p_w).1.Vals).length) c_1 ((s_l25Read p_t p_w).1.Vals) ∧ ok_Row ((s_l25Read p_t p_w).1) ∧ (w.heap.size ≤ lo_1 ∧ lo_1 ≤ hi_1 ∧ hi_1 ≤ w'.heap.size) ∧ Ex w w' := by
 have hol5 : p_t.Name.length ≤ 1073741824 := o3.1
 have hol6 := o3.2.1.1
 have hol7 := o3.2.2.1
 have hol8 : p_w.Key.length ≤ 1073741824 := o4.1
 have hol9 : p_w.Val.length ≤ 1073741824 := o4.2
 refine Cal.of (vs := [.agg #[.string (bs (p_t.Name)), .slice A1 p_t.Cols.length c1, .slice A2 p_t.Idxs.length c2], .agg #[.string (bs (p_w.Key)), .string (bs (p_w.Val)), .bool (p_w.Gone)]]) Tryz.func63 rfl Tryz.ntmps63 rfl (CW.seq (CW.region (sd rfl (yl_box (cs := [.string (bs (p_t.Name)), .slice A1 p_t.Cols.length c1, .slice A2 p_t.Idxs.length c2]) rfl rfl rfl ?_))))
 intro b10 w11 hs12 hz13 hB14 hE15
 refine sd rfl (yl_box (cs := [.string (bs (p_w.Key)), .string (bs (p_w.Val)), .bool (p_w.Gone)]) rfl rfl rfl ?_)
 intro b16 w17 hs18 hz19 hB20 hE21
 refine sd rfl (yl_alloc Tryz.ty80 (cs := [.slice none 0 0]) rfl rfl ?_)
 intro b22 w23 hs24 hz25 hB26 hE27
 refine sd rfl (yl_assign rfl rfl (SeqR.done (tn (CW.seq (CW.seq (CW.region (sd rfl (yl_fieldAddr Tryz.fd75_0 rfl rfl ?_))))))))
 have q28 := Box.ex hB20 hE27
 refine sd rfl (yl_load1 Tryz.ty9 rfl rfl ((q28.cell 0).trans rfl) (sd rfl (yl_slen Tryz.un9 (a := p_w.Key) rfl rfl (sd rfl (yl_lss rfl rfl rfl (SeqR.done (tn (bcase (decide ((p_w.Key.length : Int) < 3)) (fun hb29 => ?_) (fun hb29 => ?_)))))))))
 ·have hb29p := dec_t hb29
  refine CW.cond_t rfl hb29 (CW.seq (CW.region (sd rfl (yl_build (cs := [.slice none 0 0]) rfl opvs_nil (by kernel_rfl) (SeqR.u rfl rfl (yl_store (vs := [.slice none 0 0]) Tryz.ty80 rfl rfl rfl rfl rfl rfl hB26 (Nat.le_of_ble_eq_true rfl) ?_))))))
  intro w30 hB31 hO32
  have hB31 : Box w30 b22 80 [.slice none 0 0] := hB31
  have hO32z := hO32.size
  refine sd rfl (yl_assign rfl rfl (SeqR.done (tn (CW.ret (tr (rr rfl (.cons ⟨_, rfl, run_loadN Tryz.ty80 (cs := [.slice none 0 0]) rfl (hB31.cells (n := 1) rfl)⟩ (.cons rfl .nil)) ?_))))))
  have hM33 : (s_l25Read p_t p_w) = (((⟨[]⟩ : DRow), false)) := by simp only [s_l25Read, hb29, cond_true, cond_false, loopE_done, loopE_ret]
  rw [hM33]
  exact ⟨none, 0, w30.heap.size, w30.heap.size, rfl, (OwnL.nil _ _ _ _ _ _), (okL.nil _), (by omega), (Below.only (Ex.trans (Ex.trans (Ex.trans (Ex.refl w) hE15) hE21) hE27) hO32 (by omega))⟩
 ·have hb29p := dec_f hb29
  refine CW.cond_f rfl hb29 (CW.skip (tn (CW.seq ?_)))
  have hrf48 := rf_l1Split p_w.Val 44
  refine CW.drawsG 10 (fun _ _ => False) (fun _ _ _ => False) (vgetG [DetG (.pointer (some ⟨b16, 0 + 0, none⟩)), DetG (.string (bs (p_w.Key))), DetG (.string (bs ((p_w.Key.drop 2)))), fun G v wq => ∃ A38, v = .slice A38 1 1 ∧ (G.dn 7 = false → OwnL wq (G.fl 3) (G.fh 3) 9 1 (RF e_Str) A38 1 1 ([(p_w.Key.drop 2)] : List Str)), DetG (.pointer (some ⟨b16, 0 + 1, none⟩)), DetG (.string (bs (p_w.Val))), fun G v wq => ∃ A42 c42 lo42 hi42, v = .slice A42 ((s_l1Split p_w.Val 44).length) c42 ∧ OwnL wq lo42 hi42 9 1 (RF e_Str) A42 ((s_l1Split p_w.Val 44).length) c42 (s_l1Split p_w.Val 44) ∧ ((G.fl 6) ≤ lo42 ∧ lo42 ≤ hi42 ∧ hi42 ≤ (G.fh 6)), fun G v wq => ∃ A43 c44, v = .slice A43 ((([(p_w.Key.drop 2)] : List Str) ++ (s_l1Split p_w.Val 44)).length) c44 ∧ OwnL wq (G.fl 7) (G.fh 7) 9 1 (RF e_Str) A43 ((([(p_w.Key.drop 2)] : List Str) ++ (s_l1Split p_w.Val 44)).length) c44 (([(p_w.Key.drop 2)] : List Str) ++ (s_l1Split p_w.Val 44)), fun G v wq => ∃ A43 c44, v = .agg #[.slice A43 ((([(p_w.Key.drop 2)] : List Str) ++ (s_l1Split p_w.Val 44)).length) c44] ∧ OwnL wq (G.fl 7) (G.fh 7) 9 1 (RF e_Str) A43 ((([(p_w.Key.drop 2)] : List Str) ++ (s_l1Split p_w.Val 44)).length) c44 (([(p_w.Key.drop 2)] : List Str) ++ (s_l1Split p_w.Val 44)), fun G v wq => v = .pointer (some ⟨(G.fl 9), 0, none⟩) ∧ Box wq (G.fl 9) 80 [.slice none 0 0] ∧ (G.fl 9) < (G.fh 9)]) Tryz.follows rfl rfl rfl rfl rfl rfl (fun _ _ _ _ _ h => h) (fun _ _ _ _ _ _ _ _ _ h => h.elim) (vgetG_kept ⟨(KeptG.det _), (KeptG.det _), (KeptG.det _), (by rintro i G v w w' K hn hh hj ⟨A38, hv, h0⟩ e; have d3 : G.dn 3 = true := hj; have u3 := Gh.ufl (lo := w.heap.size) (hi := w'.heap.size) d3 hn; have t3 := Gh.ufh (lo := w.heap.size) (hi := w'.heap.size) d3 hn; exact ⟨A38, hv, (by intro hd; simp only [u3, t3]; exact OwnL.chg good_Str (h0 (Gh.off hd).2) e (fun b hb hp => by exact hp.elim))⟩), (KeptG.det _), (KeptG.det _), (by rintro i G v w w' K hn hh hj ⟨A42, c42, lo42, hi42, hv, h0, hr0⟩ e; have d6 : G.dn 6 = true := hj; have u6 := Gh.ufl (lo := w.heap.size) (hi := w'.heap.size) d6 hn; have t6 := Gh.ufh (lo := w.heap.size) (hi := w'.heap.size) d6 hn; exact ⟨A42, c42, lo42, hi42, hv, (by exact OwnL.chg good_Str h0 e (fun b hb hp => by exact hp.elim)), (by simp only [u6, t6]; exact hr0)⟩), (by rintro i G v w w' K hn hh hj ⟨A43, c44, hv, h0⟩ e; have d7 : G.dn 7 = true := hj; have u7 := Gh.ufl (lo := w.heap.size) (hi := w'.heap.size) d7 hn; have t7 := Gh.ufh (lo := w.heap.size) (hi := w'.heap.size) d7 hn; exact ⟨A43, c44, hv, (by simp only [u7, t7]; exact OwnL.chg good_Str h0 e (fun b hb hp => by exact hp.elim))⟩), (by rintro i G v w w' K hn hh hj ⟨A43, c44, hv, h0⟩ e; have d7 : G.dn 7 = true := K.cl 8 7 hj rfl; have u7 := Gh.ufl (lo := w.heap.size) (hi := w'.heap.size) d7 hn; have t7 := Gh.ufh (lo := w.heap.size) (hi := w'.heap.size) d7 hn; exact ⟨A43, c44, hv, (by simp only [u7, t7]; exact OwnL.chg good_Str h0 e (fun b hb hp => by exact hp.elim))⟩), (by rintro i G v w w' K hn hh hj ⟨hv, h0, he0⟩ e; have d9 : G.dn 9 = true := hj; have u9 := Gh.ufl (lo := w.heap.size) (hi := w'.heap.size) d9 hn; have t9 := Gh.ufh (lo := w.heap.size) (hi := w'.heap.size) d9 hn; exact ⟨(by simp only [u9, t9]; exact hv), (by simp only [u9, t9]; exact Box.chg h0 e (fun hp => by exact hp.elim)), (by simp only [u9, t9]; exact he0)⟩), trivial⟩) ⟨?_, ?_, ?_, ?_, ?_, ?_, ?_, ?_, ?_, ?_, trivial⟩ ?_
  ·intro L50 w51 G49 hgk52
   have hE53 := hgk52.st.ex.ex (fun b h => h.elim (fun h => h.elim) (fun h => h))
   have hE53z := Ex.size hE53
   exact OpR.op' rfl (Yl.sameG (yl_fieldAddr Tryz.fd75_0 rfl (hgk52.old 3 _ rfl rfl) kI))
  ·intro L56 w57 G55 hgk58
   have hE59 := hgk58.st.ex.ex (fun b h => h.elim (fun h => h.elim) (fun h => h))
   have hE59z := Ex.size hE59
   obtain ⟨_, hx60, rfl⟩ := hgk58.val 0 12 rfl rfl
   exact OpR.op' rfl (Yl.sameG (yl_load1 Tryz.ty9 rfl hx60 (((Box.ex q28 hE59).cell 0).trans rfl) kI))
  ·intro L63 w64 G62 hgk65
   have hE66 := hgk65.st.ex.ex (fun b h => h.elim (fun h => h.elim) (fun h => h))
   have hE66z := Ex.size hE66
   obtain ⟨_, hx67, rfl⟩ := hgk65.val 1 13 rfl rfl
   exact OpR.op' rfl (Yl.sameG (yl_sslice_lo Tryz.un9 (a := p_w.Key) (l := 2) rfl hx67 rfl (by omega) kI))
  ·intro L69 w70 G68 hgk71
   have hE72 := hgk71.st.ex.ex (fun b h => h.elim (fun h => h.elim) (fun h => h))
   have hE72z := Ex.size hE72
   obtain ⟨_, hx73, rfl⟩ := hgk71.val 2 14 rfl rfl
   refine OpR.op' rfl (yl_buildSlice (cs := [.string (bs ((p_w.Key.drop 2)))]) Tryz.un22 Tryz.ty9 (by decide) rfl (opvs_cons hx73 opvs_nil) (by kernel_rfl) ?_)
   intro b74 w75 hs76 hz77 hB78 hE79
   have hO80 : OwnL w75 b74 (b74 + 1) 9 1 (RF e_Str) (some ⟨b74, 0, none⟩) 1 1 ([(p_w.Key.drop 2)] : List Str) := OwnL.of_box (S := fun _ => False) hB78 (Nat.le_refl _) (Nat.lt_succ_self _) (EncL.cons (c := [.string (bs ((p_w.Key.drop 2)))]) rfl rfl EncL.nil) (Nat.le_of_ble_eq_true rfl) (fun h => h) (fun _ h => False.elim h)
   exact ⟨Chg.of_ex hE79, (some ⟨b74, 0, none⟩), rfl, fun _ => OwnL.more (lo' := w70.heap.size) (hi' := w75.heap.size) hO80 (by omega) (by omega)⟩
  ·intro L82 w83 G81 hgk84
   have hE85 := hgk84.st.ex.ex (fun b h => h.elim (fun h => h.elim) (fun h => h))
   have hE85z := Ex.size hE85
   exact OpR.op' rfl (Yl.sameG (yl_fieldAddr Tryz.fd75_1 rfl (hgk84.old 3 _ rfl rfl) kI))
  ·intro L88 w89 G87 hgk90
   have hE91 := hgk90.st.ex.ex (fun b h => h.elim (fun h => h.elim) (fun h => h))
   have hE91z := Ex.size hE91
   obtain ⟨_, hx92, rfl⟩ := hgk90.val 4 16 rfl rfl
   exact OpR.op' rfl (Yl.sameG (yl_load1 Tryz.ty9 rfl hx92 (((Box.ex q28 hE91).cell 1).trans rfl) kI))
  ·intro L95 w96 G94 hgk97
   have hE98 := hgk97.st.ex.ex (fun b h => h.elim (fun h => h.elim) (fun h => h))
   have hE98z := Ex.size hE98
   obtain ⟨_, hx99, rfl⟩ := hgk97.val 5 17 rfl rfl
   refine OpR.op' rfl (yl_call Tryz.en95 rfl (opvs_cons hx99 (opvs_cons rfl opvs_nil)) (Cal.mono (c_s_l1Split p_w.Val 44 o4.2) ?_))
   rintro v102 w100 ⟨A101, c101, lo101, hi101, rfl, h101, hrn104, hE103⟩
   exact ⟨Chg.of_ex hE103, A101, c101, lo101, hi101, rfl, h101, hrn104⟩
  ·intro L106 w107 G105 hgk108
   have hE109 := hgk108.st.ex.ex (fun b h => h.elim (fun h => h.elim) (fun h => h))
   have hE109z := Ex.size hE109
   obtain ⟨_, hx110, A38_111, rfl, h112⟩ := hgk108.val 3 15 rfl rfl
   have h112 := h112 hgk108.new
   obtain ⟨_, hx113, A42_114, c42_115, lo42_116, hi42_117, rfl, h118, hrn119⟩ := hgk108.val 6 18 rfl rfl
   have hr120 := hgk108.st.rng 3 (hgk108.has 3 rfl)
   have hr121 := hgk108.st.rng 6 (hgk108.has 6 rfl)
   have hsp122 := hgk108.st.sep 3 6 (hgk108.has 3 rfl) (hgk108.has 6 rfl) rfl
   have hol123 : (s_l1Split p_w.Val 44).length ≤ 2147483648 := (okL_l1Split o4.2).1
   refine OpR.op' rfl (yl_appendF (lo := w107.heap.size) (xs := ([(p_w.Key.drop 2)] : List Str)) (ys := (s_l1Split p_w.Val 44)) good_Str Tryz.un22 Tryz.ty9 rfl (Nat.le_of_ble_eq_true rfl) rfl hx110 hx113 (by first | omega | (simp only [List.length_append, List.length_cons, List.length_nil, List.length_take, List.length_drop, List.length_replicate, List.length_set, toS_length]; omega)) (OwnL.rd good_Str h112) (OwnL.rd good_Str h118) (by first | omega | (simp only [List.length_append, List.length_cons, List.length_nil, List.length_take, List.length_drop, List.length_replicate, List.length_set, toS_length]; omega)) (by first | omega | (simp only [List.length_append, List.length_cons, List.length_nil, List.length_take, List.length_drop, List.length_replicate, List.length_set, toS_length]; omega)) (by first | omega | (simp only [List.length_append, List.length_cons, List.length_nil, List.length_take, List.length_drop, List.length_replicate, List.length_set, toS_length]; omega)) (Nat.le_refl _) (fun _ _ h => h) (fun _ _ h => h) ?_)
   intro A126 c127 w128 hO129 hE130 hrg131
   have hE130z := hE130.size
   exact ⟨Chg.of_ex hE130, A126, c127, rfl, OwnL.more (lo' := w107.heap.size) (hi' := w128.heap.size) hO129 (by omega) (by omega)⟩
  ·intro L133 w134 G132 hgk135
   have hE136 := hgk135.st.ex.ex (fun b h => h.elim (fun h => h.elim) (fun h => h))
   have hE136z := Ex.size hE136
   obtain ⟨_, hx137, A43_138, c44_139, rfl, h140⟩ := hgk135.val 7 19 rfl rfl
   have hr141 := hgk135.st.rng 7 (hgk135.has 7 rfl)
   exact OpR.op' rfl (Yl.sameG (yl_build (cs := [.slice A43_138 ((([(p_w.Key.drop 2)] : List Str) ++ (s_l1Split p_w.Val 44)).length) c44_139]) rfl (opvs_cons hx137 opvs_nil) (by kernel_rfl) ⟨fun _ _ => ⟨A43_138, c44_139, rfl, (OwnL.more (lo' := (G132.fl 7)) (hi' := (G132.fh 7)) h140 (by omega) (by omega))⟩, rfl⟩))
  ·intro L143 w144 G142 hgk145
   have hE146 := hgk145.st.ex.ex (fun b h => h.elim (fun h => h.elim) (fun h => h))
   have hE146z := Ex.size hE146
   refine OpR.op' rfl (yl_alloc Tryz.ty80 (cs := [.slice none 0 0]) rfl rfl ?_)
   intro b147 w148 hs149 hz150 hB151 hE152
   subst hs149
   exact ⟨Chg.of_ex hE152, rfl, hB151, by rw [Gh.sfl, Gh.sfh]; omega⟩
  ·intro G153 L154 w155 hgp156
   have hE157 := hgp156.st.ex.ex (fun b h => h.elim (fun h => h.elim) (fun h => h))
   have hE157z := Ex.size hE157
   obtain ⟨_, hx161, A42_162, c42_163, lo42_164, hi42_165, rfl, h166, hrn167⟩ := hgp156.val 6 18 rfl rfl
   obtain ⟨_, hx168, A43_169, c44_170, rfl, h171⟩ := hgp156.val 7 19 rfl rfl
   obtain ⟨_, hx172, A43_173, c44_174, rfl, h175⟩ := hgp156.val 8 20 rfl rfl
   obtain ⟨_, hx176, rfl, h177, he178⟩ := hgp156.val 9 6 rfl rfl
   have hr179 := hgp156.st.rng 6 (hgp156.has 6 rfl)
   have hr180 := hgp156.st.rng 7 (hgp156.has 7 rfl)
   have hr181 := hgp156.st.rng 8 (hgp156.has 8 rfl)
   have hr182 := hgp156.st.rng 9 (hgp156.has 9 rfl)
   have hsp183 := hgp156.st.ord 7 6 (hgp156.has 7 rfl) rfl
   have hsp184 := hgp156.st.ord 8 6 (hgp156.has 8 rfl) rfl
   have hsp185 := hgp156.st.sep 6 9 (hgp156.has 6 rfl) (hgp156.has 9 rfl) rfl
   have hsp186 := hgp156.st.ord 8 7 (hgp156.has 8 rfl) rfl
   have hsp187 := hgp156.st.sep 7 9 (hgp156.has 7 rfl) (hgp156.has 9 rfl) rfl
   have hsp188 := hgp156.st.sep 8 9 (hgp156.has 8 rfl) (hgp156.has 9 rfl) rfl
   refine SeqR.u rfl rfl (yl_store (vs := [.slice A43_173 ((([(p_w.Key.drop 2)] : List Str) ++ (s_l1Split p_w.Val 44)).length) c44_174]) Tryz.ty80 rfl hx176 hx172 rfl rfl rfl h177 (Nat.le_of_ble_eq_true rfl) ?_)
   intro w189 hB190 hO191
   have hB190 : Box w189 (G153.fl 9) 80 [.slice A43_173 ((([(p_w.Key.drop 2)] : List Str) ++ (s_l1Split p_w.Val 44)).length) c44_174] := hB190
   have hO191z := hO191.size
   refine SeqR.done (tn (CW.sub (Sub.cons (d := 2) (hgp156.old 2 _ rfl rfl) (Sub.cons (d := 3) (hgp156.old 3 _ rfl rfl) (Sub.cons (d := 4) (hgp156.old 4 _ rfl rfl) (Sub.cons (d := 6) hx176 (Sub.nil _))))) (CW.seq ?_)))
   have hol208 : (s_l1Split p_w.Val 44).length ≤ 2147483648 := (okL_l1Split o4.2).1
   refine bcase (s_l25Good p_t (⟨(([(p_w.Key.drop 2)] : List Str) ++ (s_l1Split p_w.Val 44))⟩ : DRow)) (fun hb210 => ?_) (fun hb210 => ?_)
   ·obtain ⟨hb210p0, hb210p1⟩ := f_s_l25Good hb210
    have q214 := Box.only (Box.ex (Box.ex (Box.ex hB14 hE21) hE27) hE157) hO191 (by omega)
    have q219 := RdS.only good_Str (RdS.ex good_Str (RdS.ex good_Str (RdS.ex good_Str (RdS.ex good_Str h1 hE15) hE21) hE27) hE157) hO191 (by simp only [Iv]; omega)
    have q224 := RdS.only good_Idx (RdS.ex good_Idx (RdS.ex good_Idx (RdS.ex good_Idx (RdS.ex good_Idx h2 hE15) hE21) hE27) hE157) hO191 (by simp only [Iv]; omega)
    have q226 := OwnL.only good_Str h175 hO191 (by omega)
    have hol227 : (s_l1Split p_w.Val 44).length ≤ 2147483648 := (okL_l1Split o4.2).1
    have hol230 : (s_l1Split p_w.Val 44).length ≤ 2147483648 := (okL_l1Split o4.2).1
    have q233 := Box.only (Box.ex q28 hE157) hO191 (by omega)
    refine CW.drawsG 13 (fun G b => G.dn 11 = true ∧ InR [(b22, b22 + 1)] b) (fun i G b => (i = 11 ∧ b22 ≤ b ∧ b < b22 + 1)) (vgetG [DetG (.agg #[.slice A43_173 ((([(p_w.Key.drop 2)] : List Str) ++ (s_l1Split p_w.Val 44)).length) c44_174]), DetG (.agg #[.string (bs (p_t.Name)), .slice A1 p_t.Cols.length c1, .slice A2 p_t.Idxs.length c2]), DetG (.agg #[.slice A43_173 ((([(p_w.Key.drop 2)] : List Str) ++ (s_l1Split p_w.Val 44)).length) c44_174]), DetG (.bool ((s_l25Good p_t (⟨(([(p_w.Key.drop 2)] : List Str) ++ (s_l1Split p_w.Val 44))⟩ : DRow)))), DetG (.bool ((s_l25Good p_t (⟨(([(p_w.Key.drop 2)] : List Str) ++ (s_l1Split p_w.Val 44))⟩ : DRow)))), DetG (.agg #[.string (bs (p_t.Name)), .slice A1 p_t.Cols.length c1, .slice A2 p_t.Idxs.length c2]), DetG (.agg #[.slice A43_173 ((([(p_w.Key.drop 2)] : List Str) ++ (s_l1Split p_w.Val 44)).length) c44_174]), DetG (.agg #[.string (bs ((s_l25Write p_t (⟨(([(p_w.Key.drop 2)] : List Str) ++ (s_l1Split p_w.Val 44))⟩ : DRow)).Key)), .string (bs ((s_l25Write p_t (⟨(([(p_w.Key.drop 2)] : List Str) ++ (s_l1Split p_w.Val 44))⟩ : DRow)).Val)), .bool ((s_l25Write p_t (⟨(([(p_w.Key.drop 2)] : List Str) ++ (s_l1Split p_w.Val 44))⟩ : DRow)).Gone)]), DetG (.agg #[.string (bs (p_w.Key)), .string (bs (p_w.Val)), .bool (p_w.Gone)]), DetG (.bool (((((s_l25Write p_t (⟨(([(p_w.Key.drop 2)] : List Str) ++ (s_l1Split p_w.Val 44))⟩ : DRow)).Key) == p_w.Key) && ((((s_l25Write p_t (⟨(([(p_w.Key.drop 2)] : List Str) ++ (s_l1Split p_w.Val 44))⟩ : DRow)).Val) == p_w.Val) && (((s_l25Write p_t (⟨(([(p_w.Key.drop 2)] : List Str) ++ (s_l1Split p_w.Val 44))⟩ : DRow)).Gone) == p_w.Gone))))), DetG (.bool (((((s_l25Write p_t (⟨(([(p_w.Key.drop 2)] : List Str) ++ (s_l1Split p_w.Val 44))⟩ : DRow)).Key) == p_w.Key) && ((((s_l25Write p_t (⟨(([(p_w.Key.drop 2)] : List Str) ++ (s_l1Split p_w.Val 44))⟩ : DRow)).Val) == p_w.Val) && (((s_l25Write p_t (⟨(([(p_w.Key.drop 2)] : List Str) ++ (s_l1Split p_w.Val 44))⟩ : DRow)).Gone) == p_w.Gone))))), fun G v wq => Box wq b22 80 [.slice A43_173 ((([(p_w.Key.drop 2)] : List Str) ++ (s_l1Split p_w.Val 44)).length) c44_174], DetG (.bool (((((s_l25Write p_t (⟨(([(p_w.Key.drop 2)] : List Str) ++ (s_l1Split p_w.Val 44))⟩ : DRow)).Key) == p_w.Key) && ((((s_l25Write p_t (⟨(([(p_w.Key.drop 2)] : List Str) ++ (s_l1Split p_w.Val 44))⟩ : DRow)).Val) == p_w.Val) && (((s_l25Write p_t (⟨(([(p_w.Key.drop 2)] : List Str) ++ (s_l1Split p_w.Val 44))⟩ : DRow)).Gone) == p_w.Gone)))))]) Tryz.follows rfl rfl rfl rfl rfl rfl (fun _ _ _ _ _ h => ⟨Gh.udn h.1, h.2⟩) (fun i G w lo hi b K hn hh hp => by exact (match hp with | ⟨e, q1, q2⟩ => by subst e; exact .inl ⟨Gh.sdn, .inl ⟨q1, q2⟩⟩)) (vgetG_kept ⟨(KeptG.det _), (KeptG.det _), (KeptG.det _), (KeptG.det _), (KeptG.det _), (KeptG.det _), (KeptG.det _), (KeptG.det _), (KeptG.det _), (KeptG.det _), (KeptG.det _), (by rintro i G v w w' K hn hh hj h0 e; exact (by exact Box.chg h0 e (fun hp => by obtain ⟨rfl, q1, q2⟩ := hp; rw [hj] at hn; cases hn))), (KeptG.det _), trivial⟩) ⟨?_, ?_, ?_, ?_, ?_, ?_, ?_, ?_, ?_, ?_, ?_, ?_, ?_, trivial⟩ ?_
    ·intro L236 w237 G235 hgk238
     have hE239 : Chg (fun b => InR [(b22, b22 + 1)] b ∨ w189.heap.size ≤ b) w189 w237 := hgk238.st.ex.imp (fun b _ h => h.imp (fun h => h.2) (fun h => h))
     have hE239z := Chg.size hE239
     exact OpR.op' rfl (Yl.sameG (yl_loadN (cs := [.slice A43_173 ((([(p_w.Key.drop 2)] : List Str) ++ (s_l1Split p_w.Val 44)).length) c44_174]) Tryz.ty80 rfl (hgk238.old 6 _ rfl rfl) ((Box.chg hB190 hE239 (by have := Box.lt hB190; simp only [InR, or_false]; omega)).cells (n := 1) rfl) rfl kI))
    ·intro L243 w244 G242 hgk245
     have hE246 : Chg (fun b => InR [(b22, b22 + 1)] b ∨ w189.heap.size ≤ b) w189 w244 := hgk245.st.ex.imp (fun b _ h => h.imp (fun h => h.2) (fun h => h))
     have hE246z := Chg.size hE246
     exact OpR.op' rfl (Yl.sameG (yl_loadN (cs := [.string (bs (p_t.Name)), .slice A1 p_t.Cols.length c1, .slice A2 p_t.Idxs.length c2]) Tryz.ty34 rfl (hgk245.old 2 _ rfl rfl) ((Box.chg q214 hE246 (by have := Box.lt q214; simp only [InR, or_false]; omega)).cells (n := 3) rfl) rfl kI))
    ·intro L250 w251 G249 hgk252
     have hE253 : Chg (fun b => InR [(b22, b22 + 1)] b ∨ w189.heap.size ≤ b) w189 w251 := hgk252.st.ex.imp (fun b _ h => h.imp (fun h => h.2) (fun h => h))
     have hE253z := Chg.size hE253
     exact OpR.op' rfl (Yl.sameG (yl_loadN (cs := [.slice A43_173 ((([(p_w.Key.drop 2)] : List Str) ++ (s_l1Split p_w.Val 44)).length) c44_174]) Tryz.ty80 rfl (hgk252.old 6 _ rfl rfl) ((Box.chg hB190 hE253 (by have := Box.lt hB190; simp only [InR, or_false]; omega)).cells (n := 1) rfl) rfl kI))
    ·intro L257 w258 G256 hgk259
     have hE260 : Chg (fun b => InR [(b22, b22 + 1)] b ∨ w189.heap.size ≤ b) w189 w258 := hgk259.st.ex.imp (fun b _ h => h.imp (fun h => h.2) (fun h => h))
     have hE260z := Chg.size hE260
     obtain ⟨_, hx261, rfl⟩ := hgk259.val 1 22 rfl rfl
     obtain ⟨_, hx262, rfl⟩ := hgk259.val 2 23 rfl rfl
     have hol267 : (s_l1Split p_w.Val 44).length ≤ 2147483648 := (okL_l1Split o4.2).1
     refine OpR.op' rfl (yl_call Tryz.en96 rfl (opvs_cons hx261 (opvs_cons hx262 opvs_nil)) (Cal.mono (c_s_l25Good p_t (⟨(([(p_w.Key.drop 2)] : List Str) ++ (s_l1Split p_w.Val 44))⟩ : DRow) (RdS.up (RdS.chg good_Str q219 hE260 (fun k hl hk => by simp only [InR, or_false, Iv, Ge] at hk ⊢; omega)) good_Str) (RdS.up (RdS.chg good_Idx q224 hE260 (fun k hl hk => by simp only [InR, or_false, Iv, Ge] at hk ⊢; omega)) good_Idx) (RdS.up (OwnL.rd good_Str (OwnL.chg good_Str q226 hE260 (fun k hl hk => by simp only [InR, or_false] at hk; omega))) good_Str) o3 (okL.mk (xs := (([(p_w.Key.drop 2)] : List Str) ++ (s_l1Split p_w.Val 44))) (by first | omega | (simp only [List.length_append, List.length_cons, List.length_nil, List.length_take, List.length_drop, List.length_replicate, List.length_set, toS_length]; omega)) (okE.append ((okL.mk (Nat.le_of_ble_eq_true rfl) (okE.cons (okS.drop o4.1 _) okE.nil))).2 ((okL_l1Split o4.2)).2))) ?_))
     rintro v269 w268 ⟨rfl, hE270⟩
     exact ⟨Chg.of_ex hE270, rfl⟩
    ·intro L272 w273 G271 hgk274
     have hE275 : Chg (fun b => InR [(b22, b22 + 1)] b ∨ w189.heap.size ≤ b) w189 w273 := hgk274.st.ex.imp (fun b _ h => h.imp (fun h => h.2) (fun h => h))
     have hE275z := Chg.size hE275
     obtain ⟨_, hx276, rfl⟩ := hgk274.val 3 24 rfl rfl
     exact OpR.op' rfl (Yl.sameG (yl_move rfl hx276 kI))
    ·intro L278 w279 G277 hgk280
     have hE281 : Chg (fun b => InR [(b22, b22 + 1)] b ∨ w189.heap.size ≤ b) w189 w279 := hgk280.st.ex.imp (fun b _ h => h.imp (fun h => h.2) (fun h => h))
     have hE281z := Chg.size hE281
     obtain ⟨_, hx282, rfl⟩ := hgk280.val 4 25 rfl rfl
     exact OpR.want rfl rfl hx282 hb210 (Yl.sameG (yl_loadN (cs := [.string (bs (p_t.Name)), .slice A1 p_t.Cols.length c1, .slice A2 p_t.Idxs.length c2]) Tryz.ty34 rfl (hgk280.old 2 _ rfl rfl) ((Box.chg q214 hE281 (by have := Box.lt q214; simp only [InR, or_false]; omega)).cells (n := 3) rfl) rfl kI))
    ·intro L286 w287 G285 hgk288
     have hE289 : Chg (fun b => InR [(b22, b22 + 1)] b ∨ w189.heap.size ≤ b) w189 w287 := hgk288.st.ex.imp (fun b _ h => h.imp (fun h => h.2) (fun h => h))
     have hE289z := Chg.size hE289
     obtain ⟨_, hx290, rfl⟩ := hgk288.val 4 25 rfl rfl
     exact OpR.want rfl rfl hx290 hb210 (Yl.sameG (yl_loadN (cs := [.slice A43_173 ((([(p_w.Key.drop 2)] : List Str) ++ (s_l1Split p_w.Val 44)).length) c44_174]) Tryz.ty80 rfl (hgk288.old 6 _ rfl rfl) ((Box.chg hB190 hE289 (by have := Box.lt hB190; simp only [InR, or_false]; omega)).cells (n := 1) rfl) rfl kI))
    ·intro L294 w295 G293 hgk296
     have hE297 : Chg (fun b => InR [(b22, b22 + 1)] b ∨ w189.heap.size ≤ b) w189 w295 := hgk296.st.ex.imp (fun b _ h => h.imp (fun h => h.2) (fun h => h))
     have hE297z := Chg.size hE297
     obtain ⟨_, hx298, rfl⟩ := hgk296.val 4 25 rfl rfl
     obtain ⟨_, hx299, rfl⟩ := hgk296.val 5 26 rfl rfl
     obtain ⟨_, hx300, rfl⟩ := hgk296.val 6 27 rfl rfl
     have hol305 : (s_l1Split p_w.Val 44).length ≤ 2147483648 := (okL_l1Split o4.2).1
     refine OpR.want rfl rfl hx298 hb210 (yl_call Tryz.en78 rfl (opvs_cons hx299 (opvs_cons hx300 opvs_nil)) (Cal.mono (c_s_l25Write p_t (⟨(([(p_w.Key.drop 2)] : List Str) ++ (s_l1Split p_w.Val 44))⟩ : DRow) (RdS.up (RdS.chg good_Str q219 hE297 (fun k hl hk => by simp only [InR, or_false, Iv, Ge] at hk ⊢; omega)) good_Str) (RdS.up (RdS.chg good_Idx q224 hE297 (fun k hl hk => by simp only [InR, or_false, Iv, Ge] at hk ⊢; omega)) good_Idx) (RdS.up (OwnL.rd good_Str (OwnL.chg good_Str q226 hE297 (fun k hl hk => by simp only [InR, or_false] at hk; omega))) good_Str) o3 (okL.mk (xs := (([(p_w.Key.drop 2)] : List Str) ++ (s_l1Split p_w.Val 44))) (by first | omega | (simp only [List.length_append, List.length_cons, List.length_nil, List.length_take, List.length_drop, List.length_replicate, List.length_set, toS_length]; omega)) (okE.append ((okL.mk (Nat.le_of_ble_eq_true rfl) (okE.cons (okS.drop o4.1 _) okE.nil))).2 ((okL_l1Split o4.2)).2)) (by first | omega | assumption | (simp only [IntKind.wrap_i64] at *; omega) | (simp only [List.length_append, List.length_cons, List.length_nil]; omega))) ?_))
     rintro v307 w306 ⟨rfl, hE308⟩
     exact ⟨Chg.of_ex hE308, rfl⟩
    ·intro L310 w311 G309 hgk312
     have hE313 : Chg (fun b => InR [(b22, b22 + 1)] b ∨ w189.heap.size ≤ b) w189 w311 := hgk312.st.ex.imp (fun b _ h => h.imp (fun h => h.2) (fun h => h))
     have hE313z := Chg.size hE313
     obtain ⟨_, hx314, rfl⟩ := hgk312.val 4 25 rfl rfl
     exact OpR.want rfl rfl hx314 hb210 (Yl.sameG (yl_loadN (cs := [.string (bs (p_w.Key)), .string (bs (p_w.Val)), .bool (p_w.Gone)]) Tryz.ty75 rfl (hgk312.old 3 _ rfl rfl) ((Box.chg q233 hE313 (by have := Box.lt q233; simp only [InR, or_false]; omega)).cells (n := 3) rfl) rfl kI))
    ·intro L318 w319 G317 hgk320
     have hE321 : Chg (fun b => InR [(b22, b22 + 1)] b ∨ w189.heap.size ≤ b) w189 w319 := hgk320.st.ex.imp (fun b _ h => h.imp (fun h => h.2) (fun h => h))
     have hE321z := Chg.size hE321
     obtain ⟨_, hx322, rfl⟩ := hgk320.val 4 25 rfl rfl
     obtain ⟨_, hx323, rfl⟩ := hgk320.val 7 28 rfl rfl
     obtain ⟨_, hx324, rfl⟩ := hgk320.val 8 29 rfl rfl
     exact OpR.want rfl rfl hx322 hb210 (Yl.sameG (yl_aeql (xs := [.string (bs ((s_l25Write p_t (⟨(([(p_w.Key.drop 2)] : List Str) ++ (s_l1Split p_w.Val 44))⟩ : DRow)).Key)), .string (bs ((s_l25Write p_t (⟨(([(p_w.Key.drop 2)] : List Str) ++ (s_l1Split p_w.Val 44))⟩ : DRow)).Val)), .bool ((s_l25Write p_t (⟨(([(p_w.Key.drop 2)] : List Str) ++ (s_l1Split p_w.Val 44))⟩ : DRow)).Gone)]) (ys := [.string (bs (p_w.Key)), .string (bs (p_w.Val)), .bool (p_w.Gone)]) Tryz.ae75 rfl hx323 hx324 kI))
    ·intro L326 w327 G325 hgk328
     have hE329 : Chg (fun b => InR [(b22, b22 + 1)] b ∨ w189.heap.size ≤ b) w189 w327 := hgk328.st.ex.imp (fun b _ h => h.imp (fun h => h.2) (fun h => h))
     have hE329z := Chg.size hE329
     obtain ⟨_, hx330, rfl⟩ := hgk328.val 9 30 rfl rfl
     obtain ⟨_, hx331, rfl⟩ := hgk328.val 4 25 rfl rfl
     exact OpR.op' rfl (Yl.sameG (yl_pick_t rfl hx331 hb210 hx330 kI))
    ·intro L333 w334 G332 hgk335
     have hE336 := hgk335.st.ex.ex (fun b h => h.elim (fun h => (Bool.false_ne_true (hgk335.new.symm.trans h.1)).elim) (fun h => h))
     have hE336z := Ex.size hE336
     obtain ⟨_, hx338, rfl⟩ := hgk335.val 0 21 rfl rfl
     refine OpR.op' rfl (yl_store (vs := [.slice A43_173 ((([(p_w.Key.drop 2)] : List Str) ++ (s_l1Split p_w.Val 44)).length) c44_174]) Tryz.ty80 rfl (hgk335.old 4 _ rfl rfl) hx338 rfl rfl rfl (Box.ex (Box.only (Box.ex hB26 hE157) hO191 (by omega)) hE336) (Nat.le_of_ble_eq_true rfl) ?_)
     intro w342 hB343 hO344
     have hO344z := hO344.size
     exact ⟨Chg.of_only hO344 (⟨rfl, Nat.le_refl _, by omega⟩), hB343⟩
    ·intro L346 w347 G345 hgk348
     have hE349 : Chg (fun b => InR [(b22, b22 + 1)] b ∨ w189.heap.size ≤ b) w189 w347 := hgk348.st.ex.imp (fun b _ h => h.imp (fun h => h.2) (fun h => h))
     have hE349z := Chg.size hE349
     obtain ⟨_, hx350, rfl⟩ := hgk348.val 10 31 rfl rfl
     exact OpR.op' rfl (Yl.sameG (yl_assign rfl hx350 kI))
    ·intro G351 L352 w353 hgp354
     have hE355 : Chg (fun b => InR [(b22, b22 + 1)] b ∨ w189.heap.size ≤ b) w189 w353 := hgp354.st.ex.imp (fun b _ h => h.imp (fun h => h.2) (fun h => h))
     have hE355z := Chg.size hE355
     obtain ⟨_, h357⟩ := hgp354.fact 11 rfl
     obtain ⟨_, hx358, rfl⟩ := hgp354.val 12 5 rfl rfl
     have hr359 := hgp354.st.rng 11 (hgp354.has 11 rfl)
     refine SeqR.done (tn (CW.sub (Sub.cons (d := 4) (hgp354.old 4 _ rfl rfl) (Sub.cons (d := 5) hx358 (Sub.nil _))) (CW.ret (rr rfl (.cons ⟨_, rfl, run_loadN Tryz.ty80 (cs := [.slice A43_173 ((([(p_w.Key.drop 2)] : List Str) ++ (s_l1Split p_w.Val 44)).length) c44_174]) rfl (h357.cells (n := 1) rfl)⟩ (.cons rfl .nil)) ?_))))
     have hM360 : (s_l25Read p_t p_w) = (((⟨(([(p_w.Key.drop 2)] : List Str) ++ (s_l1Split p_w.Val 44))⟩ : DRow), ((((s_l25Write p_t (⟨(([(p_w.Key.drop 2)] : List Str) ++ (s_l1Split p_w.Val 44))⟩ : DRow)).Key) == p_w.Key) && ((((s_l25Write p_t (⟨(([(p_w.Key.drop 2)] : List Str) ++ (s_l1Split p_w.Val 44))⟩ : DRow)).Val) == p_w.Val) && (((s_l25Write p_t (⟨(([(p_w.Key.drop 2)] : List Str) ++ (s_l1Split p_w.Val 44))⟩ : DRow)).Gone) == p_w.Gone))))) := by simp only [s_l25Read, hb29, hb210, cond_true, cond_false, loopE_done, loopE_ret]
     have hol362 : (s_l1Split p_w.Val 44).length ≤ 2147483648 := (okL_l1Split o4.2).1
     rw [hM360]
     exact ⟨A43_173, c44_174, (G153.fl 7), (G153.fh 7), rfl, (OwnL.chg good_Str q226 hE355 (fun k hl hk => by simp only [InR, or_false] at hk; omega)), (okL.mk (xs := (([(p_w.Key.drop 2)] : List Str) ++ (s_l1Split p_w.Val 44))) (by first | omega | (simp only [List.length_append, List.length_cons, List.length_nil, List.length_take, List.length_drop, List.length_replicate, List.length_set, toS_length]; omega)) (okE.append ((okL.mk (Nat.le_of_ble_eq_true rfl) (okE.cons (okS.drop o4.1 _) okE.nil))).2 ((okL_l1Split o4.2)).2)), (by omega), (Ex.chg (Below.only (Ex.trans (Ex.trans (Ex.trans (Ex.trans (Ex.refl w) hE15) hE21) hE27) hE157) hO191 (by omega)) hE355 (fun k hk => by simp only [InR, or_false] at hk; omega))⟩
   ·have q372 := Box.only (Box.ex (Box.ex (Box.ex hB14 hE21) hE27) hE157) hO191 (by omega)
    have q384 := OwnL.only good_Str h175 hO191 (by omega)
    have hol385 : (s_l1Split p_w.Val 44).length ≤ 2147483648 := (okL_l1Split o4.2).1
    refine CW.drawsG 13 (fun G b => G.dn 11 = true ∧ InR [(b22, b22 + 1)] b) (fun i G b => (i = 11 ∧ b22 ≤ b ∧ b < b22 + 1)) (vgetG [DetG (.agg #[.slice A43_173 ((([(p_w.Key.drop 2)] : List Str) ++ (s_l1Split p_w.Val 44)).length) c44_174]), DetG (.agg #[.string (bs (p_t.Name)), .slice A1 p_t.Cols.length c1, .slice A2 p_t.Idxs.length c2]), DetG (.agg #[.slice A43_173 ((([(p_w.Key.drop 2)] : List Str) ++ (s_l1Split p_w.Val 44)).length) c44_174]), DetG (.bool ((s_l25Good p_t (⟨(([(p_w.Key.drop 2)] : List Str) ++ (s_l1Split p_w.Val 44))⟩ : DRow)))), DetG (.bool ((s_l25Good p_t (⟨(([(p_w.Key.drop 2)] : List Str) ++ (s_l1Split p_w.Val 44))⟩ : DRow)))), DetG (undef), DetG (undef), DetG (undef), DetG (undef), DetG (undef), DetG (.bool (false)), fun G v wq => Box wq b22 80 [.slice A43_173 ((([(p_w.Key.drop 2)] : List Str) ++ (s_l1Split p_w.Val 44)).length) c44_174], DetG (.bool (false))]) Tryz.follows rfl rfl rfl rfl rfl rfl (fun _ _ _ _ _ h => ⟨Gh.udn h.1, h.2⟩) (fun i G w lo hi b K hn hh hp => by exact (match hp with | ⟨e, q1, q2⟩ => by subst e; exact .inl ⟨Gh.sdn, .inl ⟨q1, q2⟩⟩)) (vgetG_kept ⟨(KeptG.det _), (KeptG.det _), (KeptG.det _), (KeptG.det _), (KeptG.det _), (KeptG.det _), (KeptG.det _), (KeptG.det _), (KeptG.det _), (KeptG.det _), (KeptG.det _), (by rintro i G v w w' K hn hh hj h0 e; exact (by exact Box.chg h0 e (fun hp => by obtain ⟨rfl, q1, q2⟩ := hp; rw [hj] at hn; cases hn))), (KeptG.det _), trivial⟩) ⟨?_, ?_, ?_, ?_, ?_, ?_, ?_, ?_, ?_, ?_, ?_, ?_, ?_, trivial⟩ ?_
    ·intro L389 w390 G388 hgk391
     have hE392 : Chg (fun b => InR [(b22, b22 + 1)] b ∨ w189.heap.size ≤ b) w189 w390 := hgk391.st.ex.imp (fun b _ h => h.imp (fun h => h.2) (fun h => h))
     have hE392z := Chg.size hE392
     exact OpR.op' rfl (Yl.sameG (yl_loadN (cs := [.slice A43_173 ((([(p_w.Key.drop 2)] : List Str) ++ (s_l1Split p_w.Val 44)).length) c44_174]) Tryz.ty80 rfl (hgk391.old 6 _ rfl rfl) ((Box.chg hB190 hE392 (by have := Box.lt hB190; simp only [InR, or_false]; omega)).cells (n := 1) rfl) rfl kI))
    ·intro L396 w397 G395 hgk398
     have hE399 : Chg (fun b => InR [(b22, b22 + 1)] b ∨ w189.heap.size ≤ b) w189 w397 := hgk398.st.ex.imp (fun b _ h => h.imp (fun h => h.2) (fun h => h))
     have hE399z := Chg.size hE399
     exact OpR.op' rfl (Yl.sameG (yl_loadN (cs := [.string (bs (p_t.Name)), .slice A1 p_t.Cols.length c1, .slice A2 p_t.Idxs.length c2]) Tryz.ty34 rfl (hgk398.old 2 _ rfl rfl) ((Box.chg q372 hE399 (by have := Box.lt q372; simp only [InR, or_false]; omega)).cells (n := 3) rfl) rfl kI))
    ·intro L403 w404 G402 hgk405
     have hE406 : Chg (fun b => InR [(b22, b22 + 1)] b ∨ w189.heap.size ≤ b) w189 w404 := hgk405.st.ex.imp (fun b _ h => h.imp (fun h => h.2) (fun h => h))
     have hE406z := Chg.size hE406
     exact OpR.op' rfl (Yl.sameG (yl_loadN (cs := [.slice A43_173 ((([(p_w.Key.drop 2)] : List Str) ++ (s_l1Split p_w.Val 44)).length) c44_174]) Tryz.ty80 rfl (hgk405.old 6 _ rfl rfl) ((Box.chg hB190 hE406 (by have := Box.lt hB190; simp only [InR, or_false]; omega)).cells (n := 1) rfl) rfl kI))
    ·intro L410 w411 G409 hgk412
     have hE413 : Chg (fun b => InR [(b22, b22 + 1)] b ∨ w189.heap.size ≤ b) w189 w411 := hgk412.st.ex.imp (fun b _ h => h.imp (fun h => h.2) (fun h => h))
     have hE413z := Chg.size hE413
     obtain ⟨_, hx414, rfl⟩ := hgk412.val 1 22 rfl rfl
     obtain ⟨_, hx415, rfl⟩ := hgk412.val 2 23 rfl rfl
     have hol420 : (s_l1Split p_w.Val 44).length ≤ 2147483648 := (okL_l1Split o4.2).1
     refine OpR.op' rfl (yl_call Tryz.en96 rfl (opvs_cons hx414 (opvs_cons hx415 opvs_nil)) (Cal.mono (c_s_l25Good p_t (⟨(([(p_w.Key.drop 2)] : List Str) ++ (s_l1Split p_w.Val 44))⟩ : DRow) (RdS.up (RdS.chg good_Str (RdS.only good_Str (RdS.ex good_Str (RdS.ex good_Str (RdS.ex good_Str (RdS.ex good_Str h1 hE15) hE21) hE27) hE157) hO191 (by simp only [Iv]; omega)) hE413 (fun k hl hk => by simp only [InR, or_false, Iv, Ge] at hk ⊢; omega)) good_Str) (RdS.up (RdS.chg good_Idx (RdS.only good_Idx (RdS.ex good_Idx (RdS.ex good_Idx (RdS.ex good_Idx (RdS.ex good_Idx h2 hE15) hE21) hE27) hE157) hO191 (by simp only [Iv]; omega)) hE413 (fun k hl hk => by simp only [InR, or_false, Iv, Ge] at hk ⊢; omega)) good_Idx) (RdS.up (OwnL.rd good_Str (OwnL.chg good_Str q384 hE413 (fun k hl hk => by simp only [InR, or_false] at hk; omega))) good_Str) o3 (okL.mk (xs := (([(p_w.Key.drop 2)] : List Str) ++ (s_l1Split p_w.Val 44))) (by first | omega | (simp only [List.length_append, List.length_cons, List.length_nil, List.length_take, List.length_drop, List.length_replicate, List.length_set, toS_length]; omega)) (okE.append ((okL.mk (Nat.le_of_ble_eq_true rfl) (okE.cons (okS.drop o4.1 _) okE.nil))).2 ((okL_l1Split o4.2)).2))) ?_))
     rintro v422 w421 ⟨rfl, hE423⟩
     exact ⟨Chg.of_ex hE423, rfl⟩
    ·intro L425 w426 G424 hgk427
     have hE428 : Chg (fun b => InR [(b22, b22 + 1)] b ∨ w189.heap.size ≤ b) w189 w426 := hgk427.st.ex.imp (fun b _ h => h.imp (fun h => h.2) (fun h => h))
     have hE428z := Chg.size hE428
     obtain ⟨_, hx429, rfl⟩ := hgk427.val 3 24 rfl rfl
     exact OpR.op' rfl (Yl.sameG (yl_move rfl hx429 kI))
    ·intro L431 w432 G430 hgk433
     have hE434 : Chg (fun b => InR [(b22, b22 + 1)] b ∨ w189.heap.size ≤ b) w189 w432 := hgk433.st.ex.imp (fun b _ h => h.imp (fun h => h.2) (fun h => h))
     have hE434z := Chg.size hE434
     obtain ⟨_, hx435, rfl⟩ := hgk433.val 4 25 rfl rfl
     exact OpR.skip rfl rfl hx435 hb210 ⟨Chg.refl _ _, rfl⟩
    ·intro L437 w438 G436 hgk439
     have hE440 : Chg (fun b => InR [(b22, b22 + 1)] b ∨ w189.heap.size ≤ b) w189 w438 := hgk439.st.ex.imp (fun b _ h => h.imp (fun h => h.2) (fun h => h))
     have hE440z := Chg.size hE440
     obtain ⟨_, hx441, rfl⟩ := hgk439.val 4 25 rfl rfl
     exact OpR.skip rfl rfl hx441 hb210 ⟨Chg.refl _ _, rfl⟩
    ·intro L443 w444 G442 hgk445
     have hE446 : Chg (fun b => InR [(b22, b22 + 1)] b ∨ w189.heap.size ≤ b) w189 w444 := hgk445.st.ex.imp (fun b _ h => h.imp (fun h => h.2) (fun h => h))
     have hE446z := Chg.size hE446
     obtain ⟨_, hx447, rfl⟩ := hgk445.val 4 25 rfl rfl
     exact OpR.skip rfl rfl hx447 hb210 ⟨Chg.refl _ _, rfl⟩
    ·intro L449 w450 G448 hgk451
     have hE452 : Chg (fun b => InR [(b22, b22 + 1)] b ∨ w189.heap.size ≤ b) w189 w450 := hgk451.st.ex.imp (fun b _ h => h.imp (fun h => h.2) (fun h => h))
     have hE452z := Chg.size hE452
     obtain ⟨_, hx453, rfl⟩ := hgk451.val 4 25 rfl rfl
     exact OpR.skip rfl rfl hx453 hb210 ⟨Chg.refl _ _, rfl⟩
    ·intro L455 w456 G454 hgk457
     have hE458 : Chg (fun b => InR [(b22, b22 + 1)] b ∨ w189.heap.size ≤ b) w189 w456 := hgk457.st.ex.imp (fun b _ h => h.imp (fun h => h.2) (fun h => h))
     have hE458z := Chg.size hE458
     obtain ⟨_, hx459, rfl⟩ := hgk457.val 4 25 rfl rfl
     exact OpR.skip rfl rfl hx459 hb210 ⟨Chg.refl _ _, rfl⟩
    ·intro L461 w462 G460 hgk463
     have hE464 : Chg (fun b => InR [(b22, b22 + 1)] b ∨ w189.heap.size ≤ b) w189 w462 := hgk463.st.ex.imp (fun b _ h => h.imp (fun h => h.2) (fun h => h))
     have hE464z := Chg.size hE464
     obtain ⟨_, hx465, rfl⟩ := hgk463.val 9 30 rfl rfl
     obtain ⟨_, hx466, rfl⟩ := hgk463.val 4 25 rfl rfl
     exact OpR.op' rfl (Yl.sameG (yl_pick_f rfl hx466 hb210 rfl kI))
    ·intro L468 w469 G467 hgk470
     have hE471 := hgk470.st.ex.ex (fun b h => h.elim (fun h => (Bool.false_ne_true (hgk470.new.symm.trans h.1)).elim) (fun h => h))
     have hE471z := Ex.size hE471
     obtain ⟨_, hx473, rfl⟩ := hgk470.val 0 21 rfl rfl
     refine OpR.op' rfl (yl_store (vs := [.slice A43_173 ((([(p_w.Key.drop 2)] : List Str) ++ (s_l1Split p_w.Val 44)).length) c44_174]) Tryz.ty80 rfl (hgk470.old 4 _ rfl rfl) hx473 rfl rfl rfl (Box.ex (Box.only (Box.ex hB26 hE157) hO191 (by omega)) hE471) (Nat.le_of_ble_eq_true rfl) ?_)
     intro w477 hB478 hO479
     have hO479z := hO479.size
     exact ⟨Chg.of_only hO479 (⟨rfl, Nat.le_refl _, by omega⟩), hB478⟩
    ·intro L481 w482 G480 hgk483
     have hE484 : Chg (fun b => InR [(b22, b22 + 1)] b ∨ w189.heap.size ≤ b) w189 w482 := hgk483.st.ex.imp (fun b _ h => h.imp (fun h => h.2) (fun h => h))
     have hE484z := Chg.size hE484
     obtain ⟨_, hx485, rfl⟩ := hgk483.val 10 31 rfl rfl
     exact OpR.op' rfl (Yl.sameG (yl_assign rfl hx485 kI))
    ·intro G486 L487 w488 hgp489
     have hE490 : Chg (fun b => InR [(b22, b22 + 1)] b ∨ w189.heap.size ≤ b) w189 w488 := hgp489.st.ex.imp (fun b _ h => h.imp (fun h => h.2) (fun h => h))
     have hE490z := Chg.size hE490
     obtain ⟨_, h492⟩ := hgp489.fact 11 rfl
     obtain ⟨_, hx493, rfl⟩ := hgp489.val 12 5 rfl rfl
     have hr494 := hgp489.st.rng 11 (hgp489.has 11 rfl)
     refine SeqR.done (tn (CW.sub (Sub.cons (d := 4) (hgp489.old 4 _ rfl rfl) (Sub.cons (d := 5) hx493 (Sub.nil _))) (CW.ret (rr rfl (.cons ⟨_, rfl, run_loadN Tryz.ty80 (cs := [.slice A43_173 ((([(p_w.Key.drop 2)] : List Str) ++ (s_l1Split p_w.Val 44)).length) c44_174]) rfl (h492.cells (n := 1) rfl)⟩ (.cons rfl .nil)) ?_))))
     have hM495 : (s_l25Read p_t p_w) = (((⟨(([(p_w.Key.drop 2)] : List Str) ++ (s_l1Split p_w.Val 44))⟩ : DRow), false)) := by simp only [s_l25Read, hb29, hb210, cond_true, cond_false, loopE_done, loopE_ret]
     have hol497 : (s_l1Split p_w.Val 44).length ≤ 2147483648 := (okL_l1Split o4.2).1
     rw [hM495]
     exact ⟨A43_173, c44_174, (G153.fl 7), (G153.fh 7), rfl, (OwnL.chg good_Str q384 hE490 (fun k hl hk => by simp only [InR, or_false] at hk; omega)), (okL.mk (xs := (([(p_w.Key.drop 2)] : List Str) ++ (s_l1Split p_w.Val 44))) (by first | omega | (simp only [List.length_append, List.length_cons, List.length_nil, List.length_take, List.length_drop, List.length_replicate, List.length_set, toS_length]; omega)) (okE.append ((okL.mk (Nat.le_of_ble_eq_true rfl) (okE.cons (okS.drop o4.1 _) okE.nil))).2 ((okL_l1Split o4.2)).2)), (by omega), (Ex.chg (Below.only (Ex.trans (Ex.trans (Ex.trans (Ex.trans (Ex.refl w) hE15) hE21) hE27) hE157) hO191 (by omega)) hE490 (fun k hk => by simp only [InR, or_false] at hk; omega))⟩
set_option maxRecDepth 100000 in
set_option maxHeartbeats 2000000 in
theorem c_s_l25Rows {A1 : Option Addr} {c1 : Nat} {A2 : Option Addr} {c2 : Nat} {A4 : Option Addr} {c4 : Nat} {w : World} (p_t : DTable) (p_store : List DWrite) (h1 : RdS w (Iv 0 w.heap.size) (RF e_Str) 1 A1 p_t.Cols.length c1 p_t.Cols) (h2 : RdS w (Iv 0 w.heap.size) (RF e_Idx) 3 A2 p_t.Idxs.length c2 p_t.Idxs) (h4 : RdS w (Iv 0 w.heap.size) (RF e_Write) 3 A4 p_store.length c4 p_store) (o3 : ok_Table p_t) (o5 : (okL ok_Write) p_store) : Cal Tryz.prog 28 #[.agg #[.string (bs (p_t.Name)), .slice A1 p_t.Cols.length c1, .slice A2 p_t.Idxs.length c2], .slice A4 p_store.length c4] w fun v w' => ∃ A_1 c_1 lo_1 hi_1, v = .slice A_1 ((s_l25Rows p_t p_store).length) c_1 ∧ OwnD w' lo_1 hi_1 80 1 RO_Row A_1 ((s_l25Rows p_t p_store).length) c_1 (s_l25Rows p_t p_store) ∧ (okL ok_Row) (s_l25Rows p_t p_store) ∧ (w.heap.size ≤ lo_1 ∧ lo_1 ≤ hi_1 ∧ hi_1 ≤ w'.heap.size) ∧ Ex w w' := by
 have hol6 : p_t.Name.length ≤ 1073741824 := o3.1
 have hol7 := o3.2.1.1
 have hol8 := o3.2.2.1
 have hol9 := o5.1
 refine Cal.of (vs := [.agg #[.string (bs (p_t.Name)), .slice A1 p_t.Cols.length c1, .slice A2 p_t.Idxs.length c2], .slice A4 p_store.length c4]) Tryz.func28 rfl Tryz.ntmps28 rfl (CW.seq (CW.region (sd rfl (yl_box (cs := [.string (bs (p_t.Name)), .slice A1 p_t.Cols.length c1, .slice A2 p_t.Idxs.length c2]) rfl rfl rfl ?_))))
 intro b10 w11 hs12 hz13 hB14 hE15
 refine sd rfl (yl_assign rfl rfl (SeqR.done (tn (CW.seq (CW.region (sd rfl (yl_assign rfl rfl (SeqR.done (tn (CW.seq ?_))))))))))
 refine CW.seq (CW.region (sd rfl (yl_move rfl rfl (sd rfl (yl_len Tryz.un36 rfl rfl (sd rfl (yl_move rfl rfl (SeqR.done (tn (CW.block (CW.loop (fun m102 L103 w104 => ∃ (k16 : Nat) (x98 : List DRow) (A99 : Option Addr) (c100 : Nat) (u101 : Nat), m102 = p_store.length - k16 ∧ k16 ≤ p_store.length ∧ w11.heap.size ≤ w104.heap.size ∧ lkp L103 2 = some (.pointer (some ⟨b10, 0, none⟩)) ∧ lkp L103 5 = some (.slice A99 x98.length c100) ∧ lkp L103 10 = some (.slice A4 p_store.length c4) ∧ lkp L103 11 = some (.int .i64 ((p_store.length : Int))) ∧ lkp L103 12 = some (.int .i64 ((k16 : Int))) ∧ Box w104 b10 34 [.string (bs (p_t.Name)), .slice A1 p_t.Cols.length c1, .slice A2 p_t.Idxs.length c2] ∧ RdS w104 (Iv 0 w.heap.size) (RF e_Str) 1 A1 p_t.Cols.length c1 p_t.Cols ∧ RdS w104 (Iv 0 w.heap.size) (RF e_Idx) 3 A2 p_t.Idxs.length c2 p_t.Idxs ∧ OwnD w104 w11.heap.size u101 80 1 RO_Row A99 x98.length c100 x98 ∧ RdS w104 (Iv 0 w.heap.size) (RF e_Write) 3 A4 p_store.length c4 p_store ∧ Ex w w104 ∧ (w11.heap.size ≤ u101 ∧ u101 ≤ w104.heap.size) ∧ x98.length ≤ 0 + 1 * (k16 - 0) ∧ (∀ y ∈ x98, ok_Row y) ∧ loopM (B_s_l25Rows_0 p_t p_store) (p_store.length - k16) k16 (x98) = loopM (B_s_l25Rows_0 p_t p_store) (p_store.length - 0) 0 (([] : List DRow))) (p_store.length - 0) ?_ ?_)))))))))))
 ·exact ⟨0, ([] : List DRow), none, 0, w11.heap.size, rfl, (by omega), Nat.le_refl _, rfl, rfl, rfl, rfl, rfl, hB14, (RdS.ex good_Str h1 hE15), (RdS.ex good_Idx h2 hE15), (OwnD.nil w11 w11.heap.size w11.heap.size 80 1 RO_Row), (RdS.ex good_Write h4 hE15), (Ex.trans (Ex.refl w) hE15), (by omega), (by first | (simp; done) | (first | omega | (simp only [List.length_append, List.length_cons, List.length_nil, List.length_set, toS_length]; omega))), okE.nil, rfl⟩
 ·rintro m109 L110 w111 ⟨k16, x98, A99, c100, u101, rfl, hk112, hsz114, hl115, hl116, hl117, hl118, hl119, hf120, hf121, hf122, hf123, hf124, hf125, hu126, hln127, hok128, hI113⟩
  refine CW.sub (Sub.cons hl115 (Sub.cons hl116 (Sub.cons hl117 (Sub.cons hl118 (Sub.cons hl119 (Sub.nil _)))))) ?_
  have hf120z := Box.lt hf120
  have hf125z := Ex.size hf125
  have hbg129 := RdS.big hf124
  rcases Nat.lt_or_ge k16 p_store.length with hlt130 | hlt130
  ·refine CW.seq (CW.region (sd rfl (yl_lss rfl rfl rfl (SeqR.done (tn (CW.seq (CW.cond_t rfl (lt_t hlt130) (CW.skip (tn ?_)))))))))
   refine CW.seq (CW.block (CW.seq (CW.region ?_)))
   obtain ⟨eb131, eo131, ec131, eA131, eS131, ebl131, el131, eR131, eC131⟩ := RdS.atD hf124 d_Write (i := k16) (by first | omega | assumption)
   obtain rfl := eR131
   have eC131 : Cells w111 eb131 (eo131 + k16 * 3) [.string (bs ((p_store.getD k16 d_Write).Key)), .string (bs ((p_store.getD k16 d_Write).Val)), .bool ((p_store.getD k16 d_Write).Gone)] := eC131
   refine sd rfl (yl_indexAddrN Tryz.un36 Tryz.ty75 rfl rfl rfl eA131 (by first | omega | assumption | (simp only [IntKind.wrap_i64] at *; omega)) (sd rfl (yl_loadN (cs := [.string (bs ((p_store.getD k16 d_Write).Key)), .string (bs ((p_store.getD k16 d_Write).Val)), .bool ((p_store.getD k16 d_Write).Gone)]) Tryz.ty75 rfl rfl eC131 rfl (sd rfl (yl_alloc Tryz.ty75 (cs := [.string (bs (([] : Str))), .string (bs (([] : Str))), .bool (false)]) rfl rfl ?_)))))
   intro b132 w133 hs134 hz135 hB136 hE137
   refine SeqR.u rfl rfl (yl_store (vs := [.string (bs ((p_store.getD k16 d_Write).Key)), .string (bs ((p_store.getD k16 d_Write).Val)), .bool ((p_store.getD k16 d_Write).Gone)]) Tryz.ty75 rfl rfl rfl rfl rfl rfl hB136 (Nat.le_of_ble_eq_true rfl) ?_)
   intro w138 hB139 hO140
   have hB139 : Box w138 b132 75 [.string (bs ((p_store.getD k16 d_Write).Key)), .string (bs ((p_store.getD k16 d_Write).Val)), .bool ((p_store.getD k16 d_Write).Gone)] := hB139
   have hO140z := hO140.size
   refine SeqR.done (tn (CW.seq (CW.region ?_)))
   have q142 := Box.only (Box.ex hf120 hE137) hO140 (by omega)
   refine sd rfl (yl_loadN (cs := [.string (bs (p_t.Name)), .slice A1 p_t.Cols.length c1, .slice A2 p_t.Idxs.length c2]) Tryz.ty34 rfl rfl (q142.cells (n := 3) rfl) rfl (sd rfl (yl_loadN (cs := [.string (bs ((p_store.getD k16 d_Write).Key)), .string (bs ((p_store.getD k16 d_Write).Val)), .bool ((p_store.getD k16 d_Write).Gone)]) Tryz.ty75 rfl rfl (hB139.cells (n := 3) rfl) rfl ?_)))
   have q144 := RdS.only good_Str (RdS.ex good_Str hf121 hE137) hO140 (by simp only [Iv]; omega)
   have q146 := RdS.only good_Idx (RdS.ex good_Idx hf122 hE137) hO140 (by simp only [Iv]; omega)
   refine sd rfl (yl_call Tryz.en63 rfl (opvs_cons rfl (opvs_cons rfl opvs_nil)) (Cal.mono (c_s_l25Read p_t (p_store.getD k16 d_Write) (RdS.up q144 good_Str) (RdS.up q146 good_Idx) o3 (okL.getD o5 ok_d_Write _)) ?_))
   rintro v150 w147 ⟨A148, c148, lo148, hi148, rfl, h148, ho149, hrn152, hE151⟩
   have hE151z := Ex.size hE151
   refine sd rfl (yl_move rfl rfl (sd rfl (yl_extract rfl rfl rfl (sd rfl (yl_extract rfl rfl rfl (sd rfl (yl_alloc Tryz.ty80 (cs := [.slice none 0 0]) rfl rfl ?_)))))))
   intro b153 w154 hs155 hz156 hB157 hE158
   refine SeqR.u rfl rfl (yl_store (vs := [.slice A148 (((s_l25Read p_t (p_store.getD k16 d_Write)).1.Vals).length) c148]) Tryz.ty80 rfl rfl rfl rfl rfl rfl hB157 (Nat.le_of_ble_eq_true rfl) ?_)
   intro w159 hB160 hO161
   have hB160 : Box w159 b153 80 [.slice A148 (((s_l25Read p_t (p_store.getD k16 d_Write)).1.Vals).length) c148] := hB160
   have hO161z := hO161.size
   refine sd rfl (yl_assign rfl rfl (SeqR.done (tn (CW.seq (CW.region (sd rfl (yl_move rfl rfl (SeqR.done (tn (bcase ((s_l25Read p_t (p_store.getD k16 d_Write)).2) (fun hb162 => ?_) (fun hb162 => ?_)))))))))))
   ·refine CW.cond_t rfl hb162 (CW.region (sd rfl (yl_move rfl rfl (sd rfl (yl_loadN (cs := [.slice A148 (((s_l25Read p_t (p_store.getD k16 d_Write)).1.Vals).length) c148]) Tryz.ty80 rfl rfl (hB160.cells (n := 1) rfl) rfl (sd rfl (yl_buildSlice (cs := [.slice A148 (((s_l25Read p_t (p_store.getD k16 d_Write)).1.Vals).length) c148]) Tryz.un29 Tryz.ty80 (by decide) rfl (opvs_cons rfl opvs_nil) (by kernel_rfl) ?_)))))))
    intro b163 w164 hs165 hz166 hB167 hE168
    have hO169 : OwnD w164 w138.heap.size (b163 + 1) 80 1 RO_Row (some ⟨b163, 0, none⟩) 1 1 ([(s_l25Read p_t (p_store.getD k16 d_Write)).1] : List DRow) := OwnD.of_box (b := b163) (xs := ([(s_l25Read p_t (p_store.getD k16 d_Write)).1] : List DRow)) (cells := [[.slice A148 (((s_l25Read p_t (p_store.getD k16 d_Write)).1.Vals).length) c148]]) (by rw [List.flatten_singleton]; exact hB167) (by omega) (Nat.lt_succ_self _) (.cons (l := w138.heap.size) (h := b163) (Nat.le_refl _) (by omega) rfl (fun k hk => by cases hk; exact .inr (Nat.le_refl _)) (mkO_Row (l := w138.heap.size) (h := b163) (OwnL.ex good_Str (OwnL.only good_Str (OwnL.ex good_Str h148 hE158) hO161 (by omega)) hE168) (by omega)) (.nil (Nat.le_succ _))) (Nat.le_of_ble_eq_true rfl)
    refine sd rfl (yl_appendD (xs := x98) (ys := ([(s_l25Read p_t (p_store.getD k16 d_Write)).1] : List DRow)) goodO_Row Tryz.un29 Tryz.ty80 rfl (Nat.le_of_ble_eq_true rfl) rfl rfl rfl (OwnD.ex goodO_Row (OwnD.only goodO_Row (OwnD.ex goodO_Row (OwnD.ex goodO_Row (OwnD.only goodO_Row (OwnD.ex goodO_Row hf123 hE137) hO140 (by omega)) hE151) hE158) hO161 (by omega)) hE168) hO169 (by first | omega | (simp only [List.length_append, List.length_cons, List.length_nil, List.length_take, List.length_drop, List.length_replicate, List.length_set, toS_length]; omega)) (by first | omega | (simp only [List.length_append, List.length_cons, List.length_nil, List.length_take, List.length_drop, List.length_replicate, List.length_set, toS_length]; omega)) (by omega) (by omega) (by omega) (by omega) ?_)
    intro A178 c179 w180 row181 hO182 hG183 hrg184
    have hG183z := hG183.size
    refine sd rfl (yl_assign rfl rfl (SeqR.done (bn (tn (CW.region (sd rfl (yl_inc rfl rfl rfl (by omega) (sd rfl (yl_move rfl rfl (SeqR.done (tn ?_)))))))))))
    have hB185 : B_s_l25Rows_0 p_t p_store k16 (x98) = .cont ((x98 ++ ([(s_l25Read p_t (p_store.getD k16 d_Write)).1] : List DRow))) := by simp only [B_s_l25Rows_0, hb162, cond_true, cond_false, loopE_done, loopE_ret]
    exact ⟨p_store.length - (k16 + 1), by omega, k16 + 1, (x98 ++ ([(s_l25Read p_t (p_store.getD k16 d_Write)).1] : List DRow)), A178, c179, w180.heap.size, rfl, hlt130, (by omega), rfl, rfl, rfl, rfl, rfl, (Box.grown (Box.ex (Box.only (Box.ex (Box.ex q142 hE151) hE158) hO161 (by omega)) hE168) hG183 (fun k hk => by have := hrg184 k hk; omega)), (RdS.grown good_Str (RdS.ex good_Str (RdS.only good_Str (RdS.ex good_Str (RdS.ex good_Str q144 hE151) hE158) hO161 (by simp only [Iv]; omega)) hE168) hG183 (fun k hk => by have := hrg184 k hk; simp only [Iv]; omega)), (RdS.grown good_Idx (RdS.ex good_Idx (RdS.only good_Idx (RdS.ex good_Idx (RdS.ex good_Idx q146 hE151) hE158) hO161 (by simp only [Iv]; omega)) hE168) hG183 (fun k hk => by have := hrg184 k hk; simp only [Iv]; omega)), hO182, (RdS.grown good_Write (RdS.ex good_Write (RdS.only good_Write (RdS.ex good_Write (RdS.ex good_Write (RdS.only good_Write (RdS.ex good_Write hf124 hE137) hO140 (by simp only [Iv]; omega)) hE151) hE158) hO161 (by simp only [Iv]; omega)) hE168) hG183 (fun k hk => by have := hrg184 k hk; simp only [Iv]; omega)), (Below.grown (Ex.trans (Below.only (Ex.trans (Ex.trans (Below.only (Ex.trans hf125 hE137) hO140 (by omega)) hE151) hE158) hO161 (by omega)) hE168) hG183 (by omega) (fun k hk => by have := hrg184 k hk; omega)), (by omega), (by first | omega | (simp only [List.length_append, List.length_cons, List.length_nil, List.length_set, toS_length]; omega)), (okE.append hok128 ((okL.mk (Nat.le_of_ble_eq_true rfl) (okE.cons ho149 okE.nil))).2), (loopM.cont hlt130 hB185).symm.trans hI113⟩
   ·refine CW.cond_f rfl hb162 (CW.skip (bn (tn (CW.region (sd rfl (yl_inc rfl rfl rfl (by omega) (sd rfl (yl_move rfl rfl (SeqR.done (tn ?_))))))))))
    have hB215 : B_s_l25Rows_0 p_t p_store k16 (x98) = .cont (x98) := by simp only [B_s_l25Rows_0, hb162, cond_true, cond_false, loopE_done, loopE_ret]
    exact ⟨p_store.length - (k16 + 1), by omega, k16 + 1, x98, A99, c100, u101, rfl, hlt130, (by omega), rfl, rfl, rfl, rfl, rfl, (Box.only (Box.ex (Box.ex q142 hE151) hE158) hO161 (by omega)), (RdS.only good_Str (RdS.ex good_Str (RdS.ex good_Str q144 hE151) hE158) hO161 (by simp only [Iv]; omega)), (RdS.only good_Idx (RdS.ex good_Idx (RdS.ex good_Idx q146 hE151) hE158) hO161 (by simp only [Iv]; omega)), (OwnD.only goodO_Row (OwnD.ex goodO_Row (OwnD.ex goodO_Row (OwnD.only goodO_Row (OwnD.ex goodO_Row hf123 hE137) hO140 (by omega)) hE151) hE158) hO161 (by omega)), (RdS.only good_Write (RdS.ex good_Write (RdS.ex good_Write (RdS.only good_Write (RdS.ex good_Write hf124 hE137) hO140 (by simp only [Iv]; omega)) hE151) hE158) hO161 (by simp only [Iv]; omega)), (Below.only (Ex.trans (Ex.trans (Below.only (Ex.trans hf125 hE137) hO140 (by omega)) hE151) hE158) hO161 (by omega)), (by omega), (by first | omega | (simp only [List.length_append, List.length_cons, List.length_nil, List.length_set, toS_length]; omega)), hok128, (loopM.cont hlt130 hB215).symm.trans hI113⟩
  ·refine CW.seq (CW.region (sd rfl (yl_lss rfl rfl rfl (SeqR.done (tn (CW.seq (CW.cond_f rfl (lt_f hlt130) (CW.exit (tx ?_)))))))))
   refine tx ?_
   have hL240 : loopM (B_s_l25Rows_0 p_t p_store) (p_store.length - 0) 0 (([] : List DRow)) = .done (x98) := hI113.symm.trans (loopM.stop hlt130)
   refine bx (tn (CW.seq (CW.region (sd rfl (yl_move rfl rfl (sd rfl (yl_assign rfl rfl (SeqR.done (tn (CW.ret ?_))))))))))
   refine rr rfl (.cons rfl .nil) ?_
   have hM241 : (s_l25Rows p_t p_store) = (x98) := by simp only [s_l25Rows, hL240, cond_true, cond_false, loopE_done, loopE_ret]
   rw [hM241]
   exact ⟨A99, c100, w11.heap.size, u101, rfl, hf123, (okL.mk (xs := x98) (by first | omega | (simp only [List.length_append, List.length_cons, List.length_nil, List.length_take, List.length_drop, List.length_replicate, List.length_set, toS_length]; omega)) hok128), (by omega), hf125⟩
set_option maxRecDepth 100000 in
set_option maxHeartbeats 2000000 in
theorem c_s_RowsIn {A1 : Option Addr} {c1 : Nat} {A2 : Option Addr} {c2 : Nat} {A4 : Option Addr} {c4 : Nat} {w : World} (p_t : DTable) (p_store : List DWrite) (h1 : RdS w (Iv 0 w.heap.size) (RF e_Str) 1 A1 p_t.Cols.length c1 p_t.Cols) (h2 : RdS w (Iv 0 w.heap.size) (RF e_Idx) 3 A2 p_t.Idxs.length c2 p_t.Idxs) (h4 : RdS w (Iv 0 w.heap.size) (RF e_Write) 3 A4 p_store.length c4 p_store) (o3 : ok_Table p_t) (o5 : (okL ok_Write) p_store) : Cal Tryz.prog 7 #[.agg #[.string (bs (p_t.Name)), .slice A1 p_t.Cols.length c1, .slice A2 p_t.Idxs.length c2], .slice A4 p_store.length c4] w fun v w' => ∃ A_1 c_1 lo_1 hi_1, v = .tuple #[.slice A_1 (((s_RowsIn p_t p_store).1).length) c_1, .bool ((s_RowsIn p_t p_store).2)] ∧ OwnD w' lo_1 hi_1 80 1 RO_Row A_1 (((s_RowsIn p_t p_store).1).length) c_1 ((s_RowsIn p_t p_store).1) ∧ (okL ok_Row) ((s_RowsIn p_t p_store).1) ∧ (w.heap.size ≤ lo_1 ∧ lo_1 ≤ hi_1 ∧ hi_1 ≤ w'.heap.size) ∧ Ex w w' := by
 have hol6 : p_t.Name.length ≤ 1073741824 := o3.1
 have hol7 := o3.2.1.1
 have hol8 := o3.2.2.1
 have hol9 := o5.1
 refine Cal.of (vs := [.agg #[.string (bs (p_t.Name)), .slice A1 p_t.Cols.length c1, .slice A2 p_t.Idxs.length c2], .slice A4 p_store.length c4]) Tryz.func7 rfl Tryz.ntmps7 rfl (CW.seq (CW.region (sd rfl (yl_box (cs := [.string (bs (p_t.Name)), .slice A1 p_t.Cols.length c1, .slice A2 p_t.Idxs.length c2]) rfl rfl rfl ?_))))
 intro b10 w11 hs12 hz13 hB14 hE15
 refine sd rfl (yl_assign rfl rfl (sd rfl (yl_assign rfl rfl (SeqR.done (tn (CW.seq (CW.seq (CW.region (sd rfl (yl_loadN (cs := [.string (bs (p_t.Name)), .slice A1 p_t.Cols.length c1, .slice A2 p_t.Idxs.length c2]) Tryz.ty34 rfl rfl (hB14.cells (n := 3) rfl) rfl ?_))))))))))
 have q16 := RdS.ex good_Str h1 hE15
 have q17 := RdS.ex good_Idx h2 hE15
 refine sd rfl (yl_call Tryz.en26 rfl (opvs_cons rfl opvs_nil) (Cal.mono (c_s_GoodTable p_t (RdS.up q16 good_Str) (RdS.up q17 good_Idx) o3) ?_))
 rintro v19 w18 ⟨rfl, hE20⟩
 have hE20z := Ex.size hE20
 refine sd rfl (yl_not rfl rfl (sd rfl (yl_move rfl rfl (bcase (s_GoodTable p_t) (fun hb21 => ?_) (fun hb21 => ?_)))))
 ·have hb21p := f_s_GoodTable hb21
  refine sy rfl rfl (not_t hb21) (yl_move rfl rfl ?_)
  have q23 := RdS.ex good_Write (RdS.ex good_Write h4 hE15) hE20
  refine sy rfl rfl (not_t hb21) (yl_call Tryz.en27 rfl (opvs_cons rfl opvs_nil) (Cal.mono (c_s_l5Rows p_store (RdS.up q23 good_Write) o5) ?_))
  rintro v25 w24 ⟨rfl, hE26⟩
  have hE26z := Ex.size hE26
  refine sy rfl rfl (not_t hb21) (yl_not rfl rfl (sd rfl (yl_pick_f rfl rfl (not_t hb21) rfl (SeqR.done (tn (bcase (s_l5Rows p_store) (fun hb27 => ?_) (fun hb27 => ?_)))))))
  ·refine CW.cond_f rfl (not_t hb27) (CW.skip (tn (CW.seq (CW.region (sd rfl (yl_loadN (cs := [.string (bs (p_t.Name)), .slice A1 p_t.Cols.length c1, .slice A2 p_t.Idxs.length c2]) Tryz.ty34 rfl rfl ((Box.ex (Box.ex hB14 hE20) hE26).cells (n := 3) rfl) rfl (sd rfl (yl_move rfl rfl (sd rfl (yl_call Tryz.en28 rfl (opvs_cons rfl (opvs_cons rfl opvs_nil)) (Cal.mono (c_s_l25Rows p_t p_store (RdS.up (RdS.ex good_Str (RdS.ex good_Str q16 hE20) hE26) good_Str) (RdS.up (RdS.ex good_Idx (RdS.ex good_Idx q17 hE20) hE26) good_Idx) (RdS.up (RdS.ex good_Write q23 hE26) good_Write) o3 o5) ?_)))))))))))
   rintro v38 w35 ⟨A36, c36, lo36, hi36, rfl, h36, ho37, hrn40, hE39⟩
   have hE39z := Ex.size hE39
   refine sd rfl (yl_assign rfl rfl (sd rfl (yl_assign rfl rfl (SeqR.done (tn (CW.ret (rr rfl (.cons rfl (.cons rfl .nil)) ?_)))))))
   have hM41 : (s_RowsIn p_t p_store) = (((s_l25Rows p_t p_store), true)) := by simp only [s_RowsIn, hb21, hb27, cond_true, cond_false, loopE_done, loopE_ret]
   rw [hM41]
   exact ⟨A36, c36, lo36, hi36, rfl, h36, ho37, (by omega), (Ex.trans (Ex.trans (Ex.trans (Ex.trans (Ex.refl w) hE15) hE20) hE26) hE39)⟩
  ·refine CW.cond_t rfl (not_f hb27) (CW.seq (CW.region (sd rfl (yl_assign rfl rfl (sd rfl (yl_assign rfl rfl (SeqR.done (tn (CW.ret (tr ?_))))))))))
   refine rr rfl (.cons rfl (.cons rfl .nil)) ?_
   have hM46 : (s_RowsIn p_t p_store) = ((([] : List DRow), false)) := by simp only [s_RowsIn, hb21, hb27, cond_true, cond_false, loopE_done, loopE_ret]
   rw [hM46]
   exact ⟨none, 0, w24.heap.size, w24.heap.size, rfl, (OwnD.nil _ _ _ _ _ _), (okL.nil _), (by omega), (Ex.trans (Ex.trans (Ex.trans (Ex.refl w) hE15) hE20) hE26)⟩
 ·refine sz rfl rfl (not_f hb21) (sz rfl rfl (not_f hb21) (sz rfl rfl (not_f hb21) (sd rfl (yl_pick_t rfl rfl (not_f hb21) rfl (SeqR.done (tn (CW.cond_t rfl rfl (CW.seq (CW.region ?_)))))))))
  refine sd rfl (yl_assign rfl rfl (sd rfl (yl_assign rfl rfl (SeqR.done (tn (CW.ret (tr (rr rfl (.cons rfl (.cons rfl .nil)) ?_))))))))
  have hM50 : (s_RowsIn p_t p_store) = ((([] : List DRow), false)) := by simp only [s_RowsIn, hb21, cond_true, cond_false, loopE_done, loopE_ret]
  rw [hM50]
  exact ⟨none, 0, w18.heap.size, w18.heap.size, rfl, (OwnD.nil _ _ _ _ _ _), (okL.nil _), (by omega), (Ex.trans (Ex.trans (Ex.refl w) hE15) hE20)⟩
set_option maxRecDepth 100000 in
set_option maxHeartbeats 2000000 in
theorem c_l_toStringS {A1 : Option Addr} {c1 : Nat} {w : World} (p_a : List Str) (h1 : RdS w (Iv 0 w.heap.size) (RF e_Str) 1 A1 p_a.length c1 p_a) (o2 : (okL okS) p_a) : Cal Tryz.prog 29 #[.slice A1 p_a.length c1] w fun v w' => ∃ A_1 c_1 lo_1 hi_1, v = .slice A_1 p_a.length c_1 ∧ OwnL w' lo_1 hi_1 9 1 (RF e_Str) A_1 p_a.length c_1 p_a ∧ (w.heap.size ≤ lo_1 ∧ lo_1 ≤ hi_1 ∧ hi_1 ≤ w'.heap.size) ∧ Ex w w' := by
 have hol3 := o2.1
 refine Cal.of (vs := [.slice A1 p_a.length c1]) Tryz.func29 rfl Tryz.ntmps29 rfl (CW.seq (CW.region (sd rfl (yl_assign rfl rfl (SeqR.done (tn (CW.seq (CW.region (sd rfl (yl_move rfl rfl ?_))))))))))
 refine sd rfl (yl_len Tryz.un22 rfl rfl (sd rfl (yl_make (zs := [.string (bs (([] : Str)))]) (n := p_a.length) Tryz.un22 Tryz.ty9 rfl rfl (Nat.le_of_ble_eq_true rfl) rfl rfl rfl (by first | omega | assumption | (simp only [IntKind.wrap_i64] at *; omega)) (by first | omega | assumption | (simp only [IntKind.wrap_i64] at *; omega)) ?_)))
 intro b4 w5 hs6 hz7 hB8 hE9
 have hO10 : OwnL w5 b4 (b4 + 1) 9 1 (RF e_Str) (some ⟨b4, 0, none⟩) p_a.length p_a.length (List.replicate p_a.length d_Str) := by have := OwnL.of_boxF (lo := b4) (hi := b4 + 1) (xs := (List.replicate p_a.length d_Str)) hB8 (Nat.le_refl _) (Nat.lt_succ_self _) (EncL.zerosF (enc := e_Str) (d := d_Str) rfl p_a.length) (by rw [List.length_replicate]; omega); rwa [List.length_replicate] at this
 refine sd rfl (yl_assign rfl rfl (SeqR.done (tn (CW.seq (CW.seq (CW.region (sd rfl (yl_assign rfl rfl (SeqR.done (tn ?_))))))))))
 refine CW.block (CW.loop (fun m20 L21 w22 => ∃ (k11 : Nat) (x19 : List Str), m20 = p_a.length - k11 ∧ k11 ≤ p_a.length ∧ w5.heap.size ≤ w22.heap.size ∧ lkp L21 0 = some (.slice A1 p_a.length c1) ∧ lkp L21 3 = some (.slice (some ⟨b4, 0, none⟩) p_a.length p_a.length) ∧ lkp L21 4 = some (.int .i64 ((k11 : Int))) ∧ RdS w22 (Iv 0 w.heap.size) (RF e_Str) 1 A1 p_a.length c1 p_a ∧ OwnL w22 b4 (b4 + 1) 9 1 (RF e_Str) (some ⟨b4, 0, none⟩) p_a.length p_a.length x19 ∧ Ex w w22 ∧ loopM (B_l_toStringS_0 p_a) (p_a.length - k11) k11 (x19) = loopM (B_l_toStringS_0 p_a) (p_a.length - 0) 0 ((List.replicate p_a.length d_Str))) (p_a.length - 0) ?_ ?_)
 ·exact ⟨0, (List.replicate p_a.length d_Str), rfl, (by omega), Nat.le_refl _, rfl, rfl, rfl, (RdS.ex good_Str h1 hE9), hO10, (Ex.trans (Ex.refl w) hE9), rfl⟩
 ·rintro m25 L26 w27 ⟨k11, x19, rfl, hk28, hsz30, hl31, hl32, hl33, hf34, hf35, hf36, hI29⟩
  refine CW.sub (Sub.cons hl31 (Sub.cons hl32 (Sub.cons hl33 (Sub.nil _)))) ?_
  have hf36z := Ex.size hf36
  have hbg37 := RdS.big hf34
  rcases Nat.lt_or_ge k11 p_a.length with hlt38 | hlt38
  ·refine CW.seq (CW.seq (CW.region (sd rfl (yl_move rfl rfl (sd rfl (yl_move rfl rfl (sd rfl (yl_len Tryz.un22 rfl rfl (sd rfl (yl_lss rfl rfl rfl (SeqR.done (tn ?_))))))))))))
   refine CW.cond_t rfl (lt_t hlt38) (CW.skip (tn (CW.seq (CW.block (CW.region (sd rfl (yl_move rfl rfl (sd rfl (yl_move rfl rfl (sd rfl (yl_move rfl rfl ?_)))))))))))
   refine sd rfl (yl_move rfl rfl ?_)
   obtain ⟨eb39, eo39, ec39, eA39, eS39, ebl39, el39, eR39, eC39⟩ := RdS.atD hf34 d_Str (i := k11) (by first | omega | assumption)
   obtain rfl := eR39
   have eC39 : Cells w27 eb39 (eo39 + k11 * 1) [.string (bs ((p_a.getD k11 d_Str)))] := eC39
   refine sd rfl (yl_indexAddrN Tryz.un22 Tryz.ty9 rfl rfl rfl eA39 (by first | omega | assumption | (simp only [IntKind.wrap_i64] at *; omega)) (sd rfl (yl_load1 Tryz.ty9 rfl rfl (eC39 0 _ rfl) ?_)))
   obtain ⟨eb41, eo41, ec41, eA41, eS41, ebl41, el41, eR41, eC41⟩ := RdS.atD (OwnL.rd good_Str hf35) d_Str (i := k11) (by first | omega | assumption)
   obtain rfl := eR41
   have eC41 : Cells w27 eb41 (eo41 + k11 * 1) [.string (bs ((x19.getD k11 d_Str)))] := eC41
   refine sd rfl (yl_indexAddrN Tryz.un22 Tryz.ty9 rfl rfl rfl eA41 (by first | omega | assumption | (simp only [IntKind.wrap_i64] at *; omega)) ?_)
   have hrg42 := OwnL.rng hf35 (i := k11) (by first | omega | assumption | (simp only [IntKind.wrap_i64] at *; omega)) eb41 (by rw [eA41]; rfl)
   refine SeqR.u rfl rfl (yl_storeF (off := eo41) (i := k11) (d := 0) (dx := d_Str) (x' := (p_a.getD k11 d_Str)) (vs := [.string (bs ((p_a.getD k11 d_Str)))]) Tryz.ty9 rfl hf35 eA41 rfl rfl rfl rfl rfl (by first | omega | assumption | (simp only [IntKind.wrap_i64] at *; omega)) (Nat.le_of_ble_eq_true rfl) rfl rfl ?_)
   intro w43 hB44 hO45
   have hO45z := hO45.size
   refine SeqR.done (bn (tn (CW.region (sd rfl (yl_move rfl rfl (sd rfl (yl_inc rfl rfl rfl (by omega) (sd rfl (yl_assign rfl rfl (SeqR.done (tn ?_)))))))))))
   have hB46 : B_l_toStringS_0 p_a k11 (x19) = .cont ((x19.set k11 (p_a.getD k11 d_Str))) := by simp only [B_l_toStringS_0, cond_true, cond_false, loopE_done, loopE_ret]
   exact ⟨p_a.length - (k11 + 1), by omega, k11 + 1, (x19.set k11 (p_a.getD k11 d_Str)), rfl, hlt38, (by omega), rfl, rfl, rfl, (RdS.only good_Str hf34 hO45 (by simp only [Iv]; omega)), hB44, (Below.only hf36 hO45 (by omega)), (loopM.cont hlt38 hB46).symm.trans hI29⟩
  ·refine CW.seq (CW.seq (CW.region (sd rfl (yl_move rfl rfl (sd rfl (yl_move rfl rfl (sd rfl (yl_len Tryz.un22 rfl rfl (sd rfl (yl_lss rfl rfl rfl (SeqR.done (tn ?_))))))))))))
   refine CW.cond_f rfl (lt_f hlt38) (CW.exit (tx (tx ?_)))
   have hL49 : loopM (B_l_toStringS_0 p_a) (p_a.length - 0) 0 ((List.replicate p_a.length d_Str)) = .done (x19) := hI29.symm.trans (loopM.stop hlt38)
   refine bx (tn (CW.seq (CW.region (sd rfl (yl_move rfl rfl (sd rfl (yl_assign rfl rfl (SeqR.done (tn (CW.ret ?_))))))))))
   refine rr rfl (.cons rfl .nil) ?_
   have hM50 : p_a = (x19) := (to_StringS _).symm.trans <| by simp only [l_toStringS, hL49, cond_true, cond_false, loopE_done, loopE_ret]
   subst hM50
   exact ⟨(some ⟨b4, 0, none⟩), p_a.length, b4, (b4 + 1), rfl, hf35, (by omega), hf36⟩
set_option maxRecDepth 100000 in
set_option maxHeartbeats 2000000 in
theorem c_l_toIdx {w : World} (p_a : DIdx) (o1 : ok_Idx p_a) : Cal Tryz.prog 64 #[.agg #[.string (bs (p_a.Name)), .int .i64 (p_a.Col), .int .i64 (p_a.Stage)]] w fun v w' => v = .agg #[.string (bs (p_a.Name)), .int .i64 (p_a.Col), .int .i64 (p_a.Stage)] ∧ Ex w w' := by
 have hol2 : p_a.Name.length ≤ 1073741824 := o1
 refine Cal.of (vs := [.agg #[.string (bs (p_a.Name)), .int .i64 (p_a.Col), .int .i64 (p_a.Stage)]]) Tryz.func64 rfl Tryz.ntmps64 rfl (CW.seq (CW.region (sd rfl (yl_box (cs := [.string (bs (p_a.Name)), .int .i64 (p_a.Col), .int .i64 (p_a.Stage)]) rfl rfl rfl ?_))))
 intro b3 w4 hs5 hz6 hB7 hE8
 refine sd rfl (yl_alloc Tryz.ty104 (cs := [.string (bs (([] : Str))), .int .i64 (0), .int .i64 (0)]) rfl rfl ?_)
 intro b9 w10 hs11 hz12 hB13 hE14
 refine SeqR.done (tn (CW.seq (CW.region (sd rfl (yl_alloc Tryz.ty104 (cs := [.string (bs (([] : Str))), .int .i64 (0), .int .i64 (0)]) rfl rfl ?_)))))
 intro b15 w16 hs17 hz18 hB19 hE20
 refine SeqR.done (tn (CW.seq (CW.region (sd rfl (yl_fieldAddr Tryz.fd101_0 rfl rfl ?_)))))
 have q22 := Box.ex (Box.ex hB7 hE14) hE20
 refine sd rfl (yl_load1 Tryz.ty9 rfl rfl ((q22.cell 0).trans rfl) (sd rfl (yl_fieldAddr Tryz.fd104_0 rfl rfl (SeqR.u rfl rfl (yl_store (vs := [.string (bs (p_a.Name))]) Tryz.ty9 rfl rfl rfl rfl rfl rfl hB19 (Nat.le_of_ble_eq_true rfl) ?_)))))
 intro w23 hB24 hO25
 have hB24 : Box w23 b15 104 [.string (bs (p_a.Name)), .int .i64 (0), .int .i64 (0)] := hB24
 have hO25z := hO25.size
 refine SeqR.done (tn (CW.seq (CW.region (sd rfl (yl_fieldAddr Tryz.fd101_1 rfl rfl ?_)))))
 have q26 := Box.only q22 hO25 (by omega)
 refine sd rfl (yl_load1 Tryz.ty3 rfl rfl ((q26.cell 1).trans rfl) (sd rfl (yl_fieldAddr Tryz.fd104_1 rfl rfl (SeqR.u rfl rfl (yl_store (vs := [.int .i64 (p_a.Col)]) Tryz.ty3 rfl rfl rfl rfl rfl rfl hB24 (Nat.le_of_ble_eq_true rfl) ?_)))))
 intro w27 hB28 hO29
 have hB28 : Box w27 b15 104 [.string (bs (p_a.Name)), .int .i64 (p_a.Col), .int .i64 (0)] := hB28
 have hO29z := hO29.size
 refine SeqR.done (tn (CW.seq (CW.region (sd rfl (yl_fieldAddr Tryz.fd101_2 rfl rfl (sd rfl (yl_load1 Tryz.ty3 rfl rfl (((Box.only q26 hO29 (by omega)).cell 2).trans rfl) (sd rfl (yl_fieldAddr Tryz.fd104_2 rfl rfl (SeqR.u rfl rfl (yl_store (vs := [.int .i64 (p_a.Stage)]) Tryz.ty3 rfl rfl rfl rfl rfl rfl hB28 (Nat.le_of_ble_eq_true rfl) ?_)))))))))))
 intro w31 hB32 hO33
 have hB32 : Box w31 b15 104 [.string (bs (p_a.Name)), .int .i64 (p_a.Col), .int .i64 (p_a.Stage)] := hB32
 have hO33z := hO33.size
 refine SeqR.done (tn (CW.seq (CW.region (sd rfl (yl_loadN (cs := [.string (bs (p_a.Name)), .int .i64 (p_a.Col), .int .i64 (p_a.Stage)]) Tryz.ty104 rfl rfl (hB32.cells (n := 3) rfl) rfl (SeqR.u rfl rfl (yl_store (vs := [.string (bs (p_a.Name)), .int .i64 (p_a.Col), .int .i64 (p_a.Stage)]) Tryz.ty104 rfl rfl rfl rfl rfl rfl (Box.only (Box.only (Box.only (Box.ex hB13 hE20) hO25 (by omega)) hO29 (by omega)) hO33 (by omega)) (Nat.le_of_ble_eq_true rfl) ?_)))))))
 intro w38 hB39 hO40
 have hB39 : Box w38 b9 104 [.string (bs (p_a.Name)), .int .i64 (p_a.Col), .int .i64 (p_a.Stage)] := hB39
 have hO40z := hO40.size
 refine SeqR.done (tn (CW.ret (rr rfl (.cons ⟨_, rfl, run_loadN Tryz.ty104 (cs := [.string (bs (p_a.Name)), .int .i64 (p_a.Col), .int .i64 (p_a.Stage)]) rfl (hB39.cells (n := 3) rfl)⟩ .nil) ?_)))
 have hM41 : p_a = (p_a) := (to_Idx _).symm.trans <| by simp only [l_toIdx, cond_true, cond_false, loopE_done, loopE_ret]
 rw [hM41]
 exact ⟨rfl, (Below.only (Below.only (Below.only (Below.only (Ex.trans (Ex.trans (Ex.trans (Ex.refl w) hE8) hE14) hE20) hO25 (by omega)) hO29 (by omega)) hO33 (by omega)) hO40 (by omega))⟩
set_option maxRecDepth 100000 in
set_option maxHeartbeats 2000000 in
theorem c_l_toIdxS {A1 : Option Addr} {c1 : Nat} {w : World} (p_a : List DIdx) (h1 : RdS w (Iv 0 w.heap.size) (RF e_Idx) 3 A1 p_a.length c1 p_a) (o2 : (okL ok_Idx) p_a) : Cal Tryz.prog 30 #[.slice A1 p_a.length c1] w fun v w' => ∃ A_1 c_1 lo_1 hi_1, v = .slice A_1 p_a.length c_1 ∧ OwnL w' lo_1 hi_1 104 3 (RF e_Idx) A_1 p_a.length c_1 p_a ∧ (w.heap.size ≤ lo_1 ∧ lo_1 ≤ hi_1 ∧ hi_1 ≤ w'.heap.size) ∧ Ex w w' := by
 have hol3 := o2.1
 refine Cal.of (vs := [.slice A1 p_a.length c1]) Tryz.func30 rfl Tryz.ntmps30 rfl (CW.seq (CW.region (sd rfl (yl_assign rfl rfl (SeqR.done (tn (CW.seq (CW.region (sd rfl (yl_move rfl rfl ?_))))))))))
 refine sd rfl (yl_len Tryz.un23 rfl rfl (sd rfl (yl_make (zs := [.string (bs (([] : Str))), .int .i64 (0), .int .i64 (0)]) (n := p_a.length) Tryz.un32 Tryz.ty104 rfl rfl (Nat.le_of_ble_eq_true rfl) rfl rfl rfl (by first | omega | assumption | (simp only [IntKind.wrap_i64] at *; omega)) (by first | omega | assumption | (simp only [IntKind.wrap_i64] at *; omega)) ?_)))
 intro b4 w5 hs6 hz7 hB8 hE9
 have hO10 : OwnL w5 b4 (b4 + 1) 104 3 (RF e_Idx) (some ⟨b4, 0, none⟩) p_a.length p_a.length (List.replicate p_a.length d_Idx) := by have := OwnL.of_boxF (lo := b4) (hi := b4 + 1) (xs := (List.replicate p_a.length d_Idx)) hB8 (Nat.le_refl _) (Nat.lt_succ_self _) (EncL.zerosF (enc := e_Idx) (d := d_Idx) rfl p_a.length) (by rw [List.length_replicate]; omega); rwa [List.length_replicate] at this
 refine sd rfl (yl_assign rfl rfl (SeqR.done (tn (CW.seq (CW.seq (CW.region (sd rfl (yl_assign rfl rfl (SeqR.done (tn ?_))))))))))
 refine CW.block (CW.loop (fun m23 L24 w25 => ∃ (k11 : Nat) (x22 : List DIdx), m23 = p_a.length - k11 ∧ k11 ≤ p_a.length ∧ w5.heap.size ≤ w25.heap.size ∧ lkp L24 0 = some (.slice A1 p_a.length c1) ∧ lkp L24 3 = some (.slice (some ⟨b4, 0, none⟩) p_a.length p_a.length) ∧ lkp L24 4 = some (.int .i64 ((k11 : Int))) ∧ RdS w25 (Iv 0 w.heap.size) (RF e_Idx) 3 A1 p_a.length c1 p_a ∧ OwnL w25 b4 (b4 + 1) 104 3 (RF e_Idx) (some ⟨b4, 0, none⟩) p_a.length p_a.length x22 ∧ Ex w w25 ∧ loopM (B_l_toIdxS_0 p_a) (p_a.length - k11) k11 (x22) = loopM (B_l_toIdxS_0 p_a) (p_a.length - 0) 0 ((List.replicate p_a.length d_Idx))) (p_a.length - 0) ?_ ?_)
 ·exact ⟨0, (List.replicate p_a.length d_Idx), rfl, (by omega), Nat.le_refl _, rfl, rfl, rfl, (RdS.ex good_Idx h1 hE9), hO10, (Ex.trans (Ex.refl w) hE9), rfl⟩
 ·rintro m28 L29 w30 ⟨k11, x22, rfl, hk31, hsz33, hl34, hl35, hl36, hf37, hf38, hf39, hI32⟩
  refine CW.sub (Sub.cons hl34 (Sub.cons hl35 (Sub.cons hl36 (Sub.nil _)))) ?_
  have hf39z := Ex.size hf39
  have hbg40 := RdS.big hf37
  rcases Nat.lt_or_ge k11 p_a.length with hlt41 | hlt41
  ·refine CW.seq (CW.seq (CW.region (sd rfl (yl_move rfl rfl (sd rfl (yl_move rfl rfl (sd rfl (yl_len Tryz.un23 rfl rfl (sd rfl (yl_lss rfl rfl rfl (SeqR.done (tn ?_))))))))))))
   refine CW.cond_t rfl (lt_t hlt41) (CW.skip (tn (CW.seq (CW.block (CW.region (sd rfl (yl_move rfl rfl (sd rfl (yl_move rfl rfl (sd rfl (yl_move rfl rfl ?_)))))))))))
   refine sd rfl (yl_move rfl rfl ?_)
   obtain ⟨eb42, eo42, ec42, eA42, eS42, ebl42, el42, eR42, eC42⟩ := RdS.atD hf37 d_Idx (i := k11) (by first | omega | assumption)
   obtain rfl := eR42
   have eC42 : Cells w30 eb42 (eo42 + k11 * 3) [.string (bs ((p_a.getD k11 d_Idx).Name)), .int .i64 ((p_a.getD k11 d_Idx).Col), .int .i64 ((p_a.getD k11 d_Idx).Stage)] := eC42
   refine sd rfl (yl_indexAddrN Tryz.un23 Tryz.ty101 rfl rfl rfl eA42 (by first | omega | assumption | (simp only [IntKind.wrap_i64] at *; omega)) (sd rfl (yl_loadN (cs := [.string (bs ((p_a.getD k11 d_Idx).Name)), .int .i64 ((p_a.getD k11 d_Idx).Col), .int .i64 ((p_a.getD k11 d_Idx).Stage)]) Tryz.ty101 rfl rfl eC42 rfl (sd rfl (yl_call Tryz.en64 rfl (opvs_cons rfl opvs_nil) (Cal.mono (c_l_toIdx (p_a.getD k11 d_Idx) (okL.getD o2 ok_d_Idx _)) ?_))))))
   rintro v44 w43 ⟨rfl, hE45⟩
   have hE45z := Ex.size hE45
   have q47 := OwnL.ex good_Idx hf38 hE45
   obtain ⟨eb48, eo48, ec48, eA48, eS48, ebl48, el48, eR48, eC48⟩ := RdS.atD (OwnL.rd good_Idx q47) d_Idx (i := k11) (by first | omega | assumption)
   obtain rfl := eR48
   have eC48 : Cells w43 eb48 (eo48 + k11 * 3) [.string (bs ((x22.getD k11 d_Idx).Name)), .int .i64 ((x22.getD k11 d_Idx).Col), .int .i64 ((x22.getD k11 d_Idx).Stage)] := eC48
   refine sd rfl (yl_indexAddrN Tryz.un32 Tryz.ty104 rfl rfl rfl eA48 (by first | omega | assumption | (simp only [IntKind.wrap_i64] at *; omega)) ?_)
   have hrg49 := OwnL.rng q47 (i := k11) (by first | omega | assumption | (simp only [IntKind.wrap_i64] at *; omega)) eb48 (by rw [eA48]; rfl)
   refine SeqR.u rfl rfl (yl_storeF (off := eo48) (i := k11) (d := 0) (dx := d_Idx) (x' := (p_a.getD k11 d_Idx)) (vs := [.string (bs ((p_a.getD k11 d_Idx).Name)), .int .i64 ((p_a.getD k11 d_Idx).Col), .int .i64 ((p_a.getD k11 d_Idx).Stage)]) Tryz.ty104 rfl q47 eA48 rfl rfl rfl rfl rfl (by first | omega | assumption | (simp only [IntKind.wrap_i64] at *; omega)) (Nat.le_of_ble_eq_true rfl) rfl rfl ?_)
   intro w50 hB51 hO52
   have hO52z := hO52.size
   refine SeqR.done (bn (tn (CW.region (sd rfl (yl_move rfl rfl (sd rfl (yl_inc rfl rfl rfl (by omega) (sd rfl (yl_assign rfl rfl (SeqR.done (tn ?_)))))))))))
   have hB53 : B_l_toIdxS_0 p_a k11 (x22) = .cont ((x22.set k11 (p_a.getD k11 d_Idx))) := by simp only [B_l_toIdxS_0, cond_true, cond_false, loopE_done, loopE_ret]
   exact ⟨p_a.length - (k11 + 1), by omega, k11 + 1, (x22.set k11 (p_a.getD k11 d_Idx)), rfl, hlt41, (by omega), rfl, rfl, rfl, (RdS.only good_Idx (RdS.ex good_Idx hf37 hE45) hO52 (by simp only [Iv]; omega)), hB51, (Below.only (Ex.trans hf39 hE45) hO52 (by omega)), (loopM.cont hlt41 hB53).symm.trans hI32⟩
  ·refine CW.seq (CW.seq (CW.region (sd rfl (yl_move rfl rfl (sd rfl (yl_move rfl rfl (sd rfl (yl_len Tryz.un23 rfl rfl (sd rfl (yl_lss rfl rfl rfl (SeqR.done (tn ?_))))))))))))
   refine CW.cond_f rfl (lt_f hlt41) (CW.exit (tx (tx ?_)))
   have hL58 : loopM (B_l_toIdxS_0 p_a) (p_a.length - 0) 0 ((List.replicate p_a.length d_Idx)) = .done (x22) := hI32.symm.trans (loopM.stop hlt41)
   refine bx (tn (CW.seq (CW.region (sd rfl (yl_move rfl rfl (sd rfl (yl_assign rfl rfl (SeqR.done (tn (CW.ret ?_))))))))))
   refine rr rfl (.cons rfl .nil) ?_
   have hM59 : p_a = (x22) := (to_IdxS _).symm.trans <| by simp only [l_toIdxS, hL58, cond_true, cond_false, loopE_done, loopE_ret]
   subst hM59
   exact ⟨(some ⟨b4, 0, none⟩), p_a.length, b4, (b4 + 1), rfl, hf38, (by omega), hf39⟩
set_option maxRecDepth 100000 in
set_option maxHeartbeats 2000000 in
theorem c_l_toTable {A1 : Option Addr} {c1 : Nat} {A2 : Option Addr} {c2 : Nat} {w : World} (p_a : DTable) (h1 : RdS w (Iv 0 w.heap.size) (RF e_Str) 1 A1 p_a.Cols.length c1 p_a.Cols) (h2 : RdS w (Iv 0 w.heap.size) (RF e_Idx) 3 A2 p_a.Idxs.length c2 p_a.Idxs) (o3 : ok_Table p_a) : Cal Tryz.prog 8 #[.agg #[.string (bs (p_a.Name)), .slice A1 p_a.Cols.length c1, .slice A2 p_a.Idxs.length c2]] w fun v w' => ∃ A_1 c_1 lo_1 hi_1 A_2 c_2 lo_2 hi_2, v = .agg #[.string (bs (p_a.Name)), .slice A_1 p_a.Cols.length c_1, .slice A_2 p_a.Idxs.length c_2] ∧ OwnL w' lo_1 hi_1 9 1 (RF e_Str) A_1 p_a.Cols.length c_1 p_a.Cols ∧ OwnL w' lo_2 hi_2 104 3 (RF e_Idx) A_2 p_a.Idxs.length c_2 p_a.Idxs ∧ (w.heap.size ≤ lo_1 ∧ lo_1 ≤ hi_1 ∧ hi_1 ≤ w'.heap.size) ∧ (w.heap.size ≤ lo_2 ∧ lo_2 ≤ hi_2 ∧ hi_2 ≤ w'.heap.size) ∧ (hi_1 ≤ lo_2 ∨ hi_2 ≤ lo_1) ∧ Ex w w' := by
 have hol4 : p_a.Name.length ≤ 1073741824 := o3.1
 have hol5 := o3.2.1.1
 have hol6 := o3.2.2.1
 refine Cal.of (vs := [.agg #[.string (bs (p_a.Name)), .slice A1 p_a.Cols.length c1, .slice A2 p_a.Idxs.length c2]]) Tryz.func8 rfl Tryz.ntmps8 rfl (CW.seq (CW.region (sd rfl (yl_box (cs := [.string (bs (p_a.Name)), .slice A1 p_a.Cols.length c1, .slice A2 p_a.Idxs.length c2]) rfl rfl rfl ?_))))
 intro b7 w8 hs9 hz10 hB11 hE12
 refine sd rfl (yl_alloc Tryz.ty34 (cs := [.string (bs (([] : Str))), .slice none 0 0, .slice none 0 0]) rfl rfl ?_)
 intro b13 w14 hs15 hz16 hB17 hE18
 refine SeqR.done (tn (CW.seq (CW.region (sd rfl (yl_alloc Tryz.ty34 (cs := [.string (bs (([] : Str))), .slice none 0 0, .slice none 0 0]) rfl rfl ?_)))))
 intro b19 w20 hs21 hz22 hB23 hE24
 refine SeqR.done (tn (CW.seq (CW.region (sd rfl (yl_fieldAddr Tryz.fd25_0 rfl rfl ?_)))))
 have q26 := Box.ex (Box.ex hB11 hE18) hE24
 refine sd rfl (yl_load1 Tryz.ty9 rfl rfl ((q26.cell 0).trans rfl) (sd rfl (yl_fieldAddr Tryz.fd34_0 rfl rfl (SeqR.u rfl rfl (yl_store (vs := [.string (bs (p_a.Name))]) Tryz.ty9 rfl rfl rfl rfl rfl rfl hB23 (Nat.le_of_ble_eq_true rfl) ?_)))))
 intro w27 hB28 hO29
 have hB28 : Box w27 b19 34 [.string (bs (p_a.Name)), .slice none 0 0, .slice none 0 0] := hB28
 have hO29z := hO29.size
 refine SeqR.done (tn (CW.seq (CW.region (sd rfl (yl_fieldAddr Tryz.fd25_1 rfl rfl ?_)))))
 have q30 := Box.only q26 hO29 (by omega)
 refine sd rfl (yl_load1 Tryz.ty22 rfl rfl ((q30.cell 1).trans rfl) (sd rfl (yl_call Tryz.en29 rfl (opvs_cons rfl opvs_nil) (Cal.mono (c_l_toStringS p_a.Cols (RdS.up (RdS.only good_Str (RdS.ex good_Str (RdS.ex good_Str (RdS.ex good_Str h1 hE12) hE18) hE24) hO29 (by simp only [Iv]; omega)) good_Str) o3.2.1) ?_))))
 rintro v37 w35 ⟨A36, c36, lo36, hi36, rfl, h36, hrn39, hE38⟩
 have hE38z := Ex.size hE38
 refine sd rfl (yl_fieldAddr Tryz.fd34_1 rfl rfl (SeqR.u rfl rfl (yl_store (vs := [.slice A36 p_a.Cols.length c36]) Tryz.ty22 rfl rfl rfl rfl rfl rfl (Box.ex hB28 hE38) (Nat.le_of_ble_eq_true rfl) ?_)))
 intro w41 hB42 hO43
 have hB42 : Box w41 b19 34 [.string (bs (p_a.Name)), .slice A36 p_a.Cols.length c36, .slice none 0 0] := hB42
 have hO43z := hO43.size
 refine SeqR.done (tn (CW.seq (CW.region (sd rfl (yl_fieldAddr Tryz.fd25_2 rfl rfl (sd rfl (yl_load1 Tryz.ty23 rfl rfl (((Box.only (Box.ex q30 hE38) hO43 (by omega)).cell 2).trans rfl) (sd rfl (yl_call Tryz.en30 rfl (opvs_cons rfl opvs_nil) (Cal.mono (c_l_toIdxS p_a.Idxs (RdS.up (RdS.only good_Idx (RdS.ex good_Idx (RdS.only good_Idx (RdS.ex good_Idx (RdS.ex good_Idx (RdS.ex good_Idx h2 hE12) hE18) hE24) hO29 (by simp only [Iv]; omega)) hE38) hO43 (by simp only [Iv]; omega)) good_Idx) o3.2.2) ?_))))))))))
 rintro v54 w52 ⟨A53, c53, lo53, hi53, rfl, h53, hrn56, hE55⟩
 have hE55z := Ex.size hE55
 refine sd rfl (yl_fieldAddr Tryz.fd34_2 rfl rfl (SeqR.u rfl rfl (yl_store (vs := [.slice A53 p_a.Idxs.length c53]) Tryz.ty32 rfl rfl rfl rfl rfl rfl (Box.ex hB42 hE55) (Nat.le_of_ble_eq_true rfl) ?_)))
 intro w58 hB59 hO60
 have hB59 : Box w58 b19 34 [.string (bs (p_a.Name)), .slice A36 p_a.Cols.length c36, .slice A53 p_a.Idxs.length c53] := hB59
 have hO60z := hO60.size
 refine SeqR.done (tn (CW.seq (CW.region (sd rfl (yl_loadN (cs := [.string (bs (p_a.Name)), .slice A36 p_a.Cols.length c36, .slice A53 p_a.Idxs.length c53]) Tryz.ty34 rfl rfl (hB59.cells (n := 3) rfl) rfl (SeqR.u rfl rfl (yl_store (vs := [.string (bs (p_a.Name)), .slice A36 p_a.Cols.length c36, .slice A53 p_a.Idxs.length c53]) Tryz.ty34 rfl rfl rfl rfl rfl rfl (Box.only (Box.ex (Box.only (Box.ex (Box.only (Box.ex hB17 hE24) hO29 (by omega)) hE38) hO43 (by omega)) hE55) hO60 (by omega)) (Nat.le_of_ble_eq_true rfl) ?_)))))))
 intro w67 hB68 hO69
 have hB68 : Box w67 b13 34 [.string (bs (p_a.Name)), .slice A36 p_a.Cols.length c36, .slice A53 p_a.Idxs.length c53] := hB68
 have hO69z := hO69.size
 refine SeqR.done (tn (CW.ret (rr rfl (.cons ⟨_, rfl, run_loadN Tryz.ty34 (cs := [.string (bs (p_a.Name)), .slice A36 p_a.Cols.length c36, .slice A53 p_a.Idxs.length c53]) rfl (hB68.cells (n := 3) rfl)⟩ .nil) ?_)))
 have hM70 : p_a = (p_a) := (to_Table _).symm.trans <| by simp only [l_toTable, cond_true, cond_false, loopE_done, loopE_ret]
 rw [hM70]
 exact ⟨A36, c36, lo36, hi36, A53, c53, lo53, hi53, rfl, (OwnL.only good_Str (OwnL.only good_Str (OwnL.ex good_Str (OwnL.only good_Str h36 hO43 (by omega)) hE55) hO60 (by omega)) hO69 (by omega)), (OwnL.only good_Idx (OwnL.only good_Idx h53 hO60 (by omega)) hO69 (by omega)), (by omega), (by omega), (by omega), (Below.only (Below.only (Ex.trans (Below.only (Ex.trans (Below.only (Ex.trans (Ex.trans (Ex.trans (Ex.refl w) hE12) hE18) hE24) hO29 (by omega)) hE38) hO43 (by omega)) hE55) hO60 (by omega)) hO69 (by omega))⟩
set_option maxRecDepth 100000 in
set_option maxHeartbeats 2000000 in
theorem c_l_toWrite {w : World} (p_a : DWrite) (o1 : ok_Write p_a) : Cal Tryz.prog 31 #[.agg #[.string (bs (p_a.Key)), .string (bs (p_a.Val)), .bool (p_a.Gone)]] w fun v w' => v = .agg #[.string (bs (p_a.Key)), .string (bs (p_a.Val)), .bool (p_a.Gone)] ∧ Ex w w' := by
 have hol2 : p_a.Key.length ≤ 1073741824 := o1.1
 have hol3 : p_a.Val.length ≤ 1073741824 := o1.2
 refine Cal.of (vs := [.agg #[.string (bs (p_a.Key)), .string (bs (p_a.Val)), .bool (p_a.Gone)]]) Tryz.func31 rfl Tryz.ntmps31 rfl (CW.seq (CW.region (sd rfl (yl_box (cs := [.string (bs (p_a.Key)), .string (bs (p_a.Val)), .bool (p_a.Gone)]) rfl rfl rfl ?_))))
 intro b4 w5 hs6 hz7 hB8 hE9
 refine sd rfl (yl_alloc Tryz.ty75 (cs := [.string (bs (([] : Str))), .string (bs (([] : Str))), .bool (false)]) rfl rfl ?_)
 intro b10 w11 hs12 hz13 hB14 hE15
 refine SeqR.done (tn (CW.seq (CW.region (sd rfl (yl_alloc Tryz.ty75 (cs := [.string (bs (([] : Str))), .string (bs (([] : Str))), .bool (false)]) rfl rfl ?_)))))
 intro b16 w17 hs18 hz19 hB20 hE21
 refine SeqR.done (tn (CW.seq (CW.region (sd rfl (yl_fieldAddr Tryz.fd69_0 rfl rfl ?_)))))
 have q23 := Box.ex (Box.ex hB8 hE15) hE21
 refine sd rfl (yl_load1 Tryz.ty9 rfl rfl ((q23.cell 0).trans rfl) (sd rfl (yl_fieldAddr Tryz.fd75_0 rfl rfl (SeqR.u rfl rfl (yl_store (vs := [.string (bs (p_a.Key))]) Tryz.ty9 rfl rfl rfl rfl rfl rfl hB20 (Nat.le_of_ble_eq_true rfl) ?_)))))
 intro w24 hB25 hO26
 have hB25 : Box w24 b16 75 [.string (bs (p_a.Key)), .string (bs (([] : Str))), .bool (false)] := hB25
 have hO26z := hO26.size
 refine SeqR.done (tn (CW.seq (CW.region (sd rfl (yl_fieldAddr Tryz.fd69_1 rfl rfl ?_)))))
 have q27 := Box.only q23 hO26 (by omega)
 refine sd rfl (yl_load1 Tryz.ty9 rfl rfl ((q27.cell 1).trans rfl) (sd rfl (yl_fieldAddr Tryz.fd75_1 rfl rfl (SeqR.u rfl rfl (yl_store (vs := [.string (bs (p_a.Val))]) Tryz.ty9 rfl rfl rfl rfl rfl rfl hB25 (Nat.le_of_ble_eq_true rfl) ?_)))))
 intro w28 hB29 hO30
 have hB29 : Box w28 b16 75 [.string (bs (p_a.Key)), .string (bs (p_a.Val)), .bool (false)] := hB29
 have hO30z := hO30.size
 refine SeqR.done (tn (CW.seq (CW.region (sd rfl (yl_fieldAddr Tryz.fd69_2 rfl rfl (sd rfl (yl_load1 Tryz.ty4 rfl rfl (((Box.only q27 hO30 (by omega)).cell 2).trans rfl) (sd rfl (yl_fieldAddr Tryz.fd75_2 rfl rfl (SeqR.u rfl rfl (yl_store (vs := [.bool (p_a.Gone)]) Tryz.ty4 rfl rfl rfl rfl rfl rfl hB29 (Nat.le_of_ble_eq_true rfl) ?_)))))))))))
 intro w32 hB33 hO34
 have hB33 : Box w32 b16 75 [.string (bs (p_a.Key)), .string (bs (p_a.Val)), .bool (p_a.Gone)] := hB33
 have hO34z := hO34.size
 refine SeqR.done (tn (CW.seq (CW.region (sd rfl (yl_loadN (cs := [.string (bs (p_a.Key)), .string (bs (p_a.Val)), .bool (p_a.Gone)]) Tryz.ty75 rfl rfl (hB33.cells (n := 3) rfl) rfl (SeqR.u rfl rfl (yl_store (vs := [.string (bs (p_a.Key)), .string (bs (p_a.Val)), .bool (p_a.Gone)]) Tryz.ty75 rfl rfl rfl rfl rfl rfl (Box.only (Box.only (Box.only (Box.ex hB14 hE21) hO26 (by omega)) hO30 (by omega)) hO34 (by omega)) (Nat.le_of_ble_eq_true rfl) ?_)))))))
 intro w39 hB40 hO41
 have hB40 : Box w39 b10 75 [.string (bs (p_a.Key)), .string (bs (p_a.Val)), .bool (p_a.Gone)] := hB40
 have hO41z := hO41.size
 refine SeqR.done (tn (CW.ret (rr rfl (.cons ⟨_, rfl, run_loadN Tryz.ty75 (cs := [.string (bs (p_a.Key)), .string (bs (p_a.Val)), .bool (p_a.Gone)]) rfl (hB40.cells (n := 3) rfl)⟩ .nil) ?_)))
 have hM42 : p_a = (p_a) := (to_Write _).symm.trans <| by simp only [l_toWrite, cond_true, cond_false, loopE_done, loopE_ret]
 rw [hM42]
 exact ⟨rfl, (Below.only (Below.only (Below.only (Below.only (Ex.trans (Ex.trans (Ex.trans (Ex.refl w) hE9) hE15) hE21) hO26 (by omega)) hO30 (by omega)) hO34 (by omega)) hO41 (by omega))⟩
set_option maxRecDepth 100000 in
set_option maxHeartbeats 2000000 in
theorem c_l_toWriteS {A1 : Option Addr} {c1 : Nat} {w : World} (p_a : List DWrite) (h1 : RdS w (Iv 0 w.heap.size) (RF e_Write) 3 A1 p_a.length c1 p_a) (o2 : (okL ok_Write) p_a) : Cal Tryz.prog 9 #[.slice A1 p_a.length c1] w fun v w' => ∃ A_1 c_1 lo_1 hi_1, v = .slice A_1 p_a.length c_1 ∧ OwnL w' lo_1 hi_1 75 3 (RF e_Write) A_1 p_a.length c_1 p_a ∧ (w.heap.size ≤ lo_1 ∧ lo_1 ≤ hi_1 ∧ hi_1 ≤ w'.heap.size) ∧ Ex w w' := by
 have hol3 := o2.1
 refine Cal.of (vs := [.slice A1 p_a.length c1]) Tryz.func9 rfl Tryz.ntmps9 rfl (CW.seq (CW.region (sd rfl (yl_assign rfl rfl (SeqR.done (tn (CW.seq (CW.region (sd rfl (yl_move rfl rfl ?_))))))))))
 refine sd rfl (yl_len Tryz.un26 rfl rfl (sd rfl (yl_make (zs := [.string (bs (([] : Str))), .string (bs (([] : Str))), .bool (false)]) (n := p_a.length) Tryz.un36 Tryz.ty75 rfl rfl (Nat.le_of_ble_eq_true rfl) rfl rfl rfl (by first | omega | assumption | (simp only [IntKind.wrap_i64] at *; omega)) (by first | omega | assumption | (simp only [IntKind.wrap_i64] at *; omega)) ?_)))
 intro b4 w5 hs6 hz7 hB8 hE9
 have hO10 : OwnL w5 b4 (b4 + 1) 75 3 (RF e_Write) (some ⟨b4, 0, none⟩) p_a.length p_a.length (List.replicate p_a.length d_Write) := by have := OwnL.of_boxF (lo := b4) (hi := b4 + 1) (xs := (List.replicate p_a.length d_Write)) hB8 (Nat.le_refl _) (Nat.lt_succ_self _) (EncL.zerosF (enc := e_Write) (d := d_Write) rfl p_a.length) (by rw [List.length_replicate]; omega); rwa [List.length_replicate] at this
 refine sd rfl (yl_assign rfl rfl (SeqR.done (tn (CW.seq (CW.seq (CW.region (sd rfl (yl_assign rfl rfl (SeqR.done (tn ?_))))))))))
 refine CW.block (CW.loop (fun m23 L24 w25 => ∃ (k11 : Nat) (x22 : List DWrite), m23 = p_a.length - k11 ∧ k11 ≤ p_a.length ∧ w5.heap.size ≤ w25.heap.size ∧ lkp L24 0 = some (.slice A1 p_a.length c1) ∧ lkp L24 3 = some (.slice (some ⟨b4, 0, none⟩) p_a.length p_a.length) ∧ lkp L24 4 = some (.int .i64 ((k11 : Int))) ∧ RdS w25 (Iv 0 w.heap.size) (RF e_Write) 3 A1 p_a.length c1 p_a ∧ OwnL w25 b4 (b4 + 1) 75 3 (RF e_Write) (some ⟨b4, 0, none⟩) p_a.length p_a.length x22 ∧ Ex w w25 ∧ loopM (B_l_toWriteS_0 p_a) (p_a.length - k11) k11 (x22) = loopM (B_l_toWriteS_0 p_a) (p_a.length - 0) 0 ((List.replicate p_a.length d_Write))) (p_a.length - 0) ?_ ?_)
 ·exact ⟨0, (List.replicate p_a.length d_Write), rfl, (by omega), Nat.le_refl _, rfl, rfl, rfl, (RdS.ex good_Write h1 hE9), hO10, (Ex.trans (Ex.refl w) hE9), rfl⟩
 ·rintro m28 L29 w30 ⟨k11, x22, rfl, hk31, hsz33, hl34, hl35, hl36, hf37, hf38, hf39, hI32⟩
  refine CW.sub (Sub.cons hl34 (Sub.cons hl35 (Sub.cons hl36 (Sub.nil _)))) ?_
  have hf39z := Ex.size hf39
  have hbg40 := RdS.big hf37
  rcases Nat.lt_or_ge k11 p_a.length with hlt41 | hlt41
  ·refine CW.seq (CW.seq (CW.region (sd rfl (yl_move rfl rfl (sd rfl (yl_move rfl rfl (sd rfl (yl_len Tryz.un26 rfl rfl (sd rfl (yl_lss rfl rfl rfl (SeqR.done (tn ?_))))))))))))
   refine CW.cond_t rfl (lt_t hlt41) (CW.skip (tn (CW.seq (CW.block (CW.region (sd rfl (yl_move rfl rfl (sd rfl (yl_move rfl rfl (sd rfl (yl_move rfl rfl ?_)))))))))))
   refine sd rfl (yl_move rfl rfl ?_)
   obtain ⟨eb42, eo42, ec42, eA42, eS42, ebl42, el42, eR42, eC42⟩ := RdS.atD hf37 d_Write (i := k11) (by first | omega | assumption)
   obtain rfl := eR42
   have eC42 : Cells w30 eb42 (eo42 + k11 * 3) [.string (bs ((p_a.getD k11 d_Write).Key)), .string (bs ((p_a.getD k11 d_Write).Val)), .bool ((p_a.getD k11 d_Write).Gone)] := eC42
   refine sd rfl (yl_indexAddrN Tryz.un26 Tryz.ty69 rfl rfl rfl eA42 (by first | omega | assumption | (simp only [IntKind.wrap_i64] at *; omega)) (sd rfl (yl_loadN (cs := [.string (bs ((p_a.getD k11 d_Write).Key)), .string (bs ((p_a.getD k11 d_Write).Val)), .bool ((p_a.getD k11 d_Write).Gone)]) Tryz.ty69 rfl rfl eC42 rfl (sd rfl (yl_call Tryz.en31 rfl (opvs_cons rfl opvs_nil) (Cal.mono (c_l_toWrite (p_a.getD k11 d_Write) (okL.getD o2 ok_d_Write _)) ?_))))))
   rintro v44 w43 ⟨rfl, hE45⟩
   have hE45z := Ex.size hE45
   have q47 := OwnL.ex good_Write hf38 hE45
   obtain ⟨eb48, eo48, ec48, eA48, eS48, ebl48, el48, eR48, eC48⟩ := RdS.atD (OwnL.rd good_Write q47) d_Write (i := k11) (by first | omega | assumption)
   obtain rfl := eR48
   have eC48 : Cells w43 eb48 (eo48 + k11 * 3) [.string (bs ((x22.getD k11 d_Write).Key)), .string (bs ((x22.getD k11 d_Write).Val)), .bool ((x22.getD k11 d_Write).Gone)] := eC48
   refine sd rfl (yl_indexAddrN Tryz.un36 Tryz.ty75 rfl rfl rfl eA48 (by first | omega | assumption | (simp only [IntKind.wrap_i64] at *; omega)) ?_)
   have hrg49 := OwnL.rng q47 (i := k11) (by first | omega | assumption | (simp only [IntKind.wrap_i64] at *; omega)) eb48 (by rw [eA48]; rfl)
   refine SeqR.u rfl rfl (yl_storeF (off := eo48) (i := k11) (d := 0) (dx := d_Write) (x' := (p_a.getD k11 d_Write)) (vs := [.string (bs ((p_a.getD k11 d_Write).Key)), .string (bs ((p_a.getD k11 d_Write).Val)), .bool ((p_a.getD k11 d_Write).Gone)]) Tryz.ty75 rfl q47 eA48 rfl rfl rfl rfl rfl (by first | omega | assumption | (simp only [IntKind.wrap_i64] at *; omega)) (Nat.le_of_ble_eq_true rfl) rfl rfl ?_)
   intro w50 hB51 hO52
   have hO52z := hO52.size
   refine SeqR.done (bn (tn (CW.region (sd rfl (yl_move rfl rfl (sd rfl (yl_inc rfl rfl rfl (by omega) (sd rfl (yl_assign rfl rfl (SeqR.done (tn ?_)))))))))))
   have hB53 : B_l_toWriteS_0 p_a k11 (x22) = .cont ((x22.set k11 (p_a.getD k11 d_Write))) := by simp only [B_l_toWriteS_0, cond_true, cond_false, loopE_done, loopE_ret]
   exact ⟨p_a.length - (k11 + 1), by omega, k11 + 1, (x22.set k11 (p_a.getD k11 d_Write)), rfl, hlt41, (by omega), rfl, rfl, rfl, (RdS.only good_Write (RdS.ex good_Write hf37 hE45) hO52 (by simp only [Iv]; omega)), hB51, (Below.only (Ex.trans hf39 hE45) hO52 (by omega)), (loopM.cont hlt41 hB53).symm.trans hI32⟩
  ·refine CW.seq (CW.seq (CW.region (sd rfl (yl_move rfl rfl (sd rfl (yl_move rfl rfl (sd rfl (yl_len Tryz.un26 rfl rfl (sd rfl (yl_lss rfl rfl rfl (SeqR.done (tn ?_))))))))))))
   refine CW.cond_f rfl (lt_f hlt41) (CW.exit (tx (tx ?_)))
   have hL58 : loopM (B_l_toWriteS_0 p_a) (p_a.length - 0) 0 ((List.replicate p_a.length d_Write)) = .done (x22) := hI32.symm.trans (loopM.stop hlt41)
   refine bx (tn (CW.seq (CW.region (sd rfl (yl_move rfl rfl (sd rfl (yl_assign rfl rfl (SeqR.done (tn (CW.ret ?_))))))))))
   refine rr rfl (.cons rfl .nil) ?_
   have hM59 : p_a = (x22) := (to_WriteS _).symm.trans <| by simp only [l_toWriteS, hL58, cond_true, cond_false, loopE_done, loopE_ret]
   subst hM59
   exact ⟨(some ⟨b4, 0, none⟩), p_a.length, b4, (b4 + 1), rfl, hf38, (by omega), hf39⟩
set_option maxRecDepth 100000 in
set_option maxHeartbeats 2000000 in
theorem c_g_slices_Index_string {A1 : Option Addr} {c1 : Nat} {w : World} (p_s : List Str) (p_v : Str) (h1 : RdS w (Iv 0 w.heap.size) (RF e_Str) 1 A1 p_s.length c1 p_s) (o2 : (okL okS) p_s) (o3 : okS p_v) : Cal Tryz.prog 89 #[.slice A1 p_s.length c1, .string (bs (p_v))] w fun v w' => v = .int .i64 ((g_slices_Index_string p_s p_v)) ∧ Ex w w' := by
 have hol4 := o2.1
 have hol5 : p_v.length ≤ 1073741824 := o3
 refine Cal.of (vs := [.slice A1 p_s.length c1, .string (bs (p_v))]) Tryz.func89 rfl Tryz.ntmps89 rfl (CW.seq (CW.region (sd rfl (yl_assign rfl rfl (SeqR.done (tn (CW.seq (CW.seq (CW.region ?_)))))))))
 refine sd rfl (yl_move rfl rfl (sd rfl (yl_len Tryz.un22 rfl rfl (sd rfl (yl_move rfl rfl (SeqR.done (tn (CW.block (CW.loop (fun m7 L8 w9 => ∃ (k6 : Nat), m7 = p_s.length - k6 ∧ k6 ≤ p_s.length ∧ w.heap.size ≤ w9.heap.size ∧ lkp L8 0 = some (.slice A1 p_s.length c1) ∧ lkp L8 1 = some (.string (bs (p_v))) ∧ lkp L8 7 = some (.int .i64 ((p_s.length : Int))) ∧ lkp L8 8 = some (.int .i64 ((k6 : Int))) ∧ RdS w9 (Iv 0 w.heap.size) (RF e_Str) 1 A1 p_s.length c1 p_s ∧ Ex w w9 ∧ loopM (B_g_slices_Index_string_0 p_s p_v) (p_s.length - k6) k6 () = loopM (B_g_slices_Index_string_0 p_s p_v) (p_s.length - 0) 0 ()) (p_s.length - 0) ?_ ?_)))))))))
 ·exact ⟨0, rfl, (by omega), Nat.le_refl _, rfl, rfl, rfl, rfl, h1, (Ex.refl w), rfl⟩
 ·rintro m10 L11 w12 ⟨k6, rfl, hk13, hsz15, hl16, hl17, hl18, hl19, hf20, hf21, hI14⟩
  refine CW.sub (Sub.cons hl16 (Sub.cons hl17 (Sub.cons hl18 (Sub.cons hl19 (Sub.nil _))))) ?_
  have hf21z := Ex.size hf21
  have hbg22 := RdS.big hf20
  rcases Nat.lt_or_ge k6 p_s.length with hlt23 | hlt23
  ·refine CW.seq (CW.region (sd rfl (yl_lss rfl rfl rfl (SeqR.done (tn (CW.seq (CW.cond_t rfl (lt_t hlt23) (CW.skip (tn ?_)))))))))
   refine CW.seq (CW.block (CW.seq (CW.region (sd rfl (yl_move rfl rfl (sd rfl (yl_assign rfl rfl (SeqR.done (tn (CW.seq ?_))))))))))
   refine CW.region (sd rfl (yl_move rfl rfl (sd rfl (yl_move rfl rfl (sd rfl (yl_move rfl rfl ?_))))))
   obtain ⟨eb24, eo24, ec24, eA24, eS24, ebl24, el24, eR24, eC24⟩ := RdS.atD hf20 d_Str (i := k6) (by first | omega | assumption)
   obtain rfl := eR24
   have eC24 : Cells w12 eb24 (eo24 + k6 * 1) [.string (bs ((p_s.getD k6 d_Str)))] := eC24
   refine sd rfl (yl_indexAddrN Tryz.un22 Tryz.ty9 rfl rfl rfl eA24 (by first | omega | assumption | (simp only [IntKind.wrap_i64] at *; omega)) (sd rfl (yl_load1 Tryz.ty9 rfl rfl (eC24 0 _ rfl) (sd rfl (yl_seql (a := p_v) (b := (p_s.getD k6 d_Str)) rfl rfl rfl (SeqR.done (tn (bcase (p_v == (p_s.getD k6 d_Str)) (fun hb25 => ?_) (fun hb25 => ?_)))))))))
   ·refine CW.cond_t rfl hb25 (CW.seq (CW.region (sd rfl (yl_move rfl rfl (sd rfl (yl_assign rfl rfl (SeqR.done (tn (CW.ret (br ?_))))))))))
    refine tr (tr ?_)
    have hB27 : B_g_slices_Index_string_0 p_s p_v k6 () = .ret (k6 : Int) := by simp only [B_g_slices_Index_string_0, hb25, cond_true, cond_false, loopE_done, loopE_ret]
    have hL26 : loopM (B_g_slices_Index_string_0 p_s p_v) (p_s.length - 0) 0 () = .ret (k6 : Int) := hI14.symm.trans (loopM.ret hlt23 hB27)
    refine br (tr (rr rfl (.cons rfl .nil) ?_))
    have hM28 : (g_slices_Index_string p_s p_v) = ((k6 : Int)) := by simp only [g_slices_Index_string, hb25, hL26, cond_true, cond_false, loopE_done, loopE_ret]
    rw [hM28]
    exact ⟨rfl, hf21⟩
   ·refine CW.cond_f rfl hb25 (CW.skip (bn (tn (CW.region (sd rfl (yl_inc rfl rfl rfl (by omega) (sd rfl (yl_move rfl rfl (SeqR.done (tn ?_))))))))))
    have hB29 : B_g_slices_Index_string_0 p_s p_v k6 () = .cont () := by simp only [B_g_slices_Index_string_0, hb25, cond_true, cond_false, loopE_done, loopE_ret]
    exact ⟨p_s.length - (k6 + 1), by omega, k6 + 1, rfl, hlt23, (by omega), rfl, rfl, rfl, rfl, hf20, hf21, (loopM.cont hlt23 hB29).symm.trans hI14⟩
  ·refine CW.seq (CW.region (sd rfl (yl_lss rfl rfl rfl (SeqR.done (tn (CW.seq (CW.cond_f rfl (lt_f hlt23) (CW.exit (tx ?_)))))))))
   refine tx ?_
   have hL30 : loopM (B_g_slices_Index_string_0 p_s p_v) (p_s.length - 0) 0 () = .done () := hI14.symm.trans (loopM.stop hlt23)
   refine bx (tn (CW.seq (CW.region (sd rfl (yl_assign rfl rfl (SeqR.done (tn (CW.ret (rr rfl (.cons rfl .nil) ?_)))))))))
   have hM31 : (g_slices_Index_string p_s p_v) = (-1) := by simp only [g_slices_Index_string, hL30, cond_true, cond_false, loopE_done, loopE_ret]
   rw [hM31]
   exact ⟨rfl, hf21⟩
set_option maxRecDepth 100000 in
set_option maxHeartbeats 2000000 in
theorem c_g_slices_Contains_string {A1 : Option Addr} {c1 : Nat} {w : World} (p_s : List Str) (p_v : Str) (h1 : RdS w (Iv 0 w.heap.size) (RF e_Str) 1 A1 p_s.length c1 p_s) (o2 : (okL okS) p_s) (o3 : okS p_v) : Cal Tryz.prog 54 #[.slice A1 p_s.length c1, .string (bs (p_v))] w fun v w' => v = .bool ((g_slices_Contains_string p_s p_v)) ∧ Ex w w' := by
 have hol4 := o2.1
 have hol5 : p_v.length ≤ 1073741824 := o3
 refine Cal.of (vs := [.slice A1 p_s.length c1, .string (bs (p_v))]) Tryz.func54 rfl Tryz.ntmps54 rfl (CW.seq (CW.region (sd rfl (yl_assign rfl rfl (SeqR.done (tn (CW.seq (CW.region (sd rfl (yl_move rfl rfl ?_))))))))))
 refine sd rfl (yl_move rfl rfl (sd rfl (yl_call Tryz.en89 rfl (opvs_cons rfl (opvs_cons rfl opvs_nil)) (Cal.mono (c_g_slices_Index_string p_s p_v (RdS.up h1 good_Str) o2 o3) ?_))))
 rintro v7 w6 ⟨rfl, hE8⟩
 have hE8z := Ex.size hE8
 refine sd rfl (yl_geq rfl rfl rfl (sd rfl (yl_assign rfl rfl (SeqR.done (tn (CW.ret (rr rfl (.cons rfl .nil) ?_)))))))
 have hM9 : (g_slices_Contains_string p_s p_v) = (decide (0 ≤ (g_slices_Index_string p_s p_v))) := by simp only [g_slices_Contains_string, cond_true, cond_false, loopE_done, loopE_ret]
 rw [hM9]
 exact ⟨rfl, (Ex.trans (Ex.refl w) hE8)⟩
set_option maxRecDepth 100000 in
set_option maxHeartbeats 2000000 in
theorem c_i_within {w : World} (p_n : Int) (p_low : Int) (p_high : Int) : Cal Tryz.prog 66 #[.int .i64 (p_n), .int .i64 (p_low), .int .i64 (p_high)] w fun v w' => v = .bool ((i_within p_n p_low p_high)) ∧ Ex w w' := by
 refine Cal.of (vs := [.int .i64 (p_n), .int .i64 (p_low), .int .i64 (p_high)]) Tryz.func66 rfl Tryz.ntmps66 rfl (CW.seq (CW.region (sd rfl (yl_assign rfl rfl (SeqR.done (tn (CW.seq (CW.region (sd rfl (yl_move rfl rfl ?_))))))))))
 refine sd rfl (yl_move rfl rfl (sd rfl (yl_geq rfl rfl rfl (sd rfl (yl_move rfl rfl (bcase (decide (p_low ≤ p_n)) (fun hb1 => ?_) (fun hb1 => ?_)))))))
 ·have hb1p := dec_t hb1
  refine sy rfl rfl hb1 (yl_move rfl rfl (sy rfl rfl hb1 (yl_move rfl rfl (sy rfl rfl hb1 (yl_leq rfl rfl rfl (sd rfl (yl_pick_t rfl rfl hb1 rfl (sd rfl (yl_assign rfl rfl (SeqR.done (tn (CW.ret (rr rfl (.cons rfl .nil) ?_)))))))))))))
  have hM2 : (i_within p_n p_low p_high) = (decide (p_n ≤ p_high)) := by simp only [i_within, hb1, cond_true, cond_false, loopE_done, loopE_ret]
  rw [hM2]
  exact ⟨rfl, (Ex.refl w)⟩
 ·have hb1p := dec_f hb1
  refine sz rfl rfl hb1 (sz rfl rfl hb1 (sz rfl rfl hb1 (sd rfl (yl_pick_f rfl rfl hb1 rfl (sd rfl (yl_assign rfl rfl (SeqR.done (tn (CW.ret (rr rfl (.cons rfl .nil) ?_))))))))))
  have hM3 : (i_within p_n p_low p_high) = (false) := by simp only [i_within, hb1, cond_true, cond_false, loopE_done, loopE_ret]
  rw [hM3]
  exact ⟨rfl, (Ex.refl w)⟩
set_option maxRecDepth 100000 in
set_option maxHeartbeats 2000000 in
theorem c_i_areLetters {w : World} (p_s : Str) (p_most : Int) (o1 : okS p_s) : Cal Tryz.prog 65 #[.string (bs (p_s)), .int .i64 (p_most)] w fun v w' => v = .bool ((i_areLetters p_s p_most)) ∧ Ex w w' := by
 have hol2 : p_s.length ≤ 1073741824 := o1
 refine Cal.of (vs := [.string (bs (p_s)), .int .i64 (p_most)]) Tryz.func65 rfl Tryz.ntmps65 rfl (CW.seq (CW.region (sd rfl (yl_assign rfl rfl (SeqR.done (tn (CW.seq (CW.seq (CW.region ?_)))))))))
 refine sd rfl (yl_move rfl rfl (sd rfl (yl_slen Tryz.un9 (a := p_s) rfl rfl (sd rfl (yl_move rfl rfl (SeqR.done (tn (CW.block (CW.loop (fun m4 L5 w6 => ∃ (k3 : Nat), m4 = p_s.length - k3 ∧ k3 ≤ p_s.length ∧ w.heap.size ≤ w6.heap.size ∧ lkp L5 0 = some (.string (bs (p_s))) ∧ lkp L5 1 = some (.int .i64 (p_most)) ∧ lkp L5 7 = some (.int .i64 ((p_s.length : Int))) ∧ lkp L5 8 = some (.int .i64 ((k3 : Int))) ∧ Ex w w6 ∧ loopM (B_i_areLetters_0 p_s p_most) (p_s.length - k3) k3 () = loopM (B_i_areLetters_0 p_s p_most) (p_s.length - 0) 0 ()) (p_s.length - 0) ?_ ?_)))))))))
 ·exact ⟨0, rfl, (by omega), Nat.le_refl _, rfl, rfl, rfl, rfl, (Ex.refl w), rfl⟩
 ·rintro m7 L8 w9 ⟨k3, rfl, hk10, hsz12, hl13, hl14, hl15, hl16, hf17, hI11⟩
  refine CW.sub (Sub.cons hl13 (Sub.cons hl14 (Sub.cons hl15 (Sub.cons hl16 (Sub.nil _))))) ?_
  have hf17z := Ex.size hf17
  have hbg18 : p_s.length ≤ 1073741824 := o1
  rcases Nat.lt_or_ge k3 p_s.length with hlt19 | hlt19
  ·refine CW.seq (CW.region (sd rfl (yl_lss rfl rfl rfl (SeqR.done (tn (CW.seq (CW.cond_t rfl (lt_t hlt19) (CW.skip (tn ?_)))))))))
   refine CW.seq (CW.block (CW.seq (CW.region (sd rfl (yl_move rfl rfl (sd rfl (yl_assign rfl rfl (SeqR.done (tn (CW.seq ?_))))))))))
   refine CW.region (sd rfl (yl_move rfl rfl (sd rfl (yl_move rfl rfl (sd rfl (yl_sindexN Tryz.un9 (a := p_s) rfl rfl rfl (by first | omega | assumption | (simp only [IntKind.wrap_i64] at *; omega)) (sd rfl (yl_lss rfl rfl rfl (sd rfl (yl_move rfl rfl (bcase (decide (((p_s.getD k3 0).toNat : Int) < 97)) (fun hb20 => ?_) (fun hb20 => ?_))))))))))))
   ·have hb20p := dec_t hb20
    refine sz rfl rfl hb20 (sz rfl rfl hb20 (sz rfl rfl hb20 (sz rfl rfl hb20 (sd rfl (yl_pick_t rfl rfl hb20 rfl (SeqR.done (tn (CW.cond_t rfl rfl (CW.seq ?_)))))))))
    refine CW.region (sd rfl (yl_assign rfl rfl (SeqR.done (tn (CW.ret (br (tr (tr ?_))))))))
    have hB22 : B_i_areLetters_0 p_s p_most k3 () = .ret false := by simp only [B_i_areLetters_0, hb20, cond_true, cond_false, loopE_done, loopE_ret]
    have hL21 : loopM (B_i_areLetters_0 p_s p_most) (p_s.length - 0) 0 () = .ret false := hI11.symm.trans (loopM.ret hlt19 hB22)
    refine br (tr (rr rfl (.cons rfl .nil) ?_))
    have hM23 : (i_areLetters p_s p_most) = (false) := by simp only [i_areLetters, hb20, hL21, cond_true, cond_false, loopE_done, loopE_ret]
    rw [hM23]
    exact ⟨rfl, hf17⟩
   ·have hb20p := dec_f hb20
    refine sy rfl rfl hb20 (yl_move rfl rfl (sy rfl rfl hb20 (yl_move rfl rfl (sy rfl rfl hb20 (yl_sindexN Tryz.un9 (a := p_s) rfl rfl rfl (by first | omega | assumption | (simp only [IntKind.wrap_i64] at *; omega)) (sy rfl rfl hb20 (yl_gtr rfl rfl rfl (sd rfl (yl_pick_f rfl rfl hb20 rfl (SeqR.done (tn (bcase (decide (122 < ((p_s.getD k3 0).toNat : Int))) (fun hb24 => ?_) (fun hb24 => ?_)))))))))))))
    ·have hb24p := dec_t hb24
     refine CW.cond_t rfl hb24 (CW.seq (CW.region (sd rfl (yl_assign rfl rfl (SeqR.done (tn (CW.ret (br (tr ?_)))))))))
     refine tr ?_
     have hB26 : B_i_areLetters_0 p_s p_most k3 () = .ret false := by simp only [B_i_areLetters_0, hb20, hb24, cond_true, cond_false, loopE_done, loopE_ret]
     have hL25 : loopM (B_i_areLetters_0 p_s p_most) (p_s.length - 0) 0 () = .ret false := hI11.symm.trans (loopM.ret hlt19 hB26)
     refine br (tr (rr rfl (.cons rfl .nil) ?_))
     have hM27 : (i_areLetters p_s p_most) = (false) := by simp only [i_areLetters, hb20, hb24, hL25, cond_true, cond_false, loopE_done, loopE_ret]
     rw [hM27]
     exact ⟨rfl, hf17⟩
    ·have hb24p := dec_f hb24
     refine CW.cond_f rfl hb24 (CW.skip (bn (tn (CW.region (sd rfl (yl_inc rfl rfl rfl (by omega) (sd rfl (yl_move rfl rfl (SeqR.done (tn ?_))))))))))
     have hB28 : B_i_areLetters_0 p_s p_most k3 () = .cont () := by simp only [B_i_areLetters_0, hb20, hb24, cond_true, cond_false, loopE_done, loopE_ret]
     exact ⟨p_s.length - (k3 + 1), by omega, k3 + 1, rfl, hlt19, (by omega), rfl, rfl, rfl, rfl, hf17, (loopM.cont hlt19 hB28).symm.trans hI11⟩
  ·refine CW.seq (CW.region (sd rfl (yl_lss rfl rfl rfl (SeqR.done (tn (CW.seq (CW.cond_f rfl (lt_f hlt19) (CW.exit (tx ?_)))))))))
   refine tx ?_
   have hL29 : loopM (B_i_areLetters_0 p_s p_most) (p_s.length - 0) 0 () = .done () := hI11.symm.trans (loopM.stop hlt19)
   refine bx (tn (CW.seq (CW.region (sd rfl (yl_move rfl rfl (sd rfl (yl_slen Tryz.un9 (a := p_s) rfl rfl (sd rfl (yl_move rfl rfl (sd rfl (yl_call Tryz.en66 rfl (opvs_cons rfl (opvs_cons rfl (opvs_cons rfl opvs_nil))) (Cal.mono (c_i_within (p_s.length : Int) 1 p_most) ?_))))))))))))
   rintro v31 w30 ⟨rfl, hE32⟩
   have hE32z := Ex.size hE32
   refine sd rfl (yl_assign rfl rfl (SeqR.done (tn (CW.ret (rr rfl (.cons rfl .nil) ?_)))))
   have hM33 : (i_areLetters p_s p_most) = ((i_within (p_s.length : Int) 1 p_most)) := by simp only [i_areLetters, hL29, cond_true, cond_false, loopE_done, loopE_ret]
   rw [hM33]
   exact ⟨rfl, (Ex.trans hf17 hE32)⟩
set_option maxRecDepth 100000 in
set_option maxHeartbeats 2000000 in
theorem c_i_isStage {w : World} (p_stage : Int) : Cal Tryz.prog 67 #[.int .i64 (p_stage)] w fun v w' => v = .bool ((i_isStage p_stage)) ∧ Ex w w' := by
 refine Cal.of (vs := [.int .i64 (p_stage)]) Tryz.func67 rfl Tryz.ntmps67 rfl (CW.seq (CW.region (sd rfl (yl_assign rfl rfl (SeqR.done (tn (CW.seq (CW.region (sd rfl (yl_move rfl rfl ?_))))))))))
 refine sd rfl (yl_call Tryz.en66 rfl (opvs_cons rfl (opvs_cons rfl (opvs_cons rfl opvs_nil))) (Cal.mono (c_i_within p_stage 0 3) ?_))
 rintro v2 w1 ⟨rfl, hE3⟩
 have hE3z := Ex.size hE3
 refine sd rfl (yl_assign rfl rfl (SeqR.done (tn (CW.ret (rr rfl (.cons rfl .nil) ?_)))))
 have hM4 : (i_isStage p_stage) = ((i_within p_stage 0 3)) := by simp only [i_isStage, cond_true, cond_false, loopE_done, loopE_ret]
 rw [hM4]
 exact ⟨rfl, (Ex.trans (Ex.refl w) hE3)⟩
set_option maxRecDepth 100000 in
set_option maxHeartbeats 2000000 in
theorem c_i_GoodTable {A1 : Option Addr} {c1 : Nat} {A2 : Option Addr} {c2 : Nat} {w : World} (p_0 : DTable) (h1 : RdS w (Iv 0 w.heap.size) (RF e_Str) 1 A1 p_0.Cols.length c1 p_0.Cols) (h2 : RdS w (Iv 0 w.heap.size) (RF e_Idx) 3 A2 p_0.Idxs.length c2 p_0.Idxs) (o3 : ok_Table p_0) : Cal Tryz.prog 32 #[.agg #[.string (bs (p_0.Name)), .slice A1 p_0.Cols.length c1, .slice A2 p_0.Idxs.length c2]] w fun v w' => v = .bool ((i_GoodTable p_0)) ∧ Ex w w' := by
 have hol4 : p_0.Name.length ≤ 1073741824 := o3.1
 have hol5 := o3.2.1.1
 have hol6 := o3.2.2.1
 refine Cal.of (vs := [.agg #[.string (bs (p_0.Name)), .slice A1 p_0.Cols.length c1, .slice A2 p_0.Idxs.length c2]]) Tryz.func32 rfl Tryz.ntmps32 rfl (CW.seq (CW.region (sd rfl (yl_box (cs := [.string (bs (p_0.Name)), .slice A1 p_0.Cols.length c1, .slice A2 p_0.Idxs.length c2]) rfl rfl rfl ?_))))
 intro b7 w8 hs9 hz10 hB11 hE12
 refine sd rfl (yl_assign rfl rfl (SeqR.done (tn (CW.seq (CW.seq (CW.region (sd rfl (yl_fieldAddr Tryz.fd34_0 rfl rfl (sd rfl (yl_load1 Tryz.ty9 rfl rfl ((hB11.cell 0).trans rfl) (sd rfl (yl_call Tryz.en65 rfl (opvs_cons rfl (opvs_cons rfl opvs_nil)) (Cal.mono (c_i_areLetters p_0.Name 1 o3.1) ?_)))))))))))))
 rintro v14 w13 ⟨rfl, hE15⟩
 have hE15z := Ex.size hE15
 refine sd rfl (yl_not rfl rfl (sd rfl (yl_move rfl rfl (bcase (i_areLetters p_0.Name 1) (fun hb16 => ?_) (fun hb16 => ?_)))))
 ·refine sy rfl rfl (not_t hb16) (yl_fieldAddr Tryz.fd34_1 rfl rfl ?_)
  have q17 := Box.ex hB11 hE15
  refine sy rfl rfl (not_t hb16) (yl_load1 Tryz.ty22 rfl rfl ((q17.cell 1).trans rfl) (sy rfl rfl (not_t hb16) (yl_len Tryz.un22 rfl rfl (sy rfl rfl (not_t hb16) (yl_call Tryz.en66 rfl (opvs_cons rfl (opvs_cons rfl (opvs_cons rfl opvs_nil))) (Cal.mono (c_i_within (p_0.Cols.length : Int) 2 4) ?_))))))
  rintro v19 w18 ⟨rfl, hE20⟩
  have hE20z := Ex.size hE20
  refine sy rfl rfl (not_t hb16) (yl_not rfl rfl (sd rfl (yl_pick_f rfl rfl (not_t hb16) rfl (sd rfl (yl_move rfl rfl (bcase (i_within (p_0.Cols.length : Int) 2 4) (fun hb21 => ?_) (fun hb21 => ?_)))))))
  ·have hb21p := f_within hb21
   refine sy rfl rfl (not_t hb21) (yl_fieldAddr Tryz.fd34_2 rfl rfl ?_)
   have q22 := Box.ex q17 hE20
   refine sy rfl rfl (not_t hb21) (yl_load1 Tryz.ty32 rfl rfl ((q22.cell 2).trans rfl) (sy rfl rfl (not_t hb21) (yl_len Tryz.un32 rfl rfl (sy rfl rfl (not_t hb21) (yl_gtr rfl rfl rfl (sd rfl (yl_pick_f rfl rfl (not_t hb21) rfl (SeqR.done (tn (bcase (decide (3 < (p_0.Idxs.length : Int))) (fun hb23 => ?_) (fun hb23 => ?_)))))))))))
   ·have hb23p := dec_t hb23
    refine CW.cond_t rfl hb23 (CW.seq (CW.region (sd rfl (yl_assign rfl rfl (SeqR.done (tn (CW.ret (tr (rr rfl (.cons rfl .nil) ?_)))))))))
    have hM24 : (i_GoodTable p_0) = (false) := by simp only [i_GoodTable, hb16, hb21, hb23, cond_true, cond_false, loopE_done, loopE_ret]
    rw [hM24]
    exact ⟨rfl, (Ex.trans (Ex.trans (Ex.trans (Ex.refl w) hE12) hE15) hE20)⟩
   ·have hb23p := dec_f hb23
    refine CW.cond_f rfl hb23 (CW.skip (tn (CW.seq (CW.seq (CW.region (sd rfl (yl_fieldAddr Tryz.fd34_1 rfl rfl (sd rfl (yl_load1 Tryz.ty22 rfl rfl ((q22.cell 1).trans rfl) (sd rfl (yl_len Tryz.un22 rfl rfl ?_)))))))))))
    refine sd rfl (yl_move rfl rfl (SeqR.done (tn (CW.block (CW.loop (fun m29 L30 w31 => ∃ (k28 : Nat), m29 = p_0.Cols.length - k28 ∧ k28 ≤ p_0.Cols.length ∧ w18.heap.size ≤ w31.heap.size ∧ lkp L30 1 = some (.pointer (some ⟨b7, 0, none⟩)) ∧ lkp L30 25 = some (.slice A1 p_0.Cols.length c1) ∧ lkp L30 26 = some (.int .i64 ((p_0.Cols.length : Int))) ∧ lkp L30 27 = some (.int .i64 ((k28 : Int))) ∧ Box w31 b7 34 [.string (bs (p_0.Name)), .slice A1 p_0.Cols.length c1, .slice A2 p_0.Idxs.length c2] ∧ RdS w31 (Iv 0 w.heap.size) (RF e_Str) 1 A1 p_0.Cols.length c1 p_0.Cols ∧ RdS w31 (Iv 0 w.heap.size) (RF e_Idx) 3 A2 p_0.Idxs.length c2 p_0.Idxs ∧ Ex w w31 ∧ loopM (B_i_GoodTable_0 p_0) (p_0.Cols.length - k28) k28 () = loopM (B_i_GoodTable_0 p_0) (p_0.Cols.length - 0) 0 ()) (p_0.Cols.length - 0) ?_ ?_)))))
    ·exact ⟨0, rfl, (by omega), Nat.le_refl _, rfl, rfl, rfl, rfl, q22, (RdS.ex good_Str (RdS.ex good_Str (RdS.ex good_Str h1 hE12) hE15) hE20), (RdS.ex good_Idx (RdS.ex good_Idx (RdS.ex good_Idx h2 hE12) hE15) hE20), (Ex.trans (Ex.trans (Ex.trans (Ex.refl w) hE12) hE15) hE20), rfl⟩
    ·rintro m41 L42 w43 ⟨k28, rfl, hk44, hsz46, hl47, hl48, hl49, hl50, hf51, hf52, hf53, hf54, hI45⟩
     refine CW.sub (Sub.cons hl47 (Sub.cons hl48 (Sub.cons hl49 (Sub.cons hl50 (Sub.nil _))))) ?_
     have hf51z := Box.lt hf51
     have hf54z := Ex.size hf54
     have hbg55 := RdS.big hf52
     rcases Nat.lt_or_ge k28 p_0.Cols.length with hlt56 | hlt56
     ·refine CW.seq (CW.region (sd rfl (yl_lss rfl rfl rfl (SeqR.done (tn (CW.seq (CW.cond_t rfl (lt_t hlt56) (CW.skip (tn ?_)))))))))
      refine CW.seq (CW.block (CW.seq (CW.region (sd rfl (yl_move rfl rfl ?_)))))
      obtain ⟨eb57, eo57, ec57, eA57, eS57, ebl57, el57, eR57, eC57⟩ := RdS.atD hf52 d_Str (i := k28) (by first | omega | assumption)
      obtain rfl := eR57
      have eC57 : Cells w43 eb57 (eo57 + k28 * 1) [.string (bs ((p_0.Cols.getD k28 d_Str)))] := eC57
      refine sd rfl (yl_indexAddrN Tryz.un22 Tryz.ty9 rfl rfl rfl eA57 (by first | omega | assumption | (simp only [IntKind.wrap_i64] at *; omega)) (sd rfl (yl_load1 Tryz.ty9 rfl rfl (eC57 0 _ rfl) (sd rfl (yl_assign rfl rfl (sd rfl (yl_assign rfl rfl (SeqR.done (tn (CW.seq (CW.region (sd rfl (yl_move rfl rfl ?_)))))))))))))
      refine sd rfl (yl_call Tryz.en65 rfl (opvs_cons rfl (opvs_cons rfl opvs_nil)) (Cal.mono (c_i_areLetters (p_0.Cols.getD k28 d_Str) 3 (okL.getD o3.2.1 ok_d_Str _)) ?_))
      rintro v59 w58 ⟨rfl, hE60⟩
      have hE60z := Ex.size hE60
      refine sd rfl (yl_not rfl rfl (sd rfl (yl_move rfl rfl (bcase (i_areLetters (p_0.Cols.getD k28 d_Str) 3) (fun hb61 => ?_) (fun hb61 => ?_)))))
      ·refine sy rfl rfl (not_t hb61) (yl_fieldAddr Tryz.fd34_1 rfl rfl ?_)
       have q62 := Box.ex hf51 hE60
       refine sy rfl rfl (not_t hb61) (yl_load1 Tryz.ty22 rfl rfl ((q62.cell 1).trans rfl) (sy rfl rfl (not_t hb61) (yl_move rfl rfl ?_)))
       have q63 := RdS.ex good_Str hf52 hE60
       obtain ⟨A64, c65, he68, h67⟩ := RdS.sl (RdS.drop (RdS.take q63 (k := k28) (by omega)) (k := 0) (by omega))
       have hrc69 := (q63).2.1
       refine sy rfl rfl (not_t hb61) (yl_sliceR (kl := .i64) (l := 0) (h := k28) Tryz.un22 Tryz.ty9 rfl rfl (.inl ⟨rfl, rfl⟩) (.inr ⟨_, rfl, rfl⟩) (by omega) (by omega) he68 (sy rfl rfl (not_t hb61) (yl_move rfl rfl (sy rfl rfl (not_t hb61) (yl_call Tryz.en54 rfl (opvs_cons rfl (opvs_cons rfl opvs_nil)) (Cal.mono (c_g_slices_Contains_string (p_0.Cols.take k28) (p_0.Cols.getD k28 d_Str) (RdS.up h67 good_Str) (okL.take o3.2.1 _) (okL.getD o3.2.1 ok_d_Str _)) ?_))))))
       rintro v71 w70 ⟨rfl, hE72⟩
       have hE72z := Ex.size hE72
       refine sd rfl (yl_pick_f rfl rfl (not_t hb61) rfl (SeqR.done (tn (bcase (g_slices_Contains_string (p_0.Cols.take k28) (p_0.Cols.getD k28 d_Str)) (fun hb73 => ?_) (fun hb73 => ?_)))))
       ·refine CW.cond_t rfl hb73 (CW.seq (CW.region (sd rfl (yl_assign rfl rfl (SeqR.done (tn (CW.ret (br (tr ?_)))))))))
        refine tr ?_
        have hB75 : B_i_GoodTable_0 p_0 k28 () = .ret false := by simp only [B_i_GoodTable_0, hb16, hb21, hb23, hb61, hb73, cond_true, cond_false, loopE_done, loopE_ret]
        have hL74 : loopM (B_i_GoodTable_0 p_0) (p_0.Cols.length - 0) 0 () = .ret false := hI45.symm.trans (loopM.ret hlt56 hB75)
        refine br (tr (rr rfl (.cons rfl .nil) ?_))
        have hM76 : (i_GoodTable p_0) = (false) := by simp only [i_GoodTable, hb16, hb21, hb23, hb61, hb73, hL74, cond_true, cond_false, loopE_done, loopE_ret]
        rw [hM76]
        exact ⟨rfl, (Ex.trans (Ex.trans hf54 hE60) hE72)⟩
       ·refine CW.cond_f rfl hb73 (CW.skip (bn (tn (CW.region (sd rfl (yl_inc rfl rfl rfl (by omega) (sd rfl (yl_move rfl rfl (SeqR.done (tn ?_))))))))))
        have hB79 : B_i_GoodTable_0 p_0 k28 () = .cont () := by simp only [B_i_GoodTable_0, hb16, hb21, hb23, hb61, hb73, cond_true, cond_false, loopE_done, loopE_ret]
        exact ⟨p_0.Cols.length - (k28 + 1), by omega, k28 + 1, rfl, hlt56, (by omega), rfl, rfl, rfl, rfl, (Box.ex q62 hE72), (RdS.ex good_Str q63 hE72), (RdS.ex good_Idx (RdS.ex good_Idx hf53 hE60) hE72), (Ex.trans (Ex.trans hf54 hE60) hE72), (loopM.cont hlt56 hB79).symm.trans hI45⟩
      ·refine sz rfl rfl (not_f hb61) (sz rfl rfl (not_f hb61) (sz rfl rfl (not_f hb61) (sz rfl rfl (not_f hb61) (sz rfl rfl (not_f hb61) (sz rfl rfl (not_f hb61) (sd rfl (yl_pick_t rfl rfl (not_f hb61) rfl (SeqR.done (tn ?_)))))))))
       refine CW.cond_t rfl rfl (CW.seq (CW.region (sd rfl (yl_assign rfl rfl (SeqR.done (tn (CW.ret (br (tr ?_)))))))))
       refine tr ?_
       have hB87 : B_i_GoodTable_0 p_0 k28 () = .ret false := by simp only [B_i_GoodTable_0, hb16, hb21, hb23, hb61, cond_true, cond_false, loopE_done, loopE_ret]
       have hL86 : loopM (B_i_GoodTable_0 p_0) (p_0.Cols.length - 0) 0 () = .ret false := hI45.symm.trans (loopM.ret hlt56 hB87)
       refine br (tr (rr rfl (.cons rfl .nil) ?_))
       have hM88 : (i_GoodTable p_0) = (false) := by simp only [i_GoodTable, hb16, hb21, hb23, hb61, hL86, cond_true, cond_false, loopE_done, loopE_ret]
       rw [hM88]
       exact ⟨rfl, (Ex.trans hf54 hE60)⟩
     ·refine CW.seq (CW.region (sd rfl (yl_lss rfl rfl rfl (SeqR.done (tn (CW.seq (CW.cond_f rfl (lt_f hlt56) (CW.exit (tx ?_)))))))))
      refine tx ?_
      have hL90 : loopM (B_i_GoodTable_0 p_0) (p_0.Cols.length - 0) 0 () = .done () := hI45.symm.trans (loopM.stop hlt56)
      refine bx (tn (CW.seq (CW.seq (CW.region (sd rfl (yl_fieldAddr Tryz.fd34_2 rfl rfl (sd rfl (yl_load1 Tryz.ty32 rfl rfl ((hf51.cell 2).trans rfl) (sd rfl (yl_len Tryz.un32 rfl rfl (sd rfl (yl_move rfl rfl ?_))))))))))))
      refine SeqR.done (tn (CW.block (CW.loop (fun m129 L130 w131 => ∃ (k91 : Nat), m129 = p_0.Idxs.length - k91 ∧ k91 ≤ p_0.Idxs.length ∧ w43.heap.size ≤ w131.heap.size ∧ lkp L130 1 = some (.pointer (some ⟨b7, 0, none⟩)) ∧ lkp L130 45 = some (.slice A2 p_0.Idxs.length c2) ∧ lkp L130 46 = some (.int .i64 ((p_0.Idxs.length : Int))) ∧ lkp L130 47 = some (.int .i64 ((k91 : Int))) ∧ Box w131 b7 34 [.string (bs (p_0.Name)), .slice A1 p_0.Cols.length c1, .slice A2 p_0.Idxs.length c2] ∧ RdS w131 (Iv 0 w.heap.size) (RF e_Str) 1 A1 p_0.Cols.length c1 p_0.Cols ∧ RdS w131 (Iv 0 w.heap.size) (RF e_Idx) 3 A2 p_0.Idxs.length c2 p_0.Idxs ∧ Ex w w131 ∧ loopM (B_i_GoodTable_1 p_0) (p_0.Idxs.length - k91) k91 () = loopM (B_i_GoodTable_1 p_0) (p_0.Idxs.length - 0) 0 ()) (p_0.Idxs.length - 0) ?_ ?_)))
      ·exact ⟨0, rfl, (by omega), Nat.le_refl _, rfl, rfl, rfl, rfl, hf51, hf52, hf53, hf54, rfl⟩
      ·rintro m132 L133 w134 ⟨k91, rfl, hk135, hsz137, hl138, hl139, hl140, hl141, hf142, hf143, hf144, hf145, hI136⟩
       refine CW.sub (Sub.cons hl138 (Sub.cons hl139 (Sub.cons hl140 (Sub.cons hl141 (Sub.nil _))))) ?_
       have hf142z := Box.lt hf142
       have hf145z := Ex.size hf145
       have hbg146 := RdS.big hf144
       rcases Nat.lt_or_ge k91 p_0.Idxs.length with hlt147 | hlt147
       ·refine CW.seq (CW.region (sd rfl (yl_lss rfl rfl rfl (SeqR.done (tn (CW.seq (CW.cond_t rfl (lt_t hlt147) (CW.skip (tn ?_)))))))))
        refine CW.seq (CW.block (CW.seq (CW.region (sd rfl (yl_move rfl rfl ?_)))))
        obtain ⟨eb148, eo148, ec148, eA148, eS148, ebl148, el148, eR148, eC148⟩ := RdS.atD hf144 d_Idx (i := k91) (by first | omega | assumption)
        obtain rfl := eR148
        have eC148 : Cells w134 eb148 (eo148 + k91 * 3) [.string (bs ((p_0.Idxs.getD k91 d_Idx).Name)), .int .i64 ((p_0.Idxs.getD k91 d_Idx).Col), .int .i64 ((p_0.Idxs.getD k91 d_Idx).Stage)] := eC148
        refine sd rfl (yl_indexAddrN Tryz.un32 Tryz.ty104 rfl rfl rfl eA148 (by first | omega | assumption | (simp only [IntKind.wrap_i64] at *; omega)) (sd rfl (yl_loadN (cs := [.string (bs ((p_0.Idxs.getD k91 d_Idx).Name)), .int .i64 ((p_0.Idxs.getD k91 d_Idx).Col), .int .i64 ((p_0.Idxs.getD k91 d_Idx).Stage)]) Tryz.ty104 rfl rfl eC148 rfl (sd rfl (yl_alloc Tryz.ty104 (cs := [.string (bs (([] : Str))), .int .i64 (0), .int .i64 (0)]) rfl rfl ?_)))))
        intro b149 w150 hs151 hz152 hB153 hE154
        refine sd rfl (yl_assign rfl rfl (SeqR.u rfl rfl (yl_store (vs := [.string (bs ((p_0.Idxs.getD k91 d_Idx).Name)), .int .i64 ((p_0.Idxs.getD k91 d_Idx).Col), .int .i64 ((p_0.Idxs.getD k91 d_Idx).Stage)]) Tryz.ty104 rfl rfl rfl rfl rfl rfl hB153 (Nat.le_of_ble_eq_true rfl) ?_)))
        intro w155 hB156 hO157
        have hB156 : Box w155 b149 104 [.string (bs ((p_0.Idxs.getD k91 d_Idx).Name)), .int .i64 ((p_0.Idxs.getD k91 d_Idx).Col), .int .i64 ((p_0.Idxs.getD k91 d_Idx).Stage)] := hB156
        have hO157z := hO157.size
        refine SeqR.done (tn (CW.seq (bcase (i_areLetters ((p_0.Idxs.getD k91 d_Idx).Name) 1) (fun hb159 => ?_) (fun hb159 => ?_))))
        ·refine bcase (i_within ((p_0.Idxs.getD k91 d_Idx).Col) 1 (IntKind.wrap .i64 ((p_0.Cols.length : Int) - 1))) (fun hb164 => ?_) (fun hb164 => ?_)
         ·have hb164p := f_within hb164
          refine bcase (i_isStage ((p_0.Idxs.getD k91 d_Idx).Stage)) (fun hb170 => ?_) (fun hb170 => ?_)
          ·have hb170p := f_i_isStage hb170
           refine bcase (decide (0 < (k91 : Int))) (fun hb176 => ?_) (fun hb176 => ?_)
           ·have hb176p := dec_t hb176
            have q179 := Box.only (Box.ex hf142 hE154) hO157 (by omega)
            have q183 := RdS.only good_Idx (RdS.ex good_Idx hf144 hE154) hO157 (by simp only [Iv]; omega)
            obtain ⟨eb184, eo184, ec184, eA184, eS184, ebl184, el184, eR184, eC184⟩ := RdS.atD q183 d_Idx (i := (IntKind.wrap .i64 ((k91 : Int) - 1)).toNat) (by first | omega | assumption | (simp only [IntKind.wrap_i64] at *; omega))
            obtain rfl := eR184
            have eC184 : Cells w155 eb184 (eo184 + ((IntKind.wrap .i64 ((k91 : Int) - 1)).toNat) * 3) [.string (bs ((p_0.Idxs.getD ((IntKind.wrap .i64 ((k91 : Int) - 1)).toNat) d_Idx).Name)), .int .i64 ((p_0.Idxs.getD ((IntKind.wrap .i64 ((k91 : Int) - 1)).toNat) d_Idx).Col), .int .i64 ((p_0.Idxs.getD ((IntKind.wrap .i64 ((k91 : Int) - 1)).toNat) d_Idx).Stage)] := eC184
            refine CW.drawsI 36 (vgetI [DetI (.pointer (some ⟨b149, 0 + 0, none⟩)), DetI (.string (bs ((p_0.Idxs.getD k91 d_Idx).Name))), DetI (.bool ((i_areLetters ((p_0.Idxs.getD k91 d_Idx).Name) 1))), DetI (.bool (!(i_areLetters ((p_0.Idxs.getD k91 d_Idx).Name) 1))), DetI (.bool (!(i_areLetters ((p_0.Idxs.getD k91 d_Idx).Name) 1))), DetI (.pointer (some ⟨b149, 0 + 1, none⟩)), DetI (.int .i64 ((p_0.Idxs.getD k91 d_Idx).Col)), DetI (.pointer (some ⟨b7, 0 + 1, none⟩)), DetI (.slice A1 p_0.Cols.length c1), DetI (.int .i64 ((p_0.Cols.length : Int))), DetI (.int .i64 (IntKind.wrap .i64 ((p_0.Cols.length : Int) - 1))), DetI (.bool ((i_within ((p_0.Idxs.getD k91 d_Idx).Col) 1 (IntKind.wrap .i64 ((p_0.Cols.length : Int) - 1))))), DetI (.bool (!(i_within ((p_0.Idxs.getD k91 d_Idx).Col) 1 (IntKind.wrap .i64 ((p_0.Cols.length : Int) - 1))))), DetI (.bool (!(i_within ((p_0.Idxs.getD k91 d_Idx).Col) 1 (IntKind.wrap .i64 ((p_0.Cols.length : Int) - 1))))), DetI (.bool (!(i_within ((p_0.Idxs.getD k91 d_Idx).Col) 1 (IntKind.wrap .i64 ((p_0.Cols.length : Int) - 1))))), DetI (.pointer (some ⟨b149, 0 + 2, none⟩)), DetI (.int .i64 ((p_0.Idxs.getD k91 d_Idx).Stage)), DetI (.bool ((i_isStage ((p_0.Idxs.getD k91 d_Idx).Stage)))), DetI (.bool (!(i_isStage ((p_0.Idxs.getD k91 d_Idx).Stage)))), DetI (.bool (!(i_isStage ((p_0.Idxs.getD k91 d_Idx).Stage)))), DetI (.bool (!(i_isStage ((p_0.Idxs.getD k91 d_Idx).Stage)))), DetI (.int .i64 ((k91 : Int))), DetI (.bool (decide (0 < (k91 : Int)))), DetI (.bool (decide (0 < (k91 : Int)))), DetI (.pointer (some ⟨b149, 0 + 0, none⟩)), DetI (.string (bs ((p_0.Idxs.getD k91 d_Idx).Name))), DetI (.pointer (some ⟨b7, 0 + 2, none⟩)), DetI (.slice A2 p_0.Idxs.length c2), DetI (.int .i64 ((k91 : Int))), DetI (.int .i64 (IntKind.wrap .i64 ((k91 : Int) - 1))), DetI (.pointer (some ⟨eb184, eo184 + ((IntKind.wrap .i64 ((k91 : Int) - 1)).toNat) * 3, none⟩)), DetI (.pointer (some ⟨eb184, eo184 + ((IntKind.wrap .i64 ((k91 : Int) - 1)).toNat) * 3 + 0, none⟩)), DetI (.string (bs ((p_0.Idxs.getD ((IntKind.wrap .i64 ((k91 : Int) - 1)).toNat) d_Idx).Name))), DetI (.bool (sLe ((p_0.Idxs.getD k91 d_Idx).Name) ((p_0.Idxs.getD ((IntKind.wrap .i64 ((k91 : Int) - 1)).toNat) d_Idx).Name))), DetI (.bool (sLe ((p_0.Idxs.getD k91 d_Idx).Name) ((p_0.Idxs.getD ((IntKind.wrap .i64 ((k91 : Int) - 1)).toNat) d_Idx).Name))), DetI (.bool (sLe ((p_0.Idxs.getD k91 d_Idx).Name) ((p_0.Idxs.getD ((IntKind.wrap .i64 ((k91 : Int) - 1)).toNat) d_Idx).Name)))]) Tryz.follows rfl rfl rfl rfl rfl rfl (vgetI_stable ⟨StableI.det _, StableI.det _, StableI.det _, StableI.det _, StableI.det _, StableI.det _, StableI.det _, StableI.det _, StableI.det _, StableI.det _, StableI.det _, StableI.det _, StableI.det _, StableI.det _, StableI.det _, StableI.det _, StableI.det _, StableI.det _, StableI.det _, StableI.det _, StableI.det _, StableI.det _, StableI.det _, StableI.det _, StableI.det _, StableI.det _, StableI.det _, StableI.det _, StableI.det _, StableI.det _, StableI.det _, StableI.det _, StableI.det _, StableI.det _, StableI.det _, StableI.det _, trivial⟩) ⟨?_, ?_, ?_, ?_, ?_, ?_, ?_, ?_, ?_, ?_, ?_, ?_, ?_, ?_, ?_, ?_, ?_, ?_, ?_, ?_, ?_, ?_, ?_, ?_, ?_, ?_, ?_, ?_, ?_, ?_, ?_, ?_, ?_, ?_, ?_, ?_, trivial⟩ ?_
            ·exact fun _ _ h => os rfl ((yl_fieldAddr Tryz.fd104_0 rfl (h.old 6 _ rfl rfl) kI))
            ·exact fun _ _ h => os rfl ((yl_load1 Tryz.ty9 rfl (h.dt 0 52 rfl rfl rfl) (((Box.ex hB156 h.ex).cell 0).trans rfl) kI))
            ·intro L196 w197 hi198
             refine OpR.op' rfl (yl_call Tryz.en65 rfl (opvs_cons (hi198.dt 1 53 rfl rfl rfl) (opvs_cons rfl opvs_nil)) (Cal.mono (c_i_areLetters ((p_0.Idxs.getD k91 d_Idx).Name) 1 (okL.getD o3.2.2 ok_d_Idx _)) ?_))
             rintro v202 w201 ⟨rfl, hE203⟩
             exact ⟨rfl, hE203⟩
            ·exact fun _ _ h => os rfl ((yl_not rfl (h.dt 2 54 rfl rfl rfl) kI))
            ·exact fun _ _ h => os rfl ((yl_move rfl (h.dt 3 55 rfl rfl rfl) kI))
            ·exact fun _ _ h => OpR.want rfl rfl (h.dt 4 56 rfl rfl rfl) (not_t hb159) (Yl.sameI (yl_fieldAddr Tryz.fd104_1 rfl (h.old 6 _ rfl rfl) kI))
            ·exact fun _ _ h => OpR.want rfl rfl (h.dt 4 56 rfl rfl rfl) (not_t hb159) (Yl.sameI (yl_load1 Tryz.ty3 rfl (h.dt 5 57 rfl rfl rfl) (((Box.ex hB156 h.ex).cell 1).trans rfl) kI))
            ·exact fun _ _ h => OpR.want rfl rfl (h.dt 4 56 rfl rfl rfl) (not_t hb159) (Yl.sameI (yl_fieldAddr Tryz.fd34_1 rfl (h.old 1 _ rfl rfl) kI))
            ·exact fun _ _ h => OpR.want rfl rfl (h.dt 4 56 rfl rfl rfl) (not_t hb159) (Yl.sameI (yl_load1 Tryz.ty22 rfl (h.dt 7 59 rfl rfl rfl) (((Box.ex q179 h.ex).cell 1).trans rfl) kI))
            ·exact fun _ _ h => OpR.want rfl rfl (h.dt 4 56 rfl rfl rfl) (not_t hb159) (Yl.sameI (yl_len Tryz.un22 rfl (h.dt 8 60 rfl rfl rfl) kI))
            ·exact fun _ _ h => OpR.want rfl rfl (h.dt 4 56 rfl rfl rfl) (not_t hb159) (Yl.sameI (yl_sub rfl (h.dt 9 61 rfl rfl rfl) rfl kI))
            ·intro L252 w253 hi254
             refine OpR.want rfl rfl (hi254.dt 4 56 rfl rfl rfl) (not_t hb159) (yl_call Tryz.en66 rfl (opvs_cons (hi254.dt 6 58 rfl rfl rfl) (opvs_cons rfl (opvs_cons (hi254.dt 10 62 rfl rfl rfl) opvs_nil))) (Cal.mono (c_i_within ((p_0.Idxs.getD k91 d_Idx).Col) 1 (IntKind.wrap .i64 ((p_0.Cols.length : Int) - 1))) ?_))
             rintro v260 w259 ⟨rfl, hE261⟩
             exact ⟨rfl, hE261⟩
            ·exact fun _ _ h => OpR.want rfl rfl (h.dt 4 56 rfl rfl rfl) (not_t hb159) (Yl.sameI (yl_not rfl (h.dt 11 63 rfl rfl rfl) kI))
            ·exact fun _ _ h => os rfl ((yl_pick_f rfl (h.dt 4 56 rfl rfl rfl) (not_t hb159) (h.dt 12 64 rfl rfl rfl) kI))
            ·exact fun _ _ h => os rfl ((yl_move rfl (h.dt 13 65 rfl rfl rfl) kI))
            ·exact fun _ _ h => OpR.want rfl rfl (h.dt 14 66 rfl rfl rfl) (not_t hb164) (Yl.sameI (yl_fieldAddr Tryz.fd104_2 rfl (h.old 6 _ rfl rfl) kI))
            ·exact fun _ _ h => OpR.want rfl rfl (h.dt 14 66 rfl rfl rfl) (not_t hb164) (Yl.sameI (yl_load1 Tryz.ty3 rfl (h.dt 15 67 rfl rfl rfl) (((Box.ex hB156 h.ex).cell 2).trans rfl) kI))
            ·intro L292 w293 hi294
             refine OpR.want rfl rfl (hi294.dt 14 66 rfl rfl rfl) (not_t hb164) (yl_call Tryz.en67 rfl (opvs_cons (hi294.dt 16 68 rfl rfl rfl) opvs_nil) (Cal.mono (c_i_isStage ((p_0.Idxs.getD k91 d_Idx).Stage)) ?_))
             rintro v299 w298 ⟨rfl, hE300⟩
             exact ⟨rfl, hE300⟩
            ·exact fun _ _ h => OpR.want rfl rfl (h.dt 14 66 rfl rfl rfl) (not_t hb164) (Yl.sameI (yl_not rfl (h.dt 17 69 rfl rfl rfl) kI))
            ·exact fun _ _ h => os rfl ((yl_pick_f rfl (h.dt 14 66 rfl rfl rfl) (not_t hb164) (h.dt 18 70 rfl rfl rfl) kI))
            ·exact fun _ _ h => os rfl ((yl_move rfl (h.dt 19 71 rfl rfl rfl) kI))
            ·exact fun _ _ h => OpR.want rfl rfl (h.dt 20 72 rfl rfl rfl) (not_t hb170) (Yl.sameI (yl_move rfl (h.old 5 _ rfl rfl) kI))
            ·exact fun _ _ h => OpR.want rfl rfl (h.dt 20 72 rfl rfl rfl) (not_t hb170) (Yl.sameI (yl_gtr rfl (h.dt 21 73 rfl rfl rfl) rfl kI))
            ·exact fun _ _ h => OpR.want rfl rfl (h.dt 20 72 rfl rfl rfl) (not_t hb170) (Yl.sameI (yl_move rfl (h.dt 22 74 rfl rfl rfl) kI))
            ·exact fun _ _ h => OpR.want rfl rfl (h.dt 23 75 rfl rfl rfl) hb176 (Yl.sameI (yl_fieldAddr Tryz.fd104_0 rfl (h.old 6 _ rfl rfl) kI))
            ·exact fun _ _ h => OpR.want rfl rfl (h.dt 23 75 rfl rfl rfl) hb176 (Yl.sameI (yl_load1 Tryz.ty9 rfl (h.dt 24 76 rfl rfl rfl) (((Box.ex hB156 h.ex).cell 0).trans rfl) kI))
            ·exact fun _ _ h => OpR.want rfl rfl (h.dt 23 75 rfl rfl rfl) hb176 (Yl.sameI (yl_fieldAddr Tryz.fd34_2 rfl (h.old 1 _ rfl rfl) kI))
            ·exact fun _ _ h => OpR.want rfl rfl (h.dt 23 75 rfl rfl rfl) hb176 (Yl.sameI (yl_load1 Tryz.ty32 rfl (h.dt 26 78 rfl rfl rfl) (((Box.ex q179 h.ex).cell 2).trans rfl) kI))
            ·exact fun _ _ h => OpR.want rfl rfl (h.dt 23 75 rfl rfl rfl) hb176 (Yl.sameI (yl_move rfl (h.old 5 _ rfl rfl) kI))
            ·exact fun _ _ h => OpR.want rfl rfl (h.dt 23 75 rfl rfl rfl) hb176 (Yl.sameI (yl_sub rfl (h.dt 28 80 rfl rfl rfl) rfl kI))
            ·intro L374 w375 hi376
             have hE377 := hi376.ex
             have hE377z := Ex.size hE377
             exact OpR.want rfl rfl (hi376.dt 23 75 rfl rfl rfl) hb176 (Yl.sameI (yl_indexAddr Tryz.un32 Tryz.ty104 rfl (hi376.dt 27 79 rfl rfl rfl) (hi376.dt 29 81 rfl rfl rfl) eA184 (by first | omega | assumption | (simp only [IntKind.wrap_i64] at *; omega)) (by first | omega | assumption | (simp only [IntKind.wrap_i64] at *; omega)) kI))
            ·exact fun _ _ h => OpR.want rfl rfl (h.dt 23 75 rfl rfl rfl) hb176 (Yl.sameI (yl_fieldAddr Tryz.fd104_0 rfl (h.dt 30 82 rfl rfl rfl) kI))
            ·exact fun _ _ h => OpR.want rfl rfl (h.dt 23 75 rfl rfl rfl) hb176 (Yl.sameI (yl_load1 Tryz.ty9 rfl (h.dt 31 83 rfl rfl rfl) ((Cells.ex eC184 h.ex) 0 _ rfl) kI))
            ·exact fun _ _ h => OpR.want rfl rfl (h.dt 23 75 rfl rfl rfl) hb176 (Yl.sameI (yl_sleq (a := ((p_0.Idxs.getD k91 d_Idx).Name)) (b := ((p_0.Idxs.getD ((IntKind.wrap .i64 ((k91 : Int) - 1)).toNat) d_Idx).Name)) rfl (h.dt 25 77 rfl rfl rfl) (h.dt 32 84 rfl rfl rfl) kI))
            ·exact fun _ _ h => OpR.want rfl rfl (h.dt 20 72 rfl rfl rfl) (not_t hb170) (Yl.sameI (yl_pick_t rfl (h.dt 23 75 rfl rfl rfl) hb176 (h.dt 33 85 rfl rfl rfl) kI))
            ·exact fun _ _ h => os rfl ((yl_pick_f rfl (h.dt 20 72 rfl rfl rfl) (not_t hb170) (h.dt 34 86 rfl rfl rfl) kI))
            ·intro fl417 fh418 L414 w415 hp416
             have hE419 := hp416.ex
             have hE419z := Ex.size hE419
             refine SeqR.done (tn (CW.sub (Sub.cons (d := 1) (hp416.old 1 _ rfl rfl) (Sub.cons (d := 45) (hp416.old 45 _ rfl rfl) (Sub.cons (d := 46) (hp416.old 46 _ rfl rfl) (Sub.cons (d := 47) (hp416.old 47 _ rfl rfl) (Sub.cons (d := 57) (hp416.nt 5 57 rfl rfl rfl) (Sub.cons (d := 58) (hp416.nt 6 58 rfl rfl rfl) (Sub.cons (d := 59) (hp416.nt 7 59 rfl rfl rfl) (Sub.cons (d := 60) (hp416.nt 8 60 rfl rfl rfl) (Sub.cons (d := 61) (hp416.nt 9 61 rfl rfl rfl) (Sub.cons (d := 62) (hp416.nt 10 62 rfl rfl rfl) (Sub.cons (d := 63) (hp416.nt 11 63 rfl rfl rfl) (Sub.cons (d := 64) (hp416.nt 12 64 rfl rfl rfl) (Sub.cons (d := 67) (hp416.nt 15 67 rfl rfl rfl) (Sub.cons (d := 68) (hp416.nt 16 68 rfl rfl rfl) (Sub.cons (d := 69) (hp416.nt 17 69 rfl rfl rfl) (Sub.cons (d := 70) (hp416.nt 18 70 rfl rfl rfl) (Sub.cons (d := 73) (hp416.nt 21 73 rfl rfl rfl) (Sub.cons (d := 74) (hp416.nt 22 74 rfl rfl rfl) (Sub.cons (d := 75) (hp416.nt 23 75 rfl rfl rfl) (Sub.cons (d := 76) (hp416.nt 24 76 rfl rfl rfl) (Sub.cons (d := 77) (hp416.nt 25 77 rfl rfl rfl) (Sub.cons (d := 78) (hp416.nt 26 78 rfl rfl rfl) (Sub.cons (d := 79) (hp416.nt 27 79 rfl rfl rfl) (Sub.cons (d := 80) (hp416.nt 28 80 rfl rfl rfl) (Sub.cons (d := 81) (hp416.nt 29 81 rfl rfl rfl) (Sub.cons (d := 82) (hp416.nt 30 82 rfl rfl rfl) (Sub.cons (d := 83) (hp416.nt 31 83 rfl rfl rfl) (Sub.cons (d := 84) (hp416.nt 32 84 rfl rfl rfl) (Sub.cons (d := 85) (hp416.nt 33 85 rfl rfl rfl) (Sub.cons (d := 86) (hp416.nt 34 86 rfl rfl rfl) (Sub.cons (d := 87) (hp416.nt 35 87 rfl rfl rfl) (Sub.nil _)))))))))))))))))))))))))))))))) ?_))
             refine bcase (sLe ((p_0.Idxs.getD k91 d_Idx).Name) ((p_0.Idxs.getD ((IntKind.wrap .i64 ((k91 : Int) - 1)).toNat) d_Idx).Name)) (fun hb451 => ?_) (fun hb451 => ?_)
             ·refine CW.cond_t rfl hb451 (CW.seq (CW.region (sd rfl (yl_assign rfl rfl (SeqR.done (tn (CW.ret (br (tr ?_)))))))))
              refine tr ?_
              have hB453 : B_i_GoodTable_1 p_0 k91 () = .ret false := by simp only [B_i_GoodTable_1, hb16, hb21, hb23, hb159, hb164, hb170, hb176, hb451, hL90, cond_true, cond_false, loopE_done, loopE_ret]
              have hL452 : loopM (B_i_GoodTable_1 p_0) (p_0.Idxs.length - 0) 0 () = .ret false := hI136.symm.trans (loopM.ret hlt147 hB453)
              refine br (tr (rr rfl (.cons rfl .nil) ?_))
              have hM454 : (i_GoodTable p_0) = (false) := by simp only [i_GoodTable, hb16, hb21, hb23, hb159, hb164, hb170, hb176, hb451, hL90, hL452, cond_true, cond_false, loopE_done, loopE_ret]
              rw [hM454]
              exact ⟨rfl, (Ex.trans (Below.only (Ex.trans hf145 hE154) hO157 (by omega)) hE419)⟩
             ·refine CW.cond_f rfl hb451 (CW.skip (bn (tn (CW.region (sd rfl (yl_inc rfl rfl rfl (by omega) (sd rfl (yl_move rfl rfl (SeqR.done (tn ?_))))))))))
              have hB458 : B_i_GoodTable_1 p_0 k91 () = .cont () := by simp only [B_i_GoodTable_1, hb16, hb21, hb23, hb159, hb164, hb170, hb176, hb451, hL90, cond_true, cond_false, loopE_done, loopE_ret]
              exact ⟨p_0.Idxs.length - (k91 + 1), by omega, k91 + 1, rfl, hlt147, (by omega), rfl, rfl, rfl, rfl, (Box.ex q179 hE419), (RdS.ex good_Str (RdS.only good_Str (RdS.ex good_Str hf143 hE154) hO157 (by simp only [Iv]; omega)) hE419), (RdS.ex good_Idx q183 hE419), (Ex.trans (Below.only (Ex.trans hf145 hE154) hO157 (by omega)) hE419), (loopM.cont hlt147 hB458).symm.trans hI136⟩
           ·have hb176p := dec_f hb176
            have q469 := Box.only (Box.ex hf142 hE154) hO157 (by omega)
            refine CW.drawsI 36 (vgetI [DetI (.pointer (some ⟨b149, 0 + 0, none⟩)), DetI (.string (bs ((p_0.Idxs.getD k91 d_Idx).Name))), DetI (.bool ((i_areLetters ((p_0.Idxs.getD k91 d_Idx).Name) 1))), DetI (.bool (!(i_areLetters ((p_0.Idxs.getD k91 d_Idx).Name) 1))), DetI (.bool (!(i_areLetters ((p_0.Idxs.getD k91 d_Idx).Name) 1))), DetI (.pointer (some ⟨b149, 0 + 1, none⟩)), DetI (.int .i64 ((p_0.Idxs.getD k91 d_Idx).Col)), DetI (.pointer (some ⟨b7, 0 + 1, none⟩)), DetI (.slice A1 p_0.Cols.length c1), DetI (.int .i64 ((p_0.Cols.length : Int))), DetI (.int .i64 (IntKind.wrap .i64 ((p_0.Cols.length : Int) - 1))), DetI (.bool ((i_within ((p_0.Idxs.getD k91 d_Idx).Col) 1 (IntKind.wrap .i64 ((p_0.Cols.length : Int) - 1))))), DetI (.bool (!(i_within ((p_0.Idxs.getD k91 d_Idx).Col) 1 (IntKind.wrap .i64 ((p_0.Cols.length : Int) - 1))))), DetI (.bool (!(i_within ((p_0.Idxs.getD k91 d_Idx).Col) 1 (IntKind.wrap .i64 ((p_0.Cols.length : Int) - 1))))), DetI (.bool (!(i_within ((p_0.Idxs.getD k91 d_Idx).Col) 1 (IntKind.wrap .i64 ((p_0.Cols.length : Int) - 1))))), DetI (.pointer (some ⟨b149, 0 + 2, none⟩)), DetI (.int .i64 ((p_0.Idxs.getD k91 d_Idx).Stage)), DetI (.bool ((i_isStage ((p_0.Idxs.getD k91 d_Idx).Stage)))), DetI (.bool (!(i_isStage ((p_0.Idxs.getD k91 d_Idx).Stage)))), DetI (.bool (!(i_isStage ((p_0.Idxs.getD k91 d_Idx).Stage)))), DetI (.bool (!(i_isStage ((p_0.Idxs.getD k91 d_Idx).Stage)))), DetI (.int .i64 ((k91 : Int))), DetI (.bool (decide (0 < (k91 : Int)))), DetI (.bool (decide (0 < (k91 : Int)))), DetI (undef), DetI (undef), DetI (undef), DetI (undef), DetI (undef), DetI (undef), DetI (undef), DetI (undef), DetI (undef), DetI (undef), DetI (.bool (false)), DetI (.bool (false))]) Tryz.follows rfl rfl rfl rfl rfl rfl (vgetI_stable ⟨StableI.det _, StableI.det _, StableI.det _, StableI.det _, StableI.det _, StableI.det _, StableI.det _, StableI.det _, StableI.det _, StableI.det _, StableI.det _, StableI.det _, StableI.det _, StableI.det _, StableI.det _, StableI.det _, StableI.det _, StableI.det _, StableI.det _, StableI.det _, StableI.det _, StableI.det _, StableI.det _, StableI.det _, StableI.det _, StableI.det _, StableI.det _, StableI.det _, StableI.det _, StableI.det _, StableI.det _, StableI.det _, StableI.det _, StableI.det _, StableI.det _, StableI.det _, trivial⟩) ⟨?_, ?_, ?_, ?_, ?_, ?_, ?_, ?_, ?_, ?_, ?_, ?_, ?_, ?_, ?_, ?_, ?_, ?_, ?_, ?_, ?_, ?_, ?_, ?_, ?_, ?_, ?_, ?_, ?_, ?_, ?_, ?_, ?_, ?_, ?_, ?_, trivial⟩ ?_
            ·exact fun _ _ h => os rfl ((yl_fieldAddr Tryz.fd104_0 rfl (h.old 6 _ rfl rfl) kI))
            ·exact fun _ _ h => os rfl ((yl_load1 Tryz.ty9 rfl (h.dt 0 52 rfl rfl rfl) (((Box.ex hB156 h.ex).cell 0).trans rfl) kI))
            ·intro L483 w484 hi485
             refine OpR.op' rfl (yl_call Tryz.en65 rfl (opvs_cons (hi485.dt 1 53 rfl rfl rfl) (opvs_cons rfl opvs_nil)) (Cal.mono (c_i_areLetters ((p_0.Idxs.getD k91 d_Idx).Name) 1 (okL.getD o3.2.2 ok_d_Idx _)) ?_))
             rintro v489 w488 ⟨rfl, hE490⟩
             exact ⟨rfl, hE490⟩
            ·exact fun _ _ h => os rfl ((yl_not rfl (h.dt 2 54 rfl rfl rfl) kI))
            ·exact fun _ _ h => os rfl ((yl_move rfl (h.dt 3 55 rfl rfl rfl) kI))
            ·exact fun _ _ h => OpR.want rfl rfl (h.dt 4 56 rfl rfl rfl) (not_t hb159) (Yl.sameI (yl_fieldAddr Tryz.fd104_1 rfl (h.old 6 _ rfl rfl) kI))
            ·exact fun _ _ h => OpR.want rfl rfl (h.dt 4 56 rfl rfl rfl) (not_t hb159) (Yl.sameI (yl_load1 Tryz.ty3 rfl (h.dt 5 57 rfl rfl rfl) (((Box.ex hB156 h.ex).cell 1).trans rfl) kI))
            ·exact fun _ _ h => OpR.want rfl rfl (h.dt 4 56 rfl rfl rfl) (not_t hb159) (Yl.sameI (yl_fieldAddr Tryz.fd34_1 rfl (h.old 1 _ rfl rfl) kI))
            ·exact fun _ _ h => OpR.want rfl rfl (h.dt 4 56 rfl rfl rfl) (not_t hb159) (Yl.sameI (yl_load1 Tryz.ty22 rfl (h.dt 7 59 rfl rfl rfl) (((Box.ex q469 h.ex).cell 1).trans rfl) kI))
            ·exact fun _ _ h => OpR.want rfl rfl (h.dt 4 56 rfl rfl rfl) (not_t hb159) (Yl.sameI (yl_len Tryz.un22 rfl (h.dt 8 60 rfl rfl rfl) kI))
            ·exact fun _ _ h => OpR.want rfl rfl (h.dt 4 56 rfl rfl rfl) (not_t hb159) (Yl.sameI (yl_sub rfl (h.dt 9 61 rfl rfl rfl) rfl kI))
            ·intro L539 w540 hi541
             refine OpR.want rfl rfl (hi541.dt 4 56 rfl rfl rfl) (not_t hb159) (yl_call Tryz.en66 rfl (opvs_cons (hi541.dt 6 58 rfl rfl rfl) (opvs_cons rfl (opvs_cons (hi541.dt 10 62 rfl rfl rfl) opvs_nil))) (Cal.mono (c_i_within ((p_0.Idxs.getD k91 d_Idx).Col) 1 (IntKind.wrap .i64 ((p_0.Cols.length : Int) - 1))) ?_))
             rintro v547 w546 ⟨rfl, hE548⟩
             exact ⟨rfl, hE548⟩
            ·exact fun _ _ h => OpR.want rfl rfl (h.dt 4 56 rfl rfl rfl) (not_t hb159) (Yl.sameI (yl_not rfl (h.dt 11 63 rfl rfl rfl) kI))
            ·exact fun _ _ h => os rfl ((yl_pick_f rfl (h.dt 4 56 rfl rfl rfl) (not_t hb159) (h.dt 12 64 rfl rfl rfl) kI))
            ·exact fun _ _ h => os rfl ((yl_move rfl (h.dt 13 65 rfl rfl rfl) kI))
            ·exact fun _ _ h => OpR.want rfl rfl (h.dt 14 66 rfl rfl rfl) (not_t hb164) (Yl.sameI (yl_fieldAddr Tryz.fd104_2 rfl (h.old 6 _ rfl rfl) kI))
            ·exact fun _ _ h => OpR.want rfl rfl (h.dt 14 66 rfl rfl rfl) (not_t hb164) (Yl.sameI (yl_load1 Tryz.ty3 rfl (h.dt 15 67 rfl rfl rfl) (((Box.ex hB156 h.ex).cell 2).trans rfl) kI))
            ·intro L579 w580 hi581
             refine OpR.want rfl rfl (hi581.dt 14 66 rfl rfl rfl) (not_t hb164) (yl_call Tryz.en67 rfl (opvs_cons (hi581.dt 16 68 rfl rfl rfl) opvs_nil) (Cal.mono (c_i_isStage ((p_0.Idxs.getD k91 d_Idx).Stage)) ?_))
             rintro v586 w585 ⟨rfl, hE587⟩
             exact ⟨rfl, hE587⟩
            ·exact fun _ _ h => OpR.want rfl rfl (h.dt 14 66 rfl rfl rfl) (not_t hb164) (Yl.sameI (yl_not rfl (h.dt 17 69 rfl rfl rfl) kI))
            ·exact fun _ _ h => os rfl ((yl_pick_f rfl (h.dt 14 66 rfl rfl rfl) (not_t hb164) (h.dt 18 70 rfl rfl rfl) kI))
            ·exact fun _ _ h => os rfl ((yl_move rfl (h.dt 19 71 rfl rfl rfl) kI))
            ·exact fun _ _ h => OpR.want rfl rfl (h.dt 20 72 rfl rfl rfl) (not_t hb170) (Yl.sameI (yl_move rfl (h.old 5 _ rfl rfl) kI))
            ·exact fun _ _ h => OpR.want rfl rfl (h.dt 20 72 rfl rfl rfl) (not_t hb170) (Yl.sameI (yl_gtr rfl (h.dt 21 73 rfl rfl rfl) rfl kI))
            ·exact fun _ _ h => OpR.want rfl rfl (h.dt 20 72 rfl rfl rfl) (not_t hb170) (Yl.sameI (yl_move rfl (h.dt 22 74 rfl rfl rfl) kI))
            ·exact fun _ _ h => OpR.skip rfl rfl (h.dt 23 75 rfl rfl rfl) hb176 ⟨rfl, Ex.refl _⟩
            ·exact fun _ _ h => OpR.skip rfl rfl (h.dt 23 75 rfl rfl rfl) hb176 ⟨rfl, Ex.refl _⟩
            ·exact fun _ _ h => OpR.skip rfl rfl (h.dt 23 75 rfl rfl rfl) hb176 ⟨rfl, Ex.refl _⟩
            ·exact fun _ _ h => OpR.skip rfl rfl (h.dt 23 75 rfl rfl rfl) hb176 ⟨rfl, Ex.refl _⟩
            ·exact fun _ _ h => OpR.skip rfl rfl (h.dt 23 75 rfl rfl rfl) hb176 ⟨rfl, Ex.refl _⟩
            ·exact fun _ _ h => OpR.skip rfl rfl (h.dt 23 75 rfl rfl rfl) hb176 ⟨rfl, Ex.refl _⟩
            ·exact fun _ _ h => OpR.skip rfl rfl (h.dt 23 75 rfl rfl rfl) hb176 ⟨rfl, Ex.refl _⟩
            ·exact fun _ _ h => OpR.skip rfl rfl (h.dt 23 75 rfl rfl rfl) hb176 ⟨rfl, Ex.refl _⟩
            ·exact fun _ _ h => OpR.skip rfl rfl (h.dt 23 75 rfl rfl rfl) hb176 ⟨rfl, Ex.refl _⟩
            ·exact fun _ _ h => OpR.skip rfl rfl (h.dt 23 75 rfl rfl rfl) hb176 ⟨rfl, Ex.refl _⟩
            ·exact fun _ _ h => OpR.want rfl rfl (h.dt 20 72 rfl rfl rfl) (not_t hb170) (Yl.sameI (yl_pick_f rfl (h.dt 23 75 rfl rfl rfl) hb176 rfl kI))
            ·exact fun _ _ h => os rfl ((yl_pick_f rfl (h.dt 20 72 rfl rfl rfl) (not_t hb170) (h.dt 34 86 rfl rfl rfl) kI))
            ·intro fl689 fh690 L686 w687 hp688
             have hE691 := hp688.ex
             have hE691z := Ex.size hE691
             refine SeqR.done (tn (CW.sub (Sub.cons (d := 1) (hp688.old 1 _ rfl rfl) (Sub.cons (d := 45) (hp688.old 45 _ rfl rfl) (Sub.cons (d := 46) (hp688.old 46 _ rfl rfl) (Sub.cons (d := 47) (hp688.old 47 _ rfl rfl) (Sub.cons (d := 57) (hp688.nt 5 57 rfl rfl rfl) (Sub.cons (d := 58) (hp688.nt 6 58 rfl rfl rfl) (Sub.cons (d := 59) (hp688.nt 7 59 rfl rfl rfl) (Sub.cons (d := 60) (hp688.nt 8 60 rfl rfl rfl) (Sub.cons (d := 61) (hp688.nt 9 61 rfl rfl rfl) (Sub.cons (d := 62) (hp688.nt 10 62 rfl rfl rfl) (Sub.cons (d := 63) (hp688.nt 11 63 rfl rfl rfl) (Sub.cons (d := 64) (hp688.nt 12 64 rfl rfl rfl) (Sub.cons (d := 67) (hp688.nt 15 67 rfl rfl rfl) (Sub.cons (d := 68) (hp688.nt 16 68 rfl rfl rfl) (Sub.cons (d := 69) (hp688.nt 17 69 rfl rfl rfl) (Sub.cons (d := 70) (hp688.nt 18 70 rfl rfl rfl) (Sub.cons (d := 73) (hp688.nt 21 73 rfl rfl rfl) (Sub.cons (d := 74) (hp688.nt 22 74 rfl rfl rfl) (Sub.cons (d := 75) (hp688.nt 23 75 rfl rfl rfl) (Sub.cons (d := 76) (hp688.nt 24 76 rfl rfl rfl) (Sub.cons (d := 77) (hp688.nt 25 77 rfl rfl rfl) (Sub.cons (d := 78) (hp688.nt 26 78 rfl rfl rfl) (Sub.cons (d := 79) (hp688.nt 27 79 rfl rfl rfl) (Sub.cons (d := 80) (hp688.nt 28 80 rfl rfl rfl) (Sub.cons (d := 81) (hp688.nt 29 81 rfl rfl rfl) (Sub.cons (d := 82) (hp688.nt 30 82 rfl rfl rfl) (Sub.cons (d := 83) (hp688.nt 31 83 rfl rfl rfl) (Sub.cons (d := 84) (hp688.nt 32 84 rfl rfl rfl) (Sub.cons (d := 85) (hp688.nt 33 85 rfl rfl rfl) (Sub.cons (d := 86) (hp688.nt 34 86 rfl rfl rfl) (Sub.cons (d := 87) (hp688.nt 35 87 rfl rfl rfl) (Sub.nil _)))))))))))))))))))))))))))))))) ?_))
             refine CW.cond_f rfl rfl (CW.skip (bn (tn (CW.region (sd rfl (yl_inc rfl rfl rfl (by omega) (sd rfl (yl_move rfl rfl (SeqR.done (tn ?_))))))))))
             have hB723 : B_i_GoodTable_1 p_0 k91 () = .cont () := by simp only [B_i_GoodTable_1, hb16, hb21, hb23, hb159, hb164, hb170, hb176, hL90, cond_true, cond_false, loopE_done, loopE_ret]
             exact ⟨p_0.Idxs.length - (k91 + 1), by omega, k91 + 1, rfl, hlt147, (by omega), rfl, rfl, rfl, rfl, (Box.ex q469 hE691), (RdS.ex good_Str (RdS.only good_Str (RdS.ex good_Str hf143 hE154) hO157 (by simp only [Iv]; omega)) hE691), (RdS.ex good_Idx (RdS.only good_Idx (RdS.ex good_Idx hf144 hE154) hO157 (by simp only [Iv]; omega)) hE691), (Ex.trans (Below.only (Ex.trans hf145 hE154) hO157 (by omega)) hE691), (loopM.cont hlt147 hB723).symm.trans hI136⟩
          ·refine CW.drawsI 36 (vgetI [DetI (.pointer (some ⟨b149, 0 + 0, none⟩)), DetI (.string (bs ((p_0.Idxs.getD k91 d_Idx).Name))), DetI (.bool ((i_areLetters ((p_0.Idxs.getD k91 d_Idx).Name) 1))), DetI (.bool (!(i_areLetters ((p_0.Idxs.getD k91 d_Idx).Name) 1))), DetI (.bool (!(i_areLetters ((p_0.Idxs.getD k91 d_Idx).Name) 1))), DetI (.pointer (some ⟨b149, 0 + 1, none⟩)), DetI (.int .i64 ((p_0.Idxs.getD k91 d_Idx).Col)), DetI (.pointer (some ⟨b7, 0 + 1, none⟩)), DetI (.slice A1 p_0.Cols.length c1), DetI (.int .i64 ((p_0.Cols.length : Int))), DetI (.int .i64 (IntKind.wrap .i64 ((p_0.Cols.length : Int) - 1))), DetI (.bool ((i_within ((p_0.Idxs.getD k91 d_Idx).Col) 1 (IntKind.wrap .i64 ((p_0.Cols.length : Int) - 1))))), DetI (.bool (!(i_within ((p_0.Idxs.getD k91 d_Idx).Col) 1 (IntKind.wrap .i64 ((p_0.Cols.length : Int) - 1))))), DetI (.bool (!(i_within ((p_0.Idxs.getD k91 d_Idx).Col) 1 (IntKind.wrap .i64 ((p_0.Cols.length : Int) - 1))))), DetI (.bool (!(i_within ((p_0.Idxs.getD k91 d_Idx).Col) 1 (IntKind.wrap .i64 ((p_0.Cols.length : Int) - 1))))), DetI (.pointer (some ⟨b149, 0 + 2, none⟩)), DetI (.int .i64 ((p_0.Idxs.getD k91 d_Idx).Stage)), DetI (.bool ((i_isStage ((p_0.Idxs.getD k91 d_Idx).Stage)))), DetI (.bool (!(i_isStage ((p_0.Idxs.getD k91 d_Idx).Stage)))), DetI (.bool (!(i_isStage ((p_0.Idxs.getD k91 d_Idx).Stage)))), DetI (.bool (!(i_isStage ((p_0.Idxs.getD k91 d_Idx).Stage)))), DetI (undef), DetI (undef), DetI (undef), DetI (undef), DetI (undef), DetI (undef), DetI (undef), DetI (undef), DetI (undef), DetI (undef), DetI (undef), DetI (undef), DetI (undef), DetI (undef), DetI (.bool (true))]) Tryz.follows rfl rfl rfl rfl rfl rfl (vgetI_stable ⟨StableI.det _, StableI.det _, StableI.det _, StableI.det _, StableI.det _, StableI.det _, StableI.det _, StableI.det _, StableI.det _, StableI.det _, StableI.det _, StableI.det _, StableI.det _, StableI.det _, StableI.det _, StableI.det _, StableI.det _, StableI.det _, StableI.det _, StableI.det _, StableI.det _, StableI.det _, StableI.det _, StableI.det _, StableI.det _, StableI.det _, StableI.det _, StableI.det _, StableI.det _, StableI.det _, StableI.det _, StableI.det _, StableI.det _, StableI.det _, StableI.det _, StableI.det _, trivial⟩) ⟨?_, ?_, ?_, ?_, ?_, ?_, ?_, ?_, ?_, ?_, ?_, ?_, ?_, ?_, ?_, ?_, ?_, ?_, ?_, ?_, ?_, ?_, ?_, ?_, ?_, ?_, ?_, ?_, ?_, ?_, ?_, ?_, ?_, ?_, ?_, ?_, trivial⟩ ?_
           ·exact fun _ _ h => os rfl ((yl_fieldAddr Tryz.fd104_0 rfl (h.old 6 _ rfl rfl) kI))
           ·exact fun _ _ h => os rfl ((yl_load1 Tryz.ty9 rfl (h.dt 0 52 rfl rfl rfl) (((Box.ex hB156 h.ex).cell 0).trans rfl) kI))
           ·intro L750 w751 hi752
            refine OpR.op' rfl (yl_call Tryz.en65 rfl (opvs_cons (hi752.dt 1 53 rfl rfl rfl) (opvs_cons rfl opvs_nil)) (Cal.mono (c_i_areLetters ((p_0.Idxs.getD k91 d_Idx).Name) 1 (okL.getD o3.2.2 ok_d_Idx _)) ?_))
            rintro v756 w755 ⟨rfl, hE757⟩
            exact ⟨rfl, hE757⟩
           ·exact fun _ _ h => os rfl ((yl_not rfl (h.dt 2 54 rfl rfl rfl) kI))
           ·exact fun _ _ h => os rfl ((yl_move rfl (h.dt 3 55 rfl rfl rfl) kI))
           ·exact fun _ _ h => OpR.want rfl rfl (h.dt 4 56 rfl rfl rfl) (not_t hb159) (Yl.sameI (yl_fieldAddr Tryz.fd104_1 rfl (h.old 6 _ rfl rfl) kI))
           ·exact fun _ _ h => OpR.want rfl rfl (h.dt 4 56 rfl rfl rfl) (not_t hb159) (Yl.sameI (yl_load1 Tryz.ty3 rfl (h.dt 5 57 rfl rfl rfl) (((Box.ex hB156 h.ex).cell 1).trans rfl) kI))
           ·exact fun _ _ h => OpR.want rfl rfl (h.dt 4 56 rfl rfl rfl) (not_t hb159) (Yl.sameI (yl_fieldAddr Tryz.fd34_1 rfl (h.old 1 _ rfl rfl) kI))
           ·intro L787 w788 hi789
            have hE790 := hi789.ex
            have hE790z := Ex.size hE790
            exact OpR.want rfl rfl (hi789.dt 4 56 rfl rfl rfl) (not_t hb159) (Yl.sameI (yl_load1 Tryz.ty22 rfl (hi789.dt 7 59 rfl rfl rfl) (((Box.ex (Box.only (Box.ex hf142 hE154) hO157 (by omega)) hE790).cell 1).trans rfl) kI))
           ·exact fun _ _ h => OpR.want rfl rfl (h.dt 4 56 rfl rfl rfl) (not_t hb159) (Yl.sameI (yl_len Tryz.un22 rfl (h.dt 8 60 rfl rfl rfl) kI))
           ·exact fun _ _ h => OpR.want rfl rfl (h.dt 4 56 rfl rfl rfl) (not_t hb159) (Yl.sameI (yl_sub rfl (h.dt 9 61 rfl rfl rfl) rfl kI))
           ·intro L806 w807 hi808
            refine OpR.want rfl rfl (hi808.dt 4 56 rfl rfl rfl) (not_t hb159) (yl_call Tryz.en66 rfl (opvs_cons (hi808.dt 6 58 rfl rfl rfl) (opvs_cons rfl (opvs_cons (hi808.dt 10 62 rfl rfl rfl) opvs_nil))) (Cal.mono (c_i_within ((p_0.Idxs.getD k91 d_Idx).Col) 1 (IntKind.wrap .i64 ((p_0.Cols.length : Int) - 1))) ?_))
            rintro v814 w813 ⟨rfl, hE815⟩
            exact ⟨rfl, hE815⟩
           ·exact fun _ _ h => OpR.want rfl rfl (h.dt 4 56 rfl rfl rfl) (not_t hb159) (Yl.sameI (yl_not rfl (h.dt 11 63 rfl rfl rfl) kI))
           ·exact fun _ _ h => os rfl ((yl_pick_f rfl (h.dt 4 56 rfl rfl rfl) (not_t hb159) (h.dt 12 64 rfl rfl rfl) kI))
           ·exact fun _ _ h => os rfl ((yl_move rfl (h.dt 13 65 rfl rfl rfl) kI))
           ·exact fun _ _ h => OpR.want rfl rfl (h.dt 14 66 rfl rfl rfl) (not_t hb164) (Yl.sameI (yl_fieldAddr Tryz.fd104_2 rfl (h.old 6 _ rfl rfl) kI))
           ·exact fun _ _ h => OpR.want rfl rfl (h.dt 14 66 rfl rfl rfl) (not_t hb164) (Yl.sameI (yl_load1 Tryz.ty3 rfl (h.dt 15 67 rfl rfl rfl) (((Box.ex hB156 h.ex).cell 2).trans rfl) kI))
           ·intro L846 w847 hi848
            refine OpR.want rfl rfl (hi848.dt 14 66 rfl rfl rfl) (not_t hb164) (yl_call Tryz.en67 rfl (opvs_cons (hi848.dt 16 68 rfl rfl rfl) opvs_nil) (Cal.mono (c_i_isStage ((p_0.Idxs.getD k91 d_Idx).Stage)) ?_))
            rintro v853 w852 ⟨rfl, hE854⟩
            exact ⟨rfl, hE854⟩
           ·exact fun _ _ h => OpR.want rfl rfl (h.dt 14 66 rfl rfl rfl) (not_t hb164) (Yl.sameI (yl_not rfl (h.dt 17 69 rfl rfl rfl) kI))
           ·exact fun _ _ h => os rfl ((yl_pick_f rfl (h.dt 14 66 rfl rfl rfl) (not_t hb164) (h.dt 18 70 rfl rfl rfl) kI))
           ·exact fun _ _ h => os rfl ((yl_move rfl (h.dt 19 71 rfl rfl rfl) kI))
           ·exact fun _ _ h => OpR.skip rfl rfl (h.dt 20 72 rfl rfl rfl) (not_f hb170) ⟨rfl, Ex.refl _⟩
           ·exact fun _ _ h => OpR.skip rfl rfl (h.dt 20 72 rfl rfl rfl) (not_f hb170) ⟨rfl, Ex.refl _⟩
           ·exact fun _ _ h => OpR.skip rfl rfl (h.dt 20 72 rfl rfl rfl) (not_f hb170) ⟨rfl, Ex.refl _⟩
           ·exact fun _ _ h => OpR.undef rfl rfl (h.dt 23 75 rfl rfl rfl) ⟨rfl, Ex.refl _⟩
           ·exact fun _ _ h => OpR.undef rfl rfl (h.dt 23 75 rfl rfl rfl) ⟨rfl, Ex.refl _⟩
           ·exact fun _ _ h => OpR.undef rfl rfl (h.dt 23 75 rfl rfl rfl) ⟨rfl, Ex.refl _⟩
           ·exact fun _ _ h => OpR.undef rfl rfl (h.dt 23 75 rfl rfl rfl) ⟨rfl, Ex.refl _⟩
           ·exact fun _ _ h => OpR.undef rfl rfl (h.dt 23 75 rfl rfl rfl) ⟨rfl, Ex.refl _⟩
           ·exact fun _ _ h => OpR.undef rfl rfl (h.dt 23 75 rfl rfl rfl) ⟨rfl, Ex.refl _⟩
           ·exact fun _ _ h => OpR.undef rfl rfl (h.dt 23 75 rfl rfl rfl) ⟨rfl, Ex.refl _⟩
           ·exact fun _ _ h => OpR.undef rfl rfl (h.dt 23 75 rfl rfl rfl) ⟨rfl, Ex.refl _⟩
           ·exact fun _ _ h => OpR.undef rfl rfl (h.dt 23 75 rfl rfl rfl) ⟨rfl, Ex.refl _⟩
           ·exact fun _ _ h => OpR.undef rfl rfl (h.dt 23 75 rfl rfl rfl) ⟨rfl, Ex.refl _⟩
           ·exact fun _ _ h => OpR.skip rfl rfl (h.dt 20 72 rfl rfl rfl) (not_f hb170) ⟨rfl, Ex.refl _⟩
           ·exact fun _ _ h => os rfl ((yl_pick_t rfl (h.dt 20 72 rfl rfl rfl) (not_f hb170) rfl kI))
           ·intro fl951 fh952 L948 w949 hp950
            have hE953 := hp950.ex
            have hE953z := Ex.size hE953
            refine SeqR.done (tn (CW.sub (Sub.cons (d := 1) (hp950.old 1 _ rfl rfl) (Sub.cons (d := 45) (hp950.old 45 _ rfl rfl) (Sub.cons (d := 46) (hp950.old 46 _ rfl rfl) (Sub.cons (d := 47) (hp950.old 47 _ rfl rfl) (Sub.cons (d := 57) (hp950.nt 5 57 rfl rfl rfl) (Sub.cons (d := 58) (hp950.nt 6 58 rfl rfl rfl) (Sub.cons (d := 59) (hp950.nt 7 59 rfl rfl rfl) (Sub.cons (d := 60) (hp950.nt 8 60 rfl rfl rfl) (Sub.cons (d := 61) (hp950.nt 9 61 rfl rfl rfl) (Sub.cons (d := 62) (hp950.nt 10 62 rfl rfl rfl) (Sub.cons (d := 63) (hp950.nt 11 63 rfl rfl rfl) (Sub.cons (d := 64) (hp950.nt 12 64 rfl rfl rfl) (Sub.cons (d := 67) (hp950.nt 15 67 rfl rfl rfl) (Sub.cons (d := 68) (hp950.nt 16 68 rfl rfl rfl) (Sub.cons (d := 69) (hp950.nt 17 69 rfl rfl rfl) (Sub.cons (d := 70) (hp950.nt 18 70 rfl rfl rfl) (Sub.cons (d := 73) (hp950.nt 21 73 rfl rfl rfl) (Sub.cons (d := 74) (hp950.nt 22 74 rfl rfl rfl) (Sub.cons (d := 75) (hp950.nt 23 75 rfl rfl rfl) (Sub.cons (d := 76) (hp950.nt 24 76 rfl rfl rfl) (Sub.cons (d := 77) (hp950.nt 25 77 rfl rfl rfl) (Sub.cons (d := 78) (hp950.nt 26 78 rfl rfl rfl) (Sub.cons (d := 79) (hp950.nt 27 79 rfl rfl rfl) (Sub.cons (d := 80) (hp950.nt 28 80 rfl rfl rfl) (Sub.cons (d := 81) (hp950.nt 29 81 rfl rfl rfl) (Sub.cons (d := 82) (hp950.nt 30 82 rfl rfl rfl) (Sub.cons (d := 83) (hp950.nt 31 83 rfl rfl rfl) (Sub.cons (d := 84) (hp950.nt 32 84 rfl rfl rfl) (Sub.cons (d := 85) (hp950.nt 33 85 rfl rfl rfl) (Sub.cons (d := 86) (hp950.nt 34 86 rfl rfl rfl) (Sub.cons (d := 87) (hp950.nt 35 87 rfl rfl rfl) (Sub.nil _)))))))))))))))))))))))))))))))) ?_))
            refine CW.cond_t rfl rfl (CW.seq (CW.region (sd rfl (yl_assign rfl rfl (SeqR.done (tn (CW.ret (br (tr ?_)))))))))
            refine tr ?_
            have hB986 : B_i_GoodTable_1 p_0 k91 () = .ret false := by simp only [B_i_GoodTable_1, hb16, hb21, hb23, hb159, hb164, hb170, hL90, cond_true, cond_false, loopE_done, loopE_ret]
            have hL985 : loopM (B_i_GoodTable_1 p_0) (p_0.Idxs.length - 0) 0 () = .ret false := hI136.symm.trans (loopM.ret hlt147 hB986)
            refine br (tr (rr rfl (.cons rfl .nil) ?_))
            have hM987 : (i_GoodTable p_0) = (false) := by simp only [i_GoodTable, hb16, hb21, hb23, hb159, hb164, hb170, hL90, hL985, cond_true, cond_false, loopE_done, loopE_ret]
            rw [hM987]
            exact ⟨rfl, (Ex.trans (Below.only (Ex.trans hf145 hE154) hO157 (by omega)) hE953)⟩
         ·refine CW.drawsI 36 (vgetI [DetI (.pointer (some ⟨b149, 0 + 0, none⟩)), DetI (.string (bs ((p_0.Idxs.getD k91 d_Idx).Name))), DetI (.bool ((i_areLetters ((p_0.Idxs.getD k91 d_Idx).Name) 1))), DetI (.bool (!(i_areLetters ((p_0.Idxs.getD k91 d_Idx).Name) 1))), DetI (.bool (!(i_areLetters ((p_0.Idxs.getD k91 d_Idx).Name) 1))), DetI (.pointer (some ⟨b149, 0 + 1, none⟩)), DetI (.int .i64 ((p_0.Idxs.getD k91 d_Idx).Col)), DetI (.pointer (some ⟨b7, 0 + 1, none⟩)), DetI (.slice A1 p_0.Cols.length c1), DetI (.int .i64 ((p_0.Cols.length : Int))), DetI (.int .i64 (IntKind.wrap .i64 ((p_0.Cols.length : Int) - 1))), DetI (.bool ((i_within ((p_0.Idxs.getD k91 d_Idx).Col) 1 (IntKind.wrap .i64 ((p_0.Cols.length : Int) - 1))))), DetI (.bool (!(i_within ((p_0.Idxs.getD k91 d_Idx).Col) 1 (IntKind.wrap .i64 ((p_0.Cols.length : Int) - 1))))), DetI (.bool (!(i_within ((p_0.Idxs.getD k91 d_Idx).Col) 1 (IntKind.wrap .i64 ((p_0.Cols.length : Int) - 1))))), DetI (.bool (!(i_within ((p_0.Idxs.getD k91 d_Idx).Col) 1 (IntKind.wrap .i64 ((p_0.Cols.length : Int) - 1))))), DetI (undef), DetI (undef), DetI (undef), DetI (undef), DetI (.bool (true)), DetI (.bool (true)), DetI (undef), DetI (undef), DetI (undef), DetI (undef), DetI (undef), DetI (undef), DetI (undef), DetI (undef), DetI (undef), DetI (undef), DetI (undef), DetI (undef), DetI (undef), DetI (undef), DetI (.bool (true))]) Tryz.follows rfl rfl rfl rfl rfl rfl (vgetI_stable ⟨StableI.det _, StableI.det _, StableI.det _, StableI.det _, StableI.det _, StableI.det _, StableI.det _, StableI.det _, StableI.det _, StableI.det _, StableI.det _, StableI.det _, StableI.det _, StableI.det _, StableI.det _, StableI.det _, StableI.det _, StableI.det _, StableI.det _, StableI.det _, StableI.det _, StableI.det _, StableI.det _, StableI.det _, StableI.det _, StableI.det _, StableI.det _, StableI.det _, StableI.det _, StableI.det _, StableI.det _, StableI.det _, StableI.det _, StableI.det _, StableI.det _, StableI.det _, trivial⟩) ⟨?_, ?_, ?_, ?_, ?_, ?_, ?_, ?_, ?_, ?_, ?_, ?_, ?_, ?_, ?_, ?_, ?_, ?_, ?_, ?_, ?_, ?_, ?_, ?_, ?_, ?_, ?_, ?_, ?_, ?_, ?_, ?_, ?_, ?_, ?_, ?_, trivial⟩ ?_
          ·exact fun _ _ h => os rfl ((yl_fieldAddr Tryz.fd104_0 rfl (h.old 6 _ rfl rfl) kI))
          ·exact fun _ _ h => os rfl ((yl_load1 Tryz.ty9 rfl (h.dt 0 52 rfl rfl rfl) (((Box.ex hB156 h.ex).cell 0).trans rfl) kI))
          ·intro L1006 w1007 hi1008
           refine OpR.op' rfl (yl_call Tryz.en65 rfl (opvs_cons (hi1008.dt 1 53 rfl rfl rfl) (opvs_cons rfl opvs_nil)) (Cal.mono (c_i_areLetters ((p_0.Idxs.getD k91 d_Idx).Name) 1 (okL.getD o3.2.2 ok_d_Idx _)) ?_))
           rintro v1012 w1011 ⟨rfl, hE1013⟩
           exact ⟨rfl, hE1013⟩
          ·exact fun _ _ h => os rfl ((yl_not rfl (h.dt 2 54 rfl rfl rfl) kI))
          ·exact fun _ _ h => os rfl ((yl_move rfl (h.dt 3 55 rfl rfl rfl) kI))
          ·exact fun _ _ h => OpR.want rfl rfl (h.dt 4 56 rfl rfl rfl) (not_t hb159) (Yl.sameI (yl_fieldAddr Tryz.fd104_1 rfl (h.old 6 _ rfl rfl) kI))
          ·exact fun _ _ h => OpR.want rfl rfl (h.dt 4 56 rfl rfl rfl) (not_t hb159) (Yl.sameI (yl_load1 Tryz.ty3 rfl (h.dt 5 57 rfl rfl rfl) (((Box.ex hB156 h.ex).cell 1).trans rfl) kI))
          ·exact fun _ _ h => OpR.want rfl rfl (h.dt 4 56 rfl rfl rfl) (not_t hb159) (Yl.sameI (yl_fieldAddr Tryz.fd34_1 rfl (h.old 1 _ rfl rfl) kI))
          ·intro L1043 w1044 hi1045
           have hE1046 := hi1045.ex
           have hE1046z := Ex.size hE1046
           exact OpR.want rfl rfl (hi1045.dt 4 56 rfl rfl rfl) (not_t hb159) (Yl.sameI (yl_load1 Tryz.ty22 rfl (hi1045.dt 7 59 rfl rfl rfl) (((Box.ex (Box.only (Box.ex hf142 hE154) hO157 (by omega)) hE1046).cell 1).trans rfl) kI))
          ·exact fun _ _ h => OpR.want rfl rfl (h.dt 4 56 rfl rfl rfl) (not_t hb159) (Yl.sameI (yl_len Tryz.un22 rfl (h.dt 8 60 rfl rfl rfl) kI))
          ·exact fun _ _ h => OpR.want rfl rfl (h.dt 4 56 rfl rfl rfl) (not_t hb159) (Yl.sameI (yl_sub rfl (h.dt 9 61 rfl rfl rfl) rfl kI))
          ·intro L1062 w1063 hi1064
           refine OpR.want rfl rfl (hi1064.dt 4 56 rfl rfl rfl) (not_t hb159) (yl_call Tryz.en66 rfl (opvs_cons (hi1064.dt 6 58 rfl rfl rfl) (opvs_cons rfl (opvs_cons (hi1064.dt 10 62 rfl rfl rfl) opvs_nil))) (Cal.mono (c_i_within ((p_0.Idxs.getD k91 d_Idx).Col) 1 (IntKind.wrap .i64 ((p_0.Cols.length : Int) - 1))) ?_))
           rintro v1070 w1069 ⟨rfl, hE1071⟩
           exact ⟨rfl, hE1071⟩
          ·exact fun _ _ h => OpR.want rfl rfl (h.dt 4 56 rfl rfl rfl) (not_t hb159) (Yl.sameI (yl_not rfl (h.dt 11 63 rfl rfl rfl) kI))
          ·exact fun _ _ h => os rfl ((yl_pick_f rfl (h.dt 4 56 rfl rfl rfl) (not_t hb159) (h.dt 12 64 rfl rfl rfl) kI))
          ·exact fun _ _ h => os rfl ((yl_move rfl (h.dt 13 65 rfl rfl rfl) kI))
          ·exact fun _ _ h => OpR.skip rfl rfl (h.dt 14 66 rfl rfl rfl) (not_f hb164) ⟨rfl, Ex.refl _⟩
          ·exact fun _ _ h => OpR.skip rfl rfl (h.dt 14 66 rfl rfl rfl) (not_f hb164) ⟨rfl, Ex.refl _⟩
          ·exact fun _ _ h => OpR.skip rfl rfl (h.dt 14 66 rfl rfl rfl) (not_f hb164) ⟨rfl, Ex.refl _⟩
          ·exact fun _ _ h => OpR.skip rfl rfl (h.dt 14 66 rfl rfl rfl) (not_f hb164) ⟨rfl, Ex.refl _⟩
          ·exact fun _ _ h => os rfl ((yl_pick_t rfl (h.dt 14 66 rfl rfl rfl) (not_f hb164) rfl kI))
          ·exact fun _ _ h => os rfl ((yl_move rfl (h.dt 19 71 rfl rfl rfl) kI))
          ·exact fun _ _ h => OpR.skip rfl rfl (h.dt 20 72 rfl rfl rfl) rfl ⟨rfl, Ex.refl _⟩
          ·exact fun _ _ h => OpR.skip rfl rfl (h.dt 20 72 rfl rfl rfl) rfl ⟨rfl, Ex.refl _⟩
          ·exact fun _ _ h => OpR.skip rfl rfl (h.dt 20 72 rfl rfl rfl) rfl ⟨rfl, Ex.refl _⟩
          ·exact fun _ _ h => OpR.undef rfl rfl (h.dt 23 75 rfl rfl rfl) ⟨rfl, Ex.refl _⟩
          ·exact fun _ _ h => OpR.undef rfl rfl (h.dt 23 75 rfl rfl rfl) ⟨rfl, Ex.refl _⟩
          ·exact fun _ _ h => OpR.undef rfl rfl (h.dt 23 75 rfl rfl rfl) ⟨rfl, Ex.refl _⟩
          ·exact fun _ _ h => OpR.undef rfl rfl (h.dt 23 75 rfl rfl rfl) ⟨rfl, Ex.refl _⟩
          ·exact fun _ _ h => OpR.undef rfl rfl (h.dt 23 75 rfl rfl rfl) ⟨rfl, Ex.refl _⟩
          ·exact fun _ _ h => OpR.undef rfl rfl (h.dt 23 75 rfl rfl rfl) ⟨rfl, Ex.refl _⟩
          ·exact fun _ _ h => OpR.undef rfl rfl (h.dt 23 75 rfl rfl rfl) ⟨rfl, Ex.refl _⟩
          ·exact fun _ _ h => OpR.undef rfl rfl (h.dt 23 75 rfl rfl rfl) ⟨rfl, Ex.refl _⟩
          ·exact fun _ _ h => OpR.undef rfl rfl (h.dt 23 75 rfl rfl rfl) ⟨rfl, Ex.refl _⟩
          ·exact fun _ _ h => OpR.undef rfl rfl (h.dt 23 75 rfl rfl rfl) ⟨rfl, Ex.refl _⟩
          ·exact fun _ _ h => OpR.skip rfl rfl (h.dt 20 72 rfl rfl rfl) rfl ⟨rfl, Ex.refl _⟩
          ·exact fun _ _ h => os rfl ((yl_pick_t rfl (h.dt 20 72 rfl rfl rfl) rfl rfl kI))
          ·intro fl1199 fh1200 L1196 w1197 hp1198
           have hE1201 := hp1198.ex
           have hE1201z := Ex.size hE1201
           refine SeqR.done (tn (CW.sub (Sub.cons (d := 1) (hp1198.old 1 _ rfl rfl) (Sub.cons (d := 45) (hp1198.old 45 _ rfl rfl) (Sub.cons (d := 46) (hp1198.old 46 _ rfl rfl) (Sub.cons (d := 47) (hp1198.old 47 _ rfl rfl) (Sub.cons (d := 57) (hp1198.nt 5 57 rfl rfl rfl) (Sub.cons (d := 58) (hp1198.nt 6 58 rfl rfl rfl) (Sub.cons (d := 59) (hp1198.nt 7 59 rfl rfl rfl) (Sub.cons (d := 60) (hp1198.nt 8 60 rfl rfl rfl) (Sub.cons (d := 61) (hp1198.nt 9 61 rfl rfl rfl) (Sub.cons (d := 62) (hp1198.nt 10 62 rfl rfl rfl) (Sub.cons (d := 63) (hp1198.nt 11 63 rfl rfl rfl) (Sub.cons (d := 64) (hp1198.nt 12 64 rfl rfl rfl) (Sub.cons (d := 67) (hp1198.nt 15 67 rfl rfl rfl) (Sub.cons (d := 68) (hp1198.nt 16 68 rfl rfl rfl) (Sub.cons (d := 69) (hp1198.nt 17 69 rfl rfl rfl) (Sub.cons (d := 70) (hp1198.nt 18 70 rfl rfl rfl) (Sub.cons (d := 73) (hp1198.nt 21 73 rfl rfl rfl) (Sub.cons (d := 74) (hp1198.nt 22 74 rfl rfl rfl) (Sub.cons (d := 75) (hp1198.nt 23 75 rfl rfl rfl) (Sub.cons (d := 76) (hp1198.nt 24 76 rfl rfl rfl) (Sub.cons (d := 77) (hp1198.nt 25 77 rfl rfl rfl) (Sub.cons (d := 78) (hp1198.nt 26 78 rfl rfl rfl) (Sub.cons (d := 79) (hp1198.nt 27 79 rfl rfl rfl) (Sub.cons (d := 80) (hp1198.nt 28 80 rfl rfl rfl) (Sub.cons (d := 81) (hp1198.nt 29 81 rfl rfl rfl) (Sub.cons (d := 82) (hp1198.nt 30 82 rfl rfl rfl) (Sub.cons (d := 83) (hp1198.nt 31 83 rfl rfl rfl) (Sub.cons (d := 84) (hp1198.nt 32 84 rfl rfl rfl) (Sub.cons (d := 85) (hp1198.nt 33 85 rfl rfl rfl) (Sub.cons (d := 86) (hp1198.nt 34 86 rfl rfl rfl) (Sub.cons (d := 87) (hp1198.nt 35 87 rfl rfl rfl) (Sub.nil _)))))))))))))))))))))))))))))))) ?_))
           refine CW.cond_t rfl rfl (CW.seq (CW.region (sd rfl (yl_assign rfl rfl (SeqR.done (tn (CW.ret (br (tr ?_)))))))))
           refine tr ?_
           have hB1234 : B_i_GoodTable_1 p_0 k91 () = .ret false := by simp only [B_i_GoodTable_1, hb16, hb21, hb23, hb159, hb164, hL90, cond_true, cond_false, loopE_done, loopE_ret]
           have hL1233 : loopM (B_i_GoodTable_1 p_0) (p_0.Idxs.length - 0) 0 () = .ret false := hI136.symm.trans (loopM.ret hlt147 hB1234)
           refine br (tr (rr rfl (.cons rfl .nil) ?_))
           have hM1235 : (i_GoodTable p_0) = (false) := by simp only [i_GoodTable, hb16, hb21, hb23, hb159, hb164, hL90, hL1233, cond_true, cond_false, loopE_done, loopE_ret]
           rw [hM1235]
           exact ⟨rfl, (Ex.trans (Below.only (Ex.trans hf145 hE154) hO157 (by omega)) hE1201)⟩
        ·refine CW.drawsI 36 (vgetI [DetI (.pointer (some ⟨b149, 0 + 0, none⟩)), DetI (.string (bs ((p_0.Idxs.getD k91 d_Idx).Name))), DetI (.bool ((i_areLetters ((p_0.Idxs.getD k91 d_Idx).Name) 1))), DetI (.bool (!(i_areLetters ((p_0.Idxs.getD k91 d_Idx).Name) 1))), DetI (.bool (!(i_areLetters ((p_0.Idxs.getD k91 d_Idx).Name) 1))), DetI (undef), DetI (undef), DetI (undef), DetI (undef), DetI (undef), DetI (undef), DetI (undef), DetI (undef), DetI (.bool (true)), DetI (.bool (true)), DetI (undef), DetI (undef), DetI (undef), DetI (undef), DetI (.bool (true)), DetI (.bool (true)), DetI (undef), DetI (undef), DetI (undef), DetI (undef), DetI (undef), DetI (undef), DetI (undef), DetI (undef), DetI (undef), DetI (undef), DetI (undef), DetI (undef), DetI (undef), DetI (undef), DetI (.bool (true))]) Tryz.follows rfl rfl rfl rfl rfl rfl (vgetI_stable ⟨StableI.det _, StableI.det _, StableI.det _, StableI.det _, StableI.det _, StableI.det _, StableI.det _, StableI.det _, StableI.det _, StableI.det _, StableI.det _, StableI.det _, StableI.det _, StableI.det _, StableI.det _, StableI.det _, StableI.det _, StableI.det _, StableI.det _, StableI.det _, StableI.det _, StableI.det _, StableI.det _, StableI.det _, StableI.det _, StableI.det _, StableI.det _, StableI.det _, StableI.det _, StableI.det _, StableI.det _, StableI.det _, StableI.det _, StableI.det _, StableI.det _, StableI.det _, trivial⟩) ⟨?_, ?_, ?_, ?_, ?_, ?_, ?_, ?_, ?_, ?_, ?_, ?_, ?_, ?_, ?_, ?_, ?_, ?_, ?_, ?_, ?_, ?_, ?_, ?_, ?_, ?_, ?_, ?_, ?_, ?_, ?_, ?_, ?_, ?_, ?_, ?_, trivial⟩ ?_
         ·exact fun _ _ h => os rfl ((yl_fieldAddr Tryz.fd104_0 rfl (h.old 6 _ rfl rfl) kI))
         ·exact fun _ _ h => os rfl ((yl_load1 Tryz.ty9 rfl (h.dt 0 52 rfl rfl rfl) (((Box.ex hB156 h.ex).cell 0).trans rfl) kI))
         ·intro L1251 w1252 hi1253
          refine OpR.op' rfl (yl_call Tryz.en65 rfl (opvs_cons (hi1253.dt 1 53 rfl rfl rfl) (opvs_cons rfl opvs_nil)) (Cal.mono (c_i_areLetters ((p_0.Idxs.getD k91 d_Idx).Name) 1 (okL.getD o3.2.2 ok_d_Idx _)) ?_))
          rintro v1257 w1256 ⟨rfl, hE1258⟩
          exact ⟨rfl, hE1258⟩
         ·exact fun _ _ h => os rfl ((yl_not rfl (h.dt 2 54 rfl rfl rfl) kI))
         ·exact fun _ _ h => os rfl ((yl_move rfl (h.dt 3 55 rfl rfl rfl) kI))
         ·exact fun _ _ h => OpR.skip rfl rfl (h.dt 4 56 rfl rfl rfl) (not_f hb159) ⟨rfl, Ex.refl _⟩
         ·exact fun _ _ h => OpR.skip rfl rfl (h.dt 4 56 rfl rfl rfl) (not_f hb159) ⟨rfl, Ex.refl _⟩
         ·exact fun _ _ h => OpR.skip rfl rfl (h.dt 4 56 rfl rfl rfl) (not_f hb159) ⟨rfl, Ex.refl _⟩
         ·exact fun _ _ h => OpR.skip rfl rfl (h.dt 4 56 rfl rfl rfl) (not_f hb159) ⟨rfl, Ex.refl _⟩
         ·exact fun _ _ h => OpR.skip rfl rfl (h.dt 4 56 rfl rfl rfl) (not_f hb159) ⟨rfl, Ex.refl _⟩
         ·exact fun _ _ h => OpR.skip rfl rfl (h.dt 4 56 rfl rfl rfl) (not_f hb159) ⟨rfl, Ex.refl _⟩
         ·exact fun _ _ h => OpR.skip rfl rfl (h.dt 4 56 rfl rfl rfl) (not_f hb159) ⟨rfl, Ex.refl _⟩
         ·exact fun _ _ h => OpR.skip rfl rfl (h.dt 4 56 rfl rfl rfl) (not_f hb159) ⟨rfl, Ex.refl _⟩
         ·exact fun _ _ h => os rfl ((yl_pick_t rfl (h.dt 4 56 rfl rfl rfl) (not_f hb159) rfl kI))
         ·exact fun _ _ h => os rfl ((yl_move rfl (h.dt 13 65 rfl rfl rfl) kI))
         ·exact fun _ _ h => OpR.skip rfl rfl (h.dt 14 66 rfl rfl rfl) rfl ⟨rfl, Ex.refl _⟩
         ·exact fun _ _ h => OpR.skip rfl rfl (h.dt 14 66 rfl rfl rfl) rfl ⟨rfl, Ex.refl _⟩
         ·exact fun _ _ h => OpR.skip rfl rfl (h.dt 14 66 rfl rfl rfl) rfl ⟨rfl, Ex.refl _⟩
         ·exact fun _ _ h => OpR.skip rfl rfl (h.dt 14 66 rfl rfl rfl) rfl ⟨rfl, Ex.refl _⟩
         ·exact fun _ _ h => os rfl ((yl_pick_t rfl (h.dt 14 66 rfl rfl rfl) rfl rfl kI))
         ·exact fun _ _ h => os rfl ((yl_move rfl (h.dt 19 71 rfl rfl rfl) kI))
         ·exact fun _ _ h => OpR.skip rfl rfl (h.dt 20 72 rfl rfl rfl) rfl ⟨rfl, Ex.refl _⟩
         ·exact fun _ _ h => OpR.skip rfl rfl (h.dt 20 72 rfl rfl rfl) rfl ⟨rfl, Ex.refl _⟩
         ·exact fun _ _ h => OpR.skip rfl rfl (h.dt 20 72 rfl rfl rfl) rfl ⟨rfl, Ex.refl _⟩
         ·exact fun _ _ h => OpR.undef rfl rfl (h.dt 23 75 rfl rfl rfl) ⟨rfl, Ex.refl _⟩
         ·exact fun _ _ h => OpR.undef rfl rfl (h.dt 23 75 rfl rfl rfl) ⟨rfl, Ex.refl _⟩
         ·exact fun _ _ h => OpR.undef rfl rfl (h.dt 23 75 rfl rfl rfl) ⟨rfl, Ex.refl _⟩
         ·exact fun _ _ h => OpR.undef rfl rfl (h.dt 23 75 rfl rfl rfl) ⟨rfl, Ex.refl _⟩
         ·exact fun _ _ h => OpR.undef rfl rfl (h.dt 23 75 rfl rfl rfl) ⟨rfl, Ex.refl _⟩
         ·exact fun _ _ h => OpR.undef rfl rfl (h.dt 23 75 rfl rfl rfl) ⟨rfl, Ex.refl _⟩
         ·exact fun _ _ h => OpR.undef rfl rfl (h.dt 23 75 rfl rfl rfl) ⟨rfl, Ex.refl _⟩
         ·exact fun _ _ h => OpR.undef rfl rfl (h.dt 23 75 rfl rfl rfl) ⟨rfl, Ex.refl _⟩
         ·exact fun _ _ h => OpR.undef rfl rfl (h.dt 23 75 rfl rfl rfl) ⟨rfl, Ex.refl _⟩
         ·exact fun _ _ h => OpR.undef rfl rfl (h.dt 23 75 rfl rfl rfl) ⟨rfl, Ex.refl _⟩
         ·exact fun _ _ h => OpR.skip rfl rfl (h.dt 20 72 rfl rfl rfl) rfl ⟨rfl, Ex.refl _⟩
         ·exact fun _ _ h => os rfl ((yl_pick_t rfl (h.dt 20 72 rfl rfl rfl) rfl rfl kI))
         ·intro fl1430 fh1431 L1427 w1428 hp1429
          have hE1432 := hp1429.ex
          have hE1432z := Ex.size hE1432
          refine SeqR.done (tn (CW.sub (Sub.cons (d := 1) (hp1429.old 1 _ rfl rfl) (Sub.cons (d := 45) (hp1429.old 45 _ rfl rfl) (Sub.cons (d := 46) (hp1429.old 46 _ rfl rfl) (Sub.cons (d := 47) (hp1429.old 47 _ rfl rfl) (Sub.cons (d := 57) (hp1429.nt 5 57 rfl rfl rfl) (Sub.cons (d := 58) (hp1429.nt 6 58 rfl rfl rfl) (Sub.cons (d := 59) (hp1429.nt 7 59 rfl rfl rfl) (Sub.cons (d := 60) (hp1429.nt 8 60 rfl rfl rfl) (Sub.cons (d := 61) (hp1429.nt 9 61 rfl rfl rfl) (Sub.cons (d := 62) (hp1429.nt 10 62 rfl rfl rfl) (Sub.cons (d := 63) (hp1429.nt 11 63 rfl rfl rfl) (Sub.cons (d := 64) (hp1429.nt 12 64 rfl rfl rfl) (Sub.cons (d := 67) (hp1429.nt 15 67 rfl rfl rfl) (Sub.cons (d := 68) (hp1429.nt 16 68 rfl rfl rfl) (Sub.cons (d := 69) (hp1429.nt 17 69 rfl rfl rfl) (Sub.cons (d := 70) (hp1429.nt 18 70 rfl rfl rfl) (Sub.cons (d := 73) (hp1429.nt 21 73 rfl rfl rfl) (Sub.cons (d := 74) (hp1429.nt 22 74 rfl rfl rfl) (Sub.cons (d := 75) (hp1429.nt 23 75 rfl rfl rfl) (Sub.cons (d := 76) (hp1429.nt 24 76 rfl rfl rfl) (Sub.cons (d := 77) (hp1429.nt 25 77 rfl rfl rfl) (Sub.cons (d := 78) (hp1429.nt 26 78 rfl rfl rfl) (Sub.cons (d := 79) (hp1429.nt 27 79 rfl rfl rfl) (Sub.cons (d := 80) (hp1429.nt 28 80 rfl rfl rfl) (Sub.cons (d := 81) (hp1429.nt 29 81 rfl rfl rfl) (Sub.cons (d := 82) (hp1429.nt 30 82 rfl rfl rfl) (Sub.cons (d := 83) (hp1429.nt 31 83 rfl rfl rfl) (Sub.cons (d := 84) (hp1429.nt 32 84 rfl rfl rfl) (Sub.cons (d := 85) (hp1429.nt 33 85 rfl rfl rfl) (Sub.cons (d := 86) (hp1429.nt 34 86 rfl rfl rfl) (Sub.cons (d := 87) (hp1429.nt 35 87 rfl rfl rfl) (Sub.nil _)))))))))))))))))))))))))))))))) ?_))
          refine CW.cond_t rfl rfl (CW.seq (CW.region (sd rfl (yl_assign rfl rfl (SeqR.done (tn (CW.ret (br (tr ?_)))))))))
          refine tr ?_
          have hB1465 : B_i_GoodTable_1 p_0 k91 () = .ret false := by simp only [B_i_GoodTable_1, hb16, hb21, hb23, hb159, hL90, cond_true, cond_false, loopE_done, loopE_ret]
          have hL1464 : loopM (B_i_GoodTable_1 p_0) (p_0.Idxs.length - 0) 0 () = .ret false := hI136.symm.trans (loopM.ret hlt147 hB1465)
          refine br (tr (rr rfl (.cons rfl .nil) ?_))
          have hM1466 : (i_GoodTable p_0) = (false) := by simp only [i_GoodTable, hb16, hb21, hb23, hb159, hL90, hL1464, cond_true, cond_false, loopE_done, loopE_ret]
          rw [hM1466]
          exact ⟨rfl, (Ex.trans (Below.only (Ex.trans hf145 hE154) hO157 (by omega)) hE1432)⟩
       ·refine CW.seq (CW.region (sd rfl (yl_lss rfl rfl rfl (SeqR.done (tn (CW.seq (CW.cond_f rfl (lt_f hlt147) (CW.exit (tx ?_)))))))))
        refine tx ?_
        have hL1470 : loopM (B_i_GoodTable_1 p_0) (p_0.Idxs.length - 0) 0 () = .done () := hI136.symm.trans (loopM.stop hlt147)
        refine bx (tn (CW.seq (CW.region (sd rfl (yl_assign rfl rfl (SeqR.done (tn (CW.ret (rr rfl (.cons rfl .nil) ?_)))))))))
        have hM1471 : (i_GoodTable p_0) = (true) := by simp only [i_GoodTable, hb16, hb21, hb23, hL90, hL1470, cond_true, cond_false, loopE_done, loopE_ret]
        rw [hM1471]
        exact ⟨rfl, hf145⟩
  ·refine sz rfl rfl (not_f hb21) (sz rfl rfl (not_f hb21) (sz rfl rfl (not_f hb21) (sz rfl rfl (not_f hb21) (sd rfl (yl_pick_t rfl rfl (not_f hb21) rfl (SeqR.done (tn (CW.cond_t rfl rfl (CW.seq ?_)))))))))
   refine CW.region (sd rfl (yl_assign rfl rfl (SeqR.done (tn (CW.ret (tr (rr rfl (.cons rfl .nil) ?_)))))))
   have hM1472 : (i_GoodTable p_0) = (false) := by simp only [i_GoodTable, hb16, hb21, cond_true, cond_false, loopE_done, loopE_ret]
   rw [hM1472]
   exact ⟨rfl, (Ex.trans (Ex.trans (Ex.trans (Ex.refl w) hE12) hE15) hE20)⟩
 ·refine sz rfl rfl (not_f hb16) (sz rfl rfl (not_f hb16) (sz rfl rfl (not_f hb16) (sz rfl rfl (not_f hb16) (sz rfl rfl (not_f hb16) (sd rfl (yl_pick_t rfl rfl (not_f hb16) rfl (sd rfl (yl_move rfl rfl (sz rfl rfl rfl (sz rfl rfl rfl ?_))))))))))
  refine sz rfl rfl rfl (sz rfl rfl rfl (sd rfl (yl_pick_t rfl rfl rfl rfl (SeqR.done (tn (CW.cond_t rfl rfl (CW.seq (CW.region (sd rfl (yl_assign rfl rfl ?_))))))))))
  refine SeqR.done (tn (CW.ret (tr (rr rfl (.cons rfl .nil) ?_))))
  have hM1476 : (i_GoodTable p_0) = (false) := by simp only [i_GoodTable, hb16, cond_true, cond_false, loopE_done, loopE_ret]
  rw [hM1476]
  exact ⟨rfl, (Ex.trans (Ex.trans (Ex.refl w) hE12) hE15)⟩
set_option maxRecDepth 100000 in
set_option maxHeartbeats 2000000 in
theorem c_g_slices_IndexFunc_Write {A1 : Option Addr} {c1 : Nat} {g3 : Nat} {cp4 : List Value} {w : World} (p_s : List DWrite) (p_f : DWrite → Bool) (h1 : RdS w (Iv 0 w.heap.size) (RF e_Write) 3 A1 p_s.length c1 p_s) (hen5 : Go.X.Enters Tryz.prog g3) (hfn6 : ∀ (w1 : World) (y0 : DWrite), Ex w w1 → y0 ∈ p_s → ok_Write y0 → Cal Tryz.prog g3 (([.agg #[.string (bs (y0.Key)), .string (bs (y0.Val)), .bool (y0.Gone)]] : List Value) ++ cp4).toArray w1 fun v w2 => v = .bool (p_f y0) ∧ Ex w1 w2) (o2 : (okL ok_Write) p_s) : Cal Tryz.prog 101 #[.slice A1 p_s.length c1, .func (.func g3) #[] cp4.toArray] w fun v w' => v = .int .i64 ((g_slices_IndexFunc_Write p_s p_f)) ∧ Ex w w' := by
 have hol7 := o2.1
 refine Cal.of (vs := [.slice A1 p_s.length c1, .func (.func g3) #[] cp4.toArray]) Tryz.func101 rfl Tryz.ntmps101 rfl (CW.seq (CW.region (sd rfl (yl_assign rfl rfl (SeqR.done (tn (CW.seq (CW.seq (CW.region ?_)))))))))
 refine sd rfl (yl_move rfl rfl (sd rfl (yl_len Tryz.un36 rfl rfl (sd rfl (yl_move rfl rfl (SeqR.done (tn (CW.block (CW.loop (fun m9 L10 w11 => ∃ (k8 : Nat), m9 = p_s.length - k8 ∧ k8 ≤ p_s.length ∧ w.heap.size ≤ w11.heap.size ∧ lkp L10 0 = some (.slice A1 p_s.length c1) ∧ lkp L10 1 = some (.func (.func g3) #[] cp4.toArray) ∧ lkp L10 7 = some (.int .i64 ((p_s.length : Int))) ∧ lkp L10 8 = some (.int .i64 ((k8 : Int))) ∧ RdS w11 (Iv 0 w.heap.size) (RF e_Write) 3 A1 p_s.length c1 p_s ∧ Ex w w11 ∧ loopM (B_g_slices_IndexFunc_Write_0 p_s p_f) (p_s.length - k8) k8 () = loopM (B_g_slices_IndexFunc_Write_0 p_s p_f) (p_s.length - 0) 0 ()) (p_s.length - 0) ?_ ?_)))))))))
 ·exact ⟨0, rfl, (by omega), Nat.le_refl _, rfl, rfl, rfl, rfl, h1, (Ex.refl w), rfl⟩
 ·rintro m12 L13 w14 ⟨k8, rfl, hk15, hsz17, hl18, hl19, hl20, hl21, hf22, hf23, hI16⟩
  refine CW.sub (Sub.cons hl18 (Sub.cons hl19 (Sub.cons hl20 (Sub.cons hl21 (Sub.nil _))))) ?_
  have hf23z := Ex.size hf23
  have hbg24 := RdS.big hf22
  rcases Nat.lt_or_ge k8 p_s.length with hlt25 | hlt25
  ·refine CW.seq (CW.region (sd rfl (yl_lss rfl rfl rfl (SeqR.done (tn (CW.seq (CW.cond_t rfl (lt_t hlt25) (CW.skip (tn ?_)))))))))
   refine CW.seq (CW.block (CW.seq (CW.region (sd rfl (yl_move rfl rfl (sd rfl (yl_assign rfl rfl (SeqR.done (tn (CW.seq ?_))))))))))
   refine CW.region (sd rfl (yl_move rfl rfl (sd rfl (yl_move rfl rfl (sd rfl (yl_move rfl rfl ?_))))))
   obtain ⟨eb26, eo26, ec26, eA26, eS26, ebl26, el26, eR26, eC26⟩ := RdS.atD hf22 d_Write (i := k8) (by first | omega | assumption)
   obtain rfl := eR26
   have eC26 : Cells w14 eb26 (eo26 + k8 * 3) [.string (bs ((p_s.getD k8 d_Write).Key)), .string (bs ((p_s.getD k8 d_Write).Val)), .bool ((p_s.getD k8 d_Write).Gone)] := eC26
   refine sd rfl (yl_indexAddrN Tryz.un36 Tryz.ty75 rfl rfl rfl eA26 (by first | omega | assumption | (simp only [IntKind.wrap_i64] at *; omega)) (sd rfl (yl_loadN (cs := [.string (bs ((p_s.getD k8 d_Write).Key)), .string (bs ((p_s.getD k8 d_Write).Val)), .bool ((p_s.getD k8 d_Write).Gone)]) Tryz.ty75 rfl rfl eC26 rfl (sd rfl (yl_callv hen5 rfl rfl (opvs_cons rfl opvs_nil) (Cal.mono (hfn6 w14 (p_s.getD k8 d_Write) hf23 (getD_mem (by omega)) (okL.getD o2 ok_d_Write _)) ?_))))))
   rintro v28 w27 ⟨rfl, hE29⟩
   have hE29z := Ex.size hE29
   refine SeqR.done (tn (bcase (p_f (p_s.getD k8 d_Write)) (fun hb30 => ?_) (fun hb30 => ?_)))
   ·refine CW.cond_t rfl hb30 (CW.seq (CW.region (sd rfl (yl_move rfl rfl (sd rfl (yl_assign rfl rfl (SeqR.done (tn (CW.ret (br ?_))))))))))
    refine tr (tr ?_)
    have hB32 : B_g_slices_IndexFunc_Write_0 p_s p_f k8 () = .ret (k8 : Int) := by simp only [B_g_slices_IndexFunc_Write_0, hb30, cond_true, cond_false, loopE_done, loopE_ret]
    have hL31 : loopM (B_g_slices_IndexFunc_Write_0 p_s p_f) (p_s.length - 0) 0 () = .ret (k8 : Int) := hI16.symm.trans (loopM.ret hlt25 hB32)
    refine br (tr (rr rfl (.cons rfl .nil) ?_))
    have hM33 : (g_slices_IndexFunc_Write p_s p_f) = ((k8 : Int)) := by simp only [g_slices_IndexFunc_Write, hb30, hL31, cond_true, cond_false, loopE_done, loopE_ret]
    rw [hM33]
    exact ⟨rfl, (Ex.trans hf23 hE29)⟩
   ·refine CW.cond_f rfl hb30 (CW.skip (bn (tn (CW.region (sd rfl (yl_inc rfl rfl rfl (by omega) (sd rfl (yl_move rfl rfl (SeqR.done (tn ?_))))))))))
    have hB35 : B_g_slices_IndexFunc_Write_0 p_s p_f k8 () = .cont () := by simp only [B_g_slices_IndexFunc_Write_0, hb30, cond_true, cond_false, loopE_done, loopE_ret]
    exact ⟨p_s.length - (k8 + 1), by omega, k8 + 1, rfl, hlt25, (by omega), rfl, rfl, rfl, rfl, (RdS.ex good_Write hf22 hE29), (Ex.trans hf23 hE29), (loopM.cont hlt25 hB35).symm.trans hI16⟩
  ·refine CW.seq (CW.region (sd rfl (yl_lss rfl rfl rfl (SeqR.done (tn (CW.seq (CW.cond_f rfl (lt_f hlt25) (CW.exit (tx ?_)))))))))
   refine tx ?_
   have hL38 : loopM (B_g_slices_IndexFunc_Write_0 p_s p_f) (p_s.length - 0) 0 () = .done () := hI16.symm.trans (loopM.stop hlt25)
   refine bx (tn (CW.seq (CW.region (sd rfl (yl_assign rfl rfl (SeqR.done (tn (CW.ret (rr rfl (.cons rfl .nil) ?_)))))))))
   have hM39 : (g_slices_IndexFunc_Write p_s p_f) = (-1) := by simp only [g_slices_IndexFunc_Write, hL38, cond_true, cond_false, loopE_done, loopE_ret]
   rw [hM39]
   exact ⟨rfl, hf23⟩
set_option maxRecDepth 100000 in
set_option maxHeartbeats 2000000 in
theorem c_g_slices_ContainsFunc_Write {A1 : Option Addr} {c1 : Nat} {g3 : Nat} {cp4 : List Value} {w : World} (p_s : List DWrite) (p_f : DWrite → Bool) (h1 : RdS w (Iv 0 w.heap.size) (RF e_Write) 3 A1 p_s.length c1 p_s) (hen5 : Go.X.Enters Tryz.prog g3) (hfn6 : ∀ (w1 : World) (y0 : DWrite), Ex w w1 → y0 ∈ p_s → ok_Write y0 → Cal Tryz.prog g3 (([.agg #[.string (bs (y0.Key)), .string (bs (y0.Val)), .bool (y0.Gone)]] : List Value) ++ cp4).toArray w1 fun v w2 => v = .bool (p_f y0) ∧ Ex w1 w2) (o2 : (okL ok_Write) p_s) : Cal Tryz.prog 69 #[.slice A1 p_s.length c1, .func (.func g3) #[] cp4.toArray] w fun v w' => v = .bool ((g_slices_ContainsFunc_Write p_s p_f)) ∧ Ex w w' := by
 have hol7 := o2.1
 refine Cal.of (vs := [.slice A1 p_s.length c1, .func (.func g3) #[] cp4.toArray]) Tryz.func69 rfl Tryz.ntmps69 rfl (CW.seq (CW.region (sd rfl (yl_assign rfl rfl (SeqR.done (tn (CW.seq (CW.region (sd rfl (yl_move rfl rfl ?_))))))))))
 refine sd rfl (yl_move rfl rfl (sd rfl (yl_call Tryz.en101 rfl (opvs_cons rfl (opvs_cons rfl opvs_nil)) (Cal.mono (c_g_slices_IndexFunc_Write p_s p_f (RdS.up h1 good_Write) hen5 (fun w1 y0 => fun hE => hfn6 w1 y0 (Ex.trans (Ex.refl w) hE)) o2) ?_))))
 rintro v9 w8 ⟨rfl, hE10⟩
 have hE10z := Ex.size hE10
 refine sd rfl (yl_geq rfl rfl rfl (sd rfl (yl_assign rfl rfl (SeqR.done (tn (CW.ret (rr rfl (.cons rfl .nil) ?_)))))))
 have hM11 : (g_slices_ContainsFunc_Write p_s p_f) = (decide (0 ≤ (g_slices_IndexFunc_Write p_s p_f))) := by simp only [g_slices_ContainsFunc_Write, cond_true, cond_false, loopE_done, loopE_ret]
 rw [hM11]
 exact ⟨rfl, (Ex.trans (Ex.refl w) hE10)⟩
set_option maxRecDepth 100000 in
set_option maxHeartbeats 2000000 in
theorem c_i_isLowerOrDigit {w : World} (p_b : Int) : Cal Tryz.prog 159 #[.int .u8 (p_b)] w fun v w' => v = .bool ((i_isLowerOrDigit p_b)) ∧ Ex w w' := by
 refine Cal.of (vs := [.int .u8 (p_b)]) Tryz.func159 rfl Tryz.ntmps159 rfl (CW.seq (CW.region (sd rfl (yl_assign rfl rfl (SeqR.done (tn (CW.seq (CW.region (sd rfl (yl_move rfl rfl ?_))))))))))
 refine sd rfl (yl_geq rfl rfl rfl (sd rfl (yl_move rfl rfl (bcase (decide (97 ≤ p_b)) (fun hb1 => ?_) (fun hb1 => ?_)))))
 ·have hb1p := dec_t hb1
  refine sy rfl rfl hb1 (yl_move rfl rfl (sy rfl rfl hb1 (yl_leq rfl rfl rfl (sd rfl (yl_pick_t rfl rfl hb1 rfl (sd rfl (yl_move rfl rfl (bcase (decide (p_b ≤ 122)) (fun hb2 => ?_) (fun hb2 => ?_)))))))))
  ·have hb2p := dec_t hb2
   refine sz rfl rfl hb2 (sz rfl rfl hb2 (sz rfl rfl hb2 (sq rfl rfl (sq rfl rfl (sz rfl rfl hb2 (sd rfl (yl_pick_t rfl rfl hb2 rfl (sd rfl (yl_assign rfl rfl (SeqR.done ?_))))))))))
   refine tn (CW.ret (rr rfl (.cons rfl .nil) ?_))
   have hM3 : (i_isLowerOrDigit p_b) = (true) := by simp only [i_isLowerOrDigit, hb1, hb2, cond_true, cond_false, loopE_done, loopE_ret]
   rw [hM3]
   exact ⟨rfl, (Ex.refl w)⟩
  ·have hb2p := dec_f hb2
   refine sy rfl rfl hb2 (yl_move rfl rfl (sy rfl rfl hb2 (yl_geq rfl rfl rfl (sy rfl rfl hb2 (yl_move rfl rfl (bcase (decide (48 ≤ p_b)) (fun hb4 => ?_) (fun hb4 => ?_)))))))
   ·have hb4p := dec_t hb4
    refine sy rfl rfl hb4 (yl_move rfl rfl (sy rfl rfl hb4 (yl_leq rfl rfl rfl (sy rfl rfl hb2 (yl_pick_t rfl rfl hb4 rfl (sd rfl (yl_pick_f rfl rfl hb2 rfl (sd rfl (yl_assign rfl rfl (SeqR.done (tn (CW.ret (rr rfl (.cons rfl .nil) ?_)))))))))))))
    have hM5 : (i_isLowerOrDigit p_b) = (decide (p_b ≤ 57)) := by simp only [i_isLowerOrDigit, hb1, hb2, hb4, cond_true, cond_false, loopE_done, loopE_ret]
    rw [hM5]
    exact ⟨rfl, (Ex.refl w)⟩
   ·have hb4p := dec_f hb4
    refine sz rfl rfl hb4 (sz rfl rfl hb4 (sy rfl rfl hb2 (yl_pick_f rfl rfl hb4 rfl (sd rfl (yl_pick_f rfl rfl hb2 rfl (sd rfl (yl_assign rfl rfl (SeqR.done (tn (CW.ret (rr rfl (.cons rfl .nil) ?_)))))))))))
    have hM6 : (i_isLowerOrDigit p_b) = (false) := by simp only [i_isLowerOrDigit, hb1, hb2, hb4, cond_true, cond_false, loopE_done, loopE_ret]
    rw [hM6]
    exact ⟨rfl, (Ex.refl w)⟩
 ·have hb1p := dec_f hb1
  refine sz rfl rfl hb1 (sz rfl rfl hb1 (sd rfl (yl_pick_f rfl rfl hb1 rfl (sd rfl (yl_move rfl rfl (sy rfl rfl rfl (yl_move rfl rfl (sy rfl rfl rfl (yl_geq rfl rfl rfl (sy rfl rfl rfl (yl_move rfl rfl (bcase (decide (48 ≤ p_b)) (fun hb7 => ?_) (fun hb7 => ?_)))))))))))))
  ·have hb7p := dec_t hb7
   refine sy rfl rfl hb7 (yl_move rfl rfl (sy rfl rfl hb7 (yl_leq rfl rfl rfl (sy rfl rfl rfl (yl_pick_t rfl rfl hb7 rfl (sd rfl (yl_pick_f rfl rfl rfl rfl (sd rfl (yl_assign rfl rfl (SeqR.done (tn (CW.ret (rr rfl (.cons rfl .nil) ?_)))))))))))))
   have hM8 : (i_isLowerOrDigit p_b) = (decide (p_b ≤ 57)) := by simp only [i_isLowerOrDigit, hb1, hb7, cond_true, cond_false, loopE_done, loopE_ret]
   rw [hM8]
   exact ⟨rfl, (Ex.refl w)⟩
  ·have hb7p := dec_f hb7
   refine sz rfl rfl hb7 (sz rfl rfl hb7 (sy rfl rfl rfl (yl_pick_f rfl rfl hb7 rfl (sd rfl (yl_pick_f rfl rfl rfl rfl (sd rfl (yl_assign rfl rfl (SeqR.done (tn (CW.ret (rr rfl (.cons rfl .nil) ?_)))))))))))
   have hM9 : (i_isLowerOrDigit p_b) = (false) := by simp only [i_isLowerOrDigit, hb1, hb7, cond_true, cond_false, loopE_done, loopE_ret]
   rw [hM9]
   exact ⟨rfl, (Ex.refl w)⟩
set_option maxRecDepth 100000 in
set_option maxHeartbeats 2000000 in
theorem c_g_internal_stringslite_IndexByte {w : World} (p_s : Str) (p_c : Int) (o1 : okS p_s) : Cal Tryz.prog 167 #[.string (bs (p_s)), .int .u8 (p_c)] w fun v w' => v = .int .i64 ((g_internal_stringslite_IndexByte p_s p_c)) ∧ Ex w w' := by
 have hol2 : p_s.length ≤ 1073741824 := o1
 refine Cal.of (vs := [.string (bs (p_s)), .int .u8 (p_c)]) Tryz.func167 rfl Tryz.ntmps167 rfl (CW.seq (CW.region (sd rfl (yl_assign rfl rfl (SeqR.done (tn (CW.seq (CW.region (sd rfl (yl_move rfl rfl ?_))))))))))
 refine sd rfl (yl_move rfl rfl (sd rfl (yl_idxB (s := p_s) (c := p_c) Tryz.ex172 rfl (opvs_cons rfl (opvs_cons rfl opvs_nil)) (sd rfl (yl_assign rfl rfl (SeqR.done (tn (CW.ret (rr rfl (.cons rfl .nil) ?_)))))))))
 have hM3 : (g_internal_stringslite_IndexByte p_s p_c) = (idxB p_s p_c) := by simp only [g_internal_stringslite_IndexByte, cond_true, cond_false, loopE_done, loopE_ret]
 rw [hM3]
 exact ⟨rfl, (Ex.refl w)⟩
set_option maxRecDepth 100000 in
set_option maxHeartbeats 2000000 in
theorem c_g_strings_IndexByte {w : World} (p_s : Str) (p_c : Int) (o1 : okS p_s) : Cal Tryz.prog 160 #[.string (bs (p_s)), .int .u8 (p_c)] w fun v w' => v = .int .i64 ((g_strings_IndexByte p_s p_c)) ∧ Ex w w' := by
 have hol2 : p_s.length ≤ 1073741824 := o1
 refine Cal.of (vs := [.string (bs (p_s)), .int .u8 (p_c)]) Tryz.func160 rfl Tryz.ntmps160 rfl (CW.seq (CW.region (sd rfl (yl_assign rfl rfl (SeqR.done (tn (CW.seq (CW.region (sd rfl (yl_move rfl rfl ?_))))))))))
 refine sd rfl (yl_move rfl rfl (sd rfl (yl_call Tryz.en167 rfl (opvs_cons rfl (opvs_cons rfl opvs_nil)) (Cal.mono (c_g_internal_stringslite_IndexByte p_s p_c o1) ?_))))
 rintro v4 w3 ⟨rfl, hE5⟩
 have hE5z := Ex.size hE5
 refine sd rfl (yl_assign rfl rfl (SeqR.done (tn (CW.ret (rr rfl (.cons rfl .nil) ?_)))))
 have hM6 : (g_strings_IndexByte p_s p_c) = ((g_internal_stringslite_IndexByte p_s p_c)) := by simp only [g_strings_IndexByte, cond_true, cond_false, loopE_done, loopE_ret]
 rw [hM6]
 exact ⟨rfl, (Ex.trans (Ex.refl w) hE5)⟩
set_option maxRecDepth 100000 in
set_option maxHeartbeats 2000000 in
theorem c_i_hasBytes {w : World} (p_s : Str) (p_others : Str) (o1 : okS p_s) (o2 : okS p_others) : Cal Tryz.prog 143 #[.string (bs (p_s)), .string (bs (p_others))] w fun v w' => v = .bool ((i_hasBytes p_s p_others)) ∧ Ex w w' := by
 have hol3 : p_s.length ≤ 1073741824 := o1
 have hol4 : p_others.length ≤ 1073741824 := o2
 refine Cal.of (vs := [.string (bs (p_s)), .string (bs (p_others))]) Tryz.func143 rfl Tryz.ntmps143 rfl (CW.seq (CW.region (sd rfl (yl_assign rfl rfl (SeqR.done (tn (CW.seq (CW.seq (CW.region ?_)))))))))
 refine sd rfl (yl_move rfl rfl (sd rfl (yl_slen Tryz.un9 (a := p_s) rfl rfl (sd rfl (yl_move rfl rfl (SeqR.done (tn (CW.block (CW.loop (fun m6 L7 w8 => ∃ (k5 : Nat), m6 = p_s.length - k5 ∧ k5 ≤ p_s.length ∧ w.heap.size ≤ w8.heap.size ∧ lkp L7 0 = some (.string (bs (p_s))) ∧ lkp L7 1 = some (.string (bs (p_others))) ∧ lkp L7 7 = some (.int .i64 ((p_s.length : Int))) ∧ lkp L7 8 = some (.int .i64 ((k5 : Int))) ∧ Ex w w8 ∧ loopM (B_i_hasBytes_0 p_s p_others) (p_s.length - k5) k5 () = loopM (B_i_hasBytes_0 p_s p_others) (p_s.length - 0) 0 ()) (p_s.length - 0) ?_ ?_)))))))))
 ·exact ⟨0, rfl, (by omega), Nat.le_refl _, rfl, rfl, rfl, rfl, (Ex.refl w), rfl⟩
 ·rintro m9 L10 w11 ⟨k5, rfl, hk12, hsz14, hl15, hl16, hl17, hl18, hf19, hI13⟩
  refine CW.sub (Sub.cons hl15 (Sub.cons hl16 (Sub.cons hl17 (Sub.cons hl18 (Sub.nil _))))) ?_
  have hf19z := Ex.size hf19
  have hbg20 : p_s.length ≤ 1073741824 := o1
  rcases Nat.lt_or_ge k5 p_s.length with hlt21 | hlt21
  ·refine CW.seq (CW.region (sd rfl (yl_lss rfl rfl rfl (SeqR.done (tn (CW.seq (CW.cond_t rfl (lt_t hlt21) (CW.skip (tn ?_)))))))))
   refine CW.seq (CW.block (CW.seq (CW.region (sd rfl (yl_move rfl rfl (sd rfl (yl_assign rfl rfl (SeqR.done (tn (CW.seq ?_))))))))))
   refine CW.region (sd rfl (yl_move rfl rfl (sd rfl (yl_move rfl rfl (sd rfl (yl_sindexN Tryz.un9 (a := p_s) rfl rfl rfl (by first | omega | assumption | (simp only [IntKind.wrap_i64] at *; omega)) (sd rfl (yl_call Tryz.en159 rfl (opvs_cons rfl opvs_nil) (Cal.mono (c_i_isLowerOrDigit ((p_s.getD k5 0).toNat : Int)) ?_)))))))))
   rintro v23 w22 ⟨rfl, hE24⟩
   have hE24z := Ex.size hE24
   refine sd rfl (yl_not rfl rfl (sd rfl (yl_move rfl rfl (bcase (i_isLowerOrDigit ((p_s.getD k5 0).toNat : Int)) (fun hb25 => ?_) (fun hb25 => ?_)))))
   ·refine sz rfl rfl (not_t hb25) (sz rfl rfl (not_t hb25) (sz rfl rfl (not_t hb25) (sz rfl rfl (not_t hb25) (sz rfl rfl (not_t hb25) (sz rfl rfl (not_t hb25) (sd rfl (yl_pick_f rfl rfl (not_t hb25) rfl (SeqR.done (tn ?_)))))))))
    refine CW.cond_f rfl rfl (CW.skip (bn (tn (CW.region (sd rfl (yl_inc rfl rfl rfl (by omega) (sd rfl (yl_move rfl rfl (SeqR.done (tn ?_))))))))))
    have hB26 : B_i_hasBytes_0 p_s p_others k5 () = .cont () := by simp only [B_i_hasBytes_0, hb25, cond_true, cond_false, loopE_done, loopE_ret]
    exact ⟨p_s.length - (k5 + 1), by omega, k5 + 1, rfl, hlt21, (by omega), rfl, rfl, rfl, rfl, (Ex.trans hf19 hE24), (loopM.cont hlt21 hB26).symm.trans hI13⟩
   ·refine sy rfl rfl (not_f hb25) (yl_move rfl rfl (sy rfl rfl (not_f hb25) (yl_move rfl rfl (sy rfl rfl (not_f hb25) (yl_move rfl rfl (sy rfl rfl (not_f hb25) (yl_sindexN Tryz.un9 (a := p_s) rfl rfl rfl (by first | omega | assumption | (simp only [IntKind.wrap_i64] at *; omega)) (sy rfl rfl (not_f hb25) (yl_call Tryz.en160 rfl (opvs_cons rfl (opvs_cons rfl opvs_nil)) (Cal.mono (c_g_strings_IndexByte p_others ((p_s.getD k5 0).toNat : Int) o2) ?_))))))))))
    rintro v29 w28 ⟨rfl, hE30⟩
    have hE30z := Ex.size hE30
    refine sy rfl rfl (not_f hb25) (yl_lss rfl rfl rfl (sd rfl (yl_pick_t rfl rfl (not_f hb25) rfl (SeqR.done (tn (bcase (decide ((g_strings_IndexByte p_others ((p_s.getD k5 0).toNat : Int)) < 0)) (fun hb31 => ?_) (fun hb31 => ?_)))))))
    ·have hb31p := dec_t hb31
     refine CW.cond_t rfl hb31 (CW.seq (CW.region (sd rfl (yl_assign rfl rfl (SeqR.done (tn (CW.ret (br (tr ?_)))))))))
     refine tr ?_
     have hB33 : B_i_hasBytes_0 p_s p_others k5 () = .ret false := by simp only [B_i_hasBytes_0, hb25, hb31, cond_true, cond_false, loopE_done, loopE_ret]
     have hL32 : loopM (B_i_hasBytes_0 p_s p_others) (p_s.length - 0) 0 () = .ret false := hI13.symm.trans (loopM.ret hlt21 hB33)
     refine br (tr (rr rfl (.cons rfl .nil) ?_))
     have hM34 : (i_hasBytes p_s p_others) = (false) := by simp only [i_hasBytes, hb25, hb31, hL32, cond_true, cond_false, loopE_done, loopE_ret]
     rw [hM34]
     exact ⟨rfl, (Ex.trans (Ex.trans hf19 hE24) hE30)⟩
    ·have hb31p := dec_f hb31
     refine CW.cond_f rfl hb31 (CW.skip (bn (tn (CW.region (sd rfl (yl_inc rfl rfl rfl (by omega) (sd rfl (yl_move rfl rfl (SeqR.done (tn ?_))))))))))
     have hB37 : B_i_hasBytes_0 p_s p_others k5 () = .cont () := by simp only [B_i_hasBytes_0, hb25, hb31, cond_true, cond_false, loopE_done, loopE_ret]
     exact ⟨p_s.length - (k5 + 1), by omega, k5 + 1, rfl, hlt21, (by omega), rfl, rfl, rfl, rfl, (Ex.trans (Ex.trans hf19 hE24) hE30), (loopM.cont hlt21 hB37).symm.trans hI13⟩
  ·refine CW.seq (CW.region (sd rfl (yl_lss rfl rfl rfl (SeqR.done (tn (CW.seq (CW.cond_f rfl (lt_f hlt21) (CW.exit (tx ?_)))))))))
   refine tx ?_
   have hL40 : loopM (B_i_hasBytes_0 p_s p_others) (p_s.length - 0) 0 () = .done () := hI13.symm.trans (loopM.stop hlt21)
   refine bx (tn (CW.seq (CW.region (sd rfl (yl_assign rfl rfl (SeqR.done (tn (CW.ret (rr rfl (.cons rfl .nil) ?_)))))))))
   have hM41 : (i_hasBytes p_s p_others) = (true) := by simp only [i_hasBytes, hL40, cond_true, cond_false, loopE_done, loopE_ret]
   rw [hM41]
   exact ⟨rfl, hf19⟩
set_option maxRecDepth 100000 in
set_option maxHeartbeats 2000000 in
theorem c_i_GoodKey {w : World} (p_s : Str) (o1 : okS p_s) : Cal Tryz.prog 119 #[.string (bs (p_s))] w fun v w' => v = .bool ((i_GoodKey p_s)) ∧ Ex w w' := by
 have hol2 : p_s.length ≤ 1073741824 := o1
 refine Cal.of (vs := [.string (bs (p_s))]) Tryz.func119 rfl Tryz.ntmps119 rfl (CW.seq (CW.region (sd rfl (yl_assign rfl rfl (SeqR.done (tn (CW.seq (CW.region (sd rfl (yl_move rfl rfl ?_))))))))))
 refine sd rfl (yl_slen Tryz.un9 (a := p_s) rfl rfl (sd rfl (yl_call Tryz.en66 rfl (opvs_cons rfl (opvs_cons rfl (opvs_cons rfl opvs_nil))) (Cal.mono (c_i_within (p_s.length : Int) 1 12) ?_))))
 rintro v4 w3 ⟨rfl, hE5⟩
 have hE5z := Ex.size hE5
 refine sd rfl (yl_move rfl rfl (bcase (i_within (p_s.length : Int) 1 12) (fun hb6 => ?_) (fun hb6 => ?_)))
 ·have hb6p := f_within hb6
  refine sy rfl rfl hb6 (yl_move rfl rfl (sy rfl rfl hb6 (yl_call Tryz.en143 rfl (opvs_cons rfl (opvs_cons rfl opvs_nil)) (Cal.mono (c_i_hasBytes p_s ([46, 47] : Str) o1 (okS.lit rfl)) ?_))))
  rintro v8 w7 ⟨rfl, hE9⟩
  have hE9z := Ex.size hE9
  refine sd rfl (yl_pick_t rfl rfl hb6 rfl (sd rfl (yl_assign rfl rfl (SeqR.done (tn (CW.ret (rr rfl (.cons rfl .nil) ?_)))))))
  have hM10 : (i_GoodKey p_s) = ((i_hasBytes p_s ([46, 47] : Str))) := by simp only [i_GoodKey, hb6, cond_true, cond_false, loopE_done, loopE_ret]
  rw [hM10]
  exact ⟨rfl, (Ex.trans (Ex.trans (Ex.refl w) hE5) hE9)⟩
 ·refine sz rfl rfl hb6 (sz rfl rfl hb6 (sd rfl (yl_pick_f rfl rfl hb6 rfl (sd rfl (yl_assign rfl rfl (SeqR.done (tn (CW.ret (rr rfl (.cons rfl .nil) ?_)))))))))
  have hM13 : (i_GoodKey p_s) = (false) := by simp only [i_GoodKey, hb6, cond_true, cond_false, loopE_done, loopE_ret]
  rw [hM13]
  exact ⟨rfl, (Ex.trans (Ex.refl w) hE5)⟩
set_option maxRecDepth 100000 in
set_option maxHeartbeats 2000000 in
theorem c_i_areRising {A1 : Option Addr} {c1 : Nat} {w : World} (p_keys : List Str) (h1 : RdS w (Iv 0 w.heap.size) (RF e_Str) 1 A1 p_keys.length c1 p_keys) (o2 : (okL okS) p_keys) : Cal Tryz.prog 97 #[.slice A1 p_keys.length c1] w fun v w' => v = .bool ((i_areRising p_keys)) ∧ Ex w w' := by
 have hol3 := o2.1
 refine Cal.of (vs := [.slice A1 p_keys.length c1]) Tryz.func97 rfl Tryz.ntmps97 rfl (CW.seq (CW.region (sd rfl (yl_assign rfl rfl (SeqR.done (tn (CW.seq (CW.seq (CW.region ?_)))))))))
 refine sd rfl (yl_move rfl rfl (sd rfl (yl_len Tryz.un22 rfl rfl (sd rfl (yl_move rfl rfl (SeqR.done (tn (CW.block (CW.loop (fun m5 L6 w7 => ∃ (k4 : Nat), m5 = p_keys.length - k4 ∧ k4 ≤ p_keys.length ∧ w.heap.size ≤ w7.heap.size ∧ lkp L6 0 = some (.slice A1 p_keys.length c1) ∧ lkp L6 5 = some (.slice A1 p_keys.length c1) ∧ lkp L6 6 = some (.int .i64 ((p_keys.length : Int))) ∧ lkp L6 7 = some (.int .i64 ((k4 : Int))) ∧ RdS w7 (Iv 0 w.heap.size) (RF e_Str) 1 A1 p_keys.length c1 p_keys ∧ Ex w w7 ∧ loopM (B_i_areRising_0 p_keys) (p_keys.length - k4) k4 () = loopM (B_i_areRising_0 p_keys) (p_keys.length - 0) 0 ()) (p_keys.length - 0) ?_ ?_)))))))))
 ·exact ⟨0, rfl, (by omega), Nat.le_refl _, rfl, rfl, rfl, rfl, h1, (Ex.refl w), rfl⟩
 ·rintro m8 L9 w10 ⟨k4, rfl, hk11, hsz13, hl14, hl15, hl16, hl17, hf18, hf19, hI12⟩
  refine CW.sub (Sub.cons hl14 (Sub.cons hl15 (Sub.cons hl16 (Sub.cons hl17 (Sub.nil _))))) ?_
  have hf19z := Ex.size hf19
  have hbg20 := RdS.big hf18
  rcases Nat.lt_or_ge k4 p_keys.length with hlt21 | hlt21
  ·refine CW.seq (CW.region (sd rfl (yl_lss rfl rfl rfl (SeqR.done (tn (CW.seq (CW.cond_t rfl (lt_t hlt21) (CW.skip (tn ?_)))))))))
   refine CW.seq (CW.block (CW.seq (CW.region (sd rfl (yl_move rfl rfl ?_)))))
   obtain ⟨eb22, eo22, ec22, eA22, eS22, ebl22, el22, eR22, eC22⟩ := RdS.atD hf18 d_Str (i := k4) (by first | omega | assumption)
   obtain rfl := eR22
   have eC22 : Cells w10 eb22 (eo22 + k4 * 1) [.string (bs ((p_keys.getD k4 d_Str)))] := eC22
   refine sd rfl (yl_indexAddrN Tryz.un22 Tryz.ty9 rfl rfl rfl eA22 (by first | omega | assumption | (simp only [IntKind.wrap_i64] at *; omega)) (sd rfl (yl_load1 Tryz.ty9 rfl rfl (eC22 0 _ rfl) (sd rfl (yl_assign rfl rfl (sd rfl (yl_assign rfl rfl (SeqR.done (tn (CW.seq (CW.region (sd rfl (yl_move rfl rfl ?_)))))))))))))
   refine sd rfl (yl_call Tryz.en119 rfl (opvs_cons rfl opvs_nil) (Cal.mono (c_i_GoodKey (p_keys.getD k4 d_Str) (okL.getD o2 ok_d_Str _)) ?_))
   rintro v24 w23 ⟨rfl, hE25⟩
   have hE25z := Ex.size hE25
   refine sd rfl (yl_not rfl rfl (sd rfl (yl_move rfl rfl (bcase (i_GoodKey (p_keys.getD k4 d_Str)) (fun hb26 => ?_) (fun hb26 => ?_)))))
   ·refine sy rfl rfl (not_t hb26) (yl_move rfl rfl (sy rfl rfl (not_t hb26) (yl_gtr rfl rfl rfl (sy rfl rfl (not_t hb26) (yl_move rfl rfl (bcase (decide (0 < (k4 : Int))) (fun hb27 => ?_) (fun hb27 => ?_)))))))
    ·have hb27p := dec_t hb27
     refine sy rfl rfl hb27 (yl_move rfl rfl (sy rfl rfl hb27 (yl_move rfl rfl (sy rfl rfl hb27 (yl_move rfl rfl (sy rfl rfl hb27 (yl_sub rfl rfl rfl ?_)))))))
     have q28 := RdS.ex good_Str hf18 hE25
     obtain ⟨eb29, eo29, ec29, eA29, eS29, ebl29, el29, eR29, eC29⟩ := RdS.atD q28 d_Str (i := (IntKind.wrap .i64 ((k4 : Int) - 1)).toNat) (by first | omega | assumption | (simp only [IntKind.wrap_i64] at *; omega))
     obtain rfl := eR29
     have eC29 : Cells w23 eb29 (eo29 + ((IntKind.wrap .i64 ((k4 : Int) - 1)).toNat) * 1) [.string (bs ((p_keys.getD ((IntKind.wrap .i64 ((k4 : Int) - 1)).toNat) d_Str)))] := eC29
     refine sy rfl rfl hb27 (yl_indexAddr Tryz.un22 Tryz.ty9 rfl rfl rfl eA29 (by first | omega | assumption | (simp only [IntKind.wrap_i64] at *; omega)) (by first | omega | assumption | (simp only [IntKind.wrap_i64] at *; omega)) (sy rfl rfl hb27 (yl_load1 Tryz.ty9 rfl rfl (eC29 0 _ rfl) (sy rfl rfl hb27 (yl_sleq (a := (p_keys.getD k4 d_Str)) (b := (p_keys.getD ((IntKind.wrap .i64 ((k4 : Int) - 1)).toNat) d_Str)) rfl rfl rfl (sy rfl rfl (not_t hb26) (yl_pick_t rfl rfl hb27 rfl (sd rfl (yl_pick_f rfl rfl (not_t hb26) rfl (SeqR.done (tn (bcase (sLe (p_keys.getD k4 d_Str) (p_keys.getD ((IntKind.wrap .i64 ((k4 : Int) - 1)).toNat) d_Str)) (fun hb30 => ?_) (fun hb30 => ?_)))))))))))))
     ·refine CW.cond_t rfl hb30 (CW.seq (CW.region (sd rfl (yl_assign rfl rfl (SeqR.done (tn (CW.ret (br (tr ?_)))))))))
      refine tr ?_
      have hB32 : B_i_areRising_0 p_keys k4 () = .ret false := by simp only [B_i_areRising_0, hb26, hb27, hb30, cond_true, cond_false, loopE_done, loopE_ret]
      have hL31 : loopM (B_i_areRising_0 p_keys) (p_keys.length - 0) 0 () = .ret false := hI12.symm.trans (loopM.ret hlt21 hB32)
      refine br (tr (rr rfl (.cons rfl .nil) ?_))
      have hM33 : (i_areRising p_keys) = (false) := by simp only [i_areRising, hb26, hb27, hb30, hL31, cond_true, cond_false, loopE_done, loopE_ret]
      rw [hM33]
      exact ⟨rfl, (Ex.trans hf19 hE25)⟩
     ·refine CW.cond_f rfl hb30 (CW.skip (bn (tn (CW.region (sd rfl (yl_inc rfl rfl rfl (by omega) (sd rfl (yl_move rfl rfl (SeqR.done (tn ?_))))))))))
      have hB35 : B_i_areRising_0 p_keys k4 () = .cont () := by simp only [B_i_areRising_0, hb26, hb27, hb30, cond_true, cond_false, loopE_done, loopE_ret]
      exact ⟨p_keys.length - (k4 + 1), by omega, k4 + 1, rfl, hlt21, (by omega), rfl, rfl, rfl, rfl, q28, (Ex.trans hf19 hE25), (loopM.cont hlt21 hB35).symm.trans hI12⟩
    ·have hb27p := dec_f hb27
     refine sz rfl rfl hb27 (sz rfl rfl hb27 (sz rfl rfl hb27 (sz rfl rfl hb27 (sz rfl rfl hb27 (sz rfl rfl hb27 (sz rfl rfl hb27 (sy rfl rfl (not_t hb26) (yl_pick_f rfl rfl hb27 rfl (sd rfl (yl_pick_f rfl rfl (not_t hb26) rfl ?_))))))))))
     refine SeqR.done (tn (CW.cond_f rfl rfl (CW.skip (bn (tn (CW.region (sd rfl (yl_inc rfl rfl rfl (by omega) (sd rfl (yl_move rfl rfl ?_))))))))))
     refine SeqR.done (tn ?_)
     have hB37 : B_i_areRising_0 p_keys k4 () = .cont () := by simp only [B_i_areRising_0, hb26, hb27, cond_true, cond_false, loopE_done, loopE_ret]
     exact ⟨p_keys.length - (k4 + 1), by omega, k4 + 1, rfl, hlt21, (by omega), rfl, rfl, rfl, rfl, (RdS.ex good_Str hf18 hE25), (Ex.trans hf19 hE25), (loopM.cont hlt21 hB37).symm.trans hI12⟩
   ·refine sz rfl rfl (not_f hb26) (sz rfl rfl (not_f hb26) (sz rfl rfl (not_f hb26) (sq rfl rfl (sq rfl rfl (sq rfl rfl (sq rfl rfl (sq rfl rfl (sq rfl rfl ?_))))))))
    refine sq rfl rfl (sz rfl rfl (not_f hb26) (sd rfl (yl_pick_t rfl rfl (not_f hb26) rfl (SeqR.done (tn (CW.cond_t rfl rfl (CW.seq (CW.region (sd rfl (yl_assign rfl rfl ?_))))))))))
    refine SeqR.done (tn (CW.ret (br (tr (tr ?_)))))
    have hB41 : B_i_areRising_0 p_keys k4 () = .ret false := by simp only [B_i_areRising_0, hb26, cond_true, cond_false, loopE_done, loopE_ret]
    have hL40 : loopM (B_i_areRising_0 p_keys) (p_keys.length - 0) 0 () = .ret false := hI12.symm.trans (loopM.ret hlt21 hB41)
    refine br (tr (rr rfl (.cons rfl .nil) ?_))
    have hM42 : (i_areRising p_keys) = (false) := by simp only [i_areRising, hb26, hL40, cond_true, cond_false, loopE_done, loopE_ret]
    rw [hM42]
    exact ⟨rfl, (Ex.trans hf19 hE25)⟩
  ·refine CW.seq (CW.region (sd rfl (yl_lss rfl rfl rfl (SeqR.done (tn (CW.seq (CW.cond_f rfl (lt_f hlt21) (CW.exit (tx ?_)))))))))
   refine tx ?_
   have hL44 : loopM (B_i_areRising_0 p_keys) (p_keys.length - 0) 0 () = .done () := hI12.symm.trans (loopM.stop hlt21)
   refine bx (tn (CW.seq (CW.region (sd rfl (yl_assign rfl rfl (SeqR.done (tn (CW.ret (rr rfl (.cons rfl .nil) ?_)))))))))
   have hM45 : (i_areRising p_keys) = (true) := by simp only [i_areRising, hL44, cond_true, cond_false, loopE_done, loopE_ret]
   rw [hM45]
   exact ⟨rfl, hf19⟩
set_option maxRecDepth 100000 in
set_option maxHeartbeats 2000000 in
theorem c_i_writeKeys {A1 : Option Addr} {c1 : Nat} {w : World} (p_l : List DWrite) (h1 : RdS w (Iv 0 w.heap.size) (RF e_Write) 3 A1 p_l.length c1 p_l) (o2 : (okL ok_Write) p_l) : Cal Tryz.prog 98 #[.slice A1 p_l.length c1] w fun v w' => ∃ A_1 c_1 lo_1 hi_1, v = .slice A_1 ((i_writeKeys p_l).length) c_1 ∧ OwnL w' lo_1 hi_1 9 1 (RF e_Str) A_1 ((i_writeKeys p_l).length) c_1 (i_writeKeys p_l) ∧ (okL okS) (i_writeKeys p_l) ∧ (w.heap.size ≤ lo_1 ∧ lo_1 ≤ hi_1 ∧ hi_1 ≤ w'.heap.size) ∧ Ex w w' := by
 have hol3 := o2.1
 refine Cal.of (vs := [.slice A1 p_l.length c1]) Tryz.func98 rfl Tryz.ntmps98 rfl (CW.seq (CW.region (sd rfl (yl_assign rfl rfl (SeqR.done (tn (CW.seq (CW.region (sd rfl (yl_buildSlice (cs := []) Tryz.un22 Tryz.ty9 (by decide) rfl opvs_nil (by kernel_rfl) ?_))))))))))
 intro b4 w5 hs6 hz7 hB8 hE9
 have hO10 : OwnL w5 b4 (b4 + 1) 9 1 (RF e_Str) (some ⟨b4, 0, none⟩) 0 0 ([] : List Str) := OwnL.of_box (S := fun _ => False) hB8 (Nat.le_refl _) (Nat.lt_succ_self _) EncL.nil (Nat.le_of_ble_eq_true rfl) (fun h => h) (fun _ h => False.elim h)
 refine sd rfl (yl_assign rfl rfl (SeqR.done (tn (CW.seq (CW.seq (CW.region (sd rfl (yl_move rfl rfl (sd rfl (yl_len Tryz.un36 rfl rfl (sd rfl (yl_move rfl rfl ?_))))))))))))
 refine SeqR.done (tn (CW.block (CW.loop (fun m65 L66 w67 => ∃ (k11 : Nat) (x61 : List Str) (A62 : Option Addr) (c63 : Nat) (u64 : Nat), m65 = p_l.length - k11 ∧ k11 ≤ p_l.length ∧ w5.heap.size ≤ w67.heap.size ∧ lkp L66 3 = some (.slice A62 x61.length c63) ∧ lkp L66 7 = some (.slice A1 p_l.length c1) ∧ lkp L66 8 = some (.int .i64 ((p_l.length : Int))) ∧ lkp L66 9 = some (.int .i64 ((k11 : Int))) ∧ OwnL w67 b4 u64 9 1 (RF e_Str) A62 x61.length c63 x61 ∧ RdS w67 (Iv 0 w.heap.size) (RF e_Write) 3 A1 p_l.length c1 p_l ∧ Ex w w67 ∧ (b4 ≤ u64 ∧ u64 ≤ w67.heap.size) ∧ x61.length ≤ 0 + 1 * (k11 - 0) ∧ (∀ y ∈ x61, okS y) ∧ loopM (B_i_writeKeys_0 p_l) (p_l.length - k11) k11 (x61) = loopM (B_i_writeKeys_0 p_l) (p_l.length - 0) 0 (([] : List Str))) (p_l.length - 0) ?_ ?_)))
 ·exact ⟨0, ([] : List Str), (some ⟨b4, 0, none⟩), 0, (b4 + 1), rfl, (by omega), Nat.le_refl _, rfl, rfl, rfl, rfl, hO10, (RdS.ex good_Write h1 hE9), (Ex.trans (Ex.refl w) hE9), (by omega), (by first | (simp; done) | (first | omega | (simp only [List.length_append, List.length_cons, List.length_nil, List.length_set, toS_length]; omega))), okE.nil, rfl⟩
 ·rintro m70 L71 w72 ⟨k11, x61, A62, c63, u64, rfl, hk73, hsz75, hl76, hl77, hl78, hl79, hf80, hf81, hf82, hu83, hln84, hok85, hI74⟩
  refine CW.sub (Sub.cons hl76 (Sub.cons hl77 (Sub.cons hl78 (Sub.cons hl79 (Sub.nil _))))) ?_
  have hf82z := Ex.size hf82
  have hbg86 := RdS.big hf81
  rcases Nat.lt_or_ge k11 p_l.length with hlt87 | hlt87
  ·refine CW.seq (CW.region (sd rfl (yl_lss rfl rfl rfl (SeqR.done (tn (CW.seq (CW.cond_t rfl (lt_t hlt87) (CW.skip (tn ?_)))))))))
   refine CW.seq (CW.block (CW.seq (CW.region ?_)))
   obtain ⟨eb88, eo88, ec88, eA88, eS88, ebl88, el88, eR88, eC88⟩ := RdS.atD hf81 d_Write (i := k11) (by first | omega | assumption)
   obtain rfl := eR88
   have eC88 : Cells w72 eb88 (eo88 + k11 * 3) [.string (bs ((p_l.getD k11 d_Write).Key)), .string (bs ((p_l.getD k11 d_Write).Val)), .bool ((p_l.getD k11 d_Write).Gone)] := eC88
   refine sd rfl (yl_indexAddrN Tryz.un36 Tryz.ty75 rfl rfl rfl eA88 (by first | omega | assumption | (simp only [IntKind.wrap_i64] at *; omega)) (sd rfl (yl_loadN (cs := [.string (bs ((p_l.getD k11 d_Write).Key)), .string (bs ((p_l.getD k11 d_Write).Val)), .bool ((p_l.getD k11 d_Write).Gone)]) Tryz.ty75 rfl rfl eC88 rfl (sd rfl (yl_alloc Tryz.ty75 (cs := [.string (bs (([] : Str))), .string (bs (([] : Str))), .bool (false)]) rfl rfl ?_)))))
   intro b89 w90 hs91 hz92 hB93 hE94
   refine SeqR.u rfl rfl (yl_store (vs := [.string (bs ((p_l.getD k11 d_Write).Key)), .string (bs ((p_l.getD k11 d_Write).Val)), .bool ((p_l.getD k11 d_Write).Gone)]) Tryz.ty75 rfl rfl rfl rfl rfl rfl hB93 (Nat.le_of_ble_eq_true rfl) ?_)
   intro w95 hB96 hO97
   have hB96 : Box w95 b89 75 [.string (bs ((p_l.getD k11 d_Write).Key)), .string (bs ((p_l.getD k11 d_Write).Val)), .bool ((p_l.getD k11 d_Write).Gone)] := hB96
   have hO97z := hO97.size
   refine SeqR.done (tn (CW.region (sd rfl (yl_move rfl rfl (sd rfl (yl_fieldAddr Tryz.fd75_0 rfl rfl (sd rfl (yl_load1 Tryz.ty9 rfl rfl ((hB96.cell 0).trans rfl) (sd rfl (yl_buildSlice (cs := [.string (bs ((p_l.getD k11 d_Write).Key))]) Tryz.un22 Tryz.ty9 (by decide) rfl (opvs_cons rfl opvs_nil) (by kernel_rfl) ?_))))))))))
   intro b98 w99 hs100 hz101 hB102 hE103
   have hO104 : OwnL w99 b98 (b98 + 1) 9 1 (RF e_Str) (some ⟨b98, 0, none⟩) 1 1 ([(p_l.getD k11 d_Write).Key] : List Str) := OwnL.of_box (S := fun _ => False) hB102 (Nat.le_refl _) (Nat.lt_succ_self _) (EncL.cons (c := [.string (bs ((p_l.getD k11 d_Write).Key))]) rfl rfl EncL.nil) (Nat.le_of_ble_eq_true rfl) (fun h => h) (fun _ h => False.elim h)
   refine sd rfl (yl_appendL (S := (fun _ => False)) (lo := b4) (hi := u64) (xs := x61) (ys := ([(p_l.getD k11 d_Write).Key] : List Str)) good_Str Tryz.un22 Tryz.ty9 rfl (Nat.le_of_ble_eq_true rfl) rfl rfl rfl (OwnL.ex good_Str (OwnL.only good_Str (OwnL.ex good_Str hf80 hE94) hO97 (by omega)) hE103) (EncL.cons (c := [.string (bs ((p_l.getD k11 d_Write).Key))]) rfl rfl EncL.nil) (Or.inr ⟨_, _, rfl, rfl, hB102.cells (o := 0) (n := 1) rfl⟩) rfl (by first | omega | (simp only [List.length_append, List.length_cons, List.length_nil, List.length_take, List.length_drop, List.length_replicate, List.length_set, toS_length]; omega)) (by first | omega | (simp only [List.length_append, List.length_cons, List.length_nil, List.length_take, List.length_drop, List.length_replicate, List.length_set, toS_length]; omega)) (by omega) (by omega) (fun _ h _ => False.elim h) (by omega) ?_)
   intro A108 c109 w110 row111 hO112 hG113 hrg114
   have hG113z := hG113.size
   refine sd rfl (yl_assign rfl rfl (SeqR.done (bn (tn (CW.region (sd rfl (yl_inc rfl rfl rfl (by omega) (sd rfl (yl_move rfl rfl (SeqR.done (tn ?_)))))))))))
   have hB115 : B_i_writeKeys_0 p_l k11 (x61) = .cont ((x61 ++ ([(p_l.getD k11 d_Write).Key] : List Str))) := by simp only [B_i_writeKeys_0, cond_true, cond_false, loopE_done, loopE_ret]
   exact ⟨p_l.length - (k11 + 1), by omega, k11 + 1, (x61 ++ ([(p_l.getD k11 d_Write).Key] : List Str)), A108, c109, w110.heap.size, rfl, hlt87, (by omega), rfl, rfl, rfl, rfl, hO112, (RdS.grown good_Write (RdS.ex good_Write (RdS.only good_Write (RdS.ex good_Write hf81 hE94) hO97 (by simp only [Iv]; omega)) hE103) hG113 (fun k hk => by have := hrg114 k hk; simp only [Iv]; omega)), (Below.grown (Ex.trans (Below.only (Ex.trans hf82 hE94) hO97 (by omega)) hE103) hG113 (by omega) (fun k hk => by have := hrg114 k hk; omega)), (by omega), (by first | omega | (simp only [List.length_append, List.length_cons, List.length_nil, List.length_set, toS_length]; omega)), (okE.append hok85 ((okL.mk (Nat.le_of_ble_eq_true rfl) (okE.cons (okL.getD o2 ok_d_Write _).1 okE.nil))).2), (loopM.cont hlt87 hB115).symm.trans hI74⟩
  ·refine CW.seq (CW.region (sd rfl (yl_lss rfl rfl rfl (SeqR.done (tn (CW.seq (CW.cond_f rfl (lt_f hlt87) (CW.exit (tx ?_)))))))))
   refine tx ?_
   have hL124 : loopM (B_i_writeKeys_0 p_l) (p_l.length - 0) 0 (([] : List Str)) = .done (x61) := hI74.symm.trans (loopM.stop hlt87)
   refine bx (tn (CW.seq (CW.region (sd rfl (yl_move rfl rfl (sd rfl (yl_assign rfl rfl (SeqR.done (tn (CW.ret ?_))))))))))
   refine rr rfl (.cons rfl .nil) ?_
   have hM125 : (i_writeKeys p_l) = (x61) := by simp only [i_writeKeys, hL124, cond_true, cond_false, loopE_done, loopE_ret]
   rw [hM125]
   exact ⟨A62, c63, b4, u64, rfl, hf80, (okL.mk (xs := x61) (by first | omega | (simp only [List.length_append, List.length_cons, List.length_nil, List.length_take, List.length_drop, List.length_replicate, List.length_set, toS_length]; omega)) hok85), (by omega), hf82⟩
set_option maxRecDepth 100000 in
set_option maxHeartbeats 2000000 in
theorem c_i_GoodVal {w : World} (p_s : Str) (o1 : okS p_s) : Cal Tryz.prog 128 #[.string (bs (p_s))] w fun v w' => v = .bool ((i_GoodVal p_s)) ∧ Ex w w' := by
 have hol2 : p_s.length ≤ 1073741824 := o1
 refine Cal.of (vs := [.string (bs (p_s))]) Tryz.func128 rfl Tryz.ntmps128 rfl (CW.seq (CW.region (sd rfl (yl_assign rfl rfl (SeqR.done (tn (CW.seq (CW.region (sd rfl (yl_move rfl rfl ?_))))))))))
 refine sd rfl (yl_slen Tryz.un9 (a := p_s) rfl rfl (sd rfl (yl_leq rfl rfl rfl (sd rfl (yl_move rfl rfl (bcase (decide ((p_s.length : Int) ≤ 24)) (fun hb3 => ?_) (fun hb3 => ?_)))))))
 ·have hb3p := dec_t hb3
  refine sy rfl rfl hb3 (yl_move rfl rfl (sy rfl rfl hb3 (yl_call Tryz.en143 rfl (opvs_cons rfl (opvs_cons rfl opvs_nil)) (Cal.mono (c_i_hasBytes p_s ([46, 45, 44, 95] : Str) o1 (okS.lit rfl)) ?_))))
  rintro v5 w4 ⟨rfl, hE6⟩
  have hE6z := Ex.size hE6
  refine sd rfl (yl_pick_t rfl rfl hb3 rfl (sd rfl (yl_assign rfl rfl (SeqR.done (tn (CW.ret (rr rfl (.cons rfl .nil) ?_)))))))
  have hM7 : (i_GoodVal p_s) = ((i_hasBytes p_s ([46, 45, 44, 95] : Str))) := by simp only [i_GoodVal, hb3, cond_true, cond_false, loopE_done, loopE_ret]
  rw [hM7]
  exact ⟨rfl, (Ex.trans (Ex.refl w) hE6)⟩
 ·have hb3p := dec_f hb3
  refine sz rfl rfl hb3 (sz rfl rfl hb3 (sd rfl (yl_pick_f rfl rfl hb3 rfl (sd rfl (yl_assign rfl rfl (SeqR.done (tn (CW.ret (rr rfl (.cons rfl .nil) ?_)))))))))
  have hM9 : (i_GoodVal p_s) = (false) := by simp only [i_GoodVal, hb3, cond_true, cond_false, loopE_done, loopE_ret]
  rw [hM9]
  exact ⟨rfl, (Ex.refl w)⟩
set_option maxRecDepth 100000 in
set_option maxHeartbeats 2000000 in
theorem c_i_isStored {w : World} (p_val : Str) (p_gone : Bool) (o1 : okS p_val) : Cal Tryz.prog 100 #[.string (bs (p_val)), .bool (p_gone)] w fun v w' => v = .bool ((i_isStored p_val p_gone)) ∧ Ex w w' := by
 have hol2 : p_val.length ≤ 1073741824 := o1
 refine Cal.of (vs := [.string (bs (p_val)), .bool (p_gone)]) Tryz.func100 rfl Tryz.ntmps100 rfl (CW.seq (CW.region (sd rfl (yl_assign rfl rfl (SeqR.done (tn (CW.seq (CW.region (sd rfl (yl_move rfl rfl ?_))))))))))
 refine sd rfl (yl_call Tryz.en128 rfl (opvs_cons rfl opvs_nil) (Cal.mono (c_i_GoodVal p_val o1) ?_))
 rintro v4 w3 ⟨rfl, hE5⟩
 have hE5z := Ex.size hE5
 refine sd rfl (yl_move rfl rfl (bcase (i_GoodVal p_val) (fun hb6 => ?_) (fun hb6 => ?_)))
 ·refine sy rfl rfl hb6 (yl_move rfl rfl (sy rfl rfl hb6 (yl_move rfl rfl (bcase (p_gone) (fun hb7 => ?_) (fun hb7 => ?_)))))
  ·refine sy rfl rfl hb7 (yl_move rfl rfl (sy rfl rfl hb7 (yl_sneq (a := p_val) (b := ([] : Str)) rfl rfl rfl (sy rfl rfl hb6 (yl_pick_t rfl rfl hb7 rfl (sy rfl rfl hb6 (yl_not rfl rfl (sd rfl (yl_pick_t rfl rfl hb6 rfl (sd rfl (yl_assign rfl rfl (SeqR.done (tn (CW.ret ?_))))))))))))))
   refine rr rfl (.cons rfl .nil) ?_
   have hM8 : (i_isStored p_val p_gone) = (!(!(p_val == ([] : Str)))) := by simp only [i_isStored, hb6, hb7, cond_true, cond_false, loopE_done, loopE_ret]
   rw [hM8]
   exact ⟨rfl, (Ex.trans (Ex.refl w) hE5)⟩
  ·refine sz rfl rfl hb7 (sz rfl rfl hb7 (sy rfl rfl hb6 (yl_pick_f rfl rfl hb7 rfl (sy rfl rfl hb6 (yl_not rfl rfl (sd rfl (yl_pick_t rfl rfl hb6 rfl (sd rfl (yl_assign rfl rfl (SeqR.done (tn (CW.ret ?_))))))))))))
   refine rr rfl (.cons rfl .nil) ?_
   have hM10 : (i_isStored p_val p_gone) = (!false) := by simp only [i_isStored, hb6, hb7, cond_true, cond_false, loopE_done, loopE_ret]
   rw [hM10]
   exact ⟨rfl, (Ex.trans (Ex.refl w) hE5)⟩
 ·refine sz rfl rfl hb6 (sz rfl rfl hb6 (sq rfl rfl (sq rfl rfl (sz rfl rfl hb6 (sz rfl rfl hb6 (sd rfl (yl_pick_f rfl rfl hb6 rfl (sd rfl (yl_assign rfl rfl (SeqR.done ?_))))))))))
  refine tn (CW.ret (rr rfl (.cons rfl .nil) ?_))
  have hM12 : (i_isStored p_val p_gone) = (false) := by simp only [i_isStored, hb6, cond_true, cond_false, loopE_done, loopE_ret]
  rw [hM12]
  exact ⟨rfl, (Ex.trans (Ex.refl w) hE5)⟩
set_option maxRecDepth 100000 in
set_option maxHeartbeats 2000000 in
theorem c_i_GoodWrites_c1 {w : World} (p_w : DWrite) (o1 : ok_Write p_w) : Cal Tryz.prog 99 #[.agg #[.string (bs (p_w.Key)), .string (bs (p_w.Val)), .bool (p_w.Gone)]] w fun v w' => v = .bool ((i_GoodWrites_c1 p_w)) ∧ Ex w w' := by
 have hol2 : p_w.Key.length ≤ 1073741824 := o1.1
 have hol3 : p_w.Val.length ≤ 1073741824 := o1.2
 refine Cal.of (vs := [.agg #[.string (bs (p_w.Key)), .string (bs (p_w.Val)), .bool (p_w.Gone)]]) Tryz.func99 rfl Tryz.ntmps99 rfl (CW.seq (CW.region (sd rfl (yl_box (cs := [.string (bs (p_w.Key)), .string (bs (p_w.Val)), .bool (p_w.Gone)]) rfl rfl rfl ?_))))
 intro b4 w5 hs6 hz7 hB8 hE9
 refine sd rfl (yl_assign rfl rfl (SeqR.done (tn (CW.seq (CW.region (sd rfl (yl_fieldAddr Tryz.fd75_1 rfl rfl (sd rfl (yl_load1 Tryz.ty9 rfl rfl ((hB8.cell 1).trans rfl) (sd rfl (yl_fieldAddr Tryz.fd75_2 rfl rfl (sd rfl (yl_load1 Tryz.ty4 rfl rfl ((hB8.cell 2).trans rfl) ?_)))))))))))))
 refine sd rfl (yl_call Tryz.en100 rfl (opvs_cons rfl (opvs_cons rfl opvs_nil)) (Cal.mono (c_i_isStored p_w.Val p_w.Gone o1.2) ?_))
 rintro v11 w10 ⟨rfl, hE12⟩
 have hE12z := Ex.size hE12
 refine sd rfl (yl_not rfl rfl (sd rfl (yl_assign rfl rfl (SeqR.done (tn (CW.ret (rr rfl (.cons rfl .nil) ?_)))))))
 have hM13 : (i_GoodWrites_c1 p_w) = (!(i_isStored p_w.Val p_w.Gone)) := by simp only [i_GoodWrites_c1, cond_true, cond_false, loopE_done, loopE_ret]
 rw [hM13]
 exact ⟨rfl, (Ex.trans (Ex.trans (Ex.refl w) hE9) hE12)⟩
set_option maxRecDepth 100000 in
set_option maxHeartbeats 2000000 in
theorem c_i_GoodWrites {A1 : Option Addr} {c1 : Nat} {w : World} (p_l : List DWrite) (h1 : RdS w (Iv 0 w.heap.size) (RF e_Write) 3 A1 p_l.length c1 p_l) (o2 : (okL ok_Write) p_l) : Cal Tryz.prog 68 #[.slice A1 p_l.length c1] w fun v w' => v = .bool ((i_GoodWrites p_l)) ∧ Ex w w' := by
 have hol3 := o2.1
 refine Cal.of (vs := [.slice A1 p_l.length c1]) Tryz.func68 rfl Tryz.ntmps68 rfl (CW.seq (CW.region (sd rfl (yl_assign rfl rfl (SeqR.done (tn (CW.seq (CW.region (sd rfl (yl_move rfl rfl ?_))))))))))
 refine sd rfl (yl_len Tryz.un36 rfl rfl (sd rfl (yl_leq rfl rfl rfl (sd rfl (yl_move rfl rfl (bcase (decide ((p_l.length : Int) ≤ 24)) (fun hb4 => ?_) (fun hb4 => ?_)))))))
 ·have hb4p := dec_t hb4
  refine sy rfl rfl hb4 (yl_move rfl rfl (sy rfl rfl hb4 (yl_call Tryz.en98 rfl (opvs_cons rfl opvs_nil) (Cal.mono (c_i_writeKeys p_l (RdS.up h1 good_Write) o2) ?_))))
  rintro v8 w5 ⟨A6, c6, lo6, hi6, rfl, h6, ho7, hrn10, hE9⟩
  have hE9z := Ex.size hE9
  refine sy rfl rfl hb4 (yl_call Tryz.en97 rfl (opvs_cons rfl opvs_nil) (Cal.mono (c_i_areRising (i_writeKeys p_l) (RdS.up (OwnL.rd good_Str h6) good_Str) ho7) ?_))
  rintro v13 w12 ⟨rfl, hE14⟩
  have hE14z := Ex.size hE14
  refine sd rfl (yl_pick_t rfl rfl hb4 rfl (sd rfl (yl_move rfl rfl (bcase (i_areRising (i_writeKeys p_l)) (fun hb15 => ?_) (fun hb15 => ?_)))))
  ·refine sy rfl rfl hb15 (yl_move rfl rfl (sy rfl rfl hb15 (yl_call Tryz.en69 rfl (opvs_cons rfl (opvs_cons rfl opvs_nil)) (Cal.mono (c_g_slices_ContainsFunc_Write p_l (fun y0 => i_GoodWrites_c1 y0) (RdS.up (RdS.ex good_Write (RdS.ex good_Write h1 hE9) hE14) good_Write) Tryz.en99 (fun _ y0 => fun hE hm0 ov0 => c_i_GoodWrites_c1 y0 ov0) o2) ?_))))
   rintro v19 w18 ⟨rfl, hE20⟩
   have hE20z := Ex.size hE20
   refine sy rfl rfl hb15 (yl_not rfl rfl (sd rfl (yl_pick_t rfl rfl hb15 rfl (sd rfl (yl_assign rfl rfl (SeqR.done (tn (CW.ret (rr rfl (.cons rfl .nil) ?_)))))))))
   have hM21 : (i_GoodWrites p_l) = (!(g_slices_ContainsFunc_Write p_l (fun y0 => i_GoodWrites_c1 y0))) := by simp only [i_GoodWrites, hb4, hb15, cond_true, cond_false, loopE_done, loopE_ret]
   rw [hM21]
   exact ⟨rfl, (Ex.trans (Ex.trans (Ex.trans (Ex.refl w) hE9) hE14) hE20)⟩
  ·refine sz rfl rfl hb15 (sz rfl rfl hb15 (sz rfl rfl hb15 (sd rfl (yl_pick_f rfl rfl hb15 rfl (sd rfl (yl_assign rfl rfl (SeqR.done (tn (CW.ret (rr rfl (.cons rfl .nil) ?_))))))))))
   have hM25 : (i_GoodWrites p_l) = (false) := by simp only [i_GoodWrites, hb4, hb15, cond_true, cond_false, loopE_done, loopE_ret]
   rw [hM25]
   exact ⟨rfl, (Ex.trans (Ex.trans (Ex.refl w) hE9) hE14)⟩
 ·have hb4p := dec_f hb4
  refine sz rfl rfl hb4 (sz rfl rfl hb4 (sz rfl rfl hb4 (sd rfl (yl_pick_f rfl rfl hb4 rfl (sd rfl (yl_move rfl rfl (sz rfl rfl rfl (sz rfl rfl rfl (sz rfl rfl rfl (sd rfl (yl_pick_f rfl rfl rfl rfl ?_)))))))))))
  refine sd rfl (yl_assign rfl rfl (SeqR.done (tn (CW.ret (rr rfl (.cons rfl .nil) ?_)))))
  have hM28 : (i_GoodWrites p_l) = (false) := by simp only [i_GoodWrites, hb4, cond_true, cond_false, loopE_done, loopE_ret]
  rw [hM28]
  exact ⟨rfl, (Ex.refl w)⟩
set_option maxRecDepth 100000 in
set_option maxHeartbeats 2000000 in
theorem c_i_isRows_c1 {w : World} (p_w : DWrite) (o1 : ok_Write p_w) : Cal Tryz.prog 70 #[.agg #[.string (bs (p_w.Key)), .string (bs (p_w.Val)), .bool (p_w.Gone)]] w fun v w' => v = .bool ((i_isRows_c1 p_w)) ∧ Ex w w' := by
 have hol2 : p_w.Key.length ≤ 1073741824 := o1.1
 have hol3 : p_w.Val.length ≤ 1073741824 := o1.2
 refine Cal.of (vs := [.agg #[.string (bs (p_w.Key)), .string (bs (p_w.Val)), .bool (p_w.Gone)]]) Tryz.func70 rfl Tryz.ntmps70 rfl (CW.seq (CW.region (sd rfl (yl_box (cs := [.string (bs (p_w.Key)), .string (bs (p_w.Val)), .bool (p_w.Gone)]) rfl rfl rfl ?_))))
 intro b4 w5 hs6 hz7 hB8 hE9
 refine sd rfl (yl_assign rfl rfl (SeqR.done (tn (CW.seq (CW.region (sd rfl (yl_fieldAddr Tryz.fd75_2 rfl rfl (sd rfl (yl_load1 Tryz.ty4 rfl rfl ((hB8.cell 2).trans rfl) (sd rfl (yl_assign rfl rfl (SeqR.done ?_))))))))))))
 refine tn (CW.ret (rr rfl (.cons rfl .nil) ?_))
 have hM10 : (i_isRows_c1 p_w) = (p_w.Gone) := by simp only [i_isRows_c1, cond_true, cond_false, loopE_done, loopE_ret]
 rw [hM10]
 exact ⟨rfl, (Ex.trans (Ex.refl w) hE9)⟩
set_option maxRecDepth 100000 in
set_option maxHeartbeats 2000000 in
theorem c_i_isRows {A1 : Option Addr} {c1 : Nat} {w : World} (p_rows : List DWrite) (h1 : RdS w (Iv 0 w.heap.size) (RF e_Write) 3 A1 p_rows.length c1 p_rows) (o2 : (okL ok_Write) p_rows) : Cal Tryz.prog 33 #[.slice A1 p_rows.length c1] w fun v w' => v = .bool ((i_isRows p_rows)) ∧ Ex w w' := by
 have hol3 := o2.1
 refine Cal.of (vs := [.slice A1 p_rows.length c1]) Tryz.func33 rfl Tryz.ntmps33 rfl (CW.seq (CW.region (sd rfl (yl_assign rfl rfl (SeqR.done (tn (CW.seq (CW.region (sd rfl (yl_move rfl rfl ?_))))))))))
 refine sd rfl (yl_call Tryz.en68 rfl (opvs_cons rfl opvs_nil) (Cal.mono (c_i_GoodWrites p_rows (RdS.up h1 good_Write) o2) ?_))
 rintro v5 w4 ⟨rfl, hE6⟩
 have hE6z := Ex.size hE6
 refine sd rfl (yl_move rfl rfl (bcase (i_GoodWrites p_rows) (fun hb7 => ?_) (fun hb7 => ?_)))
 ·refine sy rfl rfl hb7 (yl_move rfl rfl (sy rfl rfl hb7 (yl_call Tryz.en69 rfl (opvs_cons rfl (opvs_cons rfl opvs_nil)) (Cal.mono (c_g_slices_ContainsFunc_Write p_rows (fun y0 => i_isRows_c1 y0) (RdS.up (RdS.ex good_Write h1 hE6) good_Write) Tryz.en70 (fun _ y0 => fun hE hm0 ov0 => c_i_isRows_c1 y0 ov0) o2) ?_))))
  rintro v10 w9 ⟨rfl, hE11⟩
  have hE11z := Ex.size hE11
  refine sy rfl rfl hb7 (yl_not rfl rfl (sd rfl (yl_pick_t rfl rfl hb7 rfl (sd rfl (yl_assign rfl rfl (SeqR.done (tn (CW.ret (rr rfl (.cons rfl .nil) ?_)))))))))
  have hM12 : (i_isRows p_rows) = (!(g_slices_ContainsFunc_Write p_rows (fun y0 => i_isRows_c1 y0))) := by simp only [i_isRows, hb7, cond_true, cond_false, loopE_done, loopE_ret]
  rw [hM12]
  exact ⟨rfl, (Ex.trans (Ex.trans (Ex.refl w) hE6) hE11)⟩
 ·refine sz rfl rfl hb7 (sz rfl rfl hb7 (sz rfl rfl hb7 (sd rfl (yl_pick_f rfl rfl hb7 rfl (sd rfl (yl_assign rfl rfl (SeqR.done (tn (CW.ret (rr rfl (.cons rfl .nil) ?_))))))))))
  have hM15 : (i_isRows p_rows) = (false) := by simp only [i_isRows, hb7, cond_true, cond_false, loopE_done, loopE_ret]
  rw [hM15]
  exact ⟨rfl, (Ex.trans (Ex.refl w) hE6)⟩
set_option maxRecDepth 100000 in
set_option maxHeartbeats 2000000 in
theorem c_i_Table_rowWrite {A1 : Option Addr} {c1 : Nat} {A2 : Option Addr} {c2 : Nat} {A4 : Option Addr} {c4 : Nat} {w : World} (p_t : DTable) (p_r : DRow) (h1 : RdS w (Iv 0 w.heap.size) (RF e_Str) 1 A1 p_t.Cols.length c1 p_t.Cols) (h2 : RdS w (Iv 0 w.heap.size) (RF e_Idx) 3 A2 p_t.Idxs.length c2 p_t.Idxs) (h4 : RdS w (Iv 0 w.heap.size) (RF e_Str) 1 A4 p_r.Vals.length c4 p_r.Vals) (o3 : ok_Table p_t) (o5 : ok_Row p_r) (pre0 : 0 < p_r.Vals.length) (pre1 : p_r.Vals.length ≤ 4) (pre2 : rowShort p_r) : Cal Tryz.prog 53 #[.agg #[.string (bs (p_t.Name)), .slice A1 p_t.Cols.length c1, .slice A2 p_t.Idxs.length c2], .agg #[.slice A4 p_r.Vals.length c4]] w fun v w' => v = .agg #[.string (bs ((i_Table_rowWrite p_t p_r).Key)), .string (bs ((i_Table_rowWrite p_t p_r).Val)), .bool ((i_Table_rowWrite p_t p_r).Gone)] ∧ Ex w w' := by
 have hol6 : p_t.Name.length ≤ 1073741824 := o3.1
 have hol7 := o3.2.1.1
 have hol8 := o3.2.2.1
 have hol9 := o5.1
 refine Cal.of (vs := [.agg #[.string (bs (p_t.Name)), .slice A1 p_t.Cols.length c1, .slice A2 p_t.Idxs.length c2], .agg #[.slice A4 p_r.Vals.length c4]]) Tryz.func53 rfl Tryz.ntmps53 rfl (CW.seq (CW.region (sd rfl (yl_box (cs := [.string (bs (p_t.Name)), .slice A1 p_t.Cols.length c1, .slice A2 p_t.Idxs.length c2]) rfl rfl rfl ?_))))
 intro b10 w11 hs12 hz13 hB14 hE15
 refine sd rfl (yl_box (cs := [.slice A4 p_r.Vals.length c4]) rfl rfl rfl ?_)
 intro b16 w17 hs18 hz19 hB20 hE21
 refine sd rfl (yl_alloc Tryz.ty75 (cs := [.string (bs (([] : Str))), .string (bs (([] : Str))), .bool (false)]) rfl rfl ?_)
 intro b22 w23 hs24 hz25 hB26 hE27
 refine SeqR.done (tn (CW.seq ?_))
 have hol30 : p_t.Name.length ≤ 1073741824 := o3.1
 have q31 := Box.ex hB20 hE27
 have q34 := RdS.ex good_Str (RdS.ex good_Str (RdS.ex good_Str h4 hE15) hE21) hE27
 obtain ⟨eb35, eo35, ec35, eA35, eS35, ebl35, el35, eR35, eC35⟩ := RdS.atD q34 d_Str (i := 0) (by first | omega | assumption)
 obtain rfl := eR35
 have eC35 : Cells w23 eb35 (eo35 + 0 * 1) [.string (bs ((p_r.Vals.getD 0 d_Str)))] := eC35
 have hol36 : p_t.Name.length ≤ 1073741824 := o3.1
 have hol37 : (p_r.Vals.getD 0 d_Str).length ≤ 1073741824 := (okL.getD o5 ok_d_Str _)
 obtain ⟨A38, c39, he42, h41⟩ := RdS.sl (RdS.drop q34 (k := 1) (by omega))
 have hrc43 := (q34).2.1
 refine CW.drawsI 12 (vgetI [DetI (.pointer (some ⟨b10, 0 + 0, none⟩)), DetI (.string (bs (p_t.Name))), DetI (.string (bs (p_t.Name ++ ([47] : Str)))), DetI (.pointer (some ⟨b16, 0 + 0, none⟩)), DetI (.slice A4 p_r.Vals.length c4), DetI (.pointer (some ⟨eb35, eo35 + 0 * 1, none⟩)), DetI (.string (bs ((p_r.Vals.getD 0 d_Str)))), DetI (.string (bs ((p_t.Name ++ ([47] : Str)) ++ (p_r.Vals.getD 0 d_Str)))), DetI (.pointer (some ⟨b16, 0 + 0, none⟩)), DetI (.slice A4 p_r.Vals.length c4), fun lo hi v wq => ∃ A38 c39, v = .slice A38 ((p_r.Vals.drop 1).length) c39 ∧ RdS wq (Iv 0 w.heap.size) (RF e_Str) 1 A38 (p_r.Vals.drop 1).length c39 (p_r.Vals.drop 1), fun lo hi v wq => v = .string (bs ((g_strings_Join (p_r.Vals.drop 1) ([44] : Str)))) ∧ okS (g_strings_Join (p_r.Vals.drop 1) ([44] : Str))]) Tryz.follows rfl rfl rfl rfl rfl rfl (vgetI_stable ⟨StableI.det _, StableI.det _, StableI.det _, StableI.det _, StableI.det _, StableI.det _, StableI.det _, StableI.det _, StableI.det _, StableI.det _, (fun _ _ _ _ _ ⟨A38, c39, hv, h44⟩ e => ⟨A38, c39, hv, RdS.ex good_Str h44 e⟩), (fun _ _ _ _ _ ⟨hv, ho46⟩ e => ⟨hv, ho46⟩), trivial⟩) ⟨?_, ?_, ?_, ?_, ?_, ?_, ?_, ?_, ?_, ?_, ?_, ?_, trivial⟩ ?_
 ·exact fun _ _ h => os rfl ((yl_fieldAddr Tryz.fd34_0 rfl (h.old 2 _ rfl rfl) kI))
 ·exact fun _ _ h => os rfl ((yl_load1 Tryz.ty9 rfl (h.dt 0 5 rfl rfl rfl) (((Box.ex (Box.ex (Box.ex hB14 hE21) hE27) h.ex).cell 0).trans rfl) kI))
 ·intro L58 w59 hi60
  have hE61 := hi60.ex
  have hE61z := Ex.size hE61
  have hol63 : p_t.Name.length ≤ 1073741824 := o3.1
  exact os rfl ((yl_sadd (a := p_t.Name) (b := ([47] : Str)) rfl (hi60.dt 1 6 rfl rfl rfl) rfl (by first | omega | (simp only [List.length_append, List.length_cons, List.length_nil, List.length_take, List.length_drop, toS_length]; omega)) kI))
 ·exact fun _ _ h => os rfl ((yl_fieldAddr Tryz.fd80_0 rfl (h.old 3 _ rfl rfl) kI))
 ·exact fun _ _ h => os rfl ((yl_load1 Tryz.ty22 rfl (h.dt 3 8 rfl rfl rfl) (((Box.ex q31 h.ex).cell 0).trans rfl) kI))
 ·intro L75 w76 hi77
  have hE78 := hi77.ex
  have hE78z := Ex.size hE78
  exact os rfl ((yl_indexAddrN Tryz.un22 Tryz.ty9 rfl (hi77.dt 4 9 rfl rfl rfl) rfl eA35 (by first | omega | assumption | (simp only [IntKind.wrap_i64] at *; omega)) kI))
 ·exact fun _ _ h => os rfl ((yl_load1 Tryz.ty9 rfl (h.dt 5 10 rfl rfl rfl) ((Cells.ex eC35 h.ex) 0 _ rfl) kI))
 ·intro L86 w87 hi88
  have hE89 := hi88.ex
  have hE89z := Ex.size hE89
  have hol92 : p_t.Name.length ≤ 1073741824 := o3.1
  have hol93 : (p_r.Vals.getD 0 d_Str).length ≤ 1073741824 := (okL.getD o5 ok_d_Str _)
  exact os rfl ((yl_sadd (a := (p_t.Name ++ ([47] : Str))) (b := (p_r.Vals.getD 0 d_Str)) rfl (hi88.dt 2 7 rfl rfl rfl) (hi88.dt 6 11 rfl rfl rfl) (by first | omega | (simp only [List.length_append, List.length_cons, List.length_nil, List.length_take, List.length_drop, toS_length]; omega)) kI))
 ·exact fun _ _ h => os rfl ((yl_fieldAddr Tryz.fd80_0 rfl (h.old 3 _ rfl rfl) kI))
 ·exact fun _ _ h => os rfl ((yl_load1 Tryz.ty22 rfl (h.dt 8 13 rfl rfl rfl) (((Box.ex q31 h.ex).cell 0).trans rfl) kI))
 ·intro L105 w106 hi107
  have hE108 := hi107.ex
  have hE108z := Ex.size hE108
  have q110 := RdS.ex good_Str q34 hE108
  obtain ⟨A111, c112, he115, h114⟩ := RdS.sl (RdS.drop q110 (k := 1) (by omega))
  have hrc116 := (q110).2.1
  exact os rfl ((yl_sliceR (kh := .i64) (l := 1) (h := p_r.Vals.length) Tryz.un22 Tryz.ty9 rfl (hi107.dt 9 14 rfl rfl rfl) (.inr ⟨_, rfl, rfl⟩) (.inl ⟨rfl, rfl⟩) (by omega) (by omega) he115 ⟨fun _ _ => ⟨A111, c112, rfl, h114⟩, rfl⟩))
 ·intro L117 w118 hi119
  obtain ⟨lo122, hh123, _, hx121, hr124, hr125, hr126, A38_127, c39_128, rfl, h129⟩ := hi119.dep 10 15 rfl rfl
  refine OpR.op' rfl (yl_call Tryz.en88 rfl (opvs_cons hx121 (opvs_cons rfl opvs_nil)) (Cal.mono (c_g_strings_Join (p_r.Vals.drop 1) ([44] : Str) (RdS.up h129 good_Str) (okL.drop o5 _) (okS.lit rfl) (join_drop pre1 pre2)) ?_))
  rintro v132 w130 ⟨rfl, ho131, hE133⟩
  exact ⟨⟨rfl, ho131⟩, hE133⟩
 ·intro fl137 fh138 L134 w135 hp136
  have hE139 := hp136.ex
  have hE139z := Ex.size hE139
  have hx140 := hp136.old 4 _ rfl rfl
  obtain ⟨_, hx142, rfl, h143⟩ := hp136.new 11 16 rfl rfl
  refine sd rfl (yl_build (cs := [.string (bs ((p_t.Name ++ ([47] : Str)) ++ (p_r.Vals.getD 0 d_Str))), .string (bs ((g_strings_Join (p_r.Vals.drop 1) ([44] : Str)))), .bool (false)]) rfl (opvs_cons (hp136.nt 7 12 rfl rfl rfl) (opvs_cons hx142 opvs_nil)) (by kernel_rfl) (SeqR.u rfl rfl (yl_store (vs := [.string (bs ((p_t.Name ++ ([47] : Str)) ++ (p_r.Vals.getD 0 d_Str))), .string (bs ((g_strings_Join (p_r.Vals.drop 1) ([44] : Str)))), .bool (false)]) Tryz.ty75 rfl hx140 rfl rfl rfl rfl (Box.ex hB26 hE139) (Nat.le_of_ble_eq_true rfl) ?_)))
  intro w145 hB146 hO147
  have hB146 : Box w145 b22 75 [.string (bs ((p_t.Name ++ ([47] : Str)) ++ (p_r.Vals.getD 0 d_Str))), .string (bs ((g_strings_Join (p_r.Vals.drop 1) ([44] : Str)))), .bool (false)] := hB146
  have hO147z := hO147.size
  refine SeqR.done (tn (CW.sub (Sub.cons (d := 4) hx140 (Sub.nil _)) (CW.ret (rr rfl (.cons ⟨_, rfl, run_loadN Tryz.ty75 (cs := [.string (bs ((p_t.Name ++ ([47] : Str)) ++ (p_r.Vals.getD 0 d_Str))), .string (bs ((g_strings_Join (p_r.Vals.drop 1) ([44] : Str)))), .bool (false)]) rfl (hB146.cells (n := 3) rfl)⟩ .nil) ?_))))
  have hM148 : (i_Table_rowWrite p_t p_r) = ((⟨(p_t.Name ++ ([47] : Str)) ++ (p_r.Vals.getD 0 d_Str), (g_strings_Join (p_r.Vals.drop 1) ([44] : Str)), false⟩ : DWrite)) := by simp only [i_Table_rowWrite, cond_true, cond_false, loopE_done, loopE_ret]
  rw [hM148]
  exact ⟨rfl, (Below.only (Ex.trans (Ex.trans (Ex.trans (Ex.trans (Ex.refl w) hE15) hE21) hE27) hE139) hO147 (by omega))⟩
set_option maxRecDepth 100000 in
set_option maxHeartbeats 2000000 in
theorem c_g_internal_stringslite_HasPrefix {w : World} (p_s : Str) (p_prefix : Str) (o1 : okS p_s) (o2 : okS p_prefix) : Cal Tryz.prog 149 #[.string (bs (p_s)), .string (bs (p_prefix))] w fun v w' => v = .bool ((g_internal_stringslite_HasPrefix p_s p_prefix)) ∧ Ex w w' := by
 have hol3 : p_s.length ≤ 1073741824 := o1
 have hol4 : p_prefix.length ≤ 1073741824 := o2
 refine Cal.of (vs := [.string (bs (p_s)), .string (bs (p_prefix))]) Tryz.func149 rfl Tryz.ntmps149 rfl (CW.seq (CW.region (sd rfl (yl_assign rfl rfl (SeqR.done (tn (CW.seq (CW.region (sd rfl (yl_move rfl rfl ?_))))))))))
 refine sd rfl (yl_slen Tryz.un9 (a := p_s) rfl rfl (sd rfl (yl_move rfl rfl (sd rfl (yl_slen Tryz.un9 (a := p_prefix) rfl rfl (sd rfl (yl_geq rfl rfl rfl (sd rfl (yl_move rfl rfl (bcase (decide ((p_prefix.length : Int) ≤ (p_s.length : Int))) (fun hb5 => ?_) (fun hb5 => ?_)))))))))))
 ·have hb5p := dec_t hb5
  refine sy rfl rfl hb5 (yl_move rfl rfl (sy rfl rfl hb5 (yl_move rfl rfl (sy rfl rfl hb5 (yl_slen Tryz.un9 (a := p_prefix) rfl rfl (sy rfl rfl hb5 (yl_sslice_hi Tryz.un9 (a := p_s) (h := p_prefix.length) rfl rfl rfl (by omega) (sy rfl rfl hb5 (yl_move rfl rfl (sy rfl rfl hb5 (yl_seql (a := (p_s.take p_prefix.length)) (b := p_prefix) rfl rfl rfl (sd rfl (yl_pick_t rfl rfl hb5 rfl (sd rfl (yl_assign rfl rfl (SeqR.done ?_))))))))))))))))
  refine tn (CW.ret (rr rfl (.cons rfl .nil) ?_))
  have hM6 : (g_internal_stringslite_HasPrefix p_s p_prefix) = ((p_s.take p_prefix.length) == p_prefix) := by simp only [g_internal_stringslite_HasPrefix, hb5, cond_true, cond_false, loopE_done, loopE_ret]
  rw [hM6]
  exact ⟨rfl, (Ex.refl w)⟩
 ·have hb5p := dec_f hb5
  refine sz rfl rfl hb5 (sz rfl rfl hb5 (sz rfl rfl hb5 (sz rfl rfl hb5 (sz rfl rfl hb5 (sz rfl rfl hb5 (sd rfl (yl_pick_f rfl rfl hb5 rfl (sd rfl (yl_assign rfl rfl (SeqR.done ?_))))))))))
  refine tn (CW.ret (rr rfl (.cons rfl .nil) ?_))
  have hM7 : (g_internal_stringslite_HasPrefix p_s p_prefix) = (false) := by simp only [g_internal_stringslite_HasPrefix, hb5, cond_true, cond_false, loopE_done, loopE_ret]
  rw [hM7]
  exact ⟨rfl, (Ex.refl w)⟩
set_option maxRecDepth 100000 in
set_option maxHeartbeats 2000000 in
theorem c_g_internal_stringslite_CutPrefix {w : World} (p_s : Str) (p_prefix : Str) (o1 : okS p_s) (o2 : okS p_prefix) : Cal Tryz.prog 129 #[.string (bs (p_s)), .string (bs (p_prefix))] w fun v w' => v = .tuple #[.string (bs ((g_internal_stringslite_CutPrefix p_s p_prefix).1)), .bool ((g_internal_stringslite_CutPrefix p_s p_prefix).2)] ∧ okS ((g_internal_stringslite_CutPrefix p_s p_prefix).1) ∧ Ex w w' := by
 have hol3 : p_s.length ≤ 1073741824 := o1
 have hol4 : p_prefix.length ≤ 1073741824 := o2
 refine Cal.of (vs := [.string (bs (p_s)), .string (bs (p_prefix))]) Tryz.func129 rfl Tryz.ntmps129 rfl (CW.seq (CW.region (sd rfl (yl_assign rfl rfl (sd rfl (yl_assign rfl rfl (SeqR.done (tn (CW.seq (CW.seq ?_))))))))))
 refine CW.region (sd rfl (yl_move rfl rfl (sd rfl (yl_move rfl rfl (sd rfl (yl_call Tryz.en149 rfl (opvs_cons rfl (opvs_cons rfl opvs_nil)) (Cal.mono (c_g_internal_stringslite_HasPrefix p_s p_prefix o1 o2) ?_)))))))
 rintro v6 w5 ⟨rfl, hE7⟩
 have hE7z := Ex.size hE7
 refine sd rfl (yl_not rfl rfl (SeqR.done (tn (bcase (g_internal_stringslite_HasPrefix p_s p_prefix) (fun hb8 => ?_) (fun hb8 => ?_)))))
 ·have hb8p := f_HasPrefix hb8
  refine CW.cond_f rfl (not_t hb8) (CW.skip (tn (CW.seq (CW.region (sd rfl (yl_move rfl rfl (sd rfl (yl_move rfl rfl (sd rfl (yl_slen Tryz.un9 (a := p_prefix) rfl rfl (sd rfl (yl_sslice_lo Tryz.un9 (a := p_s) (l := p_prefix.length) rfl rfl rfl (by omega) ?_))))))))))))
  refine sd rfl (yl_assign rfl rfl (sd rfl (yl_assign rfl rfl (SeqR.done (tn (CW.ret (rr rfl (.cons rfl (.cons rfl .nil)) ?_)))))))
  have hM9 : (g_internal_stringslite_CutPrefix p_s p_prefix) = (((p_s.drop p_prefix.length), true)) := by simp only [g_internal_stringslite_CutPrefix, hb8, cond_true, cond_false, loopE_done, loopE_ret]
  rw [hM9]
  exact ⟨rfl, (okS.drop o1 _), (Ex.trans (Ex.refl w) hE7)⟩
 ·refine CW.cond_t rfl (not_f hb8) (CW.seq (CW.region (sd rfl (yl_move rfl rfl (sd rfl (yl_assign rfl rfl (sd rfl (yl_assign rfl rfl (SeqR.done (tn (CW.ret ?_)))))))))))
  refine tr (rr rfl (.cons rfl (.cons rfl .nil)) ?_)
  have hM11 : (g_internal_stringslite_CutPrefix p_s p_prefix) = ((p_s, false)) := by simp only [g_internal_stringslite_CutPrefix, hb8, cond_true, cond_false, loopE_done, loopE_ret]
  rw [hM11]
  exact ⟨rfl, o1, (Ex.trans (Ex.refl w) hE7)⟩
set_option maxRecDepth 100000 in
set_option maxHeartbeats 2000000 in
theorem c_g_strings_CutPrefix {w : World} (p_s : Str) (p_prefix : Str) (o1 : okS p_s) (o2 : okS p_prefix) : Cal Tryz.prog 102 #[.string (bs (p_s)), .string (bs (p_prefix))] w fun v w' => v = .tuple #[.string (bs ((g_strings_CutPrefix p_s p_prefix).1)), .bool ((g_strings_CutPrefix p_s p_prefix).2)] ∧ okS ((g_strings_CutPrefix p_s p_prefix).1) ∧ Ex w w' := by
 have hol3 : p_s.length ≤ 1073741824 := o1
 have hol4 : p_prefix.length ≤ 1073741824 := o2
 refine Cal.of (vs := [.string (bs (p_s)), .string (bs (p_prefix))]) Tryz.func102 rfl Tryz.ntmps102 rfl (CW.seq (CW.region (sd rfl (yl_assign rfl rfl (sd rfl (yl_assign rfl rfl (SeqR.done (tn (CW.seq (CW.region ?_))))))))))
 refine sd rfl (yl_move rfl rfl (sd rfl (yl_move rfl rfl (sd rfl (yl_call Tryz.en129 rfl (opvs_cons rfl (opvs_cons rfl opvs_nil)) (Cal.mono (c_g_internal_stringslite_CutPrefix p_s p_prefix o1 o2) ?_))))))
 rintro v7 w5 ⟨rfl, ho6, hE8⟩
 have hE8z := Ex.size hE8
 refine sd rfl (yl_extract rfl rfl rfl (sd rfl (yl_extract rfl rfl rfl (sd rfl (yl_assign rfl rfl (sd rfl (yl_assign rfl rfl (SeqR.done (tn (CW.ret (rr rfl (.cons rfl (.cons rfl .nil)) ?_)))))))))))
 have hM9 : (g_strings_CutPrefix p_s p_prefix) = (((g_internal_stringslite_CutPrefix p_s p_prefix).1, (g_internal_stringslite_CutPrefix p_s p_prefix).2)) := by simp only [g_strings_CutPrefix, cond_true, cond_false, loopE_done, loopE_ret]
 rw [hM9]
 exact ⟨rfl, ho6, (Ex.trans (Ex.refl w) hE8)⟩
set_option maxRecDepth 100000 in
set_option maxHeartbeats 2000000 in
theorem c_g_internal_bytealg_Cutover {w : World} (p_n : Int) : Cal Tryz.prog 169 #[.int .i64 (p_n)] w fun v w' => v = .int .i64 ((g_internal_bytealg_Cutover p_n)) ∧ Ex w w' := by
 refine Cal.of (vs := [.int .i64 (p_n)]) Tryz.func169 rfl Tryz.ntmps169 rfl (CW.seq (CW.region (sd rfl (yl_assign rfl rfl (SeqR.done (tn (CW.seq (CW.region (sd rfl (yl_move rfl rfl ?_))))))))))
 refine sd rfl (yl_add rfl rfl rfl (sd rfl (yl_quo rfl rfl rfl (by decide) (sd rfl (yl_assign rfl rfl (SeqR.done (tn (CW.ret (rr rfl (.cons rfl .nil) ?_)))))))))
 have hM1 : (g_internal_bytealg_Cutover p_n) = (IntKind.wrap .i64 (Int.tdiv (IntKind.wrap .i64 (p_n + 16)) 8)) := by simp only [g_internal_bytealg_Cutover, cond_true, cond_false, loopE_done, loopE_ret]
 rw [hM1]
 exact ⟨rfl, (Ex.refl w)⟩
set_option maxRecDepth 100000 in
set_option maxHeartbeats 2000000 in
theorem c_g_internal_stringslite_Index {w : World} (p_0 : Str) (p_1 : Str) (o1 : okS p_0) (o2 : okS p_1) (pre0 : p_1.length = 1) : Cal Tryz.prog 161 #[.string (bs (p_0)), .string (bs (p_1))] w fun v w' => v = .int .i64 ((g_internal_stringslite_Index p_0 p_1)) ∧ Ex w w' := by
 have hol3 : p_0.length ≤ 1073741824 := o1
 have hol4 : p_1.length ≤ 1073741824 := o2
 refine Cal.of (vs := [.string (bs (p_0)), .string (bs (p_1))]) Tryz.func161 rfl Tryz.ntmps161 rfl (CW.seq (CW.region (sd rfl (yl_assign rfl rfl (SeqR.done (tn (CW.seq (CW.region (sd rfl (yl_move rfl rfl ?_))))))))))
 refine sd rfl (yl_slen Tryz.un9 (a := p_1) rfl rfl (sd rfl (yl_assign rfl rfl (SeqR.done (tn (CW.seq (CW.block (CW.seq (CW.region (sd rfl (yl_move rfl rfl ?_)))))))))))
 refine sd rfl (yl_eql rfl rfl rfl (sd rfl (yl_move rfl rfl (sy rfl rfl (decide_eq_false (by omega)) (yl_move rfl rfl (sy rfl rfl (decide_eq_false (by omega)) (yl_move rfl rfl (sy rfl rfl (decide_eq_false (by omega)) (yl_seql (a := p_1) (b := p_0) rfl rfl rfl (sd rfl (yl_pick_f rfl rfl (decide_eq_false (by omega)) rfl (sd rfl (yl_assign rfl rfl (SeqR.done (tn ?_)))))))))))))))
 refine bcase (p_1 == p_0) (fun hb5 => ?_) (fun hb5 => ?_)
 ·refine CW.cond_t rfl hb5 (CW.seq (CW.region (sd rfl (yl_assign rfl rfl (SeqR.done (tn (CW.ret (br (tr ?_)))))))))
  refine rr rfl (.cons rfl .nil) ?_
  have hM6 : (g_internal_stringslite_Index p_0 p_1) = (0) := by simp only [g_internal_stringslite_Index, hb5, cond_true, cond_false, loopE_done, loopE_ret]
  rw [hM6]
  exact ⟨rfl, (Ex.refl w)⟩
 ·refine CW.cond_f rfl hb5 (CW.seq (CW.region (sd rfl (yl_move rfl rfl (sd rfl (yl_eql rfl rfl rfl (sd rfl (yl_assign rfl rfl (SeqR.done (tn (CW.cond_t rfl (decide_eq_true (by omega)) ?_)))))))))))
  refine CW.seq (CW.region (sd rfl (yl_move rfl rfl (sd rfl (yl_move rfl rfl (sd rfl (yl_sindexN Tryz.un9 (a := p_1) rfl rfl rfl (by first | omega | assumption | (simp only [IntKind.wrap_i64] at *; omega)) (sd rfl (yl_call Tryz.en167 rfl (opvs_cons rfl (opvs_cons rfl opvs_nil)) (Cal.mono (c_g_internal_stringslite_IndexByte p_0 ((p_1.getD 0 0).toNat : Int) o1) ?_))))))))))
  rintro v8 w7 ⟨rfl, hE9⟩
  have hE9z := Ex.size hE9
  refine sd rfl (yl_assign rfl rfl (SeqR.done (tn (CW.ret (br (tr (rr rfl (.cons rfl .nil) ?_)))))))
  have hM10 : (g_internal_stringslite_Index p_0 p_1) = ((g_internal_stringslite_IndexByte p_0 ((p_1.getD 0 0).toNat : Int))) := by simp only [g_internal_stringslite_Index, hb5, cond_true, cond_false, loopE_done, loopE_ret]
  rw [hM10]
  exact ⟨rfl, (Ex.trans (Ex.refl w) hE9)⟩
set_option maxRecDepth 100000 in
set_option maxHeartbeats 2000000 in
theorem c_g_strings_Index {w : World} (p_s : Str) (p_substr : Str) (o1 : okS p_s) (o2 : okS p_substr) (pre0 : p_substr.length = 1) : Cal Tryz.prog 152 #[.string (bs (p_s)), .string (bs (p_substr))] w fun v w' => v = .int .i64 ((g_strings_Index p_s p_substr)) ∧ Ex w w' := by
 have hol3 : p_s.length ≤ 1073741824 := o1
 have hol4 : p_substr.length ≤ 1073741824 := o2
 refine Cal.of (vs := [.string (bs (p_s)), .string (bs (p_substr))]) Tryz.func152 rfl Tryz.ntmps152 rfl (CW.seq (CW.region (sd rfl (yl_assign rfl rfl (SeqR.done (tn (CW.seq (CW.region (sd rfl (yl_move rfl rfl ?_))))))))))
 refine sd rfl (yl_move rfl rfl (sd rfl (yl_call Tryz.en161 rfl (opvs_cons rfl (opvs_cons rfl opvs_nil)) (Cal.mono (c_g_internal_stringslite_Index p_s p_substr o1 o2 (by first | omega | assumption | (simp only [IntKind.wrap_i64] at *; omega))) ?_))))
 rintro v6 w5 ⟨rfl, hE7⟩
 have hE7z := Ex.size hE7
 have hrf8 := rf_Index (s := p_s) (sub := p_substr) (by first | omega | assumption | (simp only [IntKind.wrap_i64] at *; omega))
 refine sd rfl (yl_assign rfl rfl (SeqR.done (tn (CW.ret (rr rfl (.cons rfl .nil) ?_)))))
 have hM9 : (g_strings_Index p_s p_substr) = ((g_internal_stringslite_Index p_s p_substr)) := by simp only [g_strings_Index, cond_true, cond_false, loopE_done, loopE_ret]
 rw [hM9]
 exact ⟨rfl, (Ex.trans (Ex.refl w) hE7)⟩
set_option maxRecDepth 100000 in
set_option maxHeartbeats 2000000 in
theorem c_g_slices_IndexFunc_string {A1 : Option Addr} {c1 : Nat} {g3 : Nat} {cp4 : List Value} {w : World} (p_s : List Str) (p_f : Str → Bool) (h1 : RdS w (Iv 0 w.heap.size) (RF e_Str) 1 A1 p_s.length c1 p_s) (hen5 : Go.X.Enters Tryz.prog g3) (hfn6 : ∀ (w1 : World) (y0 : Str), Ex w w1 → y0 ∈ p_s → okS y0 → Cal Tryz.prog g3 (([.string (bs (y0))] : List Value) ++ cp4).toArray w1 fun v w2 => v = .bool (p_f y0) ∧ Ex w1 w2) (o2 : (okL okS) p_s) : Cal Tryz.prog 153 #[.slice A1 p_s.length c1, .func (.func g3) #[] cp4.toArray] w fun v w' => v = .int .i64 ((g_slices_IndexFunc_string p_s p_f)) ∧ Ex w w' := by
 have hol7 := o2.1
 refine Cal.of (vs := [.slice A1 p_s.length c1, .func (.func g3) #[] cp4.toArray]) Tryz.func153 rfl Tryz.ntmps153 rfl (CW.seq (CW.region (sd rfl (yl_assign rfl rfl (SeqR.done (tn (CW.seq (CW.seq (CW.region ?_)))))))))
 refine sd rfl (yl_move rfl rfl (sd rfl (yl_len Tryz.un22 rfl rfl (sd rfl (yl_move rfl rfl (SeqR.done (tn (CW.block (CW.loop (fun m9 L10 w11 => ∃ (k8 : Nat), m9 = p_s.length - k8 ∧ k8 ≤ p_s.length ∧ w.heap.size ≤ w11.heap.size ∧ lkp L10 0 = some (.slice A1 p_s.length c1) ∧ lkp L10 1 = some (.func (.func g3) #[] cp4.toArray) ∧ lkp L10 7 = some (.int .i64 ((p_s.length : Int))) ∧ lkp L10 8 = some (.int .i64 ((k8 : Int))) ∧ RdS w11 (Iv 0 w.heap.size) (RF e_Str) 1 A1 p_s.length c1 p_s ∧ Ex w w11 ∧ loopM (B_g_slices_IndexFunc_string_0 p_s p_f) (p_s.length - k8) k8 () = loopM (B_g_slices_IndexFunc_string_0 p_s p_f) (p_s.length - 0) 0 ()) (p_s.length - 0) ?_ ?_)))))))))
 ·exact ⟨0, rfl, (by omega), Nat.le_refl _, rfl, rfl, rfl, rfl, h1, (Ex.refl w), rfl⟩
 ·rintro m12 L13 w14 ⟨k8, rfl, hk15, hsz17, hl18, hl19, hl20, hl21, hf22, hf23, hI16⟩
  refine CW.sub (Sub.cons hl18 (Sub.cons hl19 (Sub.cons hl20 (Sub.cons hl21 (Sub.nil _))))) ?_
  have hf23z := Ex.size hf23
  have hbg24 := RdS.big hf22
  rcases Nat.lt_or_ge k8 p_s.length with hlt25 | hlt25
  ·refine CW.seq (CW.region (sd rfl (yl_lss rfl rfl rfl (SeqR.done (tn (CW.seq (CW.cond_t rfl (lt_t hlt25) (CW.skip (tn ?_)))))))))
   refine CW.seq (CW.block (CW.seq (CW.region (sd rfl (yl_move rfl rfl (sd rfl (yl_assign rfl rfl (SeqR.done (tn (CW.seq ?_))))))))))
   refine CW.region (sd rfl (yl_move rfl rfl (sd rfl (yl_move rfl rfl (sd rfl (yl_move rfl rfl ?_))))))
   obtain ⟨eb26, eo26, ec26, eA26, eS26, ebl26, el26, eR26, eC26⟩ := RdS.atD hf22 d_Str (i := k8) (by first | omega | assumption)
   obtain rfl := eR26
   have eC26 : Cells w14 eb26 (eo26 + k8 * 1) [.string (bs ((p_s.getD k8 d_Str)))] := eC26
   refine sd rfl (yl_indexAddrN Tryz.un22 Tryz.ty9 rfl rfl rfl eA26 (by first | omega | assumption | (simp only [IntKind.wrap_i64] at *; omega)) (sd rfl (yl_load1 Tryz.ty9 rfl rfl (eC26 0 _ rfl) (sd rfl (yl_callv hen5 rfl rfl (opvs_cons rfl opvs_nil) (Cal.mono (hfn6 w14 (p_s.getD k8 d_Str) hf23 (getD_mem (by omega)) (okL.getD o2 ok_d_Str _)) ?_))))))
   rintro v28 w27 ⟨rfl, hE29⟩
   have hE29z := Ex.size hE29
   refine SeqR.done (tn (bcase (p_f (p_s.getD k8 d_Str)) (fun hb30 => ?_) (fun hb30 => ?_)))
   ·refine CW.cond_t rfl hb30 (CW.seq (CW.region (sd rfl (yl_move rfl rfl (sd rfl (yl_assign rfl rfl (SeqR.done (tn (CW.ret (br ?_))))))))))
    refine tr (tr ?_)
    have hB32 : B_g_slices_IndexFunc_string_0 p_s p_f k8 () = .ret (k8 : Int) := by simp only [B_g_slices_IndexFunc_string_0, hb30, cond_true, cond_false, loopE_done, loopE_ret]
    have hL31 : loopM (B_g_slices_IndexFunc_string_0 p_s p_f) (p_s.length - 0) 0 () = .ret (k8 : Int) := hI16.symm.trans (loopM.ret hlt25 hB32)
    refine br (tr (rr rfl (.cons rfl .nil) ?_))
    have hM33 : (g_slices_IndexFunc_string p_s p_f) = ((k8 : Int)) := by simp only [g_slices_IndexFunc_string, hb30, hL31, cond_true, cond_false, loopE_done, loopE_ret]
    rw [hM33]
    exact ⟨rfl, (Ex.trans hf23 hE29)⟩
   ·refine CW.cond_f rfl hb30 (CW.skip (bn (tn (CW.region (sd rfl (yl_inc rfl rfl rfl (by omega) (sd rfl (yl_move rfl rfl (SeqR.done (tn ?_))))))))))
    have hB35 : B_g_slices_IndexFunc_string_0 p_s p_f k8 () = .cont () := by simp only [B_g_slices_IndexFunc_string_0, hb30, cond_true, cond_false, loopE_done, loopE_ret]
    exact ⟨p_s.length - (k8 + 1), by omega, k8 + 1, rfl, hlt25, (by omega), rfl, rfl, rfl, rfl, (RdS.ex good_Str hf22 hE29), (Ex.trans hf23 hE29), (loopM.cont hlt25 hB35).symm.trans hI16⟩
  ·refine CW.seq (CW.region (sd rfl (yl_lss rfl rfl rfl (SeqR.done (tn (CW.seq (CW.cond_f rfl (lt_f hlt25) (CW.exit (tx ?_)))))))))
   refine tx ?_
   have hL38 : loopM (B_g_slices_IndexFunc_string_0 p_s p_f) (p_s.length - 0) 0 () = .done () := hI16.symm.trans (loopM.stop hlt25)
   refine bx (tn (CW.seq (CW.region (sd rfl (yl_assign rfl rfl (SeqR.done (tn (CW.ret (rr rfl (.cons rfl .nil) ?_)))))))))
   have hM39 : (g_slices_IndexFunc_string p_s p_f) = (-1) := by simp only [g_slices_IndexFunc_string, hL38, cond_true, cond_false, loopE_done, loopE_ret]
   rw [hM39]
   exact ⟨rfl, hf23⟩
set_option maxRecDepth 100000 in
set_option maxHeartbeats 2000000 in
theorem c_g_slices_ContainsFunc_string {A1 : Option Addr} {c1 : Nat} {g3 : Nat} {cp4 : List Value} {w : World} (p_s : List Str) (p_f : Str → Bool) (h1 : RdS w (Iv 0 w.heap.size) (RF e_Str) 1 A1 p_s.length c1 p_s) (hen5 : Go.X.Enters Tryz.prog g3) (hfn6 : ∀ (w1 : World) (y0 : Str), Ex w w1 → y0 ∈ p_s → okS y0 → Cal Tryz.prog g3 (([.string (bs (y0))] : List Value) ++ cp4).toArray w1 fun v w2 => v = .bool (p_f y0) ∧ Ex w1 w2) (o2 : (okL okS) p_s) : Cal Tryz.prog 131 #[.slice A1 p_s.length c1, .func (.func g3) #[] cp4.toArray] w fun v w' => v = .bool ((g_slices_ContainsFunc_string p_s p_f)) ∧ Ex w w' := by
 have hol7 := o2.1
 refine Cal.of (vs := [.slice A1 p_s.length c1, .func (.func g3) #[] cp4.toArray]) Tryz.func131 rfl Tryz.ntmps131 rfl (CW.seq (CW.region (sd rfl (yl_assign rfl rfl (SeqR.done (tn (CW.seq (CW.region (sd rfl (yl_move rfl rfl ?_))))))))))
 refine sd rfl (yl_move rfl rfl (sd rfl (yl_call Tryz.en153 rfl (opvs_cons rfl (opvs_cons rfl opvs_nil)) (Cal.mono (c_g_slices_IndexFunc_string p_s p_f (RdS.up h1 good_Str) hen5 (fun w1 y0 => fun hE => hfn6 w1 y0 (Ex.trans (Ex.refl w) hE)) o2) ?_))))
 rintro v9 w8 ⟨rfl, hE10⟩
 have hE10z := Ex.size hE10
 refine sd rfl (yl_geq rfl rfl rfl (sd rfl (yl_assign rfl rfl (SeqR.done (tn (CW.ret (rr rfl (.cons rfl .nil) ?_)))))))
 have hM11 : (g_slices_ContainsFunc_string p_s p_f) = (decide (0 ≤ (g_slices_IndexFunc_string p_s p_f))) := by simp only [g_slices_ContainsFunc_string, cond_true, cond_false, loopE_done, loopE_ret]
 rw [hM11]
 exact ⟨rfl, (Ex.trans (Ex.refl w) hE10)⟩
set_option maxRecDepth 100000 in
set_option maxHeartbeats 2000000 in
theorem c_i_isField {w : World} (p_s : Str) (o1 : okS p_s) : Cal Tryz.prog 121 #[.string (bs (p_s))] w fun v w' => v = .bool ((i_isField p_s)) ∧ Ex w w' := by
 have hol2 : p_s.length ≤ 1073741824 := o1
 refine Cal.of (vs := [.string (bs (p_s))]) Tryz.func121 rfl Tryz.ntmps121 rfl (CW.seq (CW.region (sd rfl (yl_assign rfl rfl (SeqR.done (tn (CW.seq (CW.region (sd rfl (yl_move rfl rfl ?_))))))))))
 refine sd rfl (yl_slen Tryz.un9 (a := p_s) rfl rfl (sd rfl (yl_call Tryz.en66 rfl (opvs_cons rfl (opvs_cons rfl (opvs_cons rfl opvs_nil))) (Cal.mono (c_i_within (p_s.length : Int) 1 3) ?_))))
 rintro v4 w3 ⟨rfl, hE5⟩
 have hE5z := Ex.size hE5
 refine sd rfl (yl_move rfl rfl (bcase (i_within (p_s.length : Int) 1 3) (fun hb6 => ?_) (fun hb6 => ?_)))
 ·have hb6p := f_within hb6
  refine sy rfl rfl hb6 (yl_move rfl rfl (sy rfl rfl hb6 (yl_call Tryz.en143 rfl (opvs_cons rfl (opvs_cons rfl opvs_nil)) (Cal.mono (c_i_hasBytes p_s ([] : Str) o1 (okS.lit rfl)) ?_))))
  rintro v8 w7 ⟨rfl, hE9⟩
  have hE9z := Ex.size hE9
  refine sd rfl (yl_pick_t rfl rfl hb6 rfl (sd rfl (yl_assign rfl rfl (SeqR.done (tn (CW.ret (rr rfl (.cons rfl .nil) ?_)))))))
  have hM10 : (i_isField p_s) = ((i_hasBytes p_s ([] : Str))) := by simp only [i_isField, hb6, cond_true, cond_false, loopE_done, loopE_ret]
  rw [hM10]
  exact ⟨rfl, (Ex.trans (Ex.trans (Ex.refl w) hE5) hE9)⟩
 ·refine sz rfl rfl hb6 (sz rfl rfl hb6 (sd rfl (yl_pick_f rfl rfl hb6 rfl (sd rfl (yl_assign rfl rfl (SeqR.done (tn (CW.ret (rr rfl (.cons rfl .nil) ?_)))))))))
  have hM13 : (i_isField p_s) = (false) := by simp only [i_isField, hb6, cond_true, cond_false, loopE_done, loopE_ret]
  rw [hM13]
  exact ⟨rfl, (Ex.trans (Ex.refl w) hE5)⟩
set_option maxRecDepth 100000 in
set_option maxHeartbeats 2000000 in
theorem c_i_Table_isRow_c1 {w : World} (p_s : Str) (o1 : okS p_s) : Cal Tryz.prog 132 #[.string (bs (p_s))] w fun v w' => v = .bool ((i_Table_isRow_c1 p_s)) ∧ Ex w w' := by
 have hol2 : p_s.length ≤ 1073741824 := o1
 refine Cal.of (vs := [.string (bs (p_s))]) Tryz.func132 rfl Tryz.ntmps132 rfl (CW.seq (CW.region (sd rfl (yl_assign rfl rfl (SeqR.done (tn (CW.seq (CW.region (sd rfl (yl_move rfl rfl ?_))))))))))
 refine sd rfl (yl_call Tryz.en121 rfl (opvs_cons rfl opvs_nil) (Cal.mono (c_i_isField p_s o1) ?_))
 rintro v4 w3 ⟨rfl, hE5⟩
 have hE5z := Ex.size hE5
 refine sd rfl (yl_not rfl rfl (sd rfl (yl_assign rfl rfl (SeqR.done (tn (CW.ret (rr rfl (.cons rfl .nil) ?_)))))))
 have hM6 : (i_Table_isRow_c1 p_s) = (!(i_isField p_s)) := by simp only [i_Table_isRow_c1, cond_true, cond_false, loopE_done, loopE_ret]
 rw [hM6]
 exact ⟨rfl, (Ex.trans (Ex.refl w) hE5)⟩
set_option maxRecDepth 100000 in
set_option maxHeartbeats 2000000 in
theorem c_i_Table_isRow {A1 : Option Addr} {c1 : Nat} {A2 : Option Addr} {c2 : Nat} {A4 : Option Addr} {c4 : Nat} {w : World} (p_t : DTable) (p_r : DRow) (h1 : RdS w (Iv 0 w.heap.size) (RF e_Str) 1 A1 p_t.Cols.length c1 p_t.Cols) (h2 : RdS w (Iv 0 w.heap.size) (RF e_Idx) 3 A2 p_t.Idxs.length c2 p_t.Idxs) (h4 : RdS w (Iv 0 w.heap.size) (RF e_Str) 1 A4 p_r.Vals.length c4 p_r.Vals) (o3 : ok_Table p_t) (o5 : ok_Row p_r) : Cal Tryz.prog 104 #[.agg #[.string (bs (p_t.Name)), .slice A1 p_t.Cols.length c1, .slice A2 p_t.Idxs.length c2], .agg #[.slice A4 p_r.Vals.length c4]] w fun v w' => v = .bool ((i_Table_isRow p_t p_r)) ∧ Ex w w' := by
 have hol6 : p_t.Name.length ≤ 1073741824 := o3.1
 have hol7 := o3.2.1.1
 have hol8 := o3.2.2.1
 have hol9 := o5.1
 refine Cal.of (vs := [.agg #[.string (bs (p_t.Name)), .slice A1 p_t.Cols.length c1, .slice A2 p_t.Idxs.length c2], .agg #[.slice A4 p_r.Vals.length c4]]) Tryz.func104 rfl Tryz.ntmps104 rfl (CW.seq (CW.region (sd rfl (yl_box (cs := [.string (bs (p_t.Name)), .slice A1 p_t.Cols.length c1, .slice A2 p_t.Idxs.length c2]) rfl rfl rfl ?_))))
 intro b10 w11 hs12 hz13 hB14 hE15
 refine sd rfl (yl_box (cs := [.slice A4 p_r.Vals.length c4]) rfl rfl rfl ?_)
 intro b16 w17 hs18 hz19 hB20 hE21
 refine sd rfl (yl_assign rfl rfl (SeqR.done (tn (CW.seq (CW.region (sd rfl (yl_fieldAddr Tryz.fd80_0 rfl rfl (sd rfl (yl_load1 Tryz.ty22 rfl rfl ((hB20.cell 0).trans rfl) (sd rfl (yl_len Tryz.un22 rfl rfl (sd rfl (yl_fieldAddr Tryz.fd34_1 rfl rfl ?_)))))))))))))
 refine sd rfl (yl_load1 Tryz.ty22 rfl rfl (((Box.ex hB14 hE21).cell 1).trans rfl) (sd rfl (yl_len Tryz.un22 rfl rfl (sd rfl (yl_eql rfl rfl rfl (sd rfl (yl_move rfl rfl (bcase (decide ((p_r.Vals.length : Int) = (p_t.Cols.length : Int))) (fun hb23 => ?_) (fun hb23 => ?_)))))))))
 ·have hb23p := dec_t hb23
  refine sy rfl rfl hb23 (yl_fieldAddr Tryz.fd80_0 rfl rfl (sy rfl rfl hb23 (yl_load1 Tryz.ty22 rfl rfl ((hB20.cell 0).trans rfl) (sy rfl rfl hb23 (yl_call Tryz.en131 rfl (opvs_cons rfl (opvs_cons rfl opvs_nil)) (Cal.mono (c_g_slices_ContainsFunc_string p_r.Vals (fun y0 => i_Table_isRow_c1 y0) (RdS.up (RdS.ex good_Str (RdS.ex good_Str h4 hE15) hE21) good_Str) Tryz.en132 (fun _ y0 => fun hE hm0 ov0 => c_i_Table_isRow_c1 y0 ov0) o5) ?_))))))
  rintro v27 w26 ⟨rfl, hE28⟩
  have hE28z := Ex.size hE28
  refine sy rfl rfl hb23 (yl_not rfl rfl (sd rfl (yl_pick_t rfl rfl hb23 rfl (sd rfl (yl_assign rfl rfl (SeqR.done (tn (CW.ret (rr rfl (.cons rfl .nil) ?_)))))))))
  have hM29 : (i_Table_isRow p_t p_r) = (!(g_slices_ContainsFunc_string p_r.Vals (fun y0 => i_Table_isRow_c1 y0))) := by simp only [i_Table_isRow, hb23, cond_true, cond_false, loopE_done, loopE_ret]
  rw [hM29]
  exact ⟨rfl, (Ex.trans (Ex.trans (Ex.trans (Ex.refl w) hE15) hE21) hE28)⟩
 ·have hb23p := dec_f hb23
  refine sz rfl rfl hb23 (sz rfl rfl hb23 (sz rfl rfl hb23 (sz rfl rfl hb23 (sd rfl (yl_pick_f rfl rfl hb23 rfl (sd rfl (yl_assign rfl rfl (SeqR.done (tn (CW.ret ?_))))))))))
  refine rr rfl (.cons rfl .nil) ?_
  have hM33 : (i_Table_isRow p_t p_r) = (false) := by simp only [i_Table_isRow, hb23, cond_true, cond_false, loopE_done, loopE_ret]
  rw [hM33]
  exact ⟨rfl, (Ex.trans (Ex.trans (Ex.refl w) hE15) hE21)⟩
end Go.Proofs.YtdbobbmagmcpnaaGreatDoor
