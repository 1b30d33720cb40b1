/- New Shift: what each call returns, part 2. -/
import Derived.Test.YtdbobbmagmcpnaaNewShiftC1
set_option linter.unusedVariables false
set_option linter.unusedSimpArgs false
namespace Go.Proofs.Ytdbobbmagmcpnaa
open Go.RowKit Go.X
set_option maxRecDepth 100000 in
set_option maxHeartbeats 2000000 in
theorem c_s_l24Own {A1 : Option Addr} {c1 : Nat} {A2 : Option Addr} {c2 : Nat} {w : World} (p_t : DTable) (h1 : RdS w (Iv 0 w.heap.size) (RF e_Str) 1 A1 p_t.Cols.length c1 p_t.Cols) (h2 : RdS w (Iv 0 w.heap.size) (RF e_Idx) 3 A2 p_t.Idxs.length c2 p_t.Idxs) (o3 : ok_Table p_t) : Cal Try.prog 137 #[.agg #[.string (bs (p_t.Name)), .slice A1 p_t.Cols.length c1, .slice A2 p_t.Idxs.length c2]] w fun v w' => ∃ A_1 c_1 lo_1 hi_1 A_2 c_2 lo_2 hi_2, v = .agg #[.string (bs ((s_l24Own p_t).Name)), .slice A_1 (((s_l24Own p_t).Cols).length) c_1, .slice A_2 (((s_l24Own p_t).Idxs).length) c_2] ∧ OwnL w' lo_1 hi_1 9 1 (RF e_Str) A_1 (((s_l24Own p_t).Cols).length) c_1 ((s_l24Own p_t).Cols) ∧ OwnL w' lo_2 hi_2 171 3 (RF e_Idx) A_2 (((s_l24Own p_t).Idxs).length) c_2 ((s_l24Own p_t).Idxs) ∧ ok_Table (s_l24Own p_t) ∧ (w.heap.size ≤ lo_1 ∧ lo_1 ≤ hi_1 ∧ hi_1 ≤ w'.heap.size) ∧ (w.heap.size ≤ lo_2 ∧ lo_2 ≤ hi_2 ∧ hi_2 ≤ w'.heap.size) ∧ (hi_1 ≤ lo_2 ∨ hi_2 ≤ lo_1) ∧ Ex w w' := by
 have hol4 : p_t.Name.length ≤ 1073741824 := o3.1
 have hol5 := o3.2.1.1
 have hol6 := o3.2.2.1
 refine Cal.of (vs := [.agg #[.string (bs (p_t.Name)), .slice A1 p_t.Cols.length c1, .slice A2 p_t.Idxs.length c2]]) Try.func137 rfl Try.ntmps137 rfl (CW.seq (CW.region (sd rfl (yl_box (cs := [.string (bs (p_t.Name)), .slice A1 p_t.Cols.length c1, .slice A2 p_t.Idxs.length c2]) rfl rfl rfl ?_))))
 intro b7 w8 hs9 hz10 hB11 hE12
 refine sd rfl (yl_alloc Try.ty36 (cs := [.string (bs (([] : Str))), .slice none 0 0, .slice none 0 0]) rfl rfl ?_)
 intro b13 w14 hs15 hz16 hB17 hE18
 refine SeqR.done (tn (CW.seq ?_))
 have q19 := Box.ex hB11 hE18
 refine CW.drawsI 10 (vgetI [DetI (.pointer (some ⟨b7, 0 + 0, none⟩)), DetI (.string (bs (p_t.Name))), fun lo hi v wq => ∃ A20, v = .slice A20 0 0 ∧ OwnL wq w14.heap.size w14.heap.size 9 1 (RF e_Str) A20 0 0 ([] : List Str), DetI (.pointer (some ⟨b7, 0 + 1, none⟩)), DetI (.slice A1 p_t.Cols.length c1), fun lo hi v wq => ∃ A22 c23, v = .slice A22 ((([] : List Str) ++ p_t.Cols).length) c23 ∧ OwnL wq lo hi 9 1 (RF e_Str) A22 ((([] : List Str) ++ p_t.Cols).length) c23 (([] : List Str) ++ p_t.Cols), fun lo hi v wq => ∃ A25, v = .slice A25 0 0 ∧ OwnL wq w14.heap.size w14.heap.size 171 3 (RF e_Idx) A25 0 0 ([] : List DIdx), DetI (.pointer (some ⟨b7, 0 + 2, none⟩)), DetI (.slice A2 p_t.Idxs.length c2), fun lo hi v wq => ∃ A27 c28, v = .slice A27 ((([] : List DIdx) ++ p_t.Idxs).length) c28 ∧ OwnL wq lo hi 171 3 (RF e_Idx) A27 ((([] : List DIdx) ++ p_t.Idxs).length) c28 (([] : List DIdx) ++ p_t.Idxs)]) Try.follows rfl rfl rfl rfl rfl rfl (vgetI_stable ⟨StableI.det _, StableI.det _, (fun _ _ _ _ _ ⟨A20, hv, hO21⟩ e => ⟨A20, hv, OwnL.ex good_Str hO21 e⟩), StableI.det _, StableI.det _, (fun _ _ _ _ _ ⟨A22, c23, hv, hO⟩ e => ⟨A22, c23, hv, OwnL.ex good_Str hO e⟩), (fun _ _ _ _ _ ⟨A25, hv, hO26⟩ e => ⟨A25, hv, OwnL.ex good_Idx hO26 e⟩), StableI.det _, StableI.det _, (fun _ _ _ _ _ ⟨A27, c28, hv, hO⟩ e => ⟨A27, c28, hv, OwnL.ex good_Idx hO e⟩), trivial⟩) ⟨?_, ?_, ?_, ?_, ?_, ?_, ?_, ?_, ?_, ?_, trivial⟩ ?_
 ·exact fun _ _ h => os rfl ((yl_fieldAddr Try.fd36_0 rfl (h.old 1 _ rfl rfl) kI))
 ·exact fun _ _ h => os rfl ((yl_load1 Try.ty9 rfl (h.dt 0 3 rfl rfl rfl) (((Box.ex q19 h.ex).cell 0).trans rfl) kI))
 ·intro L41 w42 hi43
  refine OpR.op' rfl (yl_buildSlice (cs := []) Try.un22 Try.ty9 (by decide) rfl opvs_nil (by kernel_rfl) ?_)
  intro b45 w46 hs47 hz48 hB49 hE50
  have hO51 : OwnL w46 b45 (b45 + 1) 9 1 (RF e_Str) (some ⟨b45, 0, none⟩) 0 0 ([] : List Str) := OwnL.of_box (S := fun _ => False) hB49 (Nat.le_refl _) (Nat.lt_succ_self _) EncL.nil (Nat.le_of_ble_eq_true rfl) (fun h => h) (fun _ h => False.elim h)
  exact ⟨⟨_, rfl, OwnL.empty _ _ _ _ _ _ _⟩, hE50⟩
 ·exact fun _ _ h => os rfl ((yl_fieldAddr Try.fd36_1 rfl (h.old 1 _ rfl rfl) kI))
 ·exact fun _ _ h => os rfl ((yl_load1 Try.ty22 rfl (h.dt 3 6 rfl rfl rfl) (((Box.ex q19 h.ex).cell 1).trans rfl) kI))
 ·intro L63 w64 hi65
  have hE66 := hi65.ex
  have hE66z := Ex.size hE66
  obtain ⟨lo68, hh69, _, hx67, hr70, hr71, hr72, A20_73, rfl, h74⟩ := hi65.dep 2 5 rfl rfl
  obtain ⟨nw79, he80, hs81⟩ := RdS.src (RdS.ex good_Str (RdS.ex good_Str (RdS.ex good_Str h1 hE12) hE18) hE66)
  have hol82 : p_t.Cols.length ≤ 1073741824 := o3.2.1.1
  refine OpR.op' rfl (yl_appendL (S := (fun _ => False)) (lo := w64.heap.size) (hi := w64.heap.size) (xs := ([] : List Str)) (ys := p_t.Cols) good_Str Try.un22 Try.ty9 rfl (Nat.le_of_ble_eq_true rfl) rfl hx67 (hi65.dt 4 7 rfl rfl rfl) (OwnL.empty w64 w64.heap.size w64.heap.size 9 1 (RF e_Str) A20_73) he80 hs81 rfl (by first | omega | (simp only [List.length_append, List.length_cons, List.length_nil, List.length_take, List.length_drop, List.length_replicate, List.length_set, toS_length]; omega)) (by first | omega | (simp only [List.length_append, List.length_cons, List.length_nil, List.length_take, List.length_drop, List.length_replicate, List.length_set, toS_length]; omega)) (by omega) (by omega) (fun _ h _ => False.elim h) (by omega) ?_)
  intro A83 c84 w85 row86 hO87 hG88 hrg89
  have hG88z := hG88.size
  exact ⟨⟨A83, c84, rfl, OwnL.more hO87 (by omega) (by omega)⟩, Below.grown (Ex.refl _) hG88 (Nat.le_refl _) (fun k hk => by have := hrg89 k hk; omega)⟩
 ·intro L90 w91 hi92
  refine OpR.op' rfl (yl_buildSlice (cs := []) Try.un34 Try.ty171 (by decide) rfl opvs_nil (by kernel_rfl) ?_)
  intro b94 w95 hs96 hz97 hB98 hE99
  have hO100 : OwnL w95 b94 (b94 + 1) 171 3 (RF e_Idx) (some ⟨b94, 0, none⟩) 0 0 ([] : List DIdx) := OwnL.of_box (S := fun _ => False) hB98 (Nat.le_refl _) (Nat.lt_succ_self _) EncL.nil (Nat.le_of_ble_eq_true rfl) (fun h => h) (fun _ h => False.elim h)
  exact ⟨⟨_, rfl, OwnL.empty _ _ _ _ _ _ _⟩, hE99⟩
 ·exact fun _ _ h => os rfl ((yl_fieldAddr Try.fd36_2 rfl (h.old 1 _ rfl rfl) kI))
 ·exact fun _ _ h => os rfl ((yl_load1 Try.ty34 rfl (h.dt 7 10 rfl rfl rfl) (((Box.ex q19 h.ex).cell 2).trans rfl) kI))
 ·intro L112 w113 hi114
  have hE115 := hi114.ex
  have hE115z := Ex.size hE115
  obtain ⟨lo117, hh118, _, hx116, hr119, hr120, hr121, A25_122, rfl, h123⟩ := hi114.dep 6 9 rfl rfl
  obtain ⟨nw128, he129, hs130⟩ := RdS.src (RdS.ex good_Idx (RdS.ex good_Idx (RdS.ex good_Idx h2 hE12) hE18) hE115)
  have hol131 : p_t.Idxs.length ≤ 1073741824 := o3.2.2.1
  refine OpR.op' rfl (yl_appendL (S := (fun _ => False)) (lo := w113.heap.size) (hi := w113.heap.size) (xs := ([] : List DIdx)) (ys := p_t.Idxs) good_Idx Try.un34 Try.ty171 rfl (Nat.le_of_ble_eq_true rfl) rfl hx116 (hi114.dt 8 11 rfl rfl rfl) (OwnL.empty w113 w113.heap.size w113.heap.size 171 3 (RF e_Idx) A25_122) he129 hs130 rfl (by first | omega | (simp only [List.length_append, List.length_cons, List.length_nil, List.length_take, List.length_drop, List.length_replicate, List.length_set, toS_length]; omega)) (by first | omega | (simp only [List.length_append, List.length_cons, List.length_nil, List.length_take, List.length_drop, List.length_replicate, List.length_set, toS_length]; omega)) (by omega) (by omega) (fun _ h _ => False.elim h) (by omega) ?_)
  intro A132 c133 w134 row135 hO136 hG137 hrg138
  have hG137z := hG137.size
  exact ⟨⟨A132, c133, rfl, OwnL.more hO136 (by omega) (by omega)⟩, Below.grown (Ex.refl _) hG137 (Nat.le_refl _) (fun k hk => by have := hrg138 k hk; omega)⟩
 ·intro fl142 fh143 L139 w140 hp141
  have hE144 := hp141.ex
  have hE144z := Ex.size hE144
  have hx145 := hp141.old 2 _ rfl rfl
  have hr148 := hp141.rng 5 rfl
  obtain ⟨_, hx147, A22_149, c23_150, rfl, h151⟩ := hp141.new 5 8 rfl rfl
  have hr153 := hp141.rng 9 rfl
  have hsp154 := hp141.sep 5 9 rfl rfl rfl
  obtain ⟨_, hx152, A27_155, c28_156, rfl, h157⟩ := hp141.new 9 12 rfl rfl
  refine sd rfl (yl_build (cs := [.string (bs (p_t.Name)), .slice A22_149 ((([] : List Str) ++ p_t.Cols).length) c23_150, .slice A27_155 ((([] : List DIdx) ++ p_t.Idxs).length) c28_156]) rfl (opvs_cons (hp141.nt 1 4 rfl rfl rfl) (opvs_cons hx147 (opvs_cons hx152 opvs_nil))) (by kernel_rfl) (SeqR.u rfl rfl (yl_store (vs := [.string (bs (p_t.Name)), .slice A22_149 ((([] : List Str) ++ p_t.Cols).length) c23_150, .slice A27_155 ((([] : List DIdx) ++ p_t.Idxs).length) c28_156]) Try.ty36 rfl hx145 rfl rfl rfl rfl (Box.ex hB17 hE144) (Nat.le_of_ble_eq_true rfl) ?_)))
  intro w159 hB160 hO161
  have hB160 : Box w159 b13 36 [.string (bs (p_t.Name)), .slice A22_149 ((([] : List Str) ++ p_t.Cols).length) c23_150, .slice A27_155 ((([] : List DIdx) ++ p_t.Idxs).length) c28_156] := hB160
  have hO161z := hO161.size
  refine SeqR.done (tn (CW.sub (Sub.cons (d := 2) hx145 (Sub.nil _)) (CW.ret (rr rfl (.cons ⟨_, rfl, run_loadN Try.ty36 (cs := [.string (bs (p_t.Name)), .slice A22_149 ((([] : List Str) ++ p_t.Cols).length) c23_150, .slice A27_155 ((([] : List DIdx) ++ p_t.Idxs).length) c28_156]) rfl (hB160.cells (n := 3) rfl)⟩ .nil) ?_))))
  have hM162 : (s_l24Own p_t) = ((⟨p_t.Name, (([] : List Str) ++ p_t.Cols), (([] : List DIdx) ++ p_t.Idxs)⟩ : DTable)) := by simp only [s_l24Own, cond_true, cond_false, loopE_done, loopE_ret]
  have hol165 : p_t.Cols.length ≤ 1073741824 := o3.2.1.1
  have hol166 : p_t.Idxs.length ≤ 1073741824 := o3.2.2.1
  rw [hM162]
  exact ⟨A22_149, c23_150, (fl142 5), (fh143 5), A27_155, c28_156, (fl142 9), (fh143 9), rfl, (OwnL.only good_Str h151 hO161 (by omega)), (OwnL.only good_Idx h157 hO161 (by omega)), ⟨o3.1, (okL.mk (xs := (([] : List Str) ++ p_t.Cols)) (by first | omega | (simp only [List.length_append, List.length_cons, List.length_nil, List.length_take, List.length_drop, List.length_replicate, List.length_set, toS_length]; omega)) (okE.append okE.nil (o3.2.1).2)), (okL.mk (xs := (([] : List DIdx) ++ p_t.Idxs)) (by first | omega | (simp only [List.length_append, List.length_cons, List.length_nil, List.length_take, List.length_drop, List.length_replicate, List.length_set, toS_length]; omega)) (okE.append okE.nil (o3.2.2).2))⟩, (by omega), (by omega), (by omega), (Below.only (Ex.trans (Ex.trans (Ex.trans (Ex.refl w) hE12) hE18) hE144) hO161 (by omega))⟩
set_option maxRecDepth 100000 in
set_option maxHeartbeats 2000000 in
theorem c_s_l27Own {A1 : Option Addr} {c1 : Nat} {A2 : Option Addr} {c2 : Nat} {A3 : Option Addr} {c3 : Nat} {w : World} (p_c : DShift) (h1 : RdS w (Iv 0 w.heap.size) R_Table 3 A1 p_c.Ways.length c1 p_c.Ways) (h2 : RdS w (Iv 0 w.heap.size) (RF e_Int) 1 A2 p_c.At.length c2 p_c.At) (h3 : RdS w (Iv 0 w.heap.size) (RF e_Write) 3 A3 p_c.Store.length c3 p_c.Store) (o4 : ok_Shift p_c) : Cal Try.prog 74 #[.agg #[.string (bs (p_c.Name)), .slice A1 p_c.Ways.length c1, .slice A2 p_c.At.length c2, .slice A3 p_c.Store.length c3]] w fun v w' => ∃ A_1 c_1 lo_1 hi_1 A_2 c_2 A_3 c_3, v = .agg #[.string (bs ((s_l27Own p_c).Name)), .slice A_1 (((s_l27Own p_c).Ways).length) c_1, .slice A_2 (((s_l27Own p_c).At).length) c_2, .slice A_3 (((s_l27Own p_c).Store).length) c_3] ∧ OwnD w' lo_1 hi_1 36 3 RO_Table A_1 (((s_l27Own p_c).Ways).length) c_1 ((s_l27Own p_c).Ways) ∧ RdS w' (Iv w.heap.size w'.heap.size) (RF e_Int) 1 A_2 ((s_l27Own p_c).At).length c_2 ((s_l27Own p_c).At) ∧ RdS w' (Iv w.heap.size w'.heap.size) (RF e_Write) 3 A_3 ((s_l27Own p_c).Store).length c_3 ((s_l27Own p_c).Store) ∧ ok_Shift (s_l27Own p_c) ∧ (w.heap.size ≤ lo_1 ∧ lo_1 ≤ hi_1 ∧ hi_1 ≤ w'.heap.size) ∧ Ex w w' := by
 have hol5 : p_c.Name.length ≤ 1073741824 := o4.1
 have hol6 := o4.2.1.1
 have hol7 := o4.2.2.1.1
 have hol8 := o4.2.2.2.1
 refine Cal.of (vs := [.agg #[.string (bs (p_c.Name)), .slice A1 p_c.Ways.length c1, .slice A2 p_c.At.length c2, .slice A3 p_c.Store.length c3]]) Try.func74 rfl Try.ntmps74 rfl (CW.seq (CW.region (sd rfl (yl_box (cs := [.string (bs (p_c.Name)), .slice A1 p_c.Ways.length c1, .slice A2 p_c.At.length c2, .slice A3 p_c.Store.length c3]) rfl rfl rfl ?_))))
 intro b9 w10 hs11 hz12 hB13 hE14
 refine sd rfl (yl_alloc Try.ty50 (cs := [.string (bs (([] : Str))), .slice none 0 0, .slice none 0 0, .slice none 0 0]) rfl rfl ?_)
 intro b15 w16 hs17 hz18 hB19 hE20
 refine SeqR.done (tn (CW.seq ?_))
 have q21 := Box.ex hB13 hE20
 refine CW.drawsG 11 (fun _ _ => False) (fun _ _ _ => False) (vgetG [DetG (.pointer (some ⟨b9, 0 + 0, none⟩)), DetG (.string (bs (p_c.Name))), DetG (.pointer (some ⟨b9, 0 + 2, none⟩)), DetG (.slice A2 p_c.At.length c2), fun G v wq => ∃ A25 c25 lo25 hi25, v = .slice A25 ((s_l1Own p_c.At).length) c25 ∧ OwnL wq lo25 hi25 3 1 (RF e_Int) A25 ((s_l1Own p_c.At).length) c25 (s_l1Own p_c.At) ∧ (okL okT) (s_l1Own p_c.At) ∧ ((G.fl 4) ≤ lo25 ∧ lo25 ≤ hi25 ∧ hi25 ≤ (G.fh 4)), fun G v wq => ∃ A27, v = .slice A27 0 0 ∧ OwnL wq w16.heap.size w16.heap.size 31 3 (RF e_Write) A27 0 0 ([] : List DWrite), DetG (.pointer (some ⟨b9, 0 + 3, none⟩)), DetG (.slice A3 p_c.Store.length c3), fun G v wq => ∃ A30 c31, v = .slice A30 ((([] : List DWrite) ++ p_c.Store).length) c31 ∧ OwnL wq (G.fl 8) (G.fh 8) 31 3 (RF e_Write) A30 ((([] : List DWrite) ++ p_c.Store).length) c31 (([] : List DWrite) ++ p_c.Store), fun G v wq => ∃ A25 c25 A30 c31, v = .agg #[.string (bs (p_c.Name)), .slice none 0 0, .slice A25 ((s_l1Own p_c.At).length) c25, .slice A30 ((([] : List DWrite) ++ p_c.Store).length) c31] ∧ RdS wq (Iv (G.fl 4) (G.fh 4)) (RF e_Int) 1 A25 (s_l1Own p_c.At).length c25 (s_l1Own p_c.At) ∧ RdS wq (Iv (G.fl 8) (G.fh 8)) (RF e_Write) 3 A30 (([] : List DWrite) ++ p_c.Store).length c31 (([] : List DWrite) ++ p_c.Store), fun G v wq => v = .pointer (some ⟨(G.fl 10), 0, none⟩) ∧ Box wq (G.fl 10) 50 [.string (bs (([] : Str))), .slice none 0 0, .slice none 0 0, .slice none 0 0] ∧ (G.fl 10) < (G.fh 10)]) Try.follows rfl rfl rfl rfl rfl rfl (fun _ _ _ _ _ h => h) (fun _ _ _ _ _ _ _ _ _ h => h.elim) (vgetG_kept ⟨(KeptG.det _), (KeptG.det _), (KeptG.det _), (KeptG.det _), (by rintro i G v w w' K hn hh hj ⟨A25, c25, lo25, hi25, hv, h0, h1, hr0⟩ e; have d4 : G.dn 4 = true := hj; have u4 := Gh.ufl (lo := w.heap.size) (hi := w'.heap.size) d4 hn; have t4 := Gh.ufh (lo := w.heap.size) (hi := w'.heap.size) d4 hn; exact ⟨A25, c25, lo25, hi25, hv, (by exact OwnL.chg good_Int h0 e (fun b hb hp => by exact hp.elim)), h1, (by simp only [u4, t4]; exact hr0)⟩), (by rintro i G v w w' K hn hh hj ⟨A27, hv, h0⟩ e; exact ⟨A27, hv, (by exact OwnL.chg good_Write h0 e (fun b hb hp => by exact hp.elim))⟩), (KeptG.det _), (KeptG.det _), (by rintro i G v w w' K hn hh hj ⟨A30, c31, hv, h0⟩ e; have d8 : G.dn 8 = true := hj; have u8 := Gh.ufl (lo := w.heap.size) (hi := w'.heap.size) d8 hn; have t8 := Gh.ufh (lo := w.heap.size) (hi := w'.heap.size) d8 hn; exact ⟨A30, c31, hv, (by simp only [u8, t8]; exact OwnL.chg good_Write h0 e (fun b hb hp => by exact hp.elim))⟩), (by rintro i G v w w' K hn hh hj ⟨A25, c25, A30, c31, hv, h0, h1⟩ e; have d4 : G.dn 4 = true := K.cl 9 4 hj rfl; have u4 := Gh.ufl (lo := w.heap.size) (hi := w'.heap.size) d4 hn; have t4 := Gh.ufh (lo := w.heap.size) (hi := w'.heap.size) d4 hn; have d8 : G.dn 8 = true := K.cl 9 8 hj rfl; have u8 := Gh.ufl (lo := w.heap.size) (hi := w'.heap.size) d8 hn; have t8 := Gh.ufh (lo := w.heap.size) (hi := w'.heap.size) d8 hn; exact ⟨A25, c25, A30, c31, hv, (by simp only [u4, t4, u8, t8]; exact RdS.chg good_Int h0 e (fun b hb hp hS => by have hS1 := hS.1; have hS2 := hS.2; exact hp.elim)), (by simp only [u4, t4, u8, t8]; exact RdS.chg good_Write h1 e (fun b hb hp hS => by have hS1 := hS.1; have hS2 := hS.2; exact hp.elim))⟩), (by rintro i G v w w' K hn hh hj ⟨hv, h0, he0⟩ e; have d10 : G.dn 10 = true := hj; have u10 := Gh.ufl (lo := w.heap.size) (hi := w'.heap.size) d10 hn; have t10 := Gh.ufh (lo := w.heap.size) (hi := w'.heap.size) d10 hn; exact ⟨(by simp only [u10, t10]; exact hv), (by simp only [u10, t10]; exact Box.chg h0 e (fun hp => by exact hp.elim)), (by simp only [u10, t10]; exact he0)⟩), trivial⟩) ⟨?_, ?_, ?_, ?_, ?_, ?_, ?_, ?_, ?_, ?_, ?_, trivial⟩ ?_
 ·intro L37 w38 G36 hgk39
  have hE40 := hgk39.st.ex.ex (fun b h => h.elim (fun h => h.elim) (fun h => h))
  have hE40z := Ex.size hE40
  exact OpR.op' rfl (Yl.sameG (yl_fieldAddr Try.fd50_0 rfl (hgk39.old 1 _ rfl rfl) kI))
 ·intro L43 w44 G42 hgk45
  have hE46 := hgk45.st.ex.ex (fun b h => h.elim (fun h => h.elim) (fun h => h))
  have hE46z := Ex.size hE46
  obtain ⟨_, hx47, rfl⟩ := hgk45.val 0 6 rfl rfl
  exact OpR.op' rfl (Yl.sameG (yl_load1 Try.ty9 rfl hx47 (((Box.ex q21 hE46).cell 0).trans rfl) kI))
 ·intro L50 w51 G49 hgk52
  have hE53 := hgk52.st.ex.ex (fun b h => h.elim (fun h => h.elim) (fun h => h))
  have hE53z := Ex.size hE53
  exact OpR.op' rfl (Yl.sameG (yl_fieldAddr Try.fd50_2 rfl (hgk52.old 1 _ rfl rfl) kI))
 ·intro L56 w57 G55 hgk58
  have hE59 := hgk58.st.ex.ex (fun b h => h.elim (fun h => h.elim) (fun h => h))
  have hE59z := Ex.size hE59
  obtain ⟨_, hx60, rfl⟩ := hgk58.val 2 8 rfl rfl
  exact OpR.op' rfl (Yl.sameG (yl_load1 Try.ty47 rfl hx60 (((Box.ex q21 hE59).cell 2).trans rfl) kI))
 ·intro L63 w64 G62 hgk65
  have hE66 := hgk65.st.ex.ex (fun b h => h.elim (fun h => h.elim) (fun h => h))
  have hE66z := Ex.size hE66
  obtain ⟨_, hx67, rfl⟩ := hgk65.val 3 9 rfl rfl
  refine OpR.op' rfl (yl_call Try.en136 rfl (opvs_cons hx67 opvs_nil) (Cal.mono (c_s_l1Own p_c.At (RdS.up (RdS.ex good_Int (RdS.ex good_Int (RdS.ex good_Int h2 hE14) hE20) hE66) good_Int) o4.2.2.1) ?_))
  rintro v72 w69 ⟨A70, c70, lo70, hi70, rfl, h70, ho71, hrn74, hE73⟩
  exact ⟨Chg.of_ex hE73, A70, c70, lo70, hi70, rfl, h70, ho71, hrn74⟩
 ·intro L76 w77 G75 hgk78
  have hE79 := hgk78.st.ex.ex (fun b h => h.elim (fun h => h.elim) (fun h => h))
  have hE79z := Ex.size hE79
  refine OpR.op' rfl (yl_buildSlice (cs := []) Try.un48 Try.ty31 (by decide) rfl opvs_nil (by kernel_rfl) ?_)
  intro b80 w81 hs82 hz83 hB84 hE85
  have hO86 : OwnL w81 b80 (b80 + 1) 31 3 (RF e_Write) (some ⟨b80, 0, none⟩) 0 0 ([] : List DWrite) := OwnL.of_box (S := fun _ => False) hB84 (Nat.le_refl _) (Nat.lt_succ_self _) EncL.nil (Nat.le_of_ble_eq_true rfl) (fun h => h) (fun _ h => False.elim h)
  exact ⟨Chg.of_ex hE85, _, rfl, OwnL.empty _ _ _ _ _ _ _⟩
 ·intro L88 w89 G87 hgk90
  have hE91 := hgk90.st.ex.ex (fun b h => h.elim (fun h => h.elim) (fun h => h))
  have hE91z := Ex.size hE91
  exact OpR.op' rfl (Yl.sameG (yl_fieldAddr Try.fd50_3 rfl (hgk90.old 1 _ rfl rfl) kI))
 ·intro L94 w95 G93 hgk96
  have hE97 := hgk96.st.ex.ex (fun b h => h.elim (fun h => h.elim) (fun h => h))
  have hE97z := Ex.size hE97
  obtain ⟨_, hx98, rfl⟩ := hgk96.val 6 12 rfl rfl
  exact OpR.op' rfl (Yl.sameG (yl_load1 Try.ty48 rfl hx98 (((Box.ex q21 hE97).cell 3).trans rfl) kI))
 ·intro L101 w102 G100 hgk103
  have hE104 := hgk103.st.ex.ex (fun b h => h.elim (fun h => h.elim) (fun h => h))
  have hE104z := Ex.size hE104
  obtain ⟨_, hx105, A27_106, rfl, h107⟩ := hgk103.val 5 11 rfl rfl
  obtain ⟨_, hx108, rfl⟩ := hgk103.val 7 13 rfl rfl
  have hr109 := hgk103.st.rng 5 (hgk103.has 5 rfl)
  obtain ⟨nw113, he114, hs115⟩ := RdS.src (RdS.ex good_Write (RdS.ex good_Write (RdS.ex good_Write h3 hE14) hE20) hE104)
  have hol116 : p_c.Store.length ≤ 1073741824 := o4.2.2.2.1
  refine OpR.op' rfl (yl_appendL (S := (fun _ => False)) (lo := w102.heap.size) (hi := w102.heap.size) (xs := ([] : List DWrite)) (ys := p_c.Store) good_Write Try.un48 Try.ty31 rfl (Nat.le_of_ble_eq_true rfl) rfl hx105 hx108 (OwnL.empty w102 w102.heap.size w102.heap.size 31 3 (RF e_Write) A27_106) he114 hs115 rfl (by first | omega | (simp only [List.length_append, List.length_cons, List.length_nil, List.length_take, List.length_drop, List.length_replicate, List.length_set, toS_length]; omega)) (by first | omega | (simp only [List.length_append, List.length_cons, List.length_nil, List.length_take, List.length_drop, List.length_replicate, List.length_set, toS_length]; omega)) (by omega) (by omega) (fun _ h _ => False.elim h) (by omega) ?_)
  intro A117 c118 w119 row120 hO121 hG122 hrg123
  have hG122z := hG122.size
  exact ⟨Chg.of_grown hG122 (fun k hk => by have hq := hrg123 k hk; exact absurd hq (by omega)), A117, c118, rfl, OwnL.more (lo' := w102.heap.size) (hi' := w119.heap.size) hO121 (by omega) (by omega)⟩
 ·intro L125 w126 G124 hgk127
  have hE128 := hgk127.st.ex.ex (fun b h => h.elim (fun h => h.elim) (fun h => h))
  have hE128z := Ex.size hE128
  obtain ⟨_, hx129, rfl⟩ := hgk127.val 1 7 rfl rfl
  obtain ⟨_, hx130, A25_131, c25_132, lo25_133, hi25_134, rfl, h135, h136, hrn137⟩ := hgk127.val 4 10 rfl rfl
  obtain ⟨_, hx138, A30_139, c31_140, rfl, h141⟩ := hgk127.val 8 14 rfl rfl
  have hr142 := hgk127.st.rng 4 (hgk127.has 4 rfl)
  have hr143 := hgk127.st.rng 8 (hgk127.has 8 rfl)
  have hsp144 := hgk127.st.ord 8 4 (hgk127.has 8 rfl) rfl
  exact OpR.op' rfl (Yl.sameG (yl_build (cs := [.string (bs (p_c.Name)), .slice none 0 0, .slice A25_131 ((s_l1Own p_c.At).length) c25_132, .slice A30_139 ((([] : List DWrite) ++ p_c.Store).length) c31_140]) rfl (opvs_cons hx129 (opvs_cons hx130 (opvs_cons hx138 opvs_nil))) (by kernel_rfl) ⟨fun _ _ => ⟨A25_131, c25_132, A30_139, c31_140, rfl, (RdS.wide (S' := (Iv (G124.fl 4) (G124.fh 4))) good_Int (OwnL.rdI good_Int h135) (fun k hk _ => by have h1 := hk.1; have h2 := hk.2; exact ⟨by omega, by omega⟩)), (RdS.wide (S' := (Iv (G124.fl 8) (G124.fh 8))) good_Write (OwnL.rdI good_Write h141) (fun k hk _ => by have h1 := hk.1; have h2 := hk.2; exact ⟨by omega, by omega⟩))⟩, rfl⟩))
 ·intro L146 w147 G145 hgk148
  have hE149 := hgk148.st.ex.ex (fun b h => h.elim (fun h => h.elim) (fun h => h))
  have hE149z := Ex.size hE149
  refine OpR.op' rfl (yl_alloc Try.ty50 (cs := [.string (bs (([] : Str))), .slice none 0 0, .slice none 0 0, .slice none 0 0]) rfl rfl ?_)
  intro b150 w151 hs152 hz153 hB154 hE155
  subst hs152
  exact ⟨Chg.of_ex hE155, rfl, hB154, by rw [Gh.sfl, Gh.sfh]; omega⟩
 ·intro G156 L157 w158 hgp159
  have hE160 := hgp159.st.ex.ex (fun b h => h.elim (fun h => h.elim) (fun h => h))
  have hE160z := Ex.size hE160
  obtain ⟨_, hx163, A25_164, c25_165, lo25_166, hi25_167, rfl, h168, h169, hrn170⟩ := hgp159.val 4 10 rfl rfl
  obtain ⟨_, hx171, A27_172, rfl, h173⟩ := hgp159.val 5 11 rfl rfl
  obtain ⟨_, hx174, A30_175, c31_176, rfl, h177⟩ := hgp159.val 8 14 rfl rfl
  obtain ⟨_, hx178, A25_179, c25_180, A30_181, c31_182, rfl, h183, h184⟩ := hgp159.val 9 15 rfl rfl
  obtain ⟨_, hx185, rfl, h186, he187⟩ := hgp159.val 10 3 rfl rfl
  have hr188 := hgp159.st.rng 4 (hgp159.has 4 rfl)
  have hr189 := hgp159.st.rng 5 (hgp159.has 5 rfl)
  have hr190 := hgp159.st.rng 8 (hgp159.has 8 rfl)
  have hr191 := hgp159.st.rng 9 (hgp159.has 9 rfl)
  have hr192 := hgp159.st.rng 10 (hgp159.has 10 rfl)
  have hsp193 := hgp159.st.sep 4 5 (hgp159.has 4 rfl) (hgp159.has 5 rfl) rfl
  have hsp194 := hgp159.st.ord 8 4 (hgp159.has 8 rfl) rfl
  have hsp195 := hgp159.st.ord 9 4 (hgp159.has 9 rfl) rfl
  have hsp196 := hgp159.st.sep 4 10 (hgp159.has 4 rfl) (hgp159.has 10 rfl) rfl
  have hsp197 := hgp159.st.ord 8 5 (hgp159.has 8 rfl) rfl
  have hsp198 := hgp159.st.ord 9 5 (hgp159.has 9 rfl) rfl
  have hsp199 := hgp159.st.sep 5 10 (hgp159.has 5 rfl) (hgp159.has 10 rfl) rfl
  have hsp200 := hgp159.st.ord 9 8 (hgp159.has 9 rfl) rfl
  have hsp201 := hgp159.st.sep 8 10 (hgp159.has 8 rfl) (hgp159.has 10 rfl) rfl
  have hsp202 := hgp159.st.sep 9 10 (hgp159.has 9 rfl) (hgp159.has 10 rfl) rfl
  refine SeqR.u rfl rfl (yl_store (vs := [.string (bs (p_c.Name)), .slice none 0 0, .slice A25_179 ((s_l1Own p_c.At).length) c25_180, .slice A30_181 ((([] : List DWrite) ++ p_c.Store).length) c31_182]) Try.ty50 rfl hx185 hx178 rfl rfl rfl h186 (Nat.le_of_ble_eq_true rfl) ?_)
  intro w203 hB204 hO205
  have hB204 : Box w203 (G156.fl 10) 50 [.string (bs (p_c.Name)), .slice none 0 0, .slice A25_179 ((s_l1Own p_c.At).length) c25_180, .slice A30_181 ((([] : List DWrite) ++ p_c.Store).length) c31_182] := hB204
  have hO205z := hO205.size
  refine SeqR.done (tn (CW.sub (Sub.cons (d := 1) (hgp159.old 1 _ rfl rfl) (Sub.cons (d := 2) (hgp159.old 2 _ rfl rfl) (Sub.cons (d := 3) hx185 (Sub.nil _)))) (CW.seq (CW.seq (CW.region (sd rfl (yl_fieldAddr Try.fd50_1 rfl rfl (sd rfl (yl_load1 Try.ty46 rfl rfl (((Box.only (Box.ex q21 hE160) hO205 (by omega)).cell 1).trans rfl) (sd rfl (yl_len Try.un46 rfl rfl ?_)))))))))))
  refine sd rfl (yl_move rfl rfl (SeqR.done (tn (CW.block (CW.loop (fun m242 L243 w244 => ∃ (k208 : Nat) (x238 : List DTable) (A239 : Option Addr) (c240 : Nat) (u241 : Nat), m242 = p_c.Ways.length - k208 ∧ k208 ≤ p_c.Ways.length ∧ w203.heap.size ≤ w244.heap.size ∧ lkp L243 2 = some (.pointer (some ⟨b15, 0, none⟩)) ∧ lkp L243 3 = some (.pointer (some ⟨(G156.fl 10), 0, none⟩)) ∧ lkp L243 17 = some (.slice A1 p_c.Ways.length c1) ∧ lkp L243 18 = some (.int .i64 ((p_c.Ways.length : Int))) ∧ lkp L243 19 = some (.int .i64 ((k208 : Int))) ∧ Box w244 b15 50 [.string (bs (([] : Str))), .slice none 0 0, .slice none 0 0, .slice none 0 0] ∧ Box w244 (G156.fl 10) 50 [.string (bs (p_c.Name)), .slice A239 x238.length c240, .slice A25_179 ((s_l1Own p_c.At).length) c25_180, .slice A30_181 ((([] : List DWrite) ++ p_c.Store).length) c31_182] ∧ OwnD w244 w203.heap.size u241 36 3 RO_Table A239 x238.length c240 x238 ∧ RdS w244 (Iv (G156.fl 4) (G156.fh 4)) (RF e_Int) 1 A25_179 (s_l1Own p_c.At).length c25_180 (s_l1Own p_c.At) ∧ RdS w244 (Iv (G156.fl 8) (G156.fh 8)) (RF e_Write) 3 A30_181 (([] : List DWrite) ++ p_c.Store).length c31_182 (([] : List DWrite) ++ p_c.Store) ∧ RdS w244 (Iv 0 w.heap.size) R_Table 3 A1 p_c.Ways.length c1 p_c.Ways ∧ Ex w w244 ∧ (w203.heap.size ≤ u241 ∧ u241 ≤ w244.heap.size) ∧ x238.length ≤ 0 + 1 * (k208 - 0) ∧ (∀ y ∈ x238, ok_Table y) ∧ loopM (B_s_l27Own_0 p_c) (p_c.Ways.length - k208) k208 (x238) = loopM (B_s_l27Own_0 p_c) (p_c.Ways.length - 0) 0 (([] : List DTable))) (p_c.Ways.length - 0) ?_ ?_)))))
  ·exact ⟨0, ([] : List DTable), none, 0, w203.heap.size, rfl, (by omega), Nat.le_refl _, rfl, rfl, rfl, rfl, rfl, (Box.only (Box.ex hB19 hE160) hO205 (by omega)), hB204, (OwnD.nil w203 w203.heap.size w203.heap.size 36 3 RO_Table), (RdS.only good_Int h183 hO205 (by simp only [Iv]; omega)), (RdS.only good_Write h184 hO205 (by simp only [Iv]; omega)), (RdS.only good_Table (RdS.ex good_Table (RdS.ex good_Table (RdS.ex good_Table h1 hE14) hE20) hE160) hO205 (by simp only [Iv]; omega)), (Below.only (Ex.trans (Ex.trans (Ex.trans (Ex.refl w) hE14) hE20) hE160) hO205 (by omega)), (by omega), (by first | (simp; done) | (first | omega | (simp only [List.length_append, List.length_cons, List.length_nil, List.length_set, toS_length]; omega))), okE.nil, rfl⟩
  ·rintro m257 L258 w259 ⟨k208, x238, A239, c240, u241, rfl, hk260, hsz262, hl263, hl264, hl265, hl266, hl267, hf268, hf269, hf270, hf271, hf272, hf273, hf274, hu275, hln276, hok277, hI261⟩
   refine CW.sub (Sub.cons hl263 (Sub.cons hl264 (Sub.cons hl265 (Sub.cons hl266 (Sub.cons hl267 (Sub.nil _)))))) ?_
   have hf268z := Box.lt hf268
   have hf269z := Box.lt hf269
   have hf274z := Ex.size hf274
   have hbg278 := RdS.big hf273
   rcases Nat.lt_or_ge k208 p_c.Ways.length with hlt279 | hlt279
   ·refine CW.seq (CW.region (sd rfl (yl_lss rfl rfl rfl (SeqR.done (tn (CW.seq (CW.cond_t rfl (lt_t hlt279) (CW.skip (tn ?_)))))))))
    refine CW.seq (CW.block (CW.seq (CW.region ?_)))
    obtain ⟨eb280, eo280, ec280, eA280, eS280, ebl280, el280, eR280, eC280⟩ := RdS.atD hf273 d_Table (i := k208) (by first | omega | assumption)
    obtain ⟨A281, c281, A282, c282, rfl, h281, h282⟩ := eR280
    have eC280 : Cells w259 eb280 (eo280 + k208 * 3) [.string (bs ((p_c.Ways.getD k208 d_Table).Name)), .slice A281 (((p_c.Ways.getD k208 d_Table).Cols).length) c281, .slice A282 (((p_c.Ways.getD k208 d_Table).Idxs).length) c282] := eC280
    refine sd rfl (yl_indexAddrN Try.un46 Try.ty36 rfl rfl rfl eA280 (by first | omega | assumption | (simp only [IntKind.wrap_i64] at *; omega)) (sd rfl (yl_loadN (cs := [.string (bs ((p_c.Ways.getD k208 d_Table).Name)), .slice A281 (((p_c.Ways.getD k208 d_Table).Cols).length) c281, .slice A282 (((p_c.Ways.getD k208 d_Table).Idxs).length) c282]) Try.ty36 rfl rfl eC280 rfl (sd rfl (yl_alloc Try.ty36 (cs := [.string (bs (([] : Str))), .slice none 0 0, .slice none 0 0]) rfl rfl ?_)))))
    intro b283 w284 hs285 hz286 hB287 hE288
    refine SeqR.u rfl rfl (yl_store (vs := [.string (bs ((p_c.Ways.getD k208 d_Table).Name)), .slice A281 (((p_c.Ways.getD k208 d_Table).Cols).length) c281, .slice A282 (((p_c.Ways.getD k208 d_Table).Idxs).length) c282]) Try.ty36 rfl rfl rfl rfl rfl rfl hB287 (Nat.le_of_ble_eq_true rfl) ?_)
    intro w289 hB290 hO291
    have hB290 : Box w289 b283 36 [.string (bs ((p_c.Ways.getD k208 d_Table).Name)), .slice A281 (((p_c.Ways.getD k208 d_Table).Cols).length) c281, .slice A282 (((p_c.Ways.getD k208 d_Table).Idxs).length) c282] := hB290
    have hO291z := hO291.size
    refine SeqR.done (tn ?_)
    have q293 := Box.only (Box.ex hf269 hE288) hO291 (by omega)
    have hrf305 := rf_l24Own (p_c.Ways.getD k208 d_Table)
    refine CW.drawsG 5 (fun _ _ => False) (fun _ _ _ => False) (vgetG [DetG (.pointer (some ⟨(G156.fl 10), 0 + 1, none⟩)), DetG (.slice A239 x238.length c240), DetG (.agg #[.string (bs ((p_c.Ways.getD k208 d_Table).Name)), .slice A281 (((p_c.Ways.getD k208 d_Table).Cols).length) c281, .slice A282 (((p_c.Ways.getD k208 d_Table).Idxs).length) c282]), fun G v wq => ∃ A299 c299 lo299 hi299 A300 c300 lo300 hi300, v = .agg #[.string (bs ((s_l24Own (p_c.Ways.getD k208 d_Table)).Name)), .slice A299 (((s_l24Own (p_c.Ways.getD k208 d_Table)).Cols).length) c299, .slice A300 (((s_l24Own (p_c.Ways.getD k208 d_Table)).Idxs).length) c300] ∧ OwnL wq lo299 hi299 9 1 (RF e_Str) A299 (((s_l24Own (p_c.Ways.getD k208 d_Table)).Cols).length) c299 ((s_l24Own (p_c.Ways.getD k208 d_Table)).Cols) ∧ OwnL wq lo300 hi300 171 3 (RF e_Idx) A300 (((s_l24Own (p_c.Ways.getD k208 d_Table)).Idxs).length) c300 ((s_l24Own (p_c.Ways.getD k208 d_Table)).Idxs) ∧ ok_Table (s_l24Own (p_c.Ways.getD k208 d_Table)) ∧ ((G.fl 3) ≤ lo299 ∧ lo299 ≤ hi299 ∧ hi299 ≤ (G.fh 3)) ∧ ((G.fl 3) ≤ lo300 ∧ lo300 ≤ hi300 ∧ hi300 ≤ (G.fh 3)) ∧ (hi299 ≤ lo300 ∨ hi300 ≤ lo299), fun G v wq => ∃ A302 c303, v = .slice A302 1 c303 ∧ OwnD wq (G.fl 3) (G.fh 4) 36 3 RO_Table A302 1 c303 ([(s_l24Own (p_c.Ways.getD k208 d_Table))] : List DTable)]) Try.follows rfl rfl rfl rfl rfl rfl (fun _ _ _ _ _ h => h) (fun _ _ _ _ _ _ _ _ _ h => h.elim) (vgetG_kept ⟨(KeptG.det _), (KeptG.det _), (KeptG.det _), (by rintro i G v w w' K hn hh hj ⟨A299, c299, lo299, hi299, A300, c300, lo300, hi300, hv, h0, h1, h2, hr0, hr1, hr2⟩ e; have d3 : G.dn 3 = true := hj; have u3 := Gh.ufl (lo := w.heap.size) (hi := w'.heap.size) d3 hn; have t3 := Gh.ufh (lo := w.heap.size) (hi := w'.heap.size) d3 hn; exact ⟨A299, c299, lo299, hi299, A300, c300, lo300, hi300, hv, (by exact OwnL.chg good_Str h0 e (fun b hb hp => by exact hp.elim)), (by exact OwnL.chg good_Idx h1 e (fun b hb hp => by exact hp.elim)), h2, (by simp only [u3, t3]; exact hr0), (by simp only [u3, t3]; exact hr1), hr2⟩), (by rintro i G v w w' K hn hh hj ⟨A302, c303, hv, h0⟩ e; have d3 : G.dn 3 = true := K.cl 4 3 hj rfl; have u3 := Gh.ufl (lo := w.heap.size) (hi := w'.heap.size) d3 hn; have t3 := Gh.ufh (lo := w.heap.size) (hi := w'.heap.size) d3 hn; have d4 : G.dn 4 = true := hj; have u4 := Gh.ufl (lo := w.heap.size) (hi := w'.heap.size) d4 hn; have t4 := Gh.ufh (lo := w.heap.size) (hi := w'.heap.size) d4 hn; exact ⟨A302, c303, hv, (by simp only [u3, t3, u4, t4]; exact OwnD.chg goodO_Table h0 e (fun b hb hp => by exact hp.elim))⟩), trivial⟩) ⟨?_, ?_, ?_, ?_, ?_, trivial⟩ ?_
    ·intro L307 w308 G306 hgk309
     have hE310 := hgk309.st.ex.ex (fun b h => h.elim (fun h => h.elim) (fun h => h))
     have hE310z := Ex.size hE310
     exact OpR.op' rfl (Yl.sameG (yl_fieldAddr Try.fd50_1 rfl (hgk309.old 3 _ rfl rfl) kI))
    ·intro L313 w314 G312 hgk315
     have hE316 := hgk315.st.ex.ex (fun b h => h.elim (fun h => h.elim) (fun h => h))
     have hE316z := Ex.size hE316
     obtain ⟨_, hx317, rfl⟩ := hgk315.val 0 23 rfl rfl
     exact OpR.op' rfl (Yl.sameG (yl_load1 Try.ty46 rfl hx317 (((Box.ex q293 hE316).cell 1).trans rfl) kI))
    ·intro L320 w321 G319 hgk322
     have hE323 := hgk322.st.ex.ex (fun b h => h.elim (fun h => h.elim) (fun h => h))
     have hE323z := Ex.size hE323
     exact OpR.op' rfl (Yl.sameG (yl_loadN (cs := [.string (bs ((p_c.Ways.getD k208 d_Table).Name)), .slice A281 (((p_c.Ways.getD k208 d_Table).Cols).length) c281, .slice A282 (((p_c.Ways.getD k208 d_Table).Idxs).length) c282]) Try.ty36 rfl (hgk322.old 5 _ rfl rfl) ((Box.ex hB290 hE323).cells (n := 3) rfl) rfl kI))
    ·intro L327 w328 G326 hgk329
     have hE330 := hgk329.st.ex.ex (fun b h => h.elim (fun h => h.elim) (fun h => h))
     have hE330z := Ex.size hE330
     obtain ⟨_, hx331, rfl⟩ := hgk329.val 2 25 rfl rfl
     refine OpR.op' rfl (yl_call Try.en137 rfl (opvs_cons hx331 opvs_nil) (Cal.mono (c_s_l24Own (p_c.Ways.getD k208 d_Table) (RdS.up (RdS.ex good_Str (RdS.only good_Str (RdS.ex good_Str h281 hE288) hO291 (by simp only [Iv]; omega)) hE330) good_Str) (RdS.up (RdS.ex good_Idx (RdS.only good_Idx (RdS.ex good_Idx h282 hE288) hO291 (by simp only [Iv]; omega)) hE330) good_Idx) (okL.getD o4.2.1 ok_d_Table _)) ?_))
     rintro v338 w334 ⟨A335, c335, lo335, hi335, A336, c336, lo336, hi336, rfl, h335, h336, ho337, hrn340, hrn341, hrn342, hE339⟩
     exact ⟨Chg.of_ex hE339, A335, c335, lo335, hi335, A336, c336, lo336, hi336, rfl, h335, h336, ho337, hrn340, hrn341, hrn342⟩
    ·intro L344 w345 G343 hgk346
     have hE347 := hgk346.st.ex.ex (fun b h => h.elim (fun h => h.elim) (fun h => h))
     have hE347z := Ex.size hE347
     obtain ⟨_, hx348, A299_349, c299_350, lo299_351, hi299_352, A300_353, c300_354, lo300_355, hi300_356, rfl, h357, h358, h359, hrn360, hrn361, hrn362⟩ := hgk346.val 3 26 rfl rfl
     have hr363 := hgk346.st.rng 3 (hgk346.has 3 rfl)
     refine OpR.op' rfl (yl_buildSlice (cs := [.string (bs ((s_l24Own (p_c.Ways.getD k208 d_Table)).Name)), .slice A299_349 (((s_l24Own (p_c.Ways.getD k208 d_Table)).Cols).length) c299_350, .slice A300_353 (((s_l24Own (p_c.Ways.getD k208 d_Table)).Idxs).length) c300_354]) Try.un46 Try.ty36 (by decide) rfl (opvs_cons hx348 opvs_nil) (by kernel_rfl) ?_)
     intro b364 w365 hs366 hz367 hB368 hE369
     have hO370 : OwnD w365 (G343.fl 3) (b364 + 1) 36 3 RO_Table (some ⟨b364, 0, none⟩) 1 1 ([(s_l24Own (p_c.Ways.getD k208 d_Table))] : List DTable) := OwnD.of_box (b := b364) (xs := ([(s_l24Own (p_c.Ways.getD k208 d_Table))] : List DTable)) (cells := [[.string (bs ((s_l24Own (p_c.Ways.getD k208 d_Table)).Name)), .slice A299_349 (((s_l24Own (p_c.Ways.getD k208 d_Table)).Cols).length) c299_350, .slice A300_353 (((s_l24Own (p_c.Ways.getD k208 d_Table)).Idxs).length) c300_354]]) (by rw [List.flatten_singleton]; exact hB368) (by omega) (Nat.lt_succ_self _) (.cons (l := (G343.fl 3)) (h := b364) (Nat.le_refl _) (by omega) rfl (fun k hk => by cases hk; exact .inr (Nat.le_refl _)) (mkO_Table (l := (G343.fl 3)) (h := b364) (OwnL.ex good_Str h357 hE369) (OwnL.ex good_Idx h358 hE369) (by omega) (by omega) (by omega)) (.nil (Nat.le_succ _))) (Nat.le_of_ble_eq_true rfl)
     exact ⟨Chg.of_ex hE369, (some ⟨b364, 0, none⟩), 1, rfl, OwnD.more (lo' := (G343.fl 3)) (hi' := w365.heap.size) hO370 (by omega) (by omega)⟩
    ·intro G371 L372 w373 hgp374
     have hE375 := hgp374.st.ex.ex (fun b h => h.elim (fun h => h.elim) (fun h => h))
     have hE375z := Ex.size hE375
     have hx377 := hgp374.old 3 _ rfl rfl
     obtain ⟨_, hx381, rfl⟩ := hgp374.val 1 24 rfl rfl
     obtain ⟨_, hx382, A299_383, c299_384, lo299_385, hi299_386, A300_387, c300_388, lo300_389, hi300_390, rfl, h391, h392, h393, hrn394, hrn395, hrn396⟩ := hgp374.val 3 26 rfl rfl
     obtain ⟨_, hx397, A302_398, c303_399, rfl, h400⟩ := hgp374.val 4 27 rfl rfl
     have hr401 := hgp374.st.rng 3 (hgp374.has 3 rfl)
     have hr402 := hgp374.st.rng 4 (hgp374.has 4 rfl)
     have hsp403 := hgp374.st.ord 4 3 (hgp374.has 4 rfl) rfl
     refine sd rfl (yl_appendD (xs := x238) (ys := ([(s_l24Own (p_c.Ways.getD k208 d_Table))] : List DTable)) goodO_Table Try.un46 Try.ty36 rfl (Nat.le_of_ble_eq_true rfl) rfl hx381 hx397 (OwnD.ex goodO_Table (OwnD.only goodO_Table (OwnD.ex goodO_Table hf270 hE288) hO291 (by omega)) hE375) h400 (by first | omega | (simp only [List.length_append, List.length_cons, List.length_nil, List.length_take, List.length_drop, List.length_replicate, List.length_set, toS_length]; omega)) (by first | omega | (simp only [List.length_append, List.length_cons, List.length_nil, List.length_take, List.length_drop, List.length_replicate, List.length_set, toS_length]; omega)) (by omega) (by omega) (by omega) (by omega) ?_)
     intro A407 c408 w409 row410 hO411 hG412 hrg413
     have hG412z := hG412.size
     refine sd rfl (yl_fieldAddr Try.fd50_1 rfl hx377 (SeqR.u rfl rfl (yl_store (vs := [.slice A407 ((x238 ++ ([(s_l24Own (p_c.Ways.getD k208 d_Table))] : List DTable)).length) c408]) Try.ty46 rfl rfl rfl rfl rfl rfl (Box.grown (Box.ex q293 hE375) hG412 (fun k hk => by have := hrg413 k hk; omega)) (Nat.le_of_ble_eq_true rfl) ?_)))
     intro w416 hB417 hO418
     have hB417 : Box w416 (G156.fl 10) 50 [.string (bs (p_c.Name)), .slice A407 ((x238 ++ ([(s_l24Own (p_c.Ways.getD k208 d_Table))] : List DTable)).length) c408, .slice A25_179 ((s_l1Own p_c.At).length) c25_180, .slice A30_181 ((([] : List DWrite) ++ p_c.Store).length) c31_182] := hB417
     have hO418z := hO418.size
     refine SeqR.done (bn (tn (CW.sub (Sub.cons (d := 2) (hgp374.old 2 _ rfl rfl) (Sub.cons (d := 3) hx377 (Sub.cons (d := 17) (hgp374.old 17 _ rfl rfl) (Sub.cons (d := 18) (hgp374.old 18 _ rfl rfl) (Sub.cons (d := 19) (hgp374.old 19 _ rfl rfl) (Sub.nil _)))))) (CW.region (sd rfl (yl_inc rfl rfl rfl (by omega) (sd rfl (yl_move rfl rfl (SeqR.done (tn ?_))))))))))
     have hB419 : B_s_l27Own_0 p_c k208 (x238) = .cont ((x238 ++ ([(s_l24Own (p_c.Ways.getD k208 d_Table))] : List DTable))) := by simp only [B_s_l27Own_0, cond_true, cond_false, loopE_done, loopE_ret]
     exact ⟨p_c.Ways.length - (k208 + 1), by omega, k208 + 1, (x238 ++ ([(s_l24Own (p_c.Ways.getD k208 d_Table))] : List DTable)), A407, c408, w409.heap.size, rfl, hlt279, (by omega), rfl, rfl, rfl, rfl, rfl, (Box.only (Box.grown (Box.ex (Box.only (Box.ex hf268 hE288) hO291 (by omega)) hE375) hG412 (fun k hk => by have := hrg413 k hk; omega)) hO418 (by omega)), hB417, (OwnD.only goodO_Table hO411 hO418 (by omega)), (RdS.only good_Int (RdS.grown good_Int (RdS.ex good_Int (RdS.only good_Int (RdS.ex good_Int hf271 hE288) hO291 (by simp only [Iv]; omega)) hE375) hG412 (fun k hk => by have := hrg413 k hk; simp only [Iv]; omega)) hO418 (by simp only [Iv]; omega)), (RdS.only good_Write (RdS.grown good_Write (RdS.ex good_Write (RdS.only good_Write (RdS.ex good_Write hf272 hE288) hO291 (by simp only [Iv]; omega)) hE375) hG412 (fun k hk => by have := hrg413 k hk; simp only [Iv]; omega)) hO418 (by simp only [Iv]; omega)), (RdS.only good_Table (RdS.grown good_Table (RdS.ex good_Table (RdS.only good_Table (RdS.ex good_Table hf273 hE288) hO291 (by simp only [Iv]; omega)) hE375) hG412 (fun k hk => by have := hrg413 k hk; simp only [Iv]; omega)) hO418 (by simp only [Iv]; omega)), (Below.only (Below.grown (Ex.trans (Below.only (Ex.trans hf274 hE288) hO291 (by omega)) hE375) hG412 (by omega) (fun k hk => by have := hrg413 k hk; omega)) hO418 (by omega)), (by omega), (by first | omega | (simp only [List.length_append, List.length_cons, List.length_nil, List.length_set, toS_length]; omega)), (okE.append hok277 ((okL.mk (Nat.le_of_ble_eq_true rfl) (okE.cons h393 okE.nil))).2), (loopM.cont hlt279 hB419).symm.trans hI261⟩
   ·refine CW.seq (CW.region (sd rfl (yl_lss rfl rfl rfl (SeqR.done (tn (CW.seq (CW.cond_f rfl (lt_f hlt279) (CW.exit (tx ?_)))))))))
    refine tx ?_
    have hL446 : loopM (B_s_l27Own_0 p_c) (p_c.Ways.length - 0) 0 (([] : List DTable)) = .done (x238) := hI261.symm.trans (loopM.stop hlt279)
    refine bx (tn (CW.seq (CW.region (sd rfl (yl_loadN (cs := [.string (bs (p_c.Name)), .slice A239 x238.length c240, .slice A25_179 ((s_l1Own p_c.At).length) c25_180, .slice A30_181 ((([] : List DWrite) ++ p_c.Store).length) c31_182]) Try.ty50 rfl rfl (hf269.cells (n := 4) rfl) rfl (SeqR.u rfl rfl (yl_store (vs := [.string (bs (p_c.Name)), .slice A239 x238.length c240, .slice A25_179 ((s_l1Own p_c.At).length) c25_180, .slice A30_181 ((([] : List DWrite) ++ p_c.Store).length) c31_182]) Try.ty50 rfl rfl rfl rfl rfl rfl hf268 (Nat.le_of_ble_eq_true rfl) ?_)))))))
    intro w447 hB448 hO449
    have hB448 : Box w447 b15 50 [.string (bs (p_c.Name)), .slice A239 x238.length c240, .slice A25_179 ((s_l1Own p_c.At).length) c25_180, .slice A30_181 ((([] : List DWrite) ++ p_c.Store).length) c31_182] := hB448
    have hO449z := hO449.size
    refine SeqR.done (tn (CW.ret (rr rfl (.cons ⟨_, rfl, run_loadN Try.ty50 (cs := [.string (bs (p_c.Name)), .slice A239 x238.length c240, .slice A25_179 ((s_l1Own p_c.At).length) c25_180, .slice A30_181 ((([] : List DWrite) ++ p_c.Store).length) c31_182]) rfl (hB448.cells (n := 4) rfl)⟩ .nil) ?_)))
    have hM450 : (s_l27Own p_c) = ((⟨p_c.Name, x238, (s_l1Own p_c.At), (([] : List DWrite) ++ p_c.Store)⟩ : DShift)) := by simp only [s_l27Own, hL446, cond_true, cond_false, loopE_done, loopE_ret]
    have hol454 : p_c.Store.length ≤ 1073741824 := o4.2.2.2.1
    rw [hM450]
    exact ⟨A239, c240, w203.heap.size, u241, A25_179, c25_180, A30_181, c31_182, rfl, (OwnD.only goodO_Table hf270 hO449 (by omega)), (RdS.wideI good_Int (RdS.only good_Int hf271 hO449 (by simp only [Iv]; omega)) (by omega)), (RdS.wideI good_Write (RdS.only good_Write hf272 hO449 (by simp only [Iv]; omega)) (by omega)), ⟨o4.1, (okL.mk (xs := x238) (by first | omega | (simp only [List.length_append, List.length_cons, List.length_nil, List.length_take, List.length_drop, List.length_replicate, List.length_set, toS_length]; omega)) hok277), h169, (okL.mk (xs := (([] : List DWrite) ++ p_c.Store)) (by first | omega | (simp only [List.length_append, List.length_cons, List.length_nil, List.length_take, List.length_drop, List.length_replicate, List.length_set, toS_length]; omega)) (okE.append okE.nil (o4.2.2.2).2))⟩, (by omega), (Below.only hf274 hO449 (by omega))⟩
set_option maxRecDepth 100000 in
set_option maxHeartbeats 2000000 in
theorem c_s_l24Set {A1 : Option Addr} {c1 : Nat} {A2 : Option Addr} {c2 : Nat} {w : World} (p_t : DTable) (p_name : Str) (p_stage : Int) (h1 : RdS w (Iv 0 w.heap.size) (RF e_Str) 1 A1 p_t.Cols.length c1 p_t.Cols) (h2 : RdS w (Iv 0 w.heap.size) (RF e_Idx) 3 A2 p_t.Idxs.length c2 p_t.Idxs) (o3 : ok_Table p_t) (o4 : okS p_name) (pre0 : (0 ≤ s_l24Idx p_t p_name ∧ s_l24Idx p_t p_name < (p_t.Idxs.length : Int))) : Cal Try.prog 138 #[.agg #[.string (bs (p_t.Name)), .slice A1 p_t.Cols.length c1, .slice A2 p_t.Idxs.length c2], .string (bs (p_name)), .int .i64 (p_stage)] w fun v w' => ∃ A_1 c_1 lo_1 hi_1 A_2 c_2 lo_2 hi_2, v = .agg #[.string (bs ((s_l24Set p_t p_name p_stage).Name)), .slice A_1 (((s_l24Set p_t p_name p_stage).Cols).length) c_1, .slice A_2 (((s_l24Set p_t p_name p_stage).Idxs).length) c_2] ∧ OwnL w' lo_1 hi_1 9 1 (RF e_Str) A_1 (((s_l24Set p_t p_name p_stage).Cols).length) c_1 ((s_l24Set p_t p_name p_stage).Cols) ∧ OwnL w' lo_2 hi_2 171 3 (RF e_Idx) A_2 (((s_l24Set p_t p_name p_stage).Idxs).length) c_2 ((s_l24Set p_t p_name p_stage).Idxs) ∧ ok_Table (s_l24Set p_t p_name p_stage) ∧ (w.heap.size ≤ lo_1 ∧ lo_1 ≤ hi_1 ∧ hi_1 ≤ w'.heap.size) ∧ (w.heap.size ≤ lo_2 ∧ lo_2 ≤ hi_2 ∧ hi_2 ≤ w'.heap.size) ∧ (hi_1 ≤ lo_2 ∨ hi_2 ≤ lo_1) ∧ Ex w w' := by
 have hol5 : p_t.Name.length ≤ 1073741824 := o3.1
 have hol6 := o3.2.1.1
 have hol7 := o3.2.2.1
 have hol8 : p_name.length ≤ 1073741824 := o4
 refine Cal.of (vs := [.agg #[.string (bs (p_t.Name)), .slice A1 p_t.Cols.length c1, .slice A2 p_t.Idxs.length c2], .string (bs (p_name)), .int .i64 (p_stage)]) Try.func138 rfl Try.ntmps138 rfl (CW.seq (CW.region (sd rfl (yl_box (cs := [.string (bs (p_t.Name)), .slice A1 p_t.Cols.length c1, .slice A2 p_t.Idxs.length c2]) rfl rfl rfl ?_))))
 intro b9 w10 hs11 hz12 hB13 hE14
 refine sd rfl (yl_alloc Try.ty36 (cs := [.string (bs (([] : Str))), .slice none 0 0, .slice none 0 0]) rfl rfl ?_)
 intro b15 w16 hs17 hz18 hB19 hE20
 refine SeqR.done (tn (CW.seq (CW.region ?_)))
 have q21 := Box.ex hB13 hE20
 refine sd rfl (yl_loadN (cs := [.string (bs (p_t.Name)), .slice A1 p_t.Cols.length c1, .slice A2 p_t.Idxs.length c2]) Try.ty36 rfl rfl (q21.cells (n := 3) rfl) rfl ?_)
 have q23 := RdS.ex good_Str (RdS.ex good_Str h1 hE14) hE20
 have q25 := RdS.ex good_Idx (RdS.ex good_Idx h2 hE14) hE20
 refine sd rfl (yl_call Try.en137 rfl (opvs_cons rfl opvs_nil) (Cal.mono (c_s_l24Own p_t (RdS.up q23 good_Str) (RdS.up q25 good_Idx) o3) ?_))
 rintro v30 w26 ⟨A27, c27, lo27, hi27, A28, c28, lo28, hi28, rfl, h27, h28, ho29, hrn32, hrn33, hrn34, hE31⟩
 have hE31z := Ex.size hE31
 have hrf35 := rf_l24Own p_t
 refine sd rfl (yl_alloc Try.ty36 (cs := [.string (bs (([] : Str))), .slice none 0 0, .slice none 0 0]) rfl rfl ?_)
 intro b36 w37 hs38 hz39 hB40 hE41
 refine SeqR.u rfl rfl (yl_store (vs := [.string (bs ((s_l24Own p_t).Name)), .slice A27 (((s_l24Own p_t).Cols).length) c27, .slice A28 (((s_l24Own p_t).Idxs).length) c28]) Try.ty36 rfl rfl rfl rfl rfl rfl hB40 (Nat.le_of_ble_eq_true rfl) ?_)
 intro w42 hB43 hO44
 have hB43 : Box w42 b36 36 [.string (bs ((s_l24Own p_t).Name)), .slice A27 (((s_l24Own p_t).Cols).length) c27, .slice A28 (((s_l24Own p_t).Idxs).length) c28] := hB43
 have hO44z := hO44.size
 refine SeqR.done (tn (CW.seq ?_))
 have hrf55 := rf_s_l24Idx p_t p_name
 refine CW.drawsI 6 (vgetI [DetI (.pointer (some ⟨b36, 0 + 2, none⟩)), DetI (.slice A28 (((s_l24Own p_t).Idxs).length) c28), DetI (.agg #[.string (bs (p_t.Name)), .slice A1 p_t.Cols.length c1, .slice A2 p_t.Idxs.length c2]), DetI (.string (bs (p_name))), DetI (.int .i64 ((s_l24Idx p_t p_name))), DetI (.int .i64 (p_stage))]) Try.follows rfl rfl rfl rfl rfl rfl (vgetI_stable ⟨StableI.det _, StableI.det _, StableI.det _, StableI.det _, StableI.det _, StableI.det _, trivial⟩) ⟨?_, ?_, ?_, ?_, ?_, ?_, trivial⟩ ?_
 ·exact fun _ _ h => os rfl ((yl_fieldAddr Try.fd36_2 rfl (h.old 7 _ rfl rfl) kI))
 ·exact fun _ _ h => os rfl ((yl_load1 Try.ty34 rfl (h.dt 0 10 rfl rfl rfl) (((Box.ex hB43 h.ex).cell 2).trans rfl) kI))
 ·intro L67 w68 hi69
  have hE70 := hi69.ex
  have hE70z := Ex.size hE70
  exact os rfl ((yl_loadN (cs := [.string (bs (p_t.Name)), .slice A1 p_t.Cols.length c1, .slice A2 p_t.Idxs.length c2]) Try.ty36 rfl (hi69.old 3 _ rfl rfl) ((Box.ex (Box.only (Box.ex (Box.ex q21 hE31) hE41) hO44 (by omega)) hE70).cells (n := 3) rfl) rfl kI))
 ·exact fun _ _ h => os rfl ((yl_move rfl (h.old 1 _ rfl rfl) kI))
 ·intro L78 w79 hi80
  have hE81 := hi80.ex
  have hE81z := Ex.size hE81
  refine OpR.op' rfl (yl_call Try.en134 rfl (opvs_cons (hi80.dt 2 12 rfl rfl rfl) (opvs_cons (hi80.dt 3 13 rfl rfl rfl) opvs_nil)) (Cal.mono (c_s_l24Idx p_t p_name (RdS.up (RdS.ex good_Str (RdS.only good_Str (RdS.ex good_Str (RdS.ex good_Str q23 hE31) hE41) hO44 (by simp only [Iv]; omega)) hE81) good_Str) (RdS.up (RdS.ex good_Idx (RdS.only good_Idx (RdS.ex good_Idx (RdS.ex good_Idx q25 hE31) hE41) hO44 (by simp only [Iv]; omega)) hE81) good_Idx) o3 o4) ?_))
  rintro v87 w86 ⟨rfl, hE88⟩
  exact ⟨rfl, hE88⟩
 ·exact fun _ _ h => os rfl ((yl_move rfl (h.old 2 _ rfl rfl) kI))
 ·intro fl97 fh98 L94 w95 hp96
  have hE99 := hp96.ex
  have hE99z := Ex.size hE99
  have q108 := OwnL.ex good_Idx (OwnL.only good_Idx (OwnL.ex good_Idx h28 hE41) hO44 (by omega)) hE99
  obtain ⟨eb109, eo109, ec109, eA109, eS109, ebl109, el109, eR109, eC109⟩ := RdS.atD (OwnL.rd good_Idx q108) d_Idx (i := ((s_l24Idx p_t p_name)).toNat) (by first | omega | assumption | (simp only [IntKind.wrap_i64] at *; omega))
  obtain rfl := eR109
  have eC109 : Cells w95 eb109 (eo109 + (((s_l24Idx p_t p_name)).toNat) * 3) [.string (bs ((((s_l24Own p_t).Idxs).getD (((s_l24Idx p_t p_name)).toNat) d_Idx).Name)), .int .i64 ((((s_l24Own p_t).Idxs).getD (((s_l24Idx p_t p_name)).toNat) d_Idx).Col), .int .i64 ((((s_l24Own p_t).Idxs).getD (((s_l24Idx p_t p_name)).toNat) d_Idx).Stage)] := eC109
  refine sd rfl (yl_indexAddr Try.un34 Try.ty171 rfl (hp96.nt 1 11 rfl rfl rfl) (hp96.nt 4 14 rfl rfl rfl) eA109 (by first | omega | assumption | (simp only [IntKind.wrap_i64] at *; omega)) (by first | omega | assumption | (simp only [IntKind.wrap_i64] at *; omega)) (sd rfl (yl_fieldAddr Try.fd171_2 rfl rfl ?_)))
  have hrg110 := OwnL.rng q108 (i := ((s_l24Idx p_t p_name)).toNat) (by first | omega | assumption | (simp only [IntKind.wrap_i64] at *; omega)) eb109 (by rw [eA109]; rfl)
  refine SeqR.u rfl rfl (yl_storeF (off := eo109) (i := ((s_l24Idx p_t p_name)).toNat) (d := 2) (dx := d_Idx) (x' := (⟨(((s_l24Own p_t).Idxs).getD (((s_l24Idx p_t p_name)).toNat) d_Idx).Name, (((s_l24Own p_t).Idxs).getD (((s_l24Idx p_t p_name)).toNat) d_Idx).Col, p_stage⟩ : DIdx)) (vs := [.int .i64 (p_stage)]) Try.ty3 rfl q108 eA109 rfl (hp96.nt 5 15 rfl rfl rfl) rfl rfl rfl (by first | omega | assumption | (simp only [IntKind.wrap_i64] at *; omega)) (Nat.le_of_ble_eq_true rfl) rfl rfl ?_)
  intro w111 hB112 hO113
  have hO113z := hO113.size
  refine SeqR.done (tn (CW.sub (Sub.cons (d := 6) (hp96.old 6 _ rfl rfl) (Sub.cons (d := 7) (hp96.old 7 _ rfl rfl) (Sub.nil _))) (CW.seq (CW.region (sd rfl (yl_loadN (cs := [.string (bs ((s_l24Own p_t).Name)), .slice A27 (((s_l24Own p_t).Cols).length) c27, .slice A28 (((s_l24Own p_t).Idxs).length) c28]) Try.ty36 rfl rfl ((Box.only (Box.ex hB43 hE99) hO113 (by omega)).cells (n := 3) rfl) rfl (SeqR.u rfl rfl (yl_store (vs := [.string (bs ((s_l24Own p_t).Name)), .slice A27 (((s_l24Own p_t).Cols).length) c27, .slice A28 (((s_l24Own p_t).Idxs).length) c28]) Try.ty36 rfl rfl rfl rfl rfl rfl (Box.only (Box.ex (Box.only (Box.ex (Box.ex hB19 hE31) hE41) hO44 (by omega)) hE99) hO113 (by omega)) (Nat.le_of_ble_eq_true rfl) ?_))))))))
  intro w121 hB122 hO123
  have hB122 : Box w121 b15 36 [.string (bs ((s_l24Own p_t).Name)), .slice A27 (((s_l24Own p_t).Cols).length) c27, .slice A28 (((s_l24Own p_t).Idxs).length) c28] := hB122
  have hO123z := hO123.size
  refine SeqR.done (tn (CW.ret (rr rfl (.cons ⟨_, rfl, run_loadN Try.ty36 (cs := [.string (bs ((s_l24Own p_t).Name)), .slice A27 (((s_l24Own p_t).Cols).length) c27, .slice A28 (((s_l24Own p_t).Idxs).length) c28]) rfl (hB122.cells (n := 3) rfl)⟩ .nil) ?_)))
  have hM124 : (s_l24Set p_t p_name p_stage) = ((⟨(s_l24Own p_t).Name, (s_l24Own p_t).Cols, (((s_l24Own p_t).Idxs).set (((s_l24Idx p_t p_name)).toNat) (⟨(((s_l24Own p_t).Idxs).getD (((s_l24Idx p_t p_name)).toNat) d_Idx).Name, (((s_l24Own p_t).Idxs).getD (((s_l24Idx p_t p_name)).toNat) d_Idx).Col, p_stage⟩ : DIdx))⟩ : DTable)) := by simp only [s_l24Set, cond_true, cond_false, loopE_done, loopE_ret]
  have q130 := OwnL.only good_Idx hB112 hO123 (by omega)
  have hfx131 := (q130).1
  have hol132 : ((s_l24Own p_t).Idxs).length ≤ 1073741824 := ho29.2.2.1
  rw [hM124]
  exact ⟨A27, c27, lo27, hi27, A28, c28, lo28, hi28, (by first | rfl | (simp only [List.length_replicate, List.length_set]; done) | (simp only [List.length_replicate, List.length_set]; rfl) | rw [hfx131]), (OwnL.only good_Str (OwnL.only good_Str (OwnL.ex good_Str (OwnL.only good_Str (OwnL.ex good_Str h27 hE41) hO44 (by omega)) hE99) hO113 (by omega)) hO123 (by omega)), (OwnL.fix q130), ⟨ho29.1, ho29.2.1, (okL.mk (xs := (((s_l24Own p_t).Idxs).set (((s_l24Idx p_t p_name)).toNat) (⟨(((s_l24Own p_t).Idxs).getD (((s_l24Idx p_t p_name)).toNat) d_Idx).Name, (((s_l24Own p_t).Idxs).getD (((s_l24Idx p_t p_name)).toNat) d_Idx).Col, p_stage⟩ : DIdx))) (by first | omega | (simp only [List.length_append, List.length_cons, List.length_nil, List.length_take, List.length_drop, List.length_replicate, List.length_set, toS_length]; omega)) (okE.set (ho29.2.2).2 (okL.getD ho29.2.2 ok_d_Idx _)))⟩, (by omega), (by omega), (by omega), (Below.only (Below.only (Ex.trans (Below.only (Ex.trans (Ex.trans (Ex.trans (Ex.trans (Ex.refl w) hE14) hE20) hE31) hE41) hO44 (by omega)) hE99) hO113 (by omega)) hO123 (by omega))⟩
set_option maxRecDepth 100000 in
set_option maxHeartbeats 2000000 in
theorem c_s_l24Way {A1 : Option Addr} {c1 : Nat} {A2 : Option Addr} {c2 : Nat} {w : World} (p_t : DTable) (p_name : Str) (p_stage : Int) (h1 : RdS w (Iv 0 w.heap.size) (RF e_Str) 1 A1 p_t.Cols.length c1 p_t.Cols) (h2 : RdS w (Iv 0 w.heap.size) (RF e_Idx) 3 A2 p_t.Idxs.length c2 p_t.Idxs) (o3 : ok_Table p_t) (o4 : okS p_name) (pre0 : (0 ≤ s_l24Idx p_t p_name ∧ s_l24Idx p_t p_name < (p_t.Idxs.length : Int))) (pre1 : (0 ≤ (p_t.Idxs.getD (s_l24Idx p_t p_name).toNat d_Idx).Stage ∧ (p_t.Idxs.getD (s_l24Idx p_t p_name).toNat d_Idx).Stage ≤ 3)) (pre2 : (0 ≤ p_stage ∧ p_stage ≤ 3)) : Cal Try.prog 75 #[.agg #[.string (bs (p_t.Name)), .slice A1 p_t.Cols.length c1, .slice A2 p_t.Idxs.length c2], .string (bs (p_name)), .int .i64 (p_stage)] w fun v w' => ∃ A_1 c_1 lo_1 hi_1, v = .slice A_1 ((s_l24Way p_t p_name p_stage).length) c_1 ∧ OwnD w' lo_1 hi_1 36 3 RO_Table A_1 ((s_l24Way p_t p_name p_stage).length) c_1 (s_l24Way p_t p_name p_stage) ∧ (okL ok_Table) (s_l24Way p_t p_name p_stage) ∧ (w.heap.size ≤ lo_1 ∧ lo_1 ≤ hi_1 ∧ hi_1 ≤ w'.heap.size) ∧ Ex w w' := by
 have hol5 : p_t.Name.length ≤ 1073741824 := o3.1
 have hol6 := o3.2.1.1
 have hol7 := o3.2.2.1
 have hol8 : p_name.length ≤ 1073741824 := o4
 refine Cal.of (vs := [.agg #[.string (bs (p_t.Name)), .slice A1 p_t.Cols.length c1, .slice A2 p_t.Idxs.length c2], .string (bs (p_name)), .int .i64 (p_stage)]) Try.func75 rfl Try.ntmps75 rfl (CW.seq (CW.region (sd rfl (yl_box (cs := [.string (bs (p_t.Name)), .slice A1 p_t.Cols.length c1, .slice A2 p_t.Idxs.length c2]) rfl rfl rfl ?_))))
 intro b9 w10 hs11 hz12 hB13 hE14
 refine sd rfl (yl_assign rfl rfl (SeqR.done (tn (CW.seq (CW.region (sd rfl (yl_loadN (cs := [.string (bs (p_t.Name)), .slice A1 p_t.Cols.length c1, .slice A2 p_t.Idxs.length c2]) Try.ty36 rfl rfl (hB13.cells (n := 3) rfl) rfl ?_)))))))
 have q15 := RdS.ex good_Str h1 hE14
 have q16 := RdS.ex good_Idx h2 hE14
 refine sd rfl (yl_call Try.en137 rfl (opvs_cons rfl opvs_nil) (Cal.mono (c_s_l24Own p_t (RdS.up q15 good_Str) (RdS.up q16 good_Idx) o3) ?_))
 rintro v21 w17 ⟨A18, c18, lo18, hi18, A19, c19, lo19, hi19, rfl, h18, h19, ho20, hrn23, hrn24, hrn25, hE22⟩
 have hE22z := Ex.size hE22
 have hrf26 := rf_l24Own p_t
 refine sd rfl (yl_buildSlice (cs := [.string (bs ((s_l24Own p_t).Name)), .slice A18 (((s_l24Own p_t).Cols).length) c18, .slice A19 (((s_l24Own p_t).Idxs).length) c19]) Try.un46 Try.ty36 (by decide) rfl (opvs_cons rfl opvs_nil) (by kernel_rfl) ?_)
 intro b27 w28 hs29 hz30 hB31 hE32
 have hO33 : OwnD w28 w10.heap.size (b27 + 1) 36 3 RO_Table (some ⟨b27, 0, none⟩) 1 1 ([(s_l24Own p_t)] : List DTable) := OwnD.of_box (b := b27) (xs := ([(s_l24Own p_t)] : List DTable)) (cells := [[.string (bs ((s_l24Own p_t).Name)), .slice A18 (((s_l24Own p_t).Cols).length) c18, .slice A19 (((s_l24Own p_t).Idxs).length) c19]]) (by rw [List.flatten_singleton]; exact hB31) (by omega) (Nat.lt_succ_self _) (.cons (l := w10.heap.size) (h := b27) (Nat.le_refl _) (by omega) rfl (fun k hk => by cases hk; exact .inr (Nat.le_refl _)) (mkO_Table (l := w10.heap.size) (h := b27) (OwnL.ex good_Str h18 hE32) (OwnL.ex good_Idx h19 hE32) (by omega) (by omega) (by omega)) (.nil (Nat.le_succ _))) (Nat.le_of_ble_eq_true rfl)
 refine sd rfl (yl_assign rfl rfl (SeqR.done (tn (CW.seq ?_))))
 have q35 := Box.ex (Box.ex hB13 hE22) hE32
 have q37 := RdS.ex good_Str (RdS.ex good_Str q15 hE22) hE32
 have q39 := RdS.ex good_Idx (RdS.ex good_Idx q16 hE22) hE32
 have hrf41 := rf_s_l24Idx p_t p_name
 refine CW.drawsI 5 (vgetI [DetI (.pointer (some ⟨b9, 0 + 2, none⟩)), DetI (.slice A2 p_t.Idxs.length c2), DetI (.agg #[.string (bs (p_t.Name)), .slice A1 p_t.Cols.length c1, .slice A2 p_t.Idxs.length c2]), DetI (.string (bs (p_name))), DetI (.int .i64 ((s_l24Idx p_t p_name)))]) Try.follows rfl rfl rfl rfl rfl rfl (vgetI_stable ⟨StableI.det _, StableI.det _, StableI.det _, StableI.det _, StableI.det _, trivial⟩) ⟨?_, ?_, ?_, ?_, ?_, trivial⟩ ?_
 ·exact fun _ _ h => os rfl ((yl_fieldAddr Try.fd36_2 rfl (h.old 3 _ rfl rfl) kI))
 ·exact fun _ _ h => os rfl ((yl_load1 Try.ty34 rfl (h.dt 0 12 rfl rfl rfl) (((Box.ex q35 h.ex).cell 2).trans rfl) kI))
 ·exact fun _ _ h => os rfl ((yl_loadN (cs := [.string (bs (p_t.Name)), .slice A1 p_t.Cols.length c1, .slice A2 p_t.Idxs.length c2]) Try.ty36 rfl (h.old 3 _ rfl rfl) ((Box.ex q35 h.ex).cells (n := 3) rfl) rfl kI))
 ·exact fun _ _ h => os rfl ((yl_move rfl (h.old 1 _ rfl rfl) kI))
 ·intro L64 w65 hi66
  have hE67 := hi66.ex
  refine OpR.op' rfl (yl_call Try.en134 rfl (opvs_cons (hi66.dt 2 14 rfl rfl rfl) (opvs_cons (hi66.dt 3 15 rfl rfl rfl) opvs_nil)) (Cal.mono (c_s_l24Idx p_t p_name (RdS.up (RdS.ex good_Str q37 hE67) good_Str) (RdS.up (RdS.ex good_Idx q39 hE67) good_Idx) o3 o4) ?_))
  rintro v73 w72 ⟨rfl, hE74⟩
  exact ⟨rfl, hE74⟩
 ·intro fl78 fh79 L75 w76 hp77
  have hE80 := hp77.ex
  have hE80z := Ex.size hE80
  have q87 := RdS.ex good_Idx q39 hE80
  obtain ⟨eb88, eo88, ec88, eA88, eS88, ebl88, el88, eR88, eC88⟩ := RdS.atD q87 d_Idx (i := ((s_l24Idx p_t p_name)).toNat) (by first | omega | assumption | (simp only [IntKind.wrap_i64] at *; omega))
  obtain rfl := eR88
  have eC88 : Cells w76 eb88 (eo88 + (((s_l24Idx p_t p_name)).toNat) * 3) [.string (bs ((p_t.Idxs.getD (((s_l24Idx p_t p_name)).toNat) d_Idx).Name)), .int .i64 ((p_t.Idxs.getD (((s_l24Idx p_t p_name)).toNat) d_Idx).Col), .int .i64 ((p_t.Idxs.getD (((s_l24Idx p_t p_name)).toNat) d_Idx).Stage)] := eC88
  refine sd rfl (yl_indexAddr Try.un34 Try.ty171 rfl (hp77.nt 1 13 rfl rfl rfl) (hp77.nt 4 16 rfl rfl rfl) eA88 (by first | omega | assumption | (simp only [IntKind.wrap_i64] at *; omega)) (by first | omega | assumption | (simp only [IntKind.wrap_i64] at *; omega)) (sd rfl (yl_fieldAddr Try.fd171_2 rfl rfl (sd rfl (yl_load1 Try.ty3 rfl rfl (eC88 2 _ rfl) (sd rfl (yl_assign rfl rfl (SeqR.done (tn (CW.sub (Sub.cons (d := 1) (hp77.old 1 _ rfl rfl) (Sub.cons (d := 2) (hp77.old 2 _ rfl rfl) (Sub.cons (d := 3) (hp77.old 3 _ rfl rfl) (Sub.cons (d := 7) (hp77.old 7 _ rfl rfl) (Sub.cons (d := 8) rfl (Sub.nil _)))))) (CW.seq (CW.block ?_))))))))))))
  refine CW.loop (fun m145 L146 w147 => ∃ (x140 : List DTable) (x144 : Int) (A141 : Option Addr) (c142 : Nat) (u143 : Nat), ((p_stage - x144).toNat + (x144 - p_stage).toNat) < m145 ∧ w76.heap.size ≤ w147.heap.size ∧ lkp L146 1 = some (.string (bs (p_name))) ∧ lkp L146 2 = some (.int .i64 (p_stage)) ∧ lkp L146 3 = some (.pointer (some ⟨b9, 0, none⟩)) ∧ lkp L146 7 = some (.slice A141 x140.length c142) ∧ lkp L146 8 = some (.int .i64 (x144)) ∧ Box w147 b9 36 [.string (bs (p_t.Name)), .slice A1 p_t.Cols.length c1, .slice A2 p_t.Idxs.length c2] ∧ RdS w147 (Iv 0 w.heap.size) (RF e_Str) 1 A1 p_t.Cols.length c1 p_t.Cols ∧ RdS w147 (Iv 0 w.heap.size) (RF e_Idx) 3 A2 p_t.Idxs.length c2 p_t.Idxs ∧ OwnD w147 w10.heap.size u143 36 3 RO_Table A141 x140.length c142 x140 ∧ Ex w w147 ∧ (w10.heap.size ≤ u143 ∧ u143 ≤ w147.heap.size) ∧ x140.length + 1 * ((p_stage - x144).toNat + (x144 - p_stage).toNat) ≤ 1 + 1 * ((p_stage - (p_t.Idxs.getD (((s_l24Idx p_t p_name)).toNat) d_Idx).Stage).toNat + ((p_t.Idxs.getD (((s_l24Idx p_t p_name)).toNat) d_Idx).Stage - p_stage).toNat) ∧ (∀ y ∈ x140, ok_Table y) ∧ 0 ≤ x144 ∧ x144 ≤ 3 ∧ loopW (B_s_l24Way_0 p_t p_name p_stage) m145 (x140, x144) = loopW (B_s_l24Way_0 p_t p_name p_stage) (((p_stage - (p_t.Idxs.getD (((s_l24Idx p_t p_name)).toNat) d_Idx).Stage).toNat + ((p_t.Idxs.getD (((s_l24Idx p_t p_name)).toNat) d_Idx).Stage - p_stage).toNat) + 1) (([(s_l24Own p_t)] : List DTable), (p_t.Idxs.getD (((s_l24Idx p_t p_name)).toNat) d_Idx).Stage)) (((p_stage - (p_t.Idxs.getD (((s_l24Idx p_t p_name)).toNat) d_Idx).Stage).toNat + ((p_t.Idxs.getD (((s_l24Idx p_t p_name)).toNat) d_Idx).Stage - p_stage).toNat) + 1) ?_ ?_
  ·exact ⟨([(s_l24Own p_t)] : List DTable), (p_t.Idxs.getD (((s_l24Idx p_t p_name)).toNat) d_Idx).Stage, (some ⟨b27, 0, none⟩), 1, (b27 + 1), Nat.lt_succ_self _, Nat.le_refl _, rfl, rfl, rfl, rfl, rfl, (Box.ex q35 hE80), (RdS.ex good_Str q37 hE80), q87, (OwnD.ex goodO_Table hO33 hE80), (Ex.trans (Ex.trans (Ex.trans (Ex.trans (Ex.refl w) hE14) hE22) hE32) hE80), (by omega), (by first | (simp; done) | (first | omega | (simp only [List.length_append, List.length_cons, List.length_nil, List.length_set, toS_length]; omega))), ((okL.mk (Nat.le_of_ble_eq_true rfl) (okE.cons ho20 okE.nil))).2, (by first | omega | assumption | (simp only [IntKind.wrap_i64] at *; omega)), (by first | omega | assumption | (simp only [IntKind.wrap_i64] at *; omega)), rfl⟩
  ·rintro m155 L156 w157 ⟨x140, x144, A141, c142, u143, hk158, hsz160, hl161, hl162, hl163, hl164, hl165, hf166, hf167, hf168, hf169, hf170, hu171, hln172, hok173, hv174, hv175, hI159⟩
   refine CW.sub (Sub.cons hl161 (Sub.cons hl162 (Sub.cons hl163 (Sub.cons hl164 (Sub.cons hl165 (Sub.nil _)))))) ?_
   have hf166z := Box.lt hf166
   have hf170z := Ex.size hf170
   refine CW.seq (CW.seq (CW.region (sd rfl (yl_move rfl rfl (sd rfl (yl_move rfl rfl (sd rfl (yl_neq rfl rfl rfl (SeqR.done (tn (bcase (decide (x144 = p_stage)) (fun hb176 => ?_) (fun hb176 => ?_))))))))))))
   ·have hb176p := dec_t hb176
    refine CW.cond_f rfl (not_t hb176) (CW.exit (tx (tx ?_)))
    have hB178 : B_s_l24Way_0 p_t p_name p_stage (x140, x144) = .brk (x140, x144) := by simp only [B_s_l24Way_0, hb176, cond_true, cond_false, loopE_done, loopE_ret]
    have hL177 : loopW (B_s_l24Way_0 p_t p_name p_stage) (((p_stage - (p_t.Idxs.getD (((s_l24Idx p_t p_name)).toNat) d_Idx).Stage).toNat + ((p_t.Idxs.getD (((s_l24Idx p_t p_name)).toNat) d_Idx).Stage - p_stage).toNat) + 1) (([(s_l24Own p_t)] : List DTable), (p_t.Idxs.getD (((s_l24Idx p_t p_name)).toNat) d_Idx).Stage) = .done (x140, x144) := hI159.symm.trans (loopW.brk hk158 hB178)
    refine bx (tn (CW.seq (CW.region (sd rfl (yl_move rfl rfl (sd rfl (yl_assign rfl rfl (SeqR.done (tn (CW.ret ?_))))))))))
    refine rr rfl (.cons rfl .nil) ?_
    have hM179 : (s_l24Way p_t p_name p_stage) = (x140) := by simp only [s_l24Way, hb176, hL177, cond_true, cond_false, loopE_done, loopE_ret]
    rw [hM179]
    exact ⟨A141, c142, w10.heap.size, u143, rfl, hf169, (okL.mk (xs := x140) (by first | omega | (simp only [List.length_append, List.length_cons, List.length_nil, List.length_take, List.length_drop, List.length_replicate, List.length_set, toS_length]; omega)) hok173), (by omega), hf170⟩
   ·have hb176p := dec_f hb176
    refine CW.cond_t rfl (not_f hb176) (CW.skip (tn (CW.block (CW.seq (CW.seq (CW.region (sd rfl (yl_move rfl rfl (sd rfl (yl_move rfl rfl ?_))))))))))
    refine sd rfl (yl_lss rfl rfl rfl (SeqR.done (tn (bcase (decide (x144 < p_stage)) (fun hb180 => ?_) (fun hb180 => ?_)))))
    ·have hb180p := dec_t hb180
     refine CW.cond_t rfl hb180 (CW.region (sd rfl (yl_move rfl rfl (sd rfl (yl_add rfl rfl rfl (sd rfl (yl_assign rfl rfl (SeqR.done (tn (CW.region (sd rfl (yl_move rfl rfl ?_))))))))))))
     refine sd rfl (yl_loadN (cs := [.string (bs (p_t.Name)), .slice A1 p_t.Cols.length c1, .slice A2 p_t.Idxs.length c2]) Try.ty36 rfl rfl (hf166.cells (n := 3) rfl) rfl (sd rfl (yl_move rfl rfl (sd rfl (yl_move rfl rfl (sd rfl (yl_call Try.en138 rfl (opvs_cons rfl (opvs_cons rfl (opvs_cons rfl opvs_nil))) (Cal.mono (c_s_l24Set p_t p_name (IntKind.wrap .i64 (x144 + 1)) (RdS.up hf167 good_Str) (RdS.up hf168 good_Idx) o3 o4 (by first | omega | assumption | (simp only [IntKind.wrap_i64] at *; omega))) ?_))))))))
     rintro v185 w181 ⟨A182, c182, lo182, hi182, A183, c183, lo183, hi183, rfl, h182, h183, ho184, hrn187, hrn188, hrn189, hE186⟩
     have hE186z := Ex.size hE186
     refine sd rfl (yl_buildSlice (cs := [.string (bs ((s_l24Set p_t p_name (IntKind.wrap .i64 (x144 + 1))).Name)), .slice A182 (((s_l24Set p_t p_name (IntKind.wrap .i64 (x144 + 1))).Cols).length) c182, .slice A183 (((s_l24Set p_t p_name (IntKind.wrap .i64 (x144 + 1))).Idxs).length) c183]) Try.un46 Try.ty36 (by decide) rfl (opvs_cons rfl opvs_nil) (by kernel_rfl) ?_)
     intro b190 w191 hs192 hz193 hB194 hE195
     have hO196 : OwnD w191 w157.heap.size (b190 + 1) 36 3 RO_Table (some ⟨b190, 0, none⟩) 1 1 ([(s_l24Set p_t p_name (IntKind.wrap .i64 (x144 + 1)))] : List DTable) := OwnD.of_box (b := b190) (xs := ([(s_l24Set p_t p_name (IntKind.wrap .i64 (x144 + 1)))] : List DTable)) (cells := [[.string (bs ((s_l24Set p_t p_name (IntKind.wrap .i64 (x144 + 1))).Name)), .slice A182 (((s_l24Set p_t p_name (IntKind.wrap .i64 (x144 + 1))).Cols).length) c182, .slice A183 (((s_l24Set p_t p_name (IntKind.wrap .i64 (x144 + 1))).Idxs).length) c183]]) (by rw [List.flatten_singleton]; exact hB194) (by omega) (Nat.lt_succ_self _) (.cons (l := w157.heap.size) (h := b190) (Nat.le_refl _) (by omega) rfl (fun k hk => by cases hk; exact .inr (Nat.le_refl _)) (mkO_Table (l := w157.heap.size) (h := b190) (OwnL.ex good_Str h182 hE195) (OwnL.ex good_Idx h183 hE195) (by omega) (by omega) (by omega)) (.nil (Nat.le_succ _))) (Nat.le_of_ble_eq_true rfl)
     refine sd rfl (yl_appendD (xs := x140) (ys := ([(s_l24Set p_t p_name (IntKind.wrap .i64 (x144 + 1)))] : List DTable)) goodO_Table Try.un46 Try.ty36 rfl (Nat.le_of_ble_eq_true rfl) rfl rfl rfl (OwnD.ex goodO_Table (OwnD.ex goodO_Table hf169 hE186) hE195) hO196 (by first | omega | (simp only [List.length_append, List.length_cons, List.length_nil, List.length_take, List.length_drop, List.length_replicate, List.length_set, toS_length]; omega)) (by first | omega | (simp only [List.length_append, List.length_cons, List.length_nil, List.length_take, List.length_drop, List.length_replicate, List.length_set, toS_length]; omega)) (by omega) (by omega) (by omega) (by omega) ?_)
     intro A199 c200 w201 row202 hO203 hG204 hrg205
     have hG204z := hG204.size
     refine sd rfl (yl_assign rfl rfl (SeqR.done (bn (tn ?_))))
     have hB206 : B_s_l24Way_0 p_t p_name p_stage (x140, x144) = .cont ((x140 ++ ([(s_l24Set p_t p_name (IntKind.wrap .i64 (x144 + 1)))] : List DTable)), IntKind.wrap .i64 (x144 + 1)) := by simp only [B_s_l24Way_0, hb176, hb180, cond_true, cond_false, loopE_done, loopE_ret]
     have hmu219 : ((p_stage - IntKind.wrap .i64 (x144 + 1)).toNat + (IntKind.wrap .i64 (x144 + 1) - p_stage).toNat) < ((p_stage - x144).toNat + (x144 - p_stage).toNat) := by first | omega | assumption | (simp only [IntKind.wrap_i64] at *; omega)
     exact ⟨m155 - 1, by omega, (x140 ++ ([(s_l24Set p_t p_name (IntKind.wrap .i64 (x144 + 1)))] : List DTable)), IntKind.wrap .i64 (x144 + 1), A199, c200, w201.heap.size, (by omega), (by omega), rfl, rfl, rfl, rfl, rfl, (Box.grown (Box.ex (Box.ex hf166 hE186) hE195) hG204 (fun k hk => by have := hrg205 k hk; omega)), (RdS.grown good_Str (RdS.ex good_Str (RdS.ex good_Str hf167 hE186) hE195) hG204 (fun k hk => by have := hrg205 k hk; simp only [Iv]; omega)), (RdS.grown good_Idx (RdS.ex good_Idx (RdS.ex good_Idx hf168 hE186) hE195) hG204 (fun k hk => by have := hrg205 k hk; simp only [Iv]; omega)), hO203, (Below.grown (Ex.trans (Ex.trans hf170 hE186) hE195) hG204 (by omega) (fun k hk => by have := hrg205 k hk; omega)), (by omega), (by first | omega | (simp only [List.length_append, List.length_cons, List.length_nil, List.length_set, toS_length]; omega)), (okE.append hok173 ((okL.mk (Nat.le_of_ble_eq_true rfl) (okE.cons ho184 okE.nil))).2), (by first | omega | assumption | (simp only [IntKind.wrap_i64] at *; omega)), (by first | omega | assumption | (simp only [IntKind.wrap_i64] at *; omega)), (loopW.cont hk158 hB206).symm.trans hI159⟩
    ·have hb180p := dec_f hb180
     refine CW.cond_f rfl hb180 (CW.region (sd rfl (yl_move rfl rfl (sd rfl (yl_sub rfl rfl rfl (sd rfl (yl_assign rfl rfl (SeqR.done (tn (CW.region (sd rfl (yl_move rfl rfl ?_))))))))))))
     refine sd rfl (yl_loadN (cs := [.string (bs (p_t.Name)), .slice A1 p_t.Cols.length c1, .slice A2 p_t.Idxs.length c2]) Try.ty36 rfl rfl (hf166.cells (n := 3) rfl) rfl (sd rfl (yl_move rfl rfl (sd rfl (yl_move rfl rfl (sd rfl (yl_call Try.en138 rfl (opvs_cons rfl (opvs_cons rfl (opvs_cons rfl opvs_nil))) (Cal.mono (c_s_l24Set p_t p_name (IntKind.wrap .i64 (x144 - 1)) (RdS.up hf167 good_Str) (RdS.up hf168 good_Idx) o3 o4 (by first | omega | assumption | (simp only [IntKind.wrap_i64] at *; omega))) ?_))))))))
     rintro v224 w220 ⟨A221, c221, lo221, hi221, A222, c222, lo222, hi222, rfl, h221, h222, ho223, hrn226, hrn227, hrn228, hE225⟩
     have hE225z := Ex.size hE225
     refine sd rfl (yl_buildSlice (cs := [.string (bs ((s_l24Set p_t p_name (IntKind.wrap .i64 (x144 - 1))).Name)), .slice A221 (((s_l24Set p_t p_name (IntKind.wrap .i64 (x144 - 1))).Cols).length) c221, .slice A222 (((s_l24Set p_t p_name (IntKind.wrap .i64 (x144 - 1))).Idxs).length) c222]) Try.un46 Try.ty36 (by decide) rfl (opvs_cons rfl opvs_nil) (by kernel_rfl) ?_)
     intro b229 w230 hs231 hz232 hB233 hE234
     have hO235 : OwnD w230 w157.heap.size (b229 + 1) 36 3 RO_Table (some ⟨b229, 0, none⟩) 1 1 ([(s_l24Set p_t p_name (IntKind.wrap .i64 (x144 - 1)))] : List DTable) := OwnD.of_box (b := b229) (xs := ([(s_l24Set p_t p_name (IntKind.wrap .i64 (x144 - 1)))] : List DTable)) (cells := [[.string (bs ((s_l24Set p_t p_name (IntKind.wrap .i64 (x144 - 1))).Name)), .slice A221 (((s_l24Set p_t p_name (IntKind.wrap .i64 (x144 - 1))).Cols).length) c221, .slice A222 (((s_l24Set p_t p_name (IntKind.wrap .i64 (x144 - 1))).Idxs).length) c222]]) (by rw [List.flatten_singleton]; exact hB233) (by omega) (Nat.lt_succ_self _) (.cons (l := w157.heap.size) (h := b229) (Nat.le_refl _) (by omega) rfl (fun k hk => by cases hk; exact .inr (Nat.le_refl _)) (mkO_Table (l := w157.heap.size) (h := b229) (OwnL.ex good_Str h221 hE234) (OwnL.ex good_Idx h222 hE234) (by omega) (by omega) (by omega)) (.nil (Nat.le_succ _))) (Nat.le_of_ble_eq_true rfl)
     refine sd rfl (yl_appendD (xs := x140) (ys := ([(s_l24Set p_t p_name (IntKind.wrap .i64 (x144 - 1)))] : List DTable)) goodO_Table Try.un46 Try.ty36 rfl (Nat.le_of_ble_eq_true rfl) rfl rfl rfl (OwnD.ex goodO_Table (OwnD.ex goodO_Table hf169 hE225) hE234) hO235 (by first | omega | (simp only [List.length_append, List.length_cons, List.length_nil, List.length_take, List.length_drop, List.length_replicate, List.length_set, toS_length]; omega)) (by first | omega | (simp only [List.length_append, List.length_cons, List.length_nil, List.length_take, List.length_drop, List.length_replicate, List.length_set, toS_length]; omega)) (by omega) (by omega) (by omega) (by omega) ?_)
     intro A238 c239 w240 row241 hO242 hG243 hrg244
     have hG243z := hG243.size
     refine sd rfl (yl_assign rfl rfl (SeqR.done (bn (tn ?_))))
     have hB245 : B_s_l24Way_0 p_t p_name p_stage (x140, x144) = .cont ((x140 ++ ([(s_l24Set p_t p_name (IntKind.wrap .i64 (x144 - 1)))] : List DTable)), IntKind.wrap .i64 (x144 - 1)) := by simp only [B_s_l24Way_0, hb176, hb180, cond_true, cond_false, loopE_done, loopE_ret]
     have hmu258 : ((p_stage - IntKind.wrap .i64 (x144 - 1)).toNat + (IntKind.wrap .i64 (x144 - 1) - p_stage).toNat) < ((p_stage - x144).toNat + (x144 - p_stage).toNat) := by first | omega | assumption | (simp only [IntKind.wrap_i64] at *; omega)
     exact ⟨m155 - 1, by omega, (x140 ++ ([(s_l24Set p_t p_name (IntKind.wrap .i64 (x144 - 1)))] : List DTable)), IntKind.wrap .i64 (x144 - 1), A238, c239, w240.heap.size, (by omega), (by omega), rfl, rfl, rfl, rfl, rfl, (Box.grown (Box.ex (Box.ex hf166 hE225) hE234) hG243 (fun k hk => by have := hrg244 k hk; omega)), (RdS.grown good_Str (RdS.ex good_Str (RdS.ex good_Str hf167 hE225) hE234) hG243 (fun k hk => by have := hrg244 k hk; simp only [Iv]; omega)), (RdS.grown good_Idx (RdS.ex good_Idx (RdS.ex good_Idx hf168 hE225) hE234) hG243 (fun k hk => by have := hrg244 k hk; simp only [Iv]; omega)), hO242, (Below.grown (Ex.trans (Ex.trans hf170 hE225) hE234) hG243 (by omega) (fun k hk => by have := hrg244 k hk; omega)), (by omega), (by first | omega | (simp only [List.length_append, List.length_cons, List.length_nil, List.length_set, toS_length]; omega)), (okE.append hok173 ((okL.mk (Nat.le_of_ble_eq_true rfl) (okE.cons ho223 okE.nil))).2), (by first | omega | assumption | (simp only [IntKind.wrap_i64] at *; omega)), (by first | omega | assumption | (simp only [IntKind.wrap_i64] at *; omega)), (loopW.cont hk158 hB245).symm.trans hI159⟩
set_option maxRecDepth 100000 in
set_option maxHeartbeats 2000000 in
theorem c_s_NewShift {A1 : Option Addr} {c1 : Nat} {A2 : Option Addr} {c2 : Nat} {A5 : Option Addr} {c5 : Nat} {w : World} (p_t : DTable) (p_name : Str) (p_stage : Int) (p_servers : Int) (p_store : List DWrite) (h1 : RdS w (Iv 0 w.heap.size) (RF e_Str) 1 A1 p_t.Cols.length c1 p_t.Cols) (h2 : RdS w (Iv 0 w.heap.size) (RF e_Idx) 3 A2 p_t.Idxs.length c2 p_t.Idxs) (h5 : RdS w (Iv 0 w.heap.size) (RF e_Write) 3 A5 p_store.length c5 p_store) (o3 : ok_Table p_t) (o4 : okS p_name) (o6 : (okL ok_Write) p_store) : Cal Try.prog 21 #[.agg #[.string (bs (p_t.Name)), .slice A1 p_t.Cols.length c1, .slice A2 p_t.Idxs.length c2], .string (bs (p_name)), .int .i64 (p_stage), .int .i64 (p_servers), .slice A5 p_store.length c5] w fun v w' => ∃ A_1 c_1 lo_1 hi_1 A_2 c_2 A_3 c_3, v = .tuple #[.agg #[.string (bs ((s_NewShift p_t p_name p_stage p_servers p_store).1.Name)), .slice A_1 (((s_NewShift p_t p_name p_stage p_servers p_store).1.Ways).length) c_1, .slice A_2 (((s_NewShift p_t p_name p_stage p_servers p_store).1.At).length) c_2, .slice A_3 (((s_NewShift p_t p_name p_stage p_servers p_store).1.Store).length) c_3], .bool ((s_NewShift p_t p_name p_stage p_servers p_store).2)] ∧ OwnD w' lo_1 hi_1 36 3 RO_Table A_1 (((s_NewShift p_t p_name p_stage p_servers p_store).1.Ways).length) c_1 ((s_NewShift p_t p_name p_stage p_servers p_store).1.Ways) ∧ RdS w' (Iv w.heap.size w'.heap.size) (RF e_Int) 1 A_2 ((s_NewShift p_t p_name p_stage p_servers p_store).1.At).length c_2 ((s_NewShift p_t p_name p_stage p_servers p_store).1.At) ∧ RdS w' (Iv w.heap.size w'.heap.size) (RF e_Write) 3 A_3 ((s_NewShift p_t p_name p_stage p_servers p_store).1.Store).length c_3 ((s_NewShift p_t p_name p_stage p_servers p_store).1.Store) ∧ ok_Shift ((s_NewShift p_t p_name p_stage p_servers p_store).1) ∧ (w.heap.size ≤ lo_1 ∧ lo_1 ≤ hi_1 ∧ hi_1 ≤ w'.heap.size) ∧ Ex w w' := by
 have hol7 : p_t.Name.length ≤ 1073741824 := o3.1
 have hol8 := o3.2.1.1
 have hol9 := o3.2.2.1
 have hol10 : p_name.length ≤ 1073741824 := o4
 have hol11 := o6.1
 refine Cal.of (vs := [.agg #[.string (bs (p_t.Name)), .slice A1 p_t.Cols.length c1, .slice A2 p_t.Idxs.length c2], .string (bs (p_name)), .int .i64 (p_stage), .int .i64 (p_servers), .slice A5 p_store.length c5]) Try.func21 rfl Try.ntmps21 rfl (CW.seq (CW.region (sd rfl (yl_box (cs := [.string (bs (p_t.Name)), .slice A1 p_t.Cols.length c1, .slice A2 p_t.Idxs.length c2]) rfl rfl rfl ?_))))
 intro b12 w13 hs14 hz15 hB16 hE17
 refine sd rfl (yl_alloc Try.ty50 (cs := [.string (bs (([] : Str))), .slice none 0 0, .slice none 0 0, .slice none 0 0]) rfl rfl ?_)
 intro b18 w19 hs20 hz21 hB22 hE23
 refine sd rfl (yl_assign rfl rfl (SeqR.done (tn (CW.seq (CW.seq (CW.region ?_))))))
 have q24 := Box.ex hB16 hE23
 refine sd rfl (yl_loadN (cs := [.string (bs (p_t.Name)), .slice A1 p_t.Cols.length c1, .slice A2 p_t.Idxs.length c2]) Try.ty36 rfl rfl (q24.cells (n := 3) rfl) rfl (sd rfl (yl_move rfl rfl (sd rfl (yl_move rfl rfl ?_)))))
 have q26 := RdS.ex good_Str (RdS.ex good_Str h1 hE17) hE23
 have q28 := RdS.ex good_Idx (RdS.ex good_Idx h2 hE17) hE23
 refine sd rfl (yl_call Try.en71 rfl (opvs_cons rfl (opvs_cons rfl (opvs_cons rfl opvs_nil))) (Cal.mono (c_s_l24Asked p_t p_name p_stage (RdS.up q26 good_Str) (RdS.up q28 good_Idx) o3 o4) ?_))
 rintro v30 w29 ⟨rfl, hE31⟩
 have hE31z := Ex.size hE31
 refine sd rfl (yl_not rfl rfl (sd rfl (yl_move rfl rfl (bcase (s_l24Asked p_t p_name p_stage) (fun hb32 => ?_) (fun hb32 => ?_)))))
 ·obtain ⟨hb32p0, hb32p1, hb32p2⟩ := f_s_l24Asked hb32
  refine sy rfl rfl (not_t hb32) (yl_move rfl rfl (sy rfl rfl (not_t hb32) (yl_call Try.en72 rfl (opvs_cons rfl (opvs_cons rfl (opvs_cons rfl opvs_nil))) (Cal.mono (c_s_l1In p_servers 1 3) ?_))))
  rintro v34 w33 ⟨rfl, hE35⟩
  have hE35z := Ex.size hE35
  refine sy rfl rfl (not_t hb32) (yl_not rfl rfl (sd rfl (yl_pick_f rfl rfl (not_t hb32) rfl (sd rfl (yl_move rfl rfl (bcase (s_l1In p_servers 1 3) (fun hb36 => ?_) (fun hb36 => ?_)))))))
  ·have hb36p := f_l1In hb36
   refine sy rfl rfl (not_t hb36) (yl_move rfl rfl ?_)
   have q40 := RdS.ex good_Write (RdS.ex good_Write (RdS.ex good_Write (RdS.ex good_Write h5 hE17) hE23) hE31) hE35
   refine sy rfl rfl (not_t hb36) (yl_call Try.en73 rfl (opvs_cons rfl opvs_nil) (Cal.mono (c_s_l5Rows p_store (RdS.up q40 good_Write) o6) ?_))
   rintro v42 w41 ⟨rfl, hE43⟩
   have hE43z := Ex.size hE43
   refine sy rfl rfl (not_t hb36) (yl_not rfl rfl (sd rfl (yl_pick_f rfl rfl (not_t hb36) rfl (SeqR.done (tn (bcase (s_l5Rows p_store) (fun hb44 => ?_) (fun hb44 => ?_)))))))
   ·refine CW.cond_f rfl (not_t hb44) (CW.skip (tn (CW.seq (CW.drawsI 8 (vgetI [DetI (.string (bs (p_name))), DetI (.agg #[.string (bs (p_t.Name)), .slice A1 p_t.Cols.length c1, .slice A2 p_t.Idxs.length c2]), DetI (.string (bs (p_name))), DetI (.int .i64 (p_stage)), fun lo hi v wq => ∃ A55 c55 lo55 hi55, v = .slice A55 ((s_l24Way p_t p_name p_stage).length) c55 ∧ OwnD wq lo55 hi55 36 3 RO_Table A55 ((s_l24Way p_t p_name p_stage).length) c55 (s_l24Way p_t p_name p_stage) ∧ (okL ok_Table) (s_l24Way p_t p_name p_stage) ∧ (lo ≤ lo55 ∧ lo55 ≤ hi55 ∧ hi55 ≤ hi), DetI (.int .i64 (p_servers)), fun lo hi v wq => ∃ A57 c58, v = .slice A57 ((p_servers).toNat) c58 ∧ OwnL wq lo hi 3 1 (RF e_Int) A57 ((p_servers).toNat) c58 (List.replicate ((p_servers).toNat) d_Int), DetI (.slice A5 p_store.length c5)]) Try.follows rfl rfl rfl rfl rfl rfl (vgetI_stable ⟨StableI.det _, StableI.det _, StableI.det _, StableI.det _, (fun _ _ _ _ _ ⟨A55, c55, lo55, hi55, hv, h55, ho56, hr0⟩ e => ⟨A55, c55, lo55, hi55, hv, OwnD.ex goodO_Table h55 e, ho56, hr0⟩), StableI.det _, (fun _ _ _ _ _ ⟨A57, c58, hv, hO⟩ e => ⟨A57, c58, hv, OwnL.ex good_Int hO e⟩), StableI.det _, trivial⟩) ⟨?_, ?_, ?_, ?_, ?_, ?_, ?_, ?_, trivial⟩ ?_))))
    ·exact fun _ _ h => os rfl ((yl_move rfl (h.old 1 _ rfl rfl) kI))
    ·exact fun _ _ h => os rfl ((yl_loadN (cs := [.string (bs (p_t.Name)), .slice A1 p_t.Cols.length c1, .slice A2 p_t.Idxs.length c2]) Try.ty36 rfl (h.old 5 _ rfl rfl) ((Box.ex (Box.ex (Box.ex (Box.ex q24 hE31) hE35) hE43) h.ex).cells (n := 3) rfl) rfl kI))
    ·exact fun _ _ h => os rfl ((yl_move rfl (h.old 1 _ rfl rfl) kI))
    ·exact fun _ _ h => os rfl ((yl_move rfl (h.old 2 _ rfl rfl) kI))
    ·intro L81 w82 hi83
     have hE84 := hi83.ex
     have hE84z := Ex.size hE84
     refine OpR.op' rfl (yl_call Try.en75 rfl (opvs_cons (hi83.dt 1 29 rfl rfl rfl) (opvs_cons (hi83.dt 2 30 rfl rfl rfl) (opvs_cons (hi83.dt 3 31 rfl rfl rfl) opvs_nil))) (Cal.mono (c_s_l24Way p_t p_name p_stage (RdS.up (RdS.ex good_Str (RdS.ex good_Str (RdS.ex good_Str (RdS.ex good_Str q26 hE31) hE35) hE43) hE84) good_Str) (RdS.up (RdS.ex good_Idx (RdS.ex good_Idx (RdS.ex good_Idx (RdS.ex good_Idx q28 hE31) hE35) hE43) hE84) good_Idx) o3 o4 (by first | omega | assumption | (simp only [IntKind.wrap_i64] at *; omega)) (by first | omega | assumption | (simp only [IntKind.wrap_i64] at *; omega)) (by first | omega | assumption | (simp only [IntKind.wrap_i64] at *; omega))) ?_))
     rintro v93 w90 ⟨A91, c91, lo91, hi91, rfl, h91, ho92, hrn95, hE94⟩
     exact ⟨⟨A91, c91, lo91, hi91, rfl, h91, ho92, hrn95⟩, hE94⟩
    ·exact fun _ _ h => os rfl ((yl_move rfl (h.old 3 _ rfl rfl) kI))
    ·intro L101 w102 hi103
     have hE104 := hi103.ex
     have hE104z := Ex.size hE104
     have hx105 := hi103.dt 5 33 rfl rfl rfl
     refine OpR.op' rfl (yl_make (zs := [.int .i64 (0)]) (n := (p_servers).toNat) Try.un47 Try.ty3 rfl rfl (Nat.le_of_ble_eq_true rfl) rfl (toNat_op hx105 (by first | omega | assumption | (simp only [IntKind.wrap_i64] at *; omega))) (toNat_op hx105 (by first | omega | assumption | (simp only [IntKind.wrap_i64] at *; omega))) (by first | omega | assumption | (simp only [IntKind.wrap_i64] at *; omega)) (by first | omega | assumption | (simp only [IntKind.wrap_i64] at *; omega)) ?_)
     intro b106 w107 hs108 hz109 hB110 hE111
     have hO112 : OwnL w107 b106 (b106 + 1) 3 1 (RF e_Int) (some ⟨b106, 0, none⟩) ((p_servers).toNat) ((p_servers).toNat) (List.replicate ((p_servers).toNat) d_Int) := by have := OwnL.of_boxF (lo := b106) (hi := b106 + 1) (xs := (List.replicate ((p_servers).toNat) d_Int)) hB110 (Nat.le_refl _) (Nat.lt_succ_self _) (EncL.zerosF (enc := e_Int) (d := d_Int) rfl ((p_servers).toNat)) (by rw [List.length_replicate]; omega); rwa [List.length_replicate] at this
     exact ⟨⟨(some ⟨b106, 0, none⟩), (p_servers).toNat, rfl, OwnL.more hO112 (by omega) (by omega)⟩, hE111⟩
    ·exact fun _ _ h => os rfl ((yl_move rfl (h.old 4 _ rfl rfl) kI))
    ·intro fl121 fh122 L118 w119 hp120
     have hE123 := hp120.ex
     have hE123z := Ex.size hE123
     have hx124 := hp120.old 10 _ rfl rfl
     have hr127 := hp120.rng 4 rfl
     obtain ⟨_, hx126, A55_128, c55_129, lo55_130, hi55_131, rfl, h132, h133, hrn134⟩ := hp120.new 4 32 rfl rfl
     have hr136 := hp120.rng 6 rfl
     have hsp137 := hp120.sep 4 6 rfl rfl rfl
     obtain ⟨_, hx135, A57_138, c58_139, rfl, h140⟩ := hp120.new 6 34 rfl rfl
     refine sd rfl (yl_build (cs := [.string (bs (p_name)), .slice A55_128 ((s_l24Way p_t p_name p_stage).length) c55_129, .slice A57_138 ((p_servers).toNat) c58_139, .slice A5 p_store.length c5]) rfl (opvs_cons (hp120.nt 0 28 rfl rfl rfl) (opvs_cons hx126 (opvs_cons hx135 (opvs_cons (hp120.nt 7 35 rfl rfl rfl) opvs_nil)))) (by kernel_rfl) ?_)
     have hle143 := OwnL.len h140
     refine sd rfl (yl_call Try.en74 rfl (opvs_cons rfl opvs_nil) (Cal.mono (Cal.args (by rw [← hle143] <;> rfl) (c_s_l27Own (⟨p_name, (s_l24Way p_t p_name p_stage), (List.replicate ((p_servers).toNat) d_Int), p_store⟩ : DShift) (RdS.up (OwnL.rd good_Table (OwnD.own goodO_Table good_Table h132)) good_Table) (RdS.fix (RdS.up (OwnL.rd good_Int h140) good_Int)) (RdS.up (RdS.ex good_Write (RdS.ex good_Write q40 hE43) hE123) good_Write) (⟨o4, h133, (okL.mk (xs := (List.replicate ((p_servers).toNat) d_Int)) (by first | omega | (simp only [List.length_append, List.length_cons, List.length_nil, List.length_take, List.length_drop, List.length_replicate, List.length_set]; omega)) fun _ _ => trivial), o6⟩))) ?_))
     rintro v152 w147 ⟨A148, c148, lo148, hi148, A149, c149, A150, c150, rfl, h148, h149, h150, ho151, hrn154, hE153⟩
     have hE153z := Ex.size hE153
     refine SeqR.u rfl rfl (yl_store (vs := [.string (bs ((s_l27Own (⟨p_name, (s_l24Way p_t p_name p_stage), (List.replicate ((p_servers).toNat) d_Int), p_store⟩ : DShift)).Name)), .slice A148 (((s_l27Own (⟨p_name, (s_l24Way p_t p_name p_stage), (List.replicate ((p_servers).toNat) d_Int), p_store⟩ : DShift)).Ways).length) c148, .slice A149 (((s_l27Own (⟨p_name, (s_l24Way p_t p_name p_stage), (List.replicate ((p_servers).toNat) d_Int), p_store⟩ : DShift)).At).length) c149, .slice A150 (((s_l27Own (⟨p_name, (s_l24Way p_t p_name p_stage), (List.replicate ((p_servers).toNat) d_Int), p_store⟩ : DShift)).Store).length) c150]) Try.ty50 rfl hx124 rfl rfl rfl rfl (Box.ex (Box.ex (Box.ex (Box.ex (Box.ex hB22 hE31) hE35) hE43) hE123) hE153) (Nat.le_of_ble_eq_true rfl) ?_)
     intro w160 hB161 hO162
     have hB161 : Box w160 b18 50 [.string (bs ((s_l27Own (⟨p_name, (s_l24Way p_t p_name p_stage), (List.replicate ((p_servers).toNat) d_Int), p_store⟩ : DShift)).Name)), .slice A148 (((s_l27Own (⟨p_name, (s_l24Way p_t p_name p_stage), (List.replicate ((p_servers).toNat) d_Int), p_store⟩ : DShift)).Ways).length) c148, .slice A149 (((s_l27Own (⟨p_name, (s_l24Way p_t p_name p_stage), (List.replicate ((p_servers).toNat) d_Int), p_store⟩ : DShift)).At).length) c149, .slice A150 (((s_l27Own (⟨p_name, (s_l24Way p_t p_name p_stage), (List.replicate ((p_servers).toNat) d_Int), p_store⟩ : DShift)).Store).length) c150] := hB161
     have hO162z := hO162.size
     refine sd rfl (yl_assign rfl rfl (SeqR.done (tn (CW.sub (Sub.cons (d := 10) hx124 (Sub.cons (d := 11) rfl (Sub.nil _))) (CW.ret (rr rfl (.cons ⟨_, rfl, run_loadN Try.ty50 (cs := [.string (bs ((s_l27Own (⟨p_name, (s_l24Way p_t p_name p_stage), (List.replicate ((p_servers).toNat) d_Int), p_store⟩ : DShift)).Name)), .slice A148 (((s_l27Own (⟨p_name, (s_l24Way p_t p_name p_stage), (List.replicate ((p_servers).toNat) d_Int), p_store⟩ : DShift)).Ways).length) c148, .slice A149 (((s_l27Own (⟨p_name, (s_l24Way p_t p_name p_stage), (List.replicate ((p_servers).toNat) d_Int), p_store⟩ : DShift)).At).length) c149, .slice A150 (((s_l27Own (⟨p_name, (s_l24Way p_t p_name p_stage), (List.replicate ((p_servers).toNat) d_Int), p_store⟩ : DShift)).Store).length) c150]) rfl (hB161.cells (n := 4) rfl)⟩ (.cons rfl .nil)) ?_))))))
     have hM163 : (s_NewShift p_t p_name p_stage p_servers p_store) = (((s_l27Own (⟨p_name, (s_l24Way p_t p_name p_stage), (List.replicate ((p_servers).toNat) d_Int), p_store⟩ : DShift)), true)) := by simp only [s_NewShift, hb32, hb36, hb44, cond_true, cond_false, loopE_done, loopE_ret]
     rw [hM163]
     exact ⟨A148, c148, lo148, hi148, A149, c149, A150, c150, rfl, (OwnD.only goodO_Table h148 hO162 (by omega)), (RdS.wideI good_Int (RdS.only good_Int h149 hO162 (by simp only [Iv]; omega)) (by omega)), (RdS.wideI good_Write (RdS.only good_Write h150 hO162 (by simp only [Iv]; omega)) (by omega)), ho151, (by omega), (Below.only (Ex.trans (Ex.trans (Ex.trans (Ex.trans (Ex.trans (Ex.trans (Ex.trans (Ex.refl w) hE17) hE23) hE31) hE35) hE43) hE123) hE153) hO162 (by omega))⟩
   ·refine CW.cond_t rfl (not_f hb44) (CW.seq (CW.region (sd rfl (yl_build (cs := [.string (bs (([] : Str))), .slice none 0 0, .slice none 0 0, .slice none 0 0]) rfl opvs_nil (by kernel_rfl) (SeqR.u rfl rfl (yl_store (vs := [.string (bs (([] : Str))), .slice none 0 0, .slice none 0 0, .slice none 0 0]) Try.ty50 rfl rfl rfl rfl rfl rfl (Box.ex (Box.ex (Box.ex hB22 hE31) hE35) hE43) (Nat.le_of_ble_eq_true rfl) ?_))))))
    intro w178 hB179 hO180
    have hB179 : Box w178 b18 50 [.string (bs (([] : Str))), .slice none 0 0, .slice none 0 0, .slice none 0 0] := hB179
    have hO180z := hO180.size
    refine sd rfl (yl_assign rfl rfl (SeqR.done (tn (CW.ret (tr (rr rfl (.cons ⟨_, rfl, run_loadN Try.ty50 (cs := [.string (bs (([] : Str))), .slice none 0 0, .slice none 0 0, .slice none 0 0]) rfl (hB179.cells (n := 4) rfl)⟩ (.cons rfl .nil)) ?_))))))
    have hM181 : (s_NewShift p_t p_name p_stage p_servers p_store) = (((⟨([] : Str), [], [], []⟩ : DShift), false)) := by simp only [s_NewShift, hb32, hb36, hb44, cond_true, cond_false, loopE_done, loopE_ret]
    rw [hM181]
    exact ⟨none, 0, w178.heap.size, w178.heap.size, none, 0, none, 0, rfl, (OwnD.nil _ _ _ _ _ _), (RdS.nil _ _ _ _ _ _ (by decide)), (RdS.nil _ _ _ _ _ _ (by decide)), ⟨(okS.lit rfl), (okL.nil _), (okL.nil _), (okL.nil _)⟩, (by omega), (Below.only (Ex.trans (Ex.trans (Ex.trans (Ex.trans (Ex.trans (Ex.refl w) hE17) hE23) hE31) hE35) hE43) hO180 (by omega))⟩
  ·refine sz rfl rfl (not_f hb36) (sz rfl rfl (not_f hb36) (sz rfl rfl (not_f hb36) (sd rfl (yl_pick_t rfl rfl (not_f hb36) rfl (SeqR.done (tn (CW.cond_t rfl rfl (CW.seq (CW.region ?_)))))))))
   refine sd rfl (yl_build (cs := [.string (bs (([] : Str))), .slice none 0 0, .slice none 0 0, .slice none 0 0]) rfl opvs_nil (by kernel_rfl) (SeqR.u rfl rfl (yl_store (vs := [.string (bs (([] : Str))), .slice none 0 0, .slice none 0 0, .slice none 0 0]) Try.ty50 rfl rfl rfl rfl rfl rfl (Box.ex (Box.ex hB22 hE31) hE35) (Nat.le_of_ble_eq_true rfl) ?_)))
   intro w190 hB191 hO192
   have hB191 : Box w190 b18 50 [.string (bs (([] : Str))), .slice none 0 0, .slice none 0 0, .slice none 0 0] := hB191
   have hO192z := hO192.size
   refine sd rfl (yl_assign rfl rfl (SeqR.done (tn (CW.ret (tr (rr rfl (.cons ⟨_, rfl, run_loadN Try.ty50 (cs := [.string (bs (([] : Str))), .slice none 0 0, .slice none 0 0, .slice none 0 0]) rfl (hB191.cells (n := 4) rfl)⟩ (.cons rfl .nil)) ?_))))))
   have hM193 : (s_NewShift p_t p_name p_stage p_servers p_store) = (((⟨([] : Str), [], [], []⟩ : DShift), false)) := by simp only [s_NewShift, hb32, hb36, cond_true, cond_false, loopE_done, loopE_ret]
   rw [hM193]
   exact ⟨none, 0, w190.heap.size, w190.heap.size, none, 0, none, 0, rfl, (OwnD.nil _ _ _ _ _ _), (RdS.nil _ _ _ _ _ _ (by decide)), (RdS.nil _ _ _ _ _ _ (by decide)), ⟨(okS.lit rfl), (okL.nil _), (okL.nil _), (okL.nil _)⟩, (by omega), (Below.only (Ex.trans (Ex.trans (Ex.trans (Ex.trans (Ex.refl w) hE17) hE23) hE31) hE35) hO192 (by omega))⟩
 ·refine sz rfl rfl (not_f hb32) (sz rfl rfl (not_f hb32) (sz rfl rfl (not_f hb32) (sd rfl (yl_pick_t rfl rfl (not_f hb32) rfl (sd rfl (yl_move rfl rfl (sz rfl rfl rfl (sz rfl rfl rfl (sz rfl rfl rfl (sd rfl (yl_pick_t rfl rfl rfl rfl ?_)))))))))))
  refine SeqR.done (tn (CW.cond_t rfl rfl (CW.seq (CW.region (sd rfl (yl_build (cs := [.string (bs (([] : Str))), .slice none 0 0, .slice none 0 0, .slice none 0 0]) rfl opvs_nil (by kernel_rfl) (SeqR.u rfl rfl (yl_store (vs := [.string (bs (([] : Str))), .slice none 0 0, .slice none 0 0, .slice none 0 0]) Try.ty50 rfl rfl rfl rfl rfl rfl (Box.ex hB22 hE31) (Nat.le_of_ble_eq_true rfl) ?_))))))))
  intro w200 hB201 hO202
  have hB201 : Box w200 b18 50 [.string (bs (([] : Str))), .slice none 0 0, .slice none 0 0, .slice none 0 0] := hB201
  have hO202z := hO202.size
  refine sd rfl (yl_assign rfl rfl (SeqR.done (tn (CW.ret (tr (rr rfl (.cons ⟨_, rfl, run_loadN Try.ty50 (cs := [.string (bs (([] : Str))), .slice none 0 0, .slice none 0 0, .slice none 0 0]) rfl (hB201.cells (n := 4) rfl)⟩ (.cons rfl .nil)) ?_))))))
  have hM203 : (s_NewShift p_t p_name p_stage p_servers p_store) = (((⟨([] : Str), [], [], []⟩ : DShift), false)) := by simp only [s_NewShift, hb32, cond_true, cond_false, loopE_done, loopE_ret]
  rw [hM203]
  exact ⟨none, 0, w200.heap.size, w200.heap.size, none, 0, none, 0, rfl, (OwnD.nil _ _ _ _ _ _), (RdS.nil _ _ _ _ _ _ (by decide)), (RdS.nil _ _ _ _ _ _ (by decide)), ⟨(okS.lit rfl), (okL.nil _), (okL.nil _), (okL.nil _)⟩, (by omega), (Below.only (Ex.trans (Ex.trans (Ex.trans (Ex.refl w) hE17) hE23) hE31) hO202 (by omega))⟩
set_option maxRecDepth 100000 in
set_option maxHeartbeats 2000000 in
theorem c_l_toWrite {w : World} (p_a : DWrite) (o1 : ok_Write p_a) : Cal Try.prog 76 #[.agg #[.string (bs (p_a.Key)), .string (bs (p_a.Val)), .bool (p_a.Gone)]] w fun v w' => v = .agg #[.string (bs (p_a.Key)), .string (bs (p_a.Val)), .bool (p_a.Gone)] ∧ Ex w w' := by
 have hol2 : p_a.Key.length ≤ 1073741824 := o1.1
 have hol3 : p_a.Val.length ≤ 1073741824 := o1.2
 refine Cal.of (vs := [.agg #[.string (bs (p_a.Key)), .string (bs (p_a.Val)), .bool (p_a.Gone)]]) Try.func76 rfl Try.ntmps76 rfl (CW.seq (CW.region (sd rfl (yl_box (cs := [.string (bs (p_a.Key)), .string (bs (p_a.Val)), .bool (p_a.Gone)]) rfl rfl rfl ?_))))
 intro b4 w5 hs6 hz7 hB8 hE9
 refine sd rfl (yl_alloc Try.ty31 (cs := [.string (bs (([] : Str))), .string (bs (([] : Str))), .bool (false)]) rfl rfl ?_)
 intro b10 w11 hs12 hz13 hB14 hE15
 refine SeqR.done (tn (CW.seq (CW.region (sd rfl (yl_alloc Try.ty31 (cs := [.string (bs (([] : Str))), .string (bs (([] : Str))), .bool (false)]) rfl rfl ?_)))))
 intro b16 w17 hs18 hz19 hB20 hE21
 refine SeqR.done (tn (CW.seq (CW.region (sd rfl (yl_fieldAddr Try.fd111_0 rfl rfl ?_)))))
 have q23 := Box.ex (Box.ex hB8 hE15) hE21
 refine sd rfl (yl_load1 Try.ty9 rfl rfl ((q23.cell 0).trans rfl) (sd rfl (yl_fieldAddr Try.fd31_0 rfl rfl (SeqR.u rfl rfl (yl_store (vs := [.string (bs (p_a.Key))]) Try.ty9 rfl rfl rfl rfl rfl rfl hB20 (Nat.le_of_ble_eq_true rfl) ?_)))))
 intro w24 hB25 hO26
 have hB25 : Box w24 b16 31 [.string (bs (p_a.Key)), .string (bs (([] : Str))), .bool (false)] := hB25
 have hO26z := hO26.size
 refine SeqR.done (tn (CW.seq (CW.region (sd rfl (yl_fieldAddr Try.fd111_1 rfl rfl ?_)))))
 have q27 := Box.only q23 hO26 (by omega)
 refine sd rfl (yl_load1 Try.ty9 rfl rfl ((q27.cell 1).trans rfl) (sd rfl (yl_fieldAddr Try.fd31_1 rfl rfl (SeqR.u rfl rfl (yl_store (vs := [.string (bs (p_a.Val))]) Try.ty9 rfl rfl rfl rfl rfl rfl hB25 (Nat.le_of_ble_eq_true rfl) ?_)))))
 intro w28 hB29 hO30
 have hB29 : Box w28 b16 31 [.string (bs (p_a.Key)), .string (bs (p_a.Val)), .bool (false)] := hB29
 have hO30z := hO30.size
 refine SeqR.done (tn (CW.seq (CW.region (sd rfl (yl_fieldAddr Try.fd111_2 rfl rfl (sd rfl (yl_load1 Try.ty4 rfl rfl (((Box.only q27 hO30 (by omega)).cell 2).trans rfl) (sd rfl (yl_fieldAddr Try.fd31_2 rfl rfl (SeqR.u rfl rfl (yl_store (vs := [.bool (p_a.Gone)]) Try.ty4 rfl rfl rfl rfl rfl rfl hB29 (Nat.le_of_ble_eq_true rfl) ?_)))))))))))
 intro w32 hB33 hO34
 have hB33 : Box w32 b16 31 [.string (bs (p_a.Key)), .string (bs (p_a.Val)), .bool (p_a.Gone)] := hB33
 have hO34z := hO34.size
 refine SeqR.done (tn (CW.seq (CW.region (sd rfl (yl_loadN (cs := [.string (bs (p_a.Key)), .string (bs (p_a.Val)), .bool (p_a.Gone)]) Try.ty31 rfl rfl (hB33.cells (n := 3) rfl) rfl (SeqR.u rfl rfl (yl_store (vs := [.string (bs (p_a.Key)), .string (bs (p_a.Val)), .bool (p_a.Gone)]) Try.ty31 rfl rfl rfl rfl rfl rfl (Box.only (Box.only (Box.only (Box.ex hB14 hE21) hO26 (by omega)) hO30 (by omega)) hO34 (by omega)) (Nat.le_of_ble_eq_true rfl) ?_)))))))
 intro w39 hB40 hO41
 have hB40 : Box w39 b10 31 [.string (bs (p_a.Key)), .string (bs (p_a.Val)), .bool (p_a.Gone)] := hB40
 have hO41z := hO41.size
 refine SeqR.done (tn (CW.ret (rr rfl (.cons ⟨_, rfl, run_loadN Try.ty31 (cs := [.string (bs (p_a.Key)), .string (bs (p_a.Val)), .bool (p_a.Gone)]) rfl (hB40.cells (n := 3) rfl)⟩ .nil) ?_)))
 have hM42 : p_a = (p_a) := (to_Write _).symm.trans <| by simp only [l_toWrite, cond_true, cond_false, loopE_done, loopE_ret]
 rw [hM42]
 exact ⟨rfl, (Below.only (Below.only (Below.only (Below.only (Ex.trans (Ex.trans (Ex.trans (Ex.refl w) hE9) hE15) hE21) hO26 (by omega)) hO30 (by omega)) hO34 (by omega)) hO41 (by omega))⟩
set_option maxRecDepth 100000 in
set_option maxHeartbeats 2000000 in
theorem c_l_toWriteS {A1 : Option Addr} {c1 : Nat} {w : World} (p_a : List DWrite) (h1 : RdS w (Iv 0 w.heap.size) (RF e_Write) 3 A1 p_a.length c1 p_a) (o2 : (okL ok_Write) p_a) : Cal Try.prog 22 #[.slice A1 p_a.length c1] w fun v w' => ∃ A_1 c_1 lo_1 hi_1, v = .slice A_1 p_a.length c_1 ∧ OwnL w' lo_1 hi_1 31 3 (RF e_Write) A_1 p_a.length c_1 p_a ∧ (w.heap.size ≤ lo_1 ∧ lo_1 ≤ hi_1 ∧ hi_1 ≤ w'.heap.size) ∧ Ex w w' := by
 have hol3 := o2.1
 refine Cal.of (vs := [.slice A1 p_a.length c1]) Try.func22 rfl Try.ntmps22 rfl (CW.seq (CW.region (sd rfl (yl_assign rfl rfl (SeqR.done (tn (CW.seq (CW.region (sd rfl (yl_move rfl rfl ?_))))))))))
 refine sd rfl (yl_len Try.un44 rfl rfl (sd rfl (yl_make (zs := [.string (bs (([] : Str))), .string (bs (([] : Str))), .bool (false)]) (n := p_a.length) Try.un48 Try.ty31 rfl rfl (Nat.le_of_ble_eq_true rfl) rfl rfl rfl (by first | omega | assumption | (simp only [IntKind.wrap_i64] at *; omega)) (by first | omega | assumption | (simp only [IntKind.wrap_i64] at *; omega)) ?_)))
 intro b4 w5 hs6 hz7 hB8 hE9
 have hO10 : OwnL w5 b4 (b4 + 1) 31 3 (RF e_Write) (some ⟨b4, 0, none⟩) p_a.length p_a.length (List.replicate p_a.length d_Write) := by have := OwnL.of_boxF (lo := b4) (hi := b4 + 1) (xs := (List.replicate p_a.length d_Write)) hB8 (Nat.le_refl _) (Nat.lt_succ_self _) (EncL.zerosF (enc := e_Write) (d := d_Write) rfl p_a.length) (by rw [List.length_replicate]; omega); rwa [List.length_replicate] at this
 refine sd rfl (yl_assign rfl rfl (SeqR.done (tn (CW.seq (CW.seq (CW.region (sd rfl (yl_assign rfl rfl (SeqR.done (tn ?_))))))))))
 refine CW.block (CW.loop (fun m23 L24 w25 => ∃ (k11 : Nat) (x22 : List DWrite), m23 = p_a.length - k11 ∧ k11 ≤ p_a.length ∧ w5.heap.size ≤ w25.heap.size ∧ lkp L24 0 = some (.slice A1 p_a.length c1) ∧ lkp L24 3 = some (.slice (some ⟨b4, 0, none⟩) p_a.length p_a.length) ∧ lkp L24 4 = some (.int .i64 ((k11 : Int))) ∧ RdS w25 (Iv 0 w.heap.size) (RF e_Write) 3 A1 p_a.length c1 p_a ∧ OwnL w25 b4 (b4 + 1) 31 3 (RF e_Write) (some ⟨b4, 0, none⟩) p_a.length p_a.length x22 ∧ Ex w w25 ∧ loopM (B_l_toWriteS_0 p_a) (p_a.length - k11) k11 (x22) = loopM (B_l_toWriteS_0 p_a) (p_a.length - 0) 0 ((List.replicate p_a.length d_Write))) (p_a.length - 0) ?_ ?_)
 ·exact ⟨0, (List.replicate p_a.length d_Write), rfl, (by omega), Nat.le_refl _, rfl, rfl, rfl, (RdS.ex good_Write h1 hE9), hO10, (Ex.trans (Ex.refl w) hE9), rfl⟩
 ·rintro m28 L29 w30 ⟨k11, x22, rfl, hk31, hsz33, hl34, hl35, hl36, hf37, hf38, hf39, hI32⟩
  refine CW.sub (Sub.cons hl34 (Sub.cons hl35 (Sub.cons hl36 (Sub.nil _)))) ?_
  have hf39z := Ex.size hf39
  have hbg40 := RdS.big hf37
  rcases Nat.lt_or_ge k11 p_a.length with hlt41 | hlt41
  ·refine CW.seq (CW.seq (CW.region (sd rfl (yl_move rfl rfl (sd rfl (yl_move rfl rfl (sd rfl (yl_len Try.un44 rfl rfl (sd rfl (yl_lss rfl rfl rfl (SeqR.done (tn ?_))))))))))))
   refine CW.cond_t rfl (lt_t hlt41) (CW.skip (tn (CW.seq (CW.block (CW.region (sd rfl (yl_move rfl rfl (sd rfl (yl_move rfl rfl (sd rfl (yl_move rfl rfl ?_)))))))))))
   refine sd rfl (yl_move rfl rfl ?_)
   obtain ⟨eb42, eo42, ec42, eA42, eS42, ebl42, el42, eR42, eC42⟩ := RdS.atD hf37 d_Write (i := k11) (by first | omega | assumption)
   obtain rfl := eR42
   have eC42 : Cells w30 eb42 (eo42 + k11 * 3) [.string (bs ((p_a.getD k11 d_Write).Key)), .string (bs ((p_a.getD k11 d_Write).Val)), .bool ((p_a.getD k11 d_Write).Gone)] := eC42
   refine sd rfl (yl_indexAddrN Try.un44 Try.ty111 rfl rfl rfl eA42 (by first | omega | assumption | (simp only [IntKind.wrap_i64] at *; omega)) (sd rfl (yl_loadN (cs := [.string (bs ((p_a.getD k11 d_Write).Key)), .string (bs ((p_a.getD k11 d_Write).Val)), .bool ((p_a.getD k11 d_Write).Gone)]) Try.ty111 rfl rfl eC42 rfl (sd rfl (yl_call Try.en76 rfl (opvs_cons rfl opvs_nil) (Cal.mono (c_l_toWrite (p_a.getD k11 d_Write) (okL.getD o2 ok_d_Write _)) ?_))))))
   rintro v44 w43 ⟨rfl, hE45⟩
   have hE45z := Ex.size hE45
   have q47 := OwnL.ex good_Write hf38 hE45
   obtain ⟨eb48, eo48, ec48, eA48, eS48, ebl48, el48, eR48, eC48⟩ := RdS.atD (OwnL.rd good_Write q47) d_Write (i := k11) (by first | omega | assumption)
   obtain rfl := eR48
   have eC48 : Cells w43 eb48 (eo48 + k11 * 3) [.string (bs ((x22.getD k11 d_Write).Key)), .string (bs ((x22.getD k11 d_Write).Val)), .bool ((x22.getD k11 d_Write).Gone)] := eC48
   refine sd rfl (yl_indexAddrN Try.un48 Try.ty31 rfl rfl rfl eA48 (by first | omega | assumption | (simp only [IntKind.wrap_i64] at *; omega)) ?_)
   have hrg49 := OwnL.rng q47 (i := k11) (by first | omega | assumption | (simp only [IntKind.wrap_i64] at *; omega)) eb48 (by rw [eA48]; rfl)
   refine SeqR.u rfl rfl (yl_storeF (off := eo48) (i := k11) (d := 0) (dx := d_Write) (x' := (p_a.getD k11 d_Write)) (vs := [.string (bs ((p_a.getD k11 d_Write).Key)), .string (bs ((p_a.getD k11 d_Write).Val)), .bool ((p_a.getD k11 d_Write).Gone)]) Try.ty31 rfl q47 eA48 rfl rfl rfl rfl rfl (by first | omega | assumption | (simp only [IntKind.wrap_i64] at *; omega)) (Nat.le_of_ble_eq_true rfl) rfl rfl ?_)
   intro w50 hB51 hO52
   have hO52z := hO52.size
   refine SeqR.done (bn (tn (CW.region (sd rfl (yl_move rfl rfl (sd rfl (yl_inc rfl rfl rfl (by omega) (sd rfl (yl_assign rfl rfl (SeqR.done (tn ?_)))))))))))
   have hB53 : B_l_toWriteS_0 p_a k11 (x22) = .cont ((x22.set k11 (p_a.getD k11 d_Write))) := by simp only [B_l_toWriteS_0, cond_true, cond_false, loopE_done, loopE_ret]
   exact ⟨p_a.length - (k11 + 1), by omega, k11 + 1, (x22.set k11 (p_a.getD k11 d_Write)), rfl, hlt41, (by omega), rfl, rfl, rfl, (RdS.only good_Write (RdS.ex good_Write hf37 hE45) hO52 (by simp only [Iv]; omega)), hB51, (Below.only (Ex.trans hf39 hE45) hO52 (by omega)), (loopM.cont hlt41 hB53).symm.trans hI32⟩
  ·refine CW.seq (CW.seq (CW.region (sd rfl (yl_move rfl rfl (sd rfl (yl_move rfl rfl (sd rfl (yl_len Try.un44 rfl rfl (sd rfl (yl_lss rfl rfl rfl (SeqR.done (tn ?_))))))))))))
   refine CW.cond_f rfl (lt_f hlt41) (CW.exit (tx (tx ?_)))
   have hL58 : loopM (B_l_toWriteS_0 p_a) (p_a.length - 0) 0 ((List.replicate p_a.length d_Write)) = .done (x22) := hI32.symm.trans (loopM.stop hlt41)
   refine bx (tn (CW.seq (CW.region (sd rfl (yl_move rfl rfl (sd rfl (yl_assign rfl rfl (SeqR.done (tn (CW.ret ?_))))))))))
   refine rr rfl (.cons rfl .nil) ?_
   have hM59 : p_a = (x22) := (to_WriteS _).symm.trans <| by simp only [l_toWriteS, hL58, cond_true, cond_false, loopE_done, loopE_ret]
   subst hM59
   exact ⟨(some ⟨b4, 0, none⟩), p_a.length, b4, (b4 + 1), rfl, hf38, (by omega), hf39⟩
set_option maxRecDepth 100000 in
set_option maxHeartbeats 2000000 in
theorem c_i_within {w : World} (p_n : Int) (p_low : Int) (p_high : Int) : Cal Try.prog 77 #[.int .i64 (p_n), .int .i64 (p_low), .int .i64 (p_high)] w fun v w' => v = .bool ((i_within p_n p_low p_high)) ∧ Ex w w' := by
 refine Cal.of (vs := [.int .i64 (p_n), .int .i64 (p_low), .int .i64 (p_high)]) Try.func77 rfl Try.ntmps77 rfl (CW.seq (CW.region (sd rfl (yl_assign rfl rfl (SeqR.done (tn (CW.seq (CW.region (sd rfl (yl_move rfl rfl ?_))))))))))
 refine sd rfl (yl_move rfl rfl (sd rfl (yl_geq rfl rfl rfl (sd rfl (yl_move rfl rfl (bcase (decide (p_low ≤ p_n)) (fun hb1 => ?_) (fun hb1 => ?_)))))))
 ·have hb1p := dec_t hb1
  refine sy rfl rfl hb1 (yl_move rfl rfl (sy rfl rfl hb1 (yl_move rfl rfl (sy rfl rfl hb1 (yl_leq rfl rfl rfl (sd rfl (yl_pick_t rfl rfl hb1 rfl (sd rfl (yl_assign rfl rfl (SeqR.done (tn (CW.ret (rr rfl (.cons rfl .nil) ?_)))))))))))))
  have hM2 : (i_within p_n p_low p_high) = (decide (p_n ≤ p_high)) := by simp only [i_within, hb1, cond_true, cond_false, loopE_done, loopE_ret]
  rw [hM2]
  exact ⟨rfl, (Ex.refl w)⟩
 ·have hb1p := dec_f hb1
  refine sz rfl rfl hb1 (sz rfl rfl hb1 (sz rfl rfl hb1 (sd rfl (yl_pick_f rfl rfl hb1 rfl (sd rfl (yl_assign rfl rfl (SeqR.done (tn (CW.ret (rr rfl (.cons rfl .nil) ?_))))))))))
  have hM3 : (i_within p_n p_low p_high) = (false) := by simp only [i_within, hb1, cond_true, cond_false, loopE_done, loopE_ret]
  rw [hM3]
  exact ⟨rfl, (Ex.refl w)⟩
set_option maxRecDepth 100000 in
set_option maxHeartbeats 2000000 in
theorem c_i_isStage {w : World} (p_stage : Int) : Cal Try.prog 93 #[.int .i64 (p_stage)] w fun v w' => v = .bool ((i_isStage p_stage)) ∧ Ex w w' := by
 refine Cal.of (vs := [.int .i64 (p_stage)]) Try.func93 rfl Try.ntmps93 rfl (CW.seq (CW.region (sd rfl (yl_assign rfl rfl (SeqR.done (tn (CW.seq (CW.region (sd rfl (yl_move rfl rfl ?_))))))))))
 refine sd rfl (yl_call Try.en77 rfl (opvs_cons rfl (opvs_cons rfl (opvs_cons rfl opvs_nil))) (Cal.mono (c_i_within p_stage 0 3) ?_))
 rintro v2 w1 ⟨rfl, hE3⟩
 have hE3z := Ex.size hE3
 refine sd rfl (yl_assign rfl rfl (SeqR.done (tn (CW.ret (rr rfl (.cons rfl .nil) ?_)))))
 have hM4 : (i_isStage p_stage) = ((i_within p_stage 0 3)) := by simp only [i_isStage, cond_true, cond_false, loopE_done, loopE_ret]
 rw [hM4]
 exact ⟨rfl, (Ex.trans (Ex.refl w) hE3)⟩
set_option maxRecDepth 100000 in
set_option maxHeartbeats 2000000 in
theorem c_i_areLetters {w : World} (p_s : Str) (p_most : Int) (o1 : okS p_s) : Cal Try.prog 175 #[.string (bs (p_s)), .int .i64 (p_most)] w fun v w' => v = .bool ((i_areLetters p_s p_most)) ∧ Ex w w' := by
 have hol2 : p_s.length ≤ 1073741824 := o1
 refine Cal.of (vs := [.string (bs (p_s)), .int .i64 (p_most)]) Try.func175 rfl Try.ntmps175 rfl (CW.seq (CW.region (sd rfl (yl_assign rfl rfl (SeqR.done (tn (CW.seq (CW.seq (CW.region ?_)))))))))
 refine sd rfl (yl_move rfl rfl (sd rfl (yl_slen Try.un9 (a := p_s) rfl rfl (sd rfl (yl_move rfl rfl (SeqR.done (tn (CW.block (CW.loop (fun m4 L5 w6 => ∃ (k3 : Nat), m4 = p_s.length - k3 ∧ k3 ≤ p_s.length ∧ w.heap.size ≤ w6.heap.size ∧ lkp L5 0 = some (.string (bs (p_s))) ∧ lkp L5 1 = some (.int .i64 (p_most)) ∧ lkp L5 7 = some (.int .i64 ((p_s.length : Int))) ∧ lkp L5 8 = some (.int .i64 ((k3 : Int))) ∧ Ex w w6 ∧ loopM (B_i_areLetters_0 p_s p_most) (p_s.length - k3) k3 () = loopM (B_i_areLetters_0 p_s p_most) (p_s.length - 0) 0 ()) (p_s.length - 0) ?_ ?_)))))))))
 ·exact ⟨0, rfl, (by omega), Nat.le_refl _, rfl, rfl, rfl, rfl, (Ex.refl w), rfl⟩
 ·rintro m7 L8 w9 ⟨k3, rfl, hk10, hsz12, hl13, hl14, hl15, hl16, hf17, hI11⟩
  refine CW.sub (Sub.cons hl13 (Sub.cons hl14 (Sub.cons hl15 (Sub.cons hl16 (Sub.nil _))))) ?_
  have hf17z := Ex.size hf17
  have hbg18 : p_s.length ≤ 1073741824 := o1
  rcases Nat.lt_or_ge k3 p_s.length with hlt19 | hlt19
  ·refine CW.seq (CW.region (sd rfl (yl_lss rfl rfl rfl (SeqR.done (tn (CW.seq (CW.cond_t rfl (lt_t hlt19) (CW.skip (tn ?_)))))))))
   refine CW.seq (CW.block (CW.seq (CW.region (sd rfl (yl_move rfl rfl (sd rfl (yl_assign rfl rfl (SeqR.done (tn (CW.seq ?_))))))))))
   refine CW.region (sd rfl (yl_move rfl rfl (sd rfl (yl_move rfl rfl (sd rfl (yl_sindexN Try.un9 (a := p_s) rfl rfl rfl (by first | omega | assumption | (simp only [IntKind.wrap_i64] at *; omega)) (sd rfl (yl_lss rfl rfl rfl (sd rfl (yl_move rfl rfl (bcase (decide (((p_s.getD k3 0).toNat : Int) < 97)) (fun hb20 => ?_) (fun hb20 => ?_))))))))))))
   ·have hb20p := dec_t hb20
    refine sz rfl rfl hb20 (sz rfl rfl hb20 (sz rfl rfl hb20 (sz rfl rfl hb20 (sd rfl (yl_pick_t rfl rfl hb20 rfl (SeqR.done (tn (CW.cond_t rfl rfl (CW.seq ?_)))))))))
    refine CW.region (sd rfl (yl_assign rfl rfl (SeqR.done (tn (CW.ret (br (tr (tr ?_))))))))
    have hB22 : B_i_areLetters_0 p_s p_most k3 () = .ret false := by simp only [B_i_areLetters_0, hb20, cond_true, cond_false, loopE_done, loopE_ret]
    have hL21 : loopM (B_i_areLetters_0 p_s p_most) (p_s.length - 0) 0 () = .ret false := hI11.symm.trans (loopM.ret hlt19 hB22)
    refine br (tr (rr rfl (.cons rfl .nil) ?_))
    have hM23 : (i_areLetters p_s p_most) = (false) := by simp only [i_areLetters, hb20, hL21, cond_true, cond_false, loopE_done, loopE_ret]
    rw [hM23]
    exact ⟨rfl, hf17⟩
   ·have hb20p := dec_f hb20
    refine sy rfl rfl hb20 (yl_move rfl rfl (sy rfl rfl hb20 (yl_move rfl rfl (sy rfl rfl hb20 (yl_sindexN Try.un9 (a := p_s) rfl rfl rfl (by first | omega | assumption | (simp only [IntKind.wrap_i64] at *; omega)) (sy rfl rfl hb20 (yl_gtr rfl rfl rfl (sd rfl (yl_pick_f rfl rfl hb20 rfl (SeqR.done (tn (bcase (decide (122 < ((p_s.getD k3 0).toNat : Int))) (fun hb24 => ?_) (fun hb24 => ?_)))))))))))))
    ·have hb24p := dec_t hb24
     refine CW.cond_t rfl hb24 (CW.seq (CW.region (sd rfl (yl_assign rfl rfl (SeqR.done (tn (CW.ret (br (tr ?_)))))))))
     refine tr ?_
     have hB26 : B_i_areLetters_0 p_s p_most k3 () = .ret false := by simp only [B_i_areLetters_0, hb20, hb24, cond_true, cond_false, loopE_done, loopE_ret]
     have hL25 : loopM (B_i_areLetters_0 p_s p_most) (p_s.length - 0) 0 () = .ret false := hI11.symm.trans (loopM.ret hlt19 hB26)
     refine br (tr (rr rfl (.cons rfl .nil) ?_))
     have hM27 : (i_areLetters p_s p_most) = (false) := by simp only [i_areLetters, hb20, hb24, hL25, cond_true, cond_false, loopE_done, loopE_ret]
     rw [hM27]
     exact ⟨rfl, hf17⟩
    ·have hb24p := dec_f hb24
     refine CW.cond_f rfl hb24 (CW.skip (bn (tn (CW.region (sd rfl (yl_inc rfl rfl rfl (by omega) (sd rfl (yl_move rfl rfl (SeqR.done (tn ?_))))))))))
     have hB28 : B_i_areLetters_0 p_s p_most k3 () = .cont () := by simp only [B_i_areLetters_0, hb20, hb24, cond_true, cond_false, loopE_done, loopE_ret]
     exact ⟨p_s.length - (k3 + 1), by omega, k3 + 1, rfl, hlt19, (by omega), rfl, rfl, rfl, rfl, hf17, (loopM.cont hlt19 hB28).symm.trans hI11⟩
  ·refine CW.seq (CW.region (sd rfl (yl_lss rfl rfl rfl (SeqR.done (tn (CW.seq (CW.cond_f rfl (lt_f hlt19) (CW.exit (tx ?_)))))))))
   refine tx ?_
   have hL29 : loopM (B_i_areLetters_0 p_s p_most) (p_s.length - 0) 0 () = .done () := hI11.symm.trans (loopM.stop hlt19)
   refine bx (tn (CW.seq (CW.region (sd rfl (yl_move rfl rfl (sd rfl (yl_slen Try.un9 (a := p_s) rfl rfl (sd rfl (yl_move rfl rfl (sd rfl (yl_call Try.en77 rfl (opvs_cons rfl (opvs_cons rfl (opvs_cons rfl opvs_nil))) (Cal.mono (c_i_within (p_s.length : Int) 1 p_most) ?_))))))))))))
   rintro v31 w30 ⟨rfl, hE32⟩
   have hE32z := Ex.size hE32
   refine sd rfl (yl_assign rfl rfl (SeqR.done (tn (CW.ret (rr rfl (.cons rfl .nil) ?_)))))
   have hM33 : (i_areLetters p_s p_most) = ((i_within (p_s.length : Int) 1 p_most)) := by simp only [i_areLetters, hL29, cond_true, cond_false, loopE_done, loopE_ret]
   rw [hM33]
   exact ⟨rfl, (Ex.trans hf17 hE32)⟩
set_option maxRecDepth 100000 in
set_option maxHeartbeats 2000000 in
theorem c_g_slices_Index_string {A1 : Option Addr} {c1 : Nat} {w : World} (p_s : List Str) (p_v : Str) (h1 : RdS w (Iv 0 w.heap.size) (RF e_Str) 1 A1 p_s.length c1 p_s) (o2 : (okL okS) p_s) (o3 : okS p_v) : Cal Try.prog 211 #[.slice A1 p_s.length c1, .string (bs (p_v))] w fun v w' => v = .int .i64 ((g_slices_Index_string p_s p_v)) ∧ Ex w w' := by
 have hol4 := o2.1
 have hol5 : p_v.length ≤ 1073741824 := o3
 refine Cal.of (vs := [.slice A1 p_s.length c1, .string (bs (p_v))]) Try.func211 rfl Try.ntmps211 rfl (CW.seq (CW.region (sd rfl (yl_assign rfl rfl (SeqR.done (tn (CW.seq (CW.seq (CW.region ?_)))))))))
 refine sd rfl (yl_move rfl rfl (sd rfl (yl_len Try.un22 rfl rfl (sd rfl (yl_move rfl rfl (SeqR.done (tn (CW.block (CW.loop (fun m7 L8 w9 => ∃ (k6 : Nat), m7 = p_s.length - k6 ∧ k6 ≤ p_s.length ∧ w.heap.size ≤ w9.heap.size ∧ lkp L8 0 = some (.slice A1 p_s.length c1) ∧ lkp L8 1 = some (.string (bs (p_v))) ∧ lkp L8 7 = some (.int .i64 ((p_s.length : Int))) ∧ lkp L8 8 = some (.int .i64 ((k6 : Int))) ∧ RdS w9 (Iv 0 w.heap.size) (RF e_Str) 1 A1 p_s.length c1 p_s ∧ Ex w w9 ∧ loopM (B_g_slices_Index_string_0 p_s p_v) (p_s.length - k6) k6 () = loopM (B_g_slices_Index_string_0 p_s p_v) (p_s.length - 0) 0 ()) (p_s.length - 0) ?_ ?_)))))))))
 ·exact ⟨0, rfl, (by omega), Nat.le_refl _, rfl, rfl, rfl, rfl, h1, (Ex.refl w), rfl⟩
 ·rintro m10 L11 w12 ⟨k6, rfl, hk13, hsz15, hl16, hl17, hl18, hl19, hf20, hf21, hI14⟩
  refine CW.sub (Sub.cons hl16 (Sub.cons hl17 (Sub.cons hl18 (Sub.cons hl19 (Sub.nil _))))) ?_
  have hf21z := Ex.size hf21
  have hbg22 := RdS.big hf20
  rcases Nat.lt_or_ge k6 p_s.length with hlt23 | hlt23
  ·refine CW.seq (CW.region (sd rfl (yl_lss rfl rfl rfl (SeqR.done (tn (CW.seq (CW.cond_t rfl (lt_t hlt23) (CW.skip (tn ?_)))))))))
   refine CW.seq (CW.block (CW.seq (CW.region (sd rfl (yl_move rfl rfl (sd rfl (yl_assign rfl rfl (SeqR.done (tn (CW.seq ?_))))))))))
   refine CW.region (sd rfl (yl_move rfl rfl (sd rfl (yl_move rfl rfl (sd rfl (yl_move rfl rfl ?_))))))
   obtain ⟨eb24, eo24, ec24, eA24, eS24, ebl24, el24, eR24, eC24⟩ := RdS.atD hf20 d_Str (i := k6) (by first | omega | assumption)
   obtain rfl := eR24
   have eC24 : Cells w12 eb24 (eo24 + k6 * 1) [.string (bs ((p_s.getD k6 d_Str)))] := eC24
   refine sd rfl (yl_indexAddrN Try.un22 Try.ty9 rfl rfl rfl eA24 (by first | omega | assumption | (simp only [IntKind.wrap_i64] at *; omega)) (sd rfl (yl_load1 Try.ty9 rfl rfl (eC24 0 _ rfl) (sd rfl (yl_seql (a := p_v) (b := (p_s.getD k6 d_Str)) rfl rfl rfl (SeqR.done (tn (bcase (p_v == (p_s.getD k6 d_Str)) (fun hb25 => ?_) (fun hb25 => ?_)))))))))
   ·refine CW.cond_t rfl hb25 (CW.seq (CW.region (sd rfl (yl_move rfl rfl (sd rfl (yl_assign rfl rfl (SeqR.done (tn (CW.ret (br ?_))))))))))
    refine tr (tr ?_)
    have hB27 : B_g_slices_Index_string_0 p_s p_v k6 () = .ret (k6 : Int) := by simp only [B_g_slices_Index_string_0, hb25, cond_true, cond_false, loopE_done, loopE_ret]
    have hL26 : loopM (B_g_slices_Index_string_0 p_s p_v) (p_s.length - 0) 0 () = .ret (k6 : Int) := hI14.symm.trans (loopM.ret hlt23 hB27)
    refine br (tr (rr rfl (.cons rfl .nil) ?_))
    have hM28 : (g_slices_Index_string p_s p_v) = ((k6 : Int)) := by simp only [g_slices_Index_string, hb25, hL26, cond_true, cond_false, loopE_done, loopE_ret]
    rw [hM28]
    exact ⟨rfl, hf21⟩
   ·refine CW.cond_f rfl hb25 (CW.skip (bn (tn (CW.region (sd rfl (yl_inc rfl rfl rfl (by omega) (sd rfl (yl_move rfl rfl (SeqR.done (tn ?_))))))))))
    have hB29 : B_g_slices_Index_string_0 p_s p_v k6 () = .cont () := by simp only [B_g_slices_Index_string_0, hb25, cond_true, cond_false, loopE_done, loopE_ret]
    exact ⟨p_s.length - (k6 + 1), by omega, k6 + 1, rfl, hlt23, (by omega), rfl, rfl, rfl, rfl, hf20, hf21, (loopM.cont hlt23 hB29).symm.trans hI14⟩
  ·refine CW.seq (CW.region (sd rfl (yl_lss rfl rfl rfl (SeqR.done (tn (CW.seq (CW.cond_f rfl (lt_f hlt23) (CW.exit (tx ?_)))))))))
   refine tx ?_
   have hL30 : loopM (B_g_slices_Index_string_0 p_s p_v) (p_s.length - 0) 0 () = .done () := hI14.symm.trans (loopM.stop hlt23)
   refine bx (tn (CW.seq (CW.region (sd rfl (yl_assign rfl rfl (SeqR.done (tn (CW.ret (rr rfl (.cons rfl .nil) ?_)))))))))
   have hM31 : (g_slices_Index_string p_s p_v) = (-1) := by simp only [g_slices_Index_string, hL30, cond_true, cond_false, loopE_done, loopE_ret]
   rw [hM31]
   exact ⟨rfl, hf21⟩
set_option maxRecDepth 100000 in
set_option maxHeartbeats 2000000 in
theorem c_g_slices_Contains_string {A1 : Option Addr} {c1 : Nat} {w : World} (p_s : List Str) (p_v : Str) (h1 : RdS w (Iv 0 w.heap.size) (RF e_Str) 1 A1 p_s.length c1 p_s) (o2 : (okL okS) p_s) (o3 : okS p_v) : Cal Try.prog 176 #[.slice A1 p_s.length c1, .string (bs (p_v))] w fun v w' => v = .bool ((g_slices_Contains_string p_s p_v)) ∧ Ex w w' := by
 have hol4 := o2.1
 have hol5 : p_v.length ≤ 1073741824 := o3
 refine Cal.of (vs := [.slice A1 p_s.length c1, .string (bs (p_v))]) Try.func176 rfl Try.ntmps176 rfl (CW.seq (CW.region (sd rfl (yl_assign rfl rfl (SeqR.done (tn (CW.seq (CW.region (sd rfl (yl_move rfl rfl ?_))))))))))
 refine sd rfl (yl_move rfl rfl (sd rfl (yl_call Try.en211 rfl (opvs_cons rfl (opvs_cons rfl opvs_nil)) (Cal.mono (c_g_slices_Index_string p_s p_v (RdS.up h1 good_Str) o2 o3) ?_))))
 rintro v7 w6 ⟨rfl, hE8⟩
 have hE8z := Ex.size hE8
 refine sd rfl (yl_geq rfl rfl rfl (sd rfl (yl_assign rfl rfl (SeqR.done (tn (CW.ret (rr rfl (.cons rfl .nil) ?_)))))))
 have hM9 : (g_slices_Contains_string p_s p_v) = (decide (0 ≤ (g_slices_Index_string p_s p_v))) := by simp only [g_slices_Contains_string, cond_true, cond_false, loopE_done, loopE_ret]
 rw [hM9]
 exact ⟨rfl, (Ex.trans (Ex.refl w) hE8)⟩
set_option maxRecDepth 100000 in
set_option maxHeartbeats 2000000 in
theorem c_i_GoodTable {A1 : Option Addr} {c1 : Nat} {A2 : Option Addr} {c2 : Nat} {w : World} (p_0 : DTable) (h1 : RdS w (Iv 0 w.heap.size) (RF e_Str) 1 A1 p_0.Cols.length c1 p_0.Cols) (h2 : RdS w (Iv 0 w.heap.size) (RF e_Idx) 3 A2 p_0.Idxs.length c2 p_0.Idxs) (o3 : ok_Table p_0) : Cal Try.prog 130 #[.agg #[.string (bs (p_0.Name)), .slice A1 p_0.Cols.length c1, .slice A2 p_0.Idxs.length c2]] w fun v w' => v = .bool ((i_GoodTable p_0)) ∧ Ex w w' := by
 have hol4 : p_0.Name.length ≤ 1073741824 := o3.1
 have hol5 := o3.2.1.1
 have hol6 := o3.2.2.1
 refine Cal.of (vs := [.agg #[.string (bs (p_0.Name)), .slice A1 p_0.Cols.length c1, .slice A2 p_0.Idxs.length c2]]) Try.func130 rfl Try.ntmps130 rfl (CW.seq (CW.region (sd rfl (yl_box (cs := [.string (bs (p_0.Name)), .slice A1 p_0.Cols.length c1, .slice A2 p_0.Idxs.length c2]) rfl rfl rfl ?_))))
 intro b7 w8 hs9 hz10 hB11 hE12
 refine sd rfl (yl_assign rfl rfl (SeqR.done (tn (CW.seq (CW.seq (CW.region (sd rfl (yl_fieldAddr Try.fd36_0 rfl rfl (sd rfl (yl_load1 Try.ty9 rfl rfl ((hB11.cell 0).trans rfl) (sd rfl (yl_call Try.en175 rfl (opvs_cons rfl (opvs_cons rfl opvs_nil)) (Cal.mono (c_i_areLetters p_0.Name 1 o3.1) ?_)))))))))))))
 rintro v14 w13 ⟨rfl, hE15⟩
 have hE15z := Ex.size hE15
 refine sd rfl (yl_not rfl rfl (sd rfl (yl_move rfl rfl (bcase (i_areLetters p_0.Name 1) (fun hb16 => ?_) (fun hb16 => ?_)))))
 ·refine sy rfl rfl (not_t hb16) (yl_fieldAddr Try.fd36_1 rfl rfl ?_)
  have q17 := Box.ex hB11 hE15
  refine sy rfl rfl (not_t hb16) (yl_load1 Try.ty22 rfl rfl ((q17.cell 1).trans rfl) (sy rfl rfl (not_t hb16) (yl_len Try.un22 rfl rfl (sy rfl rfl (not_t hb16) (yl_call Try.en77 rfl (opvs_cons rfl (opvs_cons rfl (opvs_cons rfl opvs_nil))) (Cal.mono (c_i_within (p_0.Cols.length : Int) 2 4) ?_))))))
  rintro v19 w18 ⟨rfl, hE20⟩
  have hE20z := Ex.size hE20
  refine sy rfl rfl (not_t hb16) (yl_not rfl rfl (sd rfl (yl_pick_f rfl rfl (not_t hb16) rfl (sd rfl (yl_move rfl rfl (bcase (i_within (p_0.Cols.length : Int) 2 4) (fun hb21 => ?_) (fun hb21 => ?_)))))))
  ·have hb21p := f_within hb21
   refine sy rfl rfl (not_t hb21) (yl_fieldAddr Try.fd36_2 rfl rfl ?_)
   have q22 := Box.ex q17 hE20
   refine sy rfl rfl (not_t hb21) (yl_load1 Try.ty34 rfl rfl ((q22.cell 2).trans rfl) (sy rfl rfl (not_t hb21) (yl_len Try.un34 rfl rfl (sy rfl rfl (not_t hb21) (yl_gtr rfl rfl rfl (sd rfl (yl_pick_f rfl rfl (not_t hb21) rfl (SeqR.done (tn (bcase (decide (3 < (p_0.Idxs.length : Int))) (fun hb23 => ?_) (fun hb23 => ?_)))))))))))
   ·have hb23p := dec_t hb23
    refine CW.cond_t rfl hb23 (CW.seq (CW.region (sd rfl (yl_assign rfl rfl (SeqR.done (tn (CW.ret (tr (rr rfl (.cons rfl .nil) ?_)))))))))
    have hM24 : (i_GoodTable p_0) = (false) := by simp only [i_GoodTable, hb16, hb21, hb23, cond_true, cond_false, loopE_done, loopE_ret]
    rw [hM24]
    exact ⟨rfl, (Ex.trans (Ex.trans (Ex.trans (Ex.refl w) hE12) hE15) hE20)⟩
   ·have hb23p := dec_f hb23
    refine CW.cond_f rfl hb23 (CW.skip (tn (CW.seq (CW.seq (CW.region (sd rfl (yl_fieldAddr Try.fd36_1 rfl rfl (sd rfl (yl_load1 Try.ty22 rfl rfl ((q22.cell 1).trans rfl) (sd rfl (yl_len Try.un22 rfl rfl ?_)))))))))))
    refine sd rfl (yl_move rfl rfl (SeqR.done (tn (CW.block (CW.loop (fun m29 L30 w31 => ∃ (k28 : Nat), m29 = p_0.Cols.length - k28 ∧ k28 ≤ p_0.Cols.length ∧ w18.heap.size ≤ w31.heap.size ∧ lkp L30 1 = some (.pointer (some ⟨b7, 0, none⟩)) ∧ lkp L30 25 = some (.slice A1 p_0.Cols.length c1) ∧ lkp L30 26 = some (.int .i64 ((p_0.Cols.length : Int))) ∧ lkp L30 27 = some (.int .i64 ((k28 : Int))) ∧ Box w31 b7 36 [.string (bs (p_0.Name)), .slice A1 p_0.Cols.length c1, .slice A2 p_0.Idxs.length c2] ∧ RdS w31 (Iv 0 w.heap.size) (RF e_Str) 1 A1 p_0.Cols.length c1 p_0.Cols ∧ RdS w31 (Iv 0 w.heap.size) (RF e_Idx) 3 A2 p_0.Idxs.length c2 p_0.Idxs ∧ Ex w w31 ∧ loopM (B_i_GoodTable_0 p_0) (p_0.Cols.length - k28) k28 () = loopM (B_i_GoodTable_0 p_0) (p_0.Cols.length - 0) 0 ()) (p_0.Cols.length - 0) ?_ ?_)))))
    ·exact ⟨0, rfl, (by omega), Nat.le_refl _, rfl, rfl, rfl, rfl, q22, (RdS.ex good_Str (RdS.ex good_Str (RdS.ex good_Str h1 hE12) hE15) hE20), (RdS.ex good_Idx (RdS.ex good_Idx (RdS.ex good_Idx h2 hE12) hE15) hE20), (Ex.trans (Ex.trans (Ex.trans (Ex.refl w) hE12) hE15) hE20), rfl⟩
    ·rintro m41 L42 w43 ⟨k28, rfl, hk44, hsz46, hl47, hl48, hl49, hl50, hf51, hf52, hf53, hf54, hI45⟩
     refine CW.sub (Sub.cons hl47 (Sub.cons hl48 (Sub.cons hl49 (Sub.cons hl50 (Sub.nil _))))) ?_
     have hf51z := Box.lt hf51
     have hf54z := Ex.size hf54
     have hbg55 := RdS.big hf52
     rcases Nat.lt_or_ge k28 p_0.Cols.length with hlt56 | hlt56
     ·refine CW.seq (CW.region (sd rfl (yl_lss rfl rfl rfl (SeqR.done (tn (CW.seq (CW.cond_t rfl (lt_t hlt56) (CW.skip (tn ?_)))))))))
      refine CW.seq (CW.block (CW.seq (CW.region (sd rfl (yl_move rfl rfl ?_)))))
      obtain ⟨eb57, eo57, ec57, eA57, eS57, ebl57, el57, eR57, eC57⟩ := RdS.atD hf52 d_Str (i := k28) (by first | omega | assumption)
      obtain rfl := eR57
      have eC57 : Cells w43 eb57 (eo57 + k28 * 1) [.string (bs ((p_0.Cols.getD k28 d_Str)))] := eC57
      refine sd rfl (yl_indexAddrN Try.un22 Try.ty9 rfl rfl rfl eA57 (by first | omega | assumption | (simp only [IntKind.wrap_i64] at *; omega)) (sd rfl (yl_load1 Try.ty9 rfl rfl (eC57 0 _ rfl) (sd rfl (yl_assign rfl rfl (sd rfl (yl_assign rfl rfl (SeqR.done (tn (CW.seq (CW.region (sd rfl (yl_move rfl rfl ?_)))))))))))))
      refine sd rfl (yl_call Try.en175 rfl (opvs_cons rfl (opvs_cons rfl opvs_nil)) (Cal.mono (c_i_areLetters (p_0.Cols.getD k28 d_Str) 3 (okL.getD o3.2.1 ok_d_Str _)) ?_))
      rintro v59 w58 ⟨rfl, hE60⟩
      have hE60z := Ex.size hE60
      refine sd rfl (yl_not rfl rfl (sd rfl (yl_move rfl rfl (bcase (i_areLetters (p_0.Cols.getD k28 d_Str) 3) (fun hb61 => ?_) (fun hb61 => ?_)))))
      ·refine sy rfl rfl (not_t hb61) (yl_fieldAddr Try.fd36_1 rfl rfl ?_)
       have q62 := Box.ex hf51 hE60
       refine sy rfl rfl (not_t hb61) (yl_load1 Try.ty22 rfl rfl ((q62.cell 1).trans rfl) (sy rfl rfl (not_t hb61) (yl_move rfl rfl ?_)))
       have q63 := RdS.ex good_Str hf52 hE60
       obtain ⟨A64, c65, he68, h67⟩ := RdS.sl (RdS.drop (RdS.take q63 (k := k28) (by omega)) (k := 0) (by omega))
       have hrc69 := (q63).2.1
       refine sy rfl rfl (not_t hb61) (yl_sliceR (kl := .i64) (l := 0) (h := k28) Try.un22 Try.ty9 rfl rfl (.inl ⟨rfl, rfl⟩) (.inr ⟨_, rfl, rfl⟩) (by omega) (by omega) he68 (sy rfl rfl (not_t hb61) (yl_move rfl rfl (sy rfl rfl (not_t hb61) (yl_call Try.en176 rfl (opvs_cons rfl (opvs_cons rfl opvs_nil)) (Cal.mono (c_g_slices_Contains_string (p_0.Cols.take k28) (p_0.Cols.getD k28 d_Str) (RdS.up h67 good_Str) (okL.take o3.2.1 _) (okL.getD o3.2.1 ok_d_Str _)) ?_))))))
       rintro v71 w70 ⟨rfl, hE72⟩
       have hE72z := Ex.size hE72
       refine sd rfl (yl_pick_f rfl rfl (not_t hb61) rfl (SeqR.done (tn (bcase (g_slices_Contains_string (p_0.Cols.take k28) (p_0.Cols.getD k28 d_Str)) (fun hb73 => ?_) (fun hb73 => ?_)))))
       ·refine CW.cond_t rfl hb73 (CW.seq (CW.region (sd rfl (yl_assign rfl rfl (SeqR.done (tn (CW.ret (br (tr ?_)))))))))
        refine tr ?_
        have hB75 : B_i_GoodTable_0 p_0 k28 () = .ret false := by simp only [B_i_GoodTable_0, hb16, hb21, hb23, hb61, hb73, cond_true, cond_false, loopE_done, loopE_ret]
        have hL74 : loopM (B_i_GoodTable_0 p_0) (p_0.Cols.length - 0) 0 () = .ret false := hI45.symm.trans (loopM.ret hlt56 hB75)
        refine br (tr (rr rfl (.cons rfl .nil) ?_))
        have hM76 : (i_GoodTable p_0) = (false) := by simp only [i_GoodTable, hb16, hb21, hb23, hb61, hb73, hL74, cond_true, cond_false, loopE_done, loopE_ret]
        rw [hM76]
        exact ⟨rfl, (Ex.trans (Ex.trans hf54 hE60) hE72)⟩
       ·refine CW.cond_f rfl hb73 (CW.skip (bn (tn (CW.region (sd rfl (yl_inc rfl rfl rfl (by omega) (sd rfl (yl_move rfl rfl (SeqR.done (tn ?_))))))))))
        have hB79 : B_i_GoodTable_0 p_0 k28 () = .cont () := by simp only [B_i_GoodTable_0, hb16, hb21, hb23, hb61, hb73, cond_true, cond_false, loopE_done, loopE_ret]
        exact ⟨p_0.Cols.length - (k28 + 1), by omega, k28 + 1, rfl, hlt56, (by omega), rfl, rfl, rfl, rfl, (Box.ex q62 hE72), (RdS.ex good_Str q63 hE72), (RdS.ex good_Idx (RdS.ex good_Idx hf53 hE60) hE72), (Ex.trans (Ex.trans hf54 hE60) hE72), (loopM.cont hlt56 hB79).symm.trans hI45⟩
      ·refine sz rfl rfl (not_f hb61) (sz rfl rfl (not_f hb61) (sz rfl rfl (not_f hb61) (sz rfl rfl (not_f hb61) (sz rfl rfl (not_f hb61) (sz rfl rfl (not_f hb61) (sd rfl (yl_pick_t rfl rfl (not_f hb61) rfl (SeqR.done (tn ?_)))))))))
       refine CW.cond_t rfl rfl (CW.seq (CW.region (sd rfl (yl_assign rfl rfl (SeqR.done (tn (CW.ret (br (tr ?_)))))))))
       refine tr ?_
       have hB87 : B_i_GoodTable_0 p_0 k28 () = .ret false := by simp only [B_i_GoodTable_0, hb16, hb21, hb23, hb61, cond_true, cond_false, loopE_done, loopE_ret]
       have hL86 : loopM (B_i_GoodTable_0 p_0) (p_0.Cols.length - 0) 0 () = .ret false := hI45.symm.trans (loopM.ret hlt56 hB87)
       refine br (tr (rr rfl (.cons rfl .nil) ?_))
       have hM88 : (i_GoodTable p_0) = (false) := by simp only [i_GoodTable, hb16, hb21, hb23, hb61, hL86, cond_true, cond_false, loopE_done, loopE_ret]
       rw [hM88]
       exact ⟨rfl, (Ex.trans hf54 hE60)⟩
     ·refine CW.seq (CW.region (sd rfl (yl_lss rfl rfl rfl (SeqR.done (tn (CW.seq (CW.cond_f rfl (lt_f hlt56) (CW.exit (tx ?_)))))))))
      refine tx ?_
      have hL90 : loopM (B_i_GoodTable_0 p_0) (p_0.Cols.length - 0) 0 () = .done () := hI45.symm.trans (loopM.stop hlt56)
      refine bx (tn (CW.seq (CW.seq (CW.region (sd rfl (yl_fieldAddr Try.fd36_2 rfl rfl (sd rfl (yl_load1 Try.ty34 rfl rfl ((hf51.cell 2).trans rfl) (sd rfl (yl_len Try.un34 rfl rfl (sd rfl (yl_move rfl rfl ?_))))))))))))
      refine SeqR.done (tn (CW.block (CW.loop (fun m129 L130 w131 => ∃ (k91 : Nat), m129 = p_0.Idxs.length - k91 ∧ k91 ≤ p_0.Idxs.length ∧ w43.heap.size ≤ w131.heap.size ∧ lkp L130 1 = some (.pointer (some ⟨b7, 0, none⟩)) ∧ lkp L130 45 = some (.slice A2 p_0.Idxs.length c2) ∧ lkp L130 46 = some (.int .i64 ((p_0.Idxs.length : Int))) ∧ lkp L130 47 = some (.int .i64 ((k91 : Int))) ∧ Box w131 b7 36 [.string (bs (p_0.Name)), .slice A1 p_0.Cols.length c1, .slice A2 p_0.Idxs.length c2] ∧ RdS w131 (Iv 0 w.heap.size) (RF e_Str) 1 A1 p_0.Cols.length c1 p_0.Cols ∧ RdS w131 (Iv 0 w.heap.size) (RF e_Idx) 3 A2 p_0.Idxs.length c2 p_0.Idxs ∧ Ex w w131 ∧ loopM (B_i_GoodTable_1 p_0) (p_0.Idxs.length - k91) k91 () = loopM (B_i_GoodTable_1 p_0) (p_0.Idxs.length - 0) 0 ()) (p_0.Idxs.length - 0) ?_ ?_)))
      ·exact ⟨0, rfl, (by omega), Nat.le_refl _, rfl, rfl, rfl, rfl, hf51, hf52, hf53, hf54, rfl⟩
      ·rintro m132 L133 w134 ⟨k91, rfl, hk135, hsz137, hl138, hl139, hl140, hl141, hf142, hf143, hf144, hf145, hI136⟩
       refine CW.sub (Sub.cons hl138 (Sub.cons hl139 (Sub.cons hl140 (Sub.cons hl141 (Sub.nil _))))) ?_
       have hf142z := Box.lt hf142
       have hf145z := Ex.size hf145
       have hbg146 := RdS.big hf144
       rcases Nat.lt_or_ge k91 p_0.Idxs.length with hlt147 | hlt147
       ·refine CW.seq (CW.region (sd rfl (yl_lss rfl rfl rfl (SeqR.done (tn (CW.seq (CW.cond_t rfl (lt_t hlt147) (CW.skip (tn ?_)))))))))
        refine CW.seq (CW.block (CW.seq (CW.region (sd rfl (yl_move rfl rfl ?_)))))
        obtain ⟨eb148, eo148, ec148, eA148, eS148, ebl148, el148, eR148, eC148⟩ := RdS.atD hf144 d_Idx (i := k91) (by first | omega | assumption)
        obtain rfl := eR148
        have eC148 : Cells w134 eb148 (eo148 + k91 * 3) [.string (bs ((p_0.Idxs.getD k91 d_Idx).Name)), .int .i64 ((p_0.Idxs.getD k91 d_Idx).Col), .int .i64 ((p_0.Idxs.getD k91 d_Idx).Stage)] := eC148
        refine sd rfl (yl_indexAddrN Try.un34 Try.ty171 rfl rfl rfl eA148 (by first | omega | assumption | (simp only [IntKind.wrap_i64] at *; omega)) (sd rfl (yl_loadN (cs := [.string (bs ((p_0.Idxs.getD k91 d_Idx).Name)), .int .i64 ((p_0.Idxs.getD k91 d_Idx).Col), .int .i64 ((p_0.Idxs.getD k91 d_Idx).Stage)]) Try.ty171 rfl rfl eC148 rfl (sd rfl (yl_alloc Try.ty171 (cs := [.string (bs (([] : Str))), .int .i64 (0), .int .i64 (0)]) rfl rfl ?_)))))
        intro b149 w150 hs151 hz152 hB153 hE154
        refine sd rfl (yl_assign rfl rfl (SeqR.u rfl rfl (yl_store (vs := [.string (bs ((p_0.Idxs.getD k91 d_Idx).Name)), .int .i64 ((p_0.Idxs.getD k91 d_Idx).Col), .int .i64 ((p_0.Idxs.getD k91 d_Idx).Stage)]) Try.ty171 rfl rfl rfl rfl rfl rfl hB153 (Nat.le_of_ble_eq_true rfl) ?_)))
        intro w155 hB156 hO157
        have hB156 : Box w155 b149 171 [.string (bs ((p_0.Idxs.getD k91 d_Idx).Name)), .int .i64 ((p_0.Idxs.getD k91 d_Idx).Col), .int .i64 ((p_0.Idxs.getD k91 d_Idx).Stage)] := hB156
        have hO157z := hO157.size
        refine SeqR.done (tn (CW.seq (bcase (i_areLetters ((p_0.Idxs.getD k91 d_Idx).Name) 1) (fun hb159 => ?_) (fun hb159 => ?_))))
        ·refine bcase (i_within ((p_0.Idxs.getD k91 d_Idx).Col) 1 (IntKind.wrap .i64 ((p_0.Cols.length : Int) - 1))) (fun hb164 => ?_) (fun hb164 => ?_)
         ·have hb164p := f_within hb164
          refine bcase (i_isStage ((p_0.Idxs.getD k91 d_Idx).Stage)) (fun hb170 => ?_) (fun hb170 => ?_)
          ·have hb170p := f_i_isStage hb170
           refine bcase (decide (0 < (k91 : Int))) (fun hb176 => ?_) (fun hb176 => ?_)
           ·have hb176p := dec_t hb176
            have q179 := Box.only (Box.ex hf142 hE154) hO157 (by omega)
            have q183 := RdS.only good_Idx (RdS.ex good_Idx hf144 hE154) hO157 (by simp only [Iv]; omega)
            obtain ⟨eb184, eo184, ec184, eA184, eS184, ebl184, el184, eR184, eC184⟩ := RdS.atD q183 d_Idx (i := (IntKind.wrap .i64 ((k91 : Int) - 1)).toNat) (by first | omega | assumption | (simp only [IntKind.wrap_i64] at *; omega))
            obtain rfl := eR184
            have eC184 : Cells w155 eb184 (eo184 + ((IntKind.wrap .i64 ((k91 : Int) - 1)).toNat) * 3) [.string (bs ((p_0.Idxs.getD ((IntKind.wrap .i64 ((k91 : Int) - 1)).toNat) d_Idx).Name)), .int .i64 ((p_0.Idxs.getD ((IntKind.wrap .i64 ((k91 : Int) - 1)).toNat) d_Idx).Col), .int .i64 ((p_0.Idxs.getD ((IntKind.wrap .i64 ((k91 : Int) - 1)).toNat) d_Idx).Stage)] := eC184
            refine CW.drawsI 36 (vgetI [DetI (.pointer (some ⟨b149, 0 + 0, none⟩)), DetI (.string (bs ((p_0.Idxs.getD k91 d_Idx).Name))), DetI (.bool ((i_areLetters ((p_0.Idxs.getD k91 d_Idx).Name) 1))), DetI (.bool (!(i_areLetters ((p_0.Idxs.getD k91 d_Idx).Name) 1))), DetI (.bool (!(i_areLetters ((p_0.Idxs.getD k91 d_Idx).Name) 1))), DetI (.pointer (some ⟨b149, 0 + 1, none⟩)), DetI (.int .i64 ((p_0.Idxs.getD k91 d_Idx).Col)), DetI (.pointer (some ⟨b7, 0 + 1, none⟩)), DetI (.slice A1 p_0.Cols.length c1), DetI (.int .i64 ((p_0.Cols.length : Int))), DetI (.int .i64 (IntKind.wrap .i64 ((p_0.Cols.length : Int) - 1))), DetI (.bool ((i_within ((p_0.Idxs.getD k91 d_Idx).Col) 1 (IntKind.wrap .i64 ((p_0.Cols.length : Int) - 1))))), DetI (.bool (!(i_within ((p_0.Idxs.getD k91 d_Idx).Col) 1 (IntKind.wrap .i64 ((p_0.Cols.length : Int) - 1))))), DetI (.bool (!(i_within ((p_0.Idxs.getD k91 d_Idx).Col) 1 (IntKind.wrap .i64 ((p_0.Cols.length : Int) - 1))))), DetI (.bool (!(i_within ((p_0.Idxs.getD k91 d_Idx).Col) 1 (IntKind.wrap .i64 ((p_0.Cols.length : Int) - 1))))), DetI (.pointer (some ⟨b149, 0 + 2, none⟩)), DetI (.int .i64 ((p_0.Idxs.getD k91 d_Idx).Stage)), DetI (.bool ((i_isStage ((p_0.Idxs.getD k91 d_Idx).Stage)))), DetI (.bool (!(i_isStage ((p_0.Idxs.getD k91 d_Idx).Stage)))), DetI (.bool (!(i_isStage ((p_0.Idxs.getD k91 d_Idx).Stage)))), DetI (.bool (!(i_isStage ((p_0.Idxs.getD k91 d_Idx).Stage)))), DetI (.int .i64 ((k91 : Int))), DetI (.bool (decide (0 < (k91 : Int)))), DetI (.bool (decide (0 < (k91 : Int)))), DetI (.pointer (some ⟨b149, 0 + 0, none⟩)), DetI (.string (bs ((p_0.Idxs.getD k91 d_Idx).Name))), DetI (.pointer (some ⟨b7, 0 + 2, none⟩)), DetI (.slice A2 p_0.Idxs.length c2), DetI (.int .i64 ((k91 : Int))), DetI (.int .i64 (IntKind.wrap .i64 ((k91 : Int) - 1))), DetI (.pointer (some ⟨eb184, eo184 + ((IntKind.wrap .i64 ((k91 : Int) - 1)).toNat) * 3, none⟩)), DetI (.pointer (some ⟨eb184, eo184 + ((IntKind.wrap .i64 ((k91 : Int) - 1)).toNat) * 3 + 0, none⟩)), DetI (.string (bs ((p_0.Idxs.getD ((IntKind.wrap .i64 ((k91 : Int) - 1)).toNat) d_Idx).Name))), DetI (.bool (sLe ((p_0.Idxs.getD k91 d_Idx).Name) ((p_0.Idxs.getD ((IntKind.wrap .i64 ((k91 : Int) - 1)).toNat) d_Idx).Name))), DetI (.bool (sLe ((p_0.Idxs.getD k91 d_Idx).Name) ((p_0.Idxs.getD ((IntKind.wrap .i64 ((k91 : Int) - 1)).toNat) d_Idx).Name))), DetI (.bool (sLe ((p_0.Idxs.getD k91 d_Idx).Name) ((p_0.Idxs.getD ((IntKind.wrap .i64 ((k91 : Int) - 1)).toNat) d_Idx).Name)))]) Try.follows rfl rfl rfl rfl rfl rfl (vgetI_stable ⟨StableI.det _, StableI.det _, StableI.det _, StableI.det _, StableI.det _, StableI.det _, StableI.det _, StableI.det _, StableI.det _, StableI.det _, StableI.det _, StableI.det _, StableI.det _, StableI.det _, StableI.det _, StableI.det _, StableI.det _, StableI.det _, StableI.det _, StableI.det _, StableI.det _, StableI.det _, StableI.det _, StableI.det _, StableI.det _, StableI.det _, StableI.det _, StableI.det _, StableI.det _, StableI.det _, StableI.det _, StableI.det _, StableI.det _, StableI.det _, StableI.det _, StableI.det _, trivial⟩) ⟨?_, ?_, ?_, ?_, ?_, ?_, ?_, ?_, ?_, ?_, ?_, ?_, ?_, ?_, ?_, ?_, ?_, ?_, ?_, ?_, ?_, ?_, ?_, ?_, ?_, ?_, ?_, ?_, ?_, ?_, ?_, ?_, ?_, ?_, ?_, ?_, trivial⟩ ?_
            ·exact fun _ _ h => os rfl ((yl_fieldAddr Try.fd171_0 rfl (h.old 6 _ rfl rfl) kI))
            ·exact fun _ _ h => os rfl ((yl_load1 Try.ty9 rfl (h.dt 0 52 rfl rfl rfl) (((Box.ex hB156 h.ex).cell 0).trans rfl) kI))
            ·intro L196 w197 hi198
             refine OpR.op' rfl (yl_call Try.en175 rfl (opvs_cons (hi198.dt 1 53 rfl rfl rfl) (opvs_cons rfl opvs_nil)) (Cal.mono (c_i_areLetters ((p_0.Idxs.getD k91 d_Idx).Name) 1 (okL.getD o3.2.2 ok_d_Idx _)) ?_))
             rintro v202 w201 ⟨rfl, hE203⟩
             exact ⟨rfl, hE203⟩
            ·exact fun _ _ h => os rfl ((yl_not rfl (h.dt 2 54 rfl rfl rfl) kI))
            ·exact fun _ _ h => os rfl ((yl_move rfl (h.dt 3 55 rfl rfl rfl) kI))
            ·exact fun _ _ h => OpR.want rfl rfl (h.dt 4 56 rfl rfl rfl) (not_t hb159) (Yl.sameI (yl_fieldAddr Try.fd171_1 rfl (h.old 6 _ rfl rfl) kI))
            ·exact fun _ _ h => OpR.want rfl rfl (h.dt 4 56 rfl rfl rfl) (not_t hb159) (Yl.sameI (yl_load1 Try.ty3 rfl (h.dt 5 57 rfl rfl rfl) (((Box.ex hB156 h.ex).cell 1).trans rfl) kI))
            ·exact fun _ _ h => OpR.want rfl rfl (h.dt 4 56 rfl rfl rfl) (not_t hb159) (Yl.sameI (yl_fieldAddr Try.fd36_1 rfl (h.old 1 _ rfl rfl) kI))
            ·exact fun _ _ h => OpR.want rfl rfl (h.dt 4 56 rfl rfl rfl) (not_t hb159) (Yl.sameI (yl_load1 Try.ty22 rfl (h.dt 7 59 rfl rfl rfl) (((Box.ex q179 h.ex).cell 1).trans rfl) kI))
            ·exact fun _ _ h => OpR.want rfl rfl (h.dt 4 56 rfl rfl rfl) (not_t hb159) (Yl.sameI (yl_len Try.un22 rfl (h.dt 8 60 rfl rfl rfl) kI))
            ·exact fun _ _ h => OpR.want rfl rfl (h.dt 4 56 rfl rfl rfl) (not_t hb159) (Yl.sameI (yl_sub rfl (h.dt 9 61 rfl rfl rfl) rfl kI))
            ·intro L252 w253 hi254
             refine OpR.want rfl rfl (hi254.dt 4 56 rfl rfl rfl) (not_t hb159) (yl_call Try.en77 rfl (opvs_cons (hi254.dt 6 58 rfl rfl rfl) (opvs_cons rfl (opvs_cons (hi254.dt 10 62 rfl rfl rfl) opvs_nil))) (Cal.mono (c_i_within ((p_0.Idxs.getD k91 d_Idx).Col) 1 (IntKind.wrap .i64 ((p_0.Cols.length : Int) - 1))) ?_))
             rintro v260 w259 ⟨rfl, hE261⟩
             exact ⟨rfl, hE261⟩
            ·exact fun _ _ h => OpR.want rfl rfl (h.dt 4 56 rfl rfl rfl) (not_t hb159) (Yl.sameI (yl_not rfl (h.dt 11 63 rfl rfl rfl) kI))
            ·exact fun _ _ h => os rfl ((yl_pick_f rfl (h.dt 4 56 rfl rfl rfl) (not_t hb159) (h.dt 12 64 rfl rfl rfl) kI))
            ·exact fun _ _ h => os rfl ((yl_move rfl (h.dt 13 65 rfl rfl rfl) kI))
            ·exact fun _ _ h => OpR.want rfl rfl (h.dt 14 66 rfl rfl rfl) (not_t hb164) (Yl.sameI (yl_fieldAddr Try.fd171_2 rfl (h.old 6 _ rfl rfl) kI))
            ·exact fun _ _ h => OpR.want rfl rfl (h.dt 14 66 rfl rfl rfl) (not_t hb164) (Yl.sameI (yl_load1 Try.ty3 rfl (h.dt 15 67 rfl rfl rfl) (((Box.ex hB156 h.ex).cell 2).trans rfl) kI))
            ·intro L292 w293 hi294
             refine OpR.want rfl rfl (hi294.dt 14 66 rfl rfl rfl) (not_t hb164) (yl_call Try.en93 rfl (opvs_cons (hi294.dt 16 68 rfl rfl rfl) opvs_nil) (Cal.mono (c_i_isStage ((p_0.Idxs.getD k91 d_Idx).Stage)) ?_))
             rintro v299 w298 ⟨rfl, hE300⟩
             exact ⟨rfl, hE300⟩
            ·exact fun _ _ h => OpR.want rfl rfl (h.dt 14 66 rfl rfl rfl) (not_t hb164) (Yl.sameI (yl_not rfl (h.dt 17 69 rfl rfl rfl) kI))
            ·exact fun _ _ h => os rfl ((yl_pick_f rfl (h.dt 14 66 rfl rfl rfl) (not_t hb164) (h.dt 18 70 rfl rfl rfl) kI))
            ·exact fun _ _ h => os rfl ((yl_move rfl (h.dt 19 71 rfl rfl rfl) kI))
            ·exact fun _ _ h => OpR.want rfl rfl (h.dt 20 72 rfl rfl rfl) (not_t hb170) (Yl.sameI (yl_move rfl (h.old 5 _ rfl rfl) kI))
            ·exact fun _ _ h => OpR.want rfl rfl (h.dt 20 72 rfl rfl rfl) (not_t hb170) (Yl.sameI (yl_gtr rfl (h.dt 21 73 rfl rfl rfl) rfl kI))
            ·exact fun _ _ h => OpR.want rfl rfl (h.dt 20 72 rfl rfl rfl) (not_t hb170) (Yl.sameI (yl_move rfl (h.dt 22 74 rfl rfl rfl) kI))
            ·exact fun _ _ h => OpR.want rfl rfl (h.dt 23 75 rfl rfl rfl) hb176 (Yl.sameI (yl_fieldAddr Try.fd171_0 rfl (h.old 6 _ rfl rfl) kI))
            ·exact fun _ _ h => OpR.want rfl rfl (h.dt 23 75 rfl rfl rfl) hb176 (Yl.sameI (yl_load1 Try.ty9 rfl (h.dt 24 76 rfl rfl rfl) (((Box.ex hB156 h.ex).cell 0).trans rfl) kI))
            ·exact fun _ _ h => OpR.want rfl rfl (h.dt 23 75 rfl rfl rfl) hb176 (Yl.sameI (yl_fieldAddr Try.fd36_2 rfl (h.old 1 _ rfl rfl) kI))
            ·exact fun _ _ h => OpR.want rfl rfl (h.dt 23 75 rfl rfl rfl) hb176 (Yl.sameI (yl_load1 Try.ty34 rfl (h.dt 26 78 rfl rfl rfl) (((Box.ex q179 h.ex).cell 2).trans rfl) kI))
            ·exact fun _ _ h => OpR.want rfl rfl (h.dt 23 75 rfl rfl rfl) hb176 (Yl.sameI (yl_move rfl (h.old 5 _ rfl rfl) kI))
            ·exact fun _ _ h => OpR.want rfl rfl (h.dt 23 75 rfl rfl rfl) hb176 (Yl.sameI (yl_sub rfl (h.dt 28 80 rfl rfl rfl) rfl kI))
            ·intro L374 w375 hi376
             have hE377 := hi376.ex
             have hE377z := Ex.size hE377
             exact OpR.want rfl rfl (hi376.dt 23 75 rfl rfl rfl) hb176 (Yl.sameI (yl_indexAddr Try.un34 Try.ty171 rfl (hi376.dt 27 79 rfl rfl rfl) (hi376.dt 29 81 rfl rfl rfl) eA184 (by first | omega | assumption | (simp only [IntKind.wrap_i64] at *; omega)) (by first | omega | assumption | (simp only [IntKind.wrap_i64] at *; omega)) kI))
            ·exact fun _ _ h => OpR.want rfl rfl (h.dt 23 75 rfl rfl rfl) hb176 (Yl.sameI (yl_fieldAddr Try.fd171_0 rfl (h.dt 30 82 rfl rfl rfl) kI))
            ·exact fun _ _ h => OpR.want rfl rfl (h.dt 23 75 rfl rfl rfl) hb176 (Yl.sameI (yl_load1 Try.ty9 rfl (h.dt 31 83 rfl rfl rfl) ((Cells.ex eC184 h.ex) 0 _ rfl) kI))
            ·exact fun _ _ h => OpR.want rfl rfl (h.dt 23 75 rfl rfl rfl) hb176 (Yl.sameI (yl_sleq (a := ((p_0.Idxs.getD k91 d_Idx).Name)) (b := ((p_0.Idxs.getD ((IntKind.wrap .i64 ((k91 : Int) - 1)).toNat) d_Idx).Name)) rfl (h.dt 25 77 rfl rfl rfl) (h.dt 32 84 rfl rfl rfl) kI))
            ·exact fun _ _ h => OpR.want rfl rfl (h.dt 20 72 rfl rfl rfl) (not_t hb170) (Yl.sameI (yl_pick_t rfl (h.dt 23 75 rfl rfl rfl) hb176 (h.dt 33 85 rfl rfl rfl) kI))
            ·exact fun _ _ h => os rfl ((yl_pick_f rfl (h.dt 20 72 rfl rfl rfl) (not_t hb170) (h.dt 34 86 rfl rfl rfl) kI))
            ·intro fl417 fh418 L414 w415 hp416
             have hE419 := hp416.ex
             have hE419z := Ex.size hE419
             refine SeqR.done (tn (CW.sub (Sub.cons (d := 1) (hp416.old 1 _ rfl rfl) (Sub.cons (d := 45) (hp416.old 45 _ rfl rfl) (Sub.cons (d := 46) (hp416.old 46 _ rfl rfl) (Sub.cons (d := 47) (hp416.old 47 _ rfl rfl) (Sub.cons (d := 57) (hp416.nt 5 57 rfl rfl rfl) (Sub.cons (d := 58) (hp416.nt 6 58 rfl rfl rfl) (Sub.cons (d := 59) (hp416.nt 7 59 rfl rfl rfl) (Sub.cons (d := 60) (hp416.nt 8 60 rfl rfl rfl) (Sub.cons (d := 61) (hp416.nt 9 61 rfl rfl rfl) (Sub.cons (d := 62) (hp416.nt 10 62 rfl rfl rfl) (Sub.cons (d := 63) (hp416.nt 11 63 rfl rfl rfl) (Sub.cons (d := 64) (hp416.nt 12 64 rfl rfl rfl) (Sub.cons (d := 67) (hp416.nt 15 67 rfl rfl rfl) (Sub.cons (d := 68) (hp416.nt 16 68 rfl rfl rfl) (Sub.cons (d := 69) (hp416.nt 17 69 rfl rfl rfl) (Sub.cons (d := 70) (hp416.nt 18 70 rfl rfl rfl) (Sub.cons (d := 73) (hp416.nt 21 73 rfl rfl rfl) (Sub.cons (d := 74) (hp416.nt 22 74 rfl rfl rfl) (Sub.cons (d := 75) (hp416.nt 23 75 rfl rfl rfl) (Sub.cons (d := 76) (hp416.nt 24 76 rfl rfl rfl) (Sub.cons (d := 77) (hp416.nt 25 77 rfl rfl rfl) (Sub.cons (d := 78) (hp416.nt 26 78 rfl rfl rfl) (Sub.cons (d := 79) (hp416.nt 27 79 rfl rfl rfl) (Sub.cons (d := 80) (hp416.nt 28 80 rfl rfl rfl) (Sub.cons (d := 81) (hp416.nt 29 81 rfl rfl rfl) (Sub.cons (d := 82) (hp416.nt 30 82 rfl rfl rfl) (Sub.cons (d := 83) (hp416.nt 31 83 rfl rfl rfl) (Sub.cons (d := 84) (hp416.nt 32 84 rfl rfl rfl) (Sub.cons (d := 85) (hp416.nt 33 85 rfl rfl rfl) (Sub.cons (d := 86) (hp416.nt 34 86 rfl rfl rfl) (Sub.cons (d := 87) (hp416.nt 35 87 rfl rfl rfl) (Sub.nil _)))))))))))))))))))))))))))))))) ?_))
             refine bcase (sLe ((p_0.Idxs.getD k91 d_Idx).Name) ((p_0.Idxs.getD ((IntKind.wrap .i64 ((k91 : Int) - 1)).toNat) d_Idx).Name)) (fun hb451 => ?_) (fun hb451 => ?_)
             ·refine CW.cond_t rfl hb451 (CW.seq (CW.region (sd rfl (yl_assign rfl rfl (SeqR.done (tn (CW.ret (br (tr ?_)))))))))
              refine tr ?_
              have hB453 : B_i_GoodTable_1 p_0 k91 () = .ret false := by simp only [B_i_GoodTable_1, hb16, hb21, hb23, hb159, hb164, hb170, hb176, hb451, hL90, cond_true, cond_false, loopE_done, loopE_ret]
              have hL452 : loopM (B_i_GoodTable_1 p_0) (p_0.Idxs.length - 0) 0 () = .ret false := hI136.symm.trans (loopM.ret hlt147 hB453)
              refine br (tr (rr rfl (.cons rfl .nil) ?_))
              have hM454 : (i_GoodTable p_0) = (false) := by simp only [i_GoodTable, hb16, hb21, hb23, hb159, hb164, hb170, hb176, hb451, hL90, hL452, cond_true, cond_false, loopE_done, loopE_ret]
              rw [hM454]
              exact ⟨rfl, (Ex.trans (Below.only (Ex.trans hf145 hE154) hO157 (by omega)) hE419)⟩
             ·refine CW.cond_f rfl hb451 (CW.skip (bn (tn (CW.region (sd rfl (yl_inc rfl rfl rfl (by omega) (sd rfl (yl_move rfl rfl (SeqR.done (tn ?_))))))))))
              have hB458 : B_i_GoodTable_1 p_0 k91 () = .cont () := by simp only [B_i_GoodTable_1, hb16, hb21, hb23, hb159, hb164, hb170, hb176, hb451, hL90, cond_true, cond_false, loopE_done, loopE_ret]
              exact ⟨p_0.Idxs.length - (k91 + 1), by omega, k91 + 1, rfl, hlt147, (by omega), rfl, rfl, rfl, rfl, (Box.ex q179 hE419), (RdS.ex good_Str (RdS.only good_Str (RdS.ex good_Str hf143 hE154) hO157 (by simp only [Iv]; omega)) hE419), (RdS.ex good_Idx q183 hE419), (Ex.trans (Below.only (Ex.trans hf145 hE154) hO157 (by omega)) hE419), (loopM.cont hlt147 hB458).symm.trans hI136⟩
           ·have hb176p := dec_f hb176
            have q469 := Box.only (Box.ex hf142 hE154) hO157 (by omega)
            refine CW.drawsI 36 (vgetI [DetI (.pointer (some ⟨b149, 0 + 0, none⟩)), DetI (.string (bs ((p_0.Idxs.getD k91 d_Idx).Name))), DetI (.bool ((i_areLetters ((p_0.Idxs.getD k91 d_Idx).Name) 1))), DetI (.bool (!(i_areLetters ((p_0.Idxs.getD k91 d_Idx).Name) 1))), DetI (.bool (!(i_areLetters ((p_0.Idxs.getD k91 d_Idx).Name) 1))), DetI (.pointer (some ⟨b149, 0 + 1, none⟩)), DetI (.int .i64 ((p_0.Idxs.getD k91 d_Idx).Col)), DetI (.pointer (some ⟨b7, 0 + 1, none⟩)), DetI (.slice A1 p_0.Cols.length c1), DetI (.int .i64 ((p_0.Cols.length : Int))), DetI (.int .i64 (IntKind.wrap .i64 ((p_0.Cols.length : Int) - 1))), DetI (.bool ((i_within ((p_0.Idxs.getD k91 d_Idx).Col) 1 (IntKind.wrap .i64 ((p_0.Cols.length : Int) - 1))))), DetI (.bool (!(i_within ((p_0.Idxs.getD k91 d_Idx).Col) 1 (IntKind.wrap .i64 ((p_0.Cols.length : Int) - 1))))), DetI (.bool (!(i_within ((p_0.Idxs.getD k91 d_Idx).Col) 1 (IntKind.wrap .i64 ((p_0.Cols.length : Int) - 1))))), DetI (.bool (!(i_within ((p_0.Idxs.getD k91 d_Idx).Col) 1 (IntKind.wrap .i64 ((p_0.Cols.length : Int) - 1))))), DetI (.pointer (some ⟨b149, 0 + 2, none⟩)), DetI (.int .i64 ((p_0.Idxs.getD k91 d_Idx).Stage)), DetI (.bool ((i_isStage ((p_0.Idxs.getD k91 d_Idx).Stage)))), DetI (.bool (!(i_isStage ((p_0.Idxs.getD k91 d_Idx).Stage)))), DetI (.bool (!(i_isStage ((p_0.Idxs.getD k91 d_Idx).Stage)))), DetI (.bool (!(i_isStage ((p_0.Idxs.getD k91 d_Idx).Stage)))), DetI (.int .i64 ((k91 : Int))), DetI (.bool (decide (0 < (k91 : Int)))), DetI (.bool (decide (0 < (k91 : Int)))), DetI (undef), DetI (undef), DetI (undef), DetI (undef), DetI (undef), DetI (undef), DetI (undef), DetI (undef), DetI (undef), DetI (undef), DetI (.bool (false)), DetI (.bool (false))]) Try.follows rfl rfl rfl rfl rfl rfl (vgetI_stable ⟨StableI.det _, StableI.det _, StableI.det _, StableI.det _, StableI.det _, StableI.det _, StableI.det _, StableI.det _, StableI.det _, StableI.det _, StableI.det _, StableI.det _, StableI.det _, StableI.det _, StableI.det _, StableI.det _, StableI.det _, StableI.det _, StableI.det _, StableI.det _, StableI.det _, StableI.det _, StableI.det _, StableI.det _, StableI.det _, StableI.det _, StableI.det _, StableI.det _, StableI.det _, StableI.det _, StableI.det _, StableI.det _, StableI.det _, StableI.det _, StableI.det _, StableI.det _, trivial⟩) ⟨?_, ?_, ?_, ?_, ?_, ?_, ?_, ?_, ?_, ?_, ?_, ?_, ?_, ?_, ?_, ?_, ?_, ?_, ?_, ?_, ?_, ?_, ?_, ?_, ?_, ?_, ?_, ?_, ?_, ?_, ?_, ?_, ?_, ?_, ?_, ?_, trivial⟩ ?_
            ·exact fun _ _ h => os rfl ((yl_fieldAddr Try.fd171_0 rfl (h.old 6 _ rfl rfl) kI))
            ·exact fun _ _ h => os rfl ((yl_load1 Try.ty9 rfl (h.dt 0 52 rfl rfl rfl) (((Box.ex hB156 h.ex).cell 0).trans rfl) kI))
            ·intro L483 w484 hi485
             refine OpR.op' rfl (yl_call Try.en175 rfl (opvs_cons (hi485.dt 1 53 rfl rfl rfl) (opvs_cons rfl opvs_nil)) (Cal.mono (c_i_areLetters ((p_0.Idxs.getD k91 d_Idx).Name) 1 (okL.getD o3.2.2 ok_d_Idx _)) ?_))
             rintro v489 w488 ⟨rfl, hE490⟩
             exact ⟨rfl, hE490⟩
            ·exact fun _ _ h => os rfl ((yl_not rfl (h.dt 2 54 rfl rfl rfl) kI))
            ·exact fun _ _ h => os rfl ((yl_move rfl (h.dt 3 55 rfl rfl rfl) kI))
            ·exact fun _ _ h => OpR.want rfl rfl (h.dt 4 56 rfl rfl rfl) (not_t hb159) (Yl.sameI (yl_fieldAddr Try.fd171_1 rfl (h.old 6 _ rfl rfl) kI))
            ·exact fun _ _ h => OpR.want rfl rfl (h.dt 4 56 rfl rfl rfl) (not_t hb159) (Yl.sameI (yl_load1 Try.ty3 rfl (h.dt 5 57 rfl rfl rfl) (((Box.ex hB156 h.ex).cell 1).trans rfl) kI))
            ·exact fun _ _ h => OpR.want rfl rfl (h.dt 4 56 rfl rfl rfl) (not_t hb159) (Yl.sameI (yl_fieldAddr Try.fd36_1 rfl (h.old 1 _ rfl rfl) kI))
            ·exact fun _ _ h => OpR.want rfl rfl (h.dt 4 56 rfl rfl rfl) (not_t hb159) (Yl.sameI (yl_load1 Try.ty22 rfl (h.dt 7 59 rfl rfl rfl) (((Box.ex q469 h.ex).cell 1).trans rfl) kI))
            ·exact fun _ _ h => OpR.want rfl rfl (h.dt 4 56 rfl rfl rfl) (not_t hb159) (Yl.sameI (yl_len Try.un22 rfl (h.dt 8 60 rfl rfl rfl) kI))
            ·exact fun _ _ h => OpR.want rfl rfl (h.dt 4 56 rfl rfl rfl) (not_t hb159) (Yl.sameI (yl_sub rfl (h.dt 9 61 rfl rfl rfl) rfl kI))
            ·intro L539 w540 hi541
             refine OpR.want rfl rfl (hi541.dt 4 56 rfl rfl rfl) (not_t hb159) (yl_call Try.en77 rfl (opvs_cons (hi541.dt 6 58 rfl rfl rfl) (opvs_cons rfl (opvs_cons (hi541.dt 10 62 rfl rfl rfl) opvs_nil))) (Cal.mono (c_i_within ((p_0.Idxs.getD k91 d_Idx).Col) 1 (IntKind.wrap .i64 ((p_0.Cols.length : Int) - 1))) ?_))
             rintro v547 w546 ⟨rfl, hE548⟩
             exact ⟨rfl, hE548⟩
            ·exact fun _ _ h => OpR.want rfl rfl (h.dt 4 56 rfl rfl rfl) (not_t hb159) (Yl.sameI (yl_not rfl (h.dt 11 63 rfl rfl rfl) kI))
            ·exact fun _ _ h => os rfl ((yl_pick_f rfl (h.dt 4 56 rfl rfl rfl) (not_t hb159) (h.dt 12 64 rfl rfl rfl) kI))
            ·exact fun _ _ h => os rfl ((yl_move rfl (h.dt 13 65 rfl rfl rfl) kI))
            ·exact fun _ _ h => OpR.want rfl rfl (h.dt 14 66 rfl rfl rfl) (not_t hb164) (Yl.sameI (yl_fieldAddr Try.fd171_2 rfl (h.old 6 _ rfl rfl) kI))
            ·exact fun _ _ h => OpR.want rfl rfl (h.dt 14 66 rfl rfl rfl) (not_t hb164) (Yl.sameI (yl_load1 Try.ty3 rfl (h.dt 15 67 rfl rfl rfl) (((Box.ex hB156 h.ex).cell 2).trans rfl) kI))
            ·intro L579 w580 hi581
             refine OpR.want rfl rfl (hi581.dt 14 66 rfl rfl rfl) (not_t hb164) (yl_call Try.en93 rfl (opvs_cons (hi581.dt 16 68 rfl rfl rfl) opvs_nil) (Cal.mono (c_i_isStage ((p_0.Idxs.getD k91 d_Idx).Stage)) ?_))
             rintro v586 w585 ⟨rfl, hE587⟩
             exact ⟨rfl, hE587⟩
            ·exact fun _ _ h => OpR.want rfl rfl (h.dt 14 66 rfl rfl rfl) (not_t hb164) (Yl.sameI (yl_not rfl (h.dt 17 69 rfl rfl rfl) kI))
            ·exact fun _ _ h => os rfl ((yl_pick_f rfl (h.dt 14 66 rfl rfl rfl) (not_t hb164) (h.dt 18 70 rfl rfl rfl) kI))
            ·exact fun _ _ h => os rfl ((yl_move rfl (h.dt 19 71 rfl rfl rfl) kI))
            ·exact fun _ _ h => OpR.want rfl rfl (h.dt 20 72 rfl rfl rfl) (not_t hb170) (Yl.sameI (yl_move rfl (h.old 5 _ rfl rfl) kI))
            ·exact fun _ _ h => OpR.want rfl rfl (h.dt 20 72 rfl rfl rfl) (not_t hb170) (Yl.sameI (yl_gtr rfl (h.dt 21 73 rfl rfl rfl) rfl kI))
            ·exact fun _ _ h => OpR.want rfl rfl (h.dt 20 72 rfl rfl rfl) (not_t hb170) (Yl.sameI (yl_move rfl (h.dt 22 74 rfl rfl rfl) kI))
            ·exact fun _ _ h => OpR.skip rfl rfl (h.dt 23 75 rfl rfl rfl) hb176 ⟨rfl, Ex.refl _⟩
            ·exact fun _ _ h => OpR.skip rfl rfl (h.dt 23 75 rfl rfl rfl) hb176 ⟨rfl, Ex.refl _⟩
            ·exact fun _ _ h => OpR.skip rfl rfl (h.dt 23 75 rfl rfl rfl) hb176 ⟨rfl, Ex.refl _⟩
            ·exact fun _ _ h => OpR.skip rfl rfl (h.dt 23 75 rfl rfl rfl) hb176 ⟨rfl, Ex.refl _⟩
            ·exact fun _ _ h => OpR.skip rfl rfl (h.dt 23 75 rfl rfl rfl) hb176 ⟨rfl, Ex.refl _⟩
            ·exact fun _ _ h => OpR.skip rfl rfl (h.dt 23 75 rfl rfl rfl) hb176 ⟨rfl, Ex.refl _⟩
            ·exact fun _ _ h => OpR.skip rfl rfl (h.dt 23 75 rfl rfl rfl) hb176 ⟨rfl, Ex.refl _⟩
            ·exact fun _ _ h => OpR.skip rfl rfl (h.dt 23 75 rfl rfl rfl) hb176 ⟨rfl, Ex.refl _⟩
            ·exact fun _ _ h => OpR.skip rfl rfl (h.dt 23 75 rfl rfl rfl) hb176 ⟨rfl, Ex.refl _⟩
            ·exact fun _ _ h => OpR.skip rfl rfl (h.dt 23 75 rfl rfl rfl) hb176 ⟨rfl, Ex.refl _⟩
            ·exact fun _ _ h => OpR.want rfl rfl (h.dt 20 72 rfl rfl rfl) (not_t hb170) (Yl.sameI (yl_pick_f rfl (h.dt 23 75 rfl rfl rfl) hb176 rfl kI))
            ·exact fun _ _ h => os rfl ((yl_pick_f rfl (h.dt 20 72 rfl rfl rfl) (not_t hb170) (h.dt 34 86 rfl rfl rfl) kI))
            ·intro fl689 fh690 L686 w687 hp688
             have hE691 := hp688.ex
             have hE691z := Ex.size hE691
             refine SeqR.done (tn (CW.sub (Sub.cons (d := 1) (hp688.old 1 _ rfl rfl) (Sub.cons (d := 45) (hp688.old 45 _ rfl rfl) (Sub.cons (d := 46) (hp688.old 46 _ rfl rfl) (Sub.cons (d := 47) (hp688.old 47 _ rfl rfl) (Sub.cons (d := 57) (hp688.nt 5 57 rfl rfl rfl) (Sub.cons (d := 58) (hp688.nt 6 58 rfl rfl rfl) (Sub.cons (d := 59) (hp688.nt 7 59 rfl rfl rfl) (Sub.cons (d := 60) (hp688.nt 8 60 rfl rfl rfl) (Sub.cons (d := 61) (hp688.nt 9 61 rfl rfl rfl) (Sub.cons (d := 62) (hp688.nt 10 62 rfl rfl rfl) (Sub.cons (d := 63) (hp688.nt 11 63 rfl rfl rfl) (Sub.cons (d := 64) (hp688.nt 12 64 rfl rfl rfl) (Sub.cons (d := 67) (hp688.nt 15 67 rfl rfl rfl) (Sub.cons (d := 68) (hp688.nt 16 68 rfl rfl rfl) (Sub.cons (d := 69) (hp688.nt 17 69 rfl rfl rfl) (Sub.cons (d := 70) (hp688.nt 18 70 rfl rfl rfl) (Sub.cons (d := 73) (hp688.nt 21 73 rfl rfl rfl) (Sub.cons (d := 74) (hp688.nt 22 74 rfl rfl rfl) (Sub.cons (d := 75) (hp688.nt 23 75 rfl rfl rfl) (Sub.cons (d := 76) (hp688.nt 24 76 rfl rfl rfl) (Sub.cons (d := 77) (hp688.nt 25 77 rfl rfl rfl) (Sub.cons (d := 78) (hp688.nt 26 78 rfl rfl rfl) (Sub.cons (d := 79) (hp688.nt 27 79 rfl rfl rfl) (Sub.cons (d := 80) (hp688.nt 28 80 rfl rfl rfl) (Sub.cons (d := 81) (hp688.nt 29 81 rfl rfl rfl) (Sub.cons (d := 82) (hp688.nt 30 82 rfl rfl rfl) (Sub.cons (d := 83) (hp688.nt 31 83 rfl rfl rfl) (Sub.cons (d := 84) (hp688.nt 32 84 rfl rfl rfl) (Sub.cons (d := 85) (hp688.nt 33 85 rfl rfl rfl) (Sub.cons (d := 86) (hp688.nt 34 86 rfl rfl rfl) (Sub.cons (d := 87) (hp688.nt 35 87 rfl rfl rfl) (Sub.nil _)))))))))))))))))))))))))))))))) ?_))
             refine CW.cond_f rfl rfl (CW.skip (bn (tn (CW.region (sd rfl (yl_inc rfl rfl rfl (by omega) (sd rfl (yl_move rfl rfl (SeqR.done (tn ?_))))))))))
             have hB723 : B_i_GoodTable_1 p_0 k91 () = .cont () := by simp only [B_i_GoodTable_1, hb16, hb21, hb23, hb159, hb164, hb170, hb176, hL90, cond_true, cond_false, loopE_done, loopE_ret]
             exact ⟨p_0.Idxs.length - (k91 + 1), by omega, k91 + 1, rfl, hlt147, (by omega), rfl, rfl, rfl, rfl, (Box.ex q469 hE691), (RdS.ex good_Str (RdS.only good_Str (RdS.ex good_Str hf143 hE154) hO157 (by simp only [Iv]; omega)) hE691), (RdS.ex good_Idx (RdS.only good_Idx (RdS.ex good_Idx hf144 hE154) hO157 (by simp only [Iv]; omega)) hE691), (Ex.trans (Below.only (Ex.trans hf145 hE154) hO157 (by omega)) hE691), (loopM.cont hlt147 hB723).symm.trans hI136⟩
          ·refine CW.drawsI 36 (vgetI [DetI (.pointer (some ⟨b149, 0 + 0, none⟩)), DetI (.string (bs ((p_0.Idxs.getD k91 d_Idx).Name))), DetI (.bool ((i_areLetters ((p_0.Idxs.getD k91 d_Idx).Name) 1))), DetI (.bool (!(i_areLetters ((p_0.Idxs.getD k91 d_Idx).Name) 1))), DetI (.bool (!(i_areLetters ((p_0.Idxs.getD k91 d_Idx).Name) 1))), DetI (.pointer (some ⟨b149, 0 + 1, none⟩)), DetI (.int .i64 ((p_0.Idxs.getD k91 d_Idx).Col)), DetI (.pointer (some ⟨b7, 0 + 1, none⟩)), DetI (.slice A1 p_0.Cols.length c1), DetI (.int .i64 ((p_0.Cols.length : Int))), DetI (.int .i64 (IntKind.wrap .i64 ((p_0.Cols.length : Int) - 1))), DetI (.bool ((i_within ((p_0.Idxs.getD k91 d_Idx).Col) 1 (IntKind.wrap .i64 ((p_0.Cols.length : Int) - 1))))), DetI (.bool (!(i_within ((p_0.Idxs.getD k91 d_Idx).Col) 1 (IntKind.wrap .i64 ((p_0.Cols.length : Int) - 1))))), DetI (.bool (!(i_within ((p_0.Idxs.getD k91 d_Idx).Col) 1 (IntKind.wrap .i64 ((p_0.Cols.length : Int) - 1))))), DetI (.bool (!(i_within ((p_0.Idxs.getD k91 d_Idx).Col) 1 (IntKind.wrap .i64 ((p_0.Cols.length : Int) - 1))))), DetI (.pointer (some ⟨b149, 0 + 2, none⟩)), DetI (.int .i64 ((p_0.Idxs.getD k91 d_Idx).Stage)), DetI (.bool ((i_isStage ((p_0.Idxs.getD k91 d_Idx).Stage)))), DetI (.bool (!(i_isStage ((p_0.Idxs.getD k91 d_Idx).Stage)))), DetI (.bool (!(i_isStage ((p_0.Idxs.getD k91 d_Idx).Stage)))), DetI (.bool (!(i_isStage ((p_0.Idxs.getD k91 d_Idx).Stage)))), DetI (undef), DetI (undef), DetI (undef), DetI (undef), DetI (undef), DetI (undef), DetI (undef), DetI (undef), DetI (undef), DetI (undef), DetI (undef), DetI (undef), DetI (undef), DetI (undef), DetI (.bool (true))]) Try.follows rfl rfl rfl rfl rfl rfl (vgetI_stable ⟨StableI.det _, StableI.det _, StableI.det _, StableI.det _, StableI.det _, StableI.det _, StableI.det _, StableI.det _, StableI.det _, StableI.det _, StableI.det _, StableI.det _, StableI.det _, StableI.det _, StableI.det _, StableI.det _, StableI.det _, StableI.det _, StableI.det _, StableI.det _, StableI.det _, StableI.det _, StableI.det _, StableI.det _, StableI.det _, StableI.det _, StableI.det _, StableI.det _, StableI.det _, StableI.det _, StableI.det _, StableI.det _, StableI.det _, StableI.det _, StableI.det _, StableI.det _, trivial⟩) ⟨?_, ?_, ?_, ?_, ?_, ?_, ?_, ?_, ?_, ?_, ?_, ?_, ?_, ?_, ?_, ?_, ?_, ?_, ?_, ?_, ?_, ?_, ?_, ?_, ?_, ?_, ?_, ?_, ?_, ?_, ?_, ?_, ?_, ?_, ?_, ?_, trivial⟩ ?_
           ·exact fun _ _ h => os rfl ((yl_fieldAddr Try.fd171_0 rfl (h.old 6 _ rfl rfl) kI))
           ·exact fun _ _ h => os rfl ((yl_load1 Try.ty9 rfl (h.dt 0 52 rfl rfl rfl) (((Box.ex hB156 h.ex).cell 0).trans rfl) kI))
           ·intro L750 w751 hi752
            refine OpR.op' rfl (yl_call Try.en175 rfl (opvs_cons (hi752.dt 1 53 rfl rfl rfl) (opvs_cons rfl opvs_nil)) (Cal.mono (c_i_areLetters ((p_0.Idxs.getD k91 d_Idx).Name) 1 (okL.getD o3.2.2 ok_d_Idx _)) ?_))
            rintro v756 w755 ⟨rfl, hE757⟩
            exact ⟨rfl, hE757⟩
           ·exact fun _ _ h => os rfl ((yl_not rfl (h.dt 2 54 rfl rfl rfl) kI))
           ·exact fun _ _ h => os rfl ((yl_move rfl (h.dt 3 55 rfl rfl rfl) kI))
           ·exact fun _ _ h => OpR.want rfl rfl (h.dt 4 56 rfl rfl rfl) (not_t hb159) (Yl.sameI (yl_fieldAddr Try.fd171_1 rfl (h.old 6 _ rfl rfl) kI))
           ·exact fun _ _ h => OpR.want rfl rfl (h.dt 4 56 rfl rfl rfl) (not_t hb159) (Yl.sameI (yl_load1 Try.ty3 rfl (h.dt 5 57 rfl rfl rfl) (((Box.ex hB156 h.ex).cell 1).trans rfl) kI))
           ·exact fun _ _ h => OpR.want rfl rfl (h.dt 4 56 rfl rfl rfl) (not_t hb159) (Yl.sameI (yl_fieldAddr Try.fd36_1 rfl (h.old 1 _ rfl rfl) kI))
           ·intro L787 w788 hi789
            have hE790 := hi789.ex
            have hE790z := Ex.size hE790
            exact OpR.want rfl rfl (hi789.dt 4 56 rfl rfl rfl) (not_t hb159) (Yl.sameI (yl_load1 Try.ty22 rfl (hi789.dt 7 59 rfl rfl rfl) (((Box.ex (Box.only (Box.ex hf142 hE154) hO157 (by omega)) hE790).cell 1).trans rfl) kI))
           ·exact fun _ _ h => OpR.want rfl rfl (h.dt 4 56 rfl rfl rfl) (not_t hb159) (Yl.sameI (yl_len Try.un22 rfl (h.dt 8 60 rfl rfl rfl) kI))
           ·exact fun _ _ h => OpR.want rfl rfl (h.dt 4 56 rfl rfl rfl) (not_t hb159) (Yl.sameI (yl_sub rfl (h.dt 9 61 rfl rfl rfl) rfl kI))
           ·intro L806 w807 hi808
            refine OpR.want rfl rfl (hi808.dt 4 56 rfl rfl rfl) (not_t hb159) (yl_call Try.en77 rfl (opvs_cons (hi808.dt 6 58 rfl rfl rfl) (opvs_cons rfl (opvs_cons (hi808.dt 10 62 rfl rfl rfl) opvs_nil))) (Cal.mono (c_i_within ((p_0.Idxs.getD k91 d_Idx).Col) 1 (IntKind.wrap .i64 ((p_0.Cols.length : Int) - 1))) ?_))
            rintro v814 w813 ⟨rfl, hE815⟩
            exact ⟨rfl, hE815⟩
           ·exact fun _ _ h => OpR.want rfl rfl (h.dt 4 56 rfl rfl rfl) (not_t hb159) (Yl.sameI (yl_not rfl (h.dt 11 63 rfl rfl rfl) kI))
           ·exact fun _ _ h => os rfl ((yl_pick_f rfl (h.dt 4 56 rfl rfl rfl) (not_t hb159) (h.dt 12 64 rfl rfl rfl) kI))
           ·exact fun _ _ h => os rfl ((yl_move rfl (h.dt 13 65 rfl rfl rfl) kI))
           ·exact fun _ _ h => OpR.want rfl rfl (h.dt 14 66 rfl rfl rfl) (not_t hb164) (Yl.sameI (yl_fieldAddr Try.fd171_2 rfl (h.old 6 _ rfl rfl) kI))
           ·exact fun _ _ h => OpR.want rfl rfl (h.dt 14 66 rfl rfl rfl) (not_t hb164) (Yl.sameI (yl_load1 Try.ty3 rfl (h.dt 15 67 rfl rfl rfl) (((Box.ex hB156 h.ex).cell 2).trans rfl) kI))
           ·intro L846 w847 hi848
            refine OpR.want rfl rfl (hi848.dt 14 66 rfl rfl rfl) (not_t hb164) (yl_call Try.en93 rfl (opvs_cons (hi848.dt 16 68 rfl rfl rfl) opvs_nil) (Cal.mono (c_i_isStage ((p_0.Idxs.getD k91 d_Idx).Stage)) ?_))
            rintro v853 w852 ⟨rfl, hE854⟩
            exact ⟨rfl, hE854⟩
           ·exact fun _ _ h => OpR.want rfl rfl (h.dt 14 66 rfl rfl rfl) (not_t hb164) (Yl.sameI (yl_not rfl (h.dt 17 69 rfl rfl rfl) kI))
           ·exact fun _ _ h => os rfl ((yl_pick_f rfl (h.dt 14 66 rfl rfl rfl) (not_t hb164) (h.dt 18 70 rfl rfl rfl) kI))
           ·exact fun _ _ h => os rfl ((yl_move rfl (h.dt 19 71 rfl rfl rfl) kI))
           ·exact fun _ _ h => OpR.skip rfl rfl (h.dt 20 72 rfl rfl rfl) (not_f hb170) ⟨rfl, Ex.refl _⟩
           ·exact fun _ _ h => OpR.skip rfl rfl (h.dt 20 72 rfl rfl rfl) (not_f hb170) ⟨rfl, Ex.refl _⟩
           ·exact fun _ _ h => OpR.skip rfl rfl (h.dt 20 72 rfl rfl rfl) (not_f hb170) ⟨rfl, Ex.refl _⟩
           ·exact fun _ _ h => OpR.undef rfl rfl (h.dt 23 75 rfl rfl rfl) ⟨rfl, Ex.refl _⟩
           ·exact fun _ _ h => OpR.undef rfl rfl (h.dt 23 75 rfl rfl rfl) ⟨rfl, Ex.refl _⟩
           ·exact fun _ _ h => OpR.undef rfl rfl (h.dt 23 75 rfl rfl rfl) ⟨rfl, Ex.refl _⟩
           ·exact fun _ _ h => OpR.undef rfl rfl (h.dt 23 75 rfl rfl rfl) ⟨rfl, Ex.refl _⟩
           ·exact fun _ _ h => OpR.undef rfl rfl (h.dt 23 75 rfl rfl rfl) ⟨rfl, Ex.refl _⟩
           ·exact fun _ _ h => OpR.undef rfl rfl (h.dt 23 75 rfl rfl rfl) ⟨rfl, Ex.refl _⟩
           ·exact fun _ _ h => OpR.undef rfl rfl (h.dt 23 75 rfl rfl rfl) ⟨rfl, Ex.refl _⟩
           ·exact fun _ _ h => OpR.undef rfl rfl (h.dt 23 75 rfl rfl rfl) ⟨rfl, Ex.refl _⟩
           ·exact fun _ _ h => OpR.undef rfl rfl (h.dt 23 75 rfl rfl rfl) ⟨rfl, Ex.refl _⟩
           ·exact fun _ _ h => OpR.undef rfl rfl (h.dt 23 75 rfl rfl rfl) ⟨rfl, Ex.refl _⟩
           ·exact fun _ _ h => OpR.skip rfl rfl (h.dt 20 72 rfl rfl rfl) (not_f hb170) ⟨rfl, Ex.refl _⟩
           ·exact fun _ _ h => os rfl ((yl_pick_t rfl (h.dt 20 72 rfl rfl rfl) (not_f hb170) rfl kI))
           ·intro fl951 fh952 L948 w949 hp950
            have hE953 := hp950.ex
            have hE953z := Ex.size hE953
            refine SeqR.done (tn (CW.sub (Sub.cons (d := 1) (hp950.old 1 _ rfl rfl) (Sub.cons (d := 45) (hp950.old 45 _ rfl rfl) (Sub.cons (d := 46) (hp950.old 46 _ rfl rfl) (Sub.cons (d := 47) (hp950.old 47 _ rfl rfl) (Sub.cons (d := 57) (hp950.nt 5 57 rfl rfl rfl) (Sub.cons (d := 58) (hp950.nt 6 58 rfl rfl rfl) (Sub.cons (d := 59) (hp950.nt 7 59 rfl rfl rfl) (Sub.cons (d := 60) (hp950.nt 8 60 rfl rfl rfl) (Sub.cons (d := 61) (hp950.nt 9 61 rfl rfl rfl) (Sub.cons (d := 62) (hp950.nt 10 62 rfl rfl rfl) (Sub.cons (d := 63) (hp950.nt 11 63 rfl rfl rfl) (Sub.cons (d := 64) (hp950.nt 12 64 rfl rfl rfl) (Sub.cons (d := 67) (hp950.nt 15 67 rfl rfl rfl) (Sub.cons (d := 68) (hp950.nt 16 68 rfl rfl rfl) (Sub.cons (d := 69) (hp950.nt 17 69 rfl rfl rfl) (Sub.cons (d := 70) (hp950.nt 18 70 rfl rfl rfl) (Sub.cons (d := 73) (hp950.nt 21 73 rfl rfl rfl) (Sub.cons (d := 74) (hp950.nt 22 74 rfl rfl rfl) (Sub.cons (d := 75) (hp950.nt 23 75 rfl rfl rfl) (Sub.cons (d := 76) (hp950.nt 24 76 rfl rfl rfl) (Sub.cons (d := 77) (hp950.nt 25 77 rfl rfl rfl) (Sub.cons (d := 78) (hp950.nt 26 78 rfl rfl rfl) (Sub.cons (d := 79) (hp950.nt 27 79 rfl rfl rfl) (Sub.cons (d := 80) (hp950.nt 28 80 rfl rfl rfl) (Sub.cons (d := 81) (hp950.nt 29 81 rfl rfl rfl) (Sub.cons (d := 82) (hp950.nt 30 82 rfl rfl rfl) (Sub.cons (d := 83) (hp950.nt 31 83 rfl rfl rfl) (Sub.cons (d := 84) (hp950.nt 32 84 rfl rfl rfl) (Sub.cons (d := 85) (hp950.nt 33 85 rfl rfl rfl) (Sub.cons (d := 86) (hp950.nt 34 86 rfl rfl rfl) (Sub.cons (d := 87) (hp950.nt 35 87 rfl rfl rfl) (Sub.nil _)))))))))))))))))))))))))))))))) ?_))
            refine CW.cond_t rfl rfl (CW.seq (CW.region (sd rfl (yl_assign rfl rfl (SeqR.done (tn (CW.ret (br (tr ?_)))))))))
            refine tr ?_
            have hB986 : B_i_GoodTable_1 p_0 k91 () = .ret false := by simp only [B_i_GoodTable_1, hb16, hb21, hb23, hb159, hb164, hb170, hL90, cond_true, cond_false, loopE_done, loopE_ret]
            have hL985 : loopM (B_i_GoodTable_1 p_0) (p_0.Idxs.length - 0) 0 () = .ret false := hI136.symm.trans (loopM.ret hlt147 hB986)
            refine br (tr (rr rfl (.cons rfl .nil) ?_))
            have hM987 : (i_GoodTable p_0) = (false) := by simp only [i_GoodTable, hb16, hb21, hb23, hb159, hb164, hb170, hL90, hL985, cond_true, cond_false, loopE_done, loopE_ret]
            rw [hM987]
            exact ⟨rfl, (Ex.trans (Below.only (Ex.trans hf145 hE154) hO157 (by omega)) hE953)⟩
         ·refine CW.drawsI 36 (vgetI [DetI (.pointer (some ⟨b149, 0 + 0, none⟩)), DetI (.string (bs ((p_0.Idxs.getD k91 d_Idx).Name))), DetI (.bool ((i_areLetters ((p_0.Idxs.getD k91 d_Idx).Name) 1))), DetI (.bool (!(i_areLetters ((p_0.Idxs.getD k91 d_Idx).Name) 1))), DetI (.bool (!(i_areLetters ((p_0.Idxs.getD k91 d_Idx).Name) 1))), DetI (.pointer (some ⟨b149, 0 + 1, none⟩)), DetI (.int .i64 ((p_0.Idxs.getD k91 d_Idx).Col)), DetI (.pointer (some ⟨b7, 0 + 1, none⟩)), DetI (.slice A1 p_0.Cols.length c1), DetI (.int .i64 ((p_0.Cols.length : Int))), DetI (.int .i64 (IntKind.wrap .i64 ((p_0.Cols.length : Int) - 1))), DetI (.bool ((i_within ((p_0.Idxs.getD k91 d_Idx).Col) 1 (IntKind.wrap .i64 ((p_0.Cols.length : Int) - 1))))), DetI (.bool (!(i_within ((p_0.Idxs.getD k91 d_Idx).Col) 1 (IntKind.wrap .i64 ((p_0.Cols.length : Int) - 1))))), DetI (.bool (!(i_within ((p_0.Idxs.getD k91 d_Idx).Col) 1 (IntKind.wrap .i64 ((p_0.Cols.length : Int) - 1))))), DetI (.bool (!(i_within ((p_0.Idxs.getD k91 d_Idx).Col) 1 (IntKind.wrap .i64 ((p_0.Cols.length : Int) - 1))))), DetI (undef), DetI (undef), DetI (undef), DetI (undef), DetI (.bool (true)), DetI (.bool (true)), DetI (undef), DetI (undef), DetI (undef), DetI (undef), DetI (undef), DetI (undef), DetI (undef), DetI (undef), DetI (undef), DetI (undef), DetI (undef), DetI (undef), DetI (undef), DetI (undef), DetI (.bool (true))]) Try.follows rfl rfl rfl rfl rfl rfl (vgetI_stable ⟨StableI.det _, StableI.det _, StableI.det _, StableI.det _, StableI.det _, StableI.det _, StableI.det _, StableI.det _, StableI.det _, StableI.det _, StableI.det _, StableI.det _, StableI.det _, StableI.det _, StableI.det _, StableI.det _, StableI.det _, StableI.det _, StableI.det _, StableI.det _, StableI.det _, StableI.det _, StableI.det _, StableI.det _, StableI.det _, StableI.det _, StableI.det _, StableI.det _, StableI.det _, StableI.det _, StableI.det _, StableI.det _, StableI.det _, StableI.det _, StableI.det _, StableI.det _, trivial⟩) ⟨?_, ?_, ?_, ?_, ?_, ?_, ?_, ?_, ?_, ?_, ?_, ?_, ?_, ?_, ?_, ?_, ?_, ?_, ?_, ?_, ?_, ?_, ?_, ?_, ?_, ?_, ?_, ?_, ?_, ?_, ?_, ?_, ?_, ?_, ?_, ?_, trivial⟩ ?_
          ·exact fun _ _ h => os rfl ((yl_fieldAddr Try.fd171_0 rfl (h.old 6 _ rfl rfl) kI))
          ·exact fun _ _ h => os rfl ((yl_load1 Try.ty9 rfl (h.dt 0 52 rfl rfl rfl) (((Box.ex hB156 h.ex).cell 0).trans rfl) kI))
          ·intro L1006 w1007 hi1008
           refine OpR.op' rfl (yl_call Try.en175 rfl (opvs_cons (hi1008.dt 1 53 rfl rfl rfl) (opvs_cons rfl opvs_nil)) (Cal.mono (c_i_areLetters ((p_0.Idxs.getD k91 d_Idx).Name) 1 (okL.getD o3.2.2 ok_d_Idx _)) ?_))
           rintro v1012 w1011 ⟨rfl, hE1013⟩
           exact ⟨rfl, hE1013⟩
          ·exact fun _ _ h => os rfl ((yl_not rfl (h.dt 2 54 rfl rfl rfl) kI))
          ·exact fun _ _ h => os rfl ((yl_move rfl (h.dt 3 55 rfl rfl rfl) kI))
          ·exact fun _ _ h => OpR.want rfl rfl (h.dt 4 56 rfl rfl rfl) (not_t hb159) (Yl.sameI (yl_fieldAddr Try.fd171_1 rfl (h.old 6 _ rfl rfl) kI))
          ·exact fun _ _ h => OpR.want rfl rfl (h.dt 4 56 rfl rfl rfl) (not_t hb159) (Yl.sameI (yl_load1 Try.ty3 rfl (h.dt 5 57 rfl rfl rfl) (((Box.ex hB156 h.ex).cell 1).trans rfl) kI))
          ·exact fun _ _ h => OpR.want rfl rfl (h.dt 4 56 rfl rfl rfl) (not_t hb159) (Yl.sameI (yl_fieldAddr Try.fd36_1 rfl (h.old 1 _ rfl rfl) kI))
          ·intro L1043 w1044 hi1045
           have hE1046 := hi1045.ex
           have hE1046z := Ex.size hE1046
           exact OpR.want rfl rfl (hi1045.dt 4 56 rfl rfl rfl) (not_t hb159) (Yl.sameI (yl_load1 Try.ty22 rfl (hi1045.dt 7 59 rfl rfl rfl) (((Box.ex (Box.only (Box.ex hf142 hE154) hO157 (by omega)) hE1046).cell 1).trans rfl) kI))
          ·exact fun _ _ h => OpR.want rfl rfl (h.dt 4 56 rfl rfl rfl) (not_t hb159) (Yl.sameI (yl_len Try.un22 rfl (h.dt 8 60 rfl rfl rfl) kI))
          ·exact fun _ _ h => OpR.want rfl rfl (h.dt 4 56 rfl rfl rfl) (not_t hb159) (Yl.sameI (yl_sub rfl (h.dt 9 61 rfl rfl rfl) rfl kI))
          ·intro L1062 w1063 hi1064
           refine OpR.want rfl rfl (hi1064.dt 4 56 rfl rfl rfl) (not_t hb159) (yl_call Try.en77 rfl (opvs_cons (hi1064.dt 6 58 rfl rfl rfl) (opvs_cons rfl (opvs_cons (hi1064.dt 10 62 rfl rfl rfl) opvs_nil))) (Cal.mono (c_i_within ((p_0.Idxs.getD k91 d_Idx).Col) 1 (IntKind.wrap .i64 ((p_0.Cols.length : Int) - 1))) ?_))
           rintro v1070 w1069 ⟨rfl, hE1071⟩
           exact ⟨rfl, hE1071⟩
          ·exact fun _ _ h => OpR.want rfl rfl (h.dt 4 56 rfl rfl rfl) (not_t hb159) (Yl.sameI (yl_not rfl (h.dt 11 63 rfl rfl rfl) kI))
          ·exact fun _ _ h => os rfl ((yl_pick_f rfl (h.dt 4 56 rfl rfl rfl) (not_t hb159) (h.dt 12 64 rfl rfl rfl) kI))
          ·exact fun _ _ h => os rfl ((yl_move rfl (h.dt 13 65 rfl rfl rfl) kI))
          ·exact fun _ _ h => OpR.skip rfl rfl (h.dt 14 66 rfl rfl rfl) (not_f hb164) ⟨rfl, Ex.refl _⟩
          ·exact fun _ _ h => OpR.skip rfl rfl (h.dt 14 66 rfl rfl rfl) (not_f hb164) ⟨rfl, Ex.refl _⟩
          ·exact fun _ _ h => OpR.skip rfl rfl (h.dt 14 66 rfl rfl rfl) (not_f hb164) ⟨rfl, Ex.refl _⟩
          ·exact fun _ _ h => OpR.skip rfl rfl (h.dt 14 66 rfl rfl rfl) (not_f hb164) ⟨rfl, Ex.refl _⟩
          ·exact fun _ _ h => os rfl ((yl_pick_t rfl (h.dt 14 66 rfl rfl rfl) (not_f hb164) rfl kI))
          ·exact fun _ _ h => os rfl ((yl_move rfl (h.dt 19 71 rfl rfl rfl) kI))
          ·exact fun _ _ h => OpR.skip rfl rfl (h.dt 20 72 rfl rfl rfl) rfl ⟨rfl, Ex.refl _⟩
          ·exact fun _ _ h => OpR.skip rfl rfl (h.dt 20 72 rfl rfl rfl) rfl ⟨rfl, Ex.refl _⟩
          ·exact fun _ _ h => OpR.skip rfl rfl (h.dt 20 72 rfl rfl rfl) rfl ⟨rfl, Ex.refl _⟩
          ·exact fun _ _ h => OpR.undef rfl rfl (h.dt 23 75 rfl rfl rfl) ⟨rfl, Ex.refl _⟩
          ·exact fun _ _ h => OpR.undef rfl rfl (h.dt 23 75 rfl rfl rfl) ⟨rfl, Ex.refl _⟩
          ·exact fun _ _ h => OpR.undef rfl rfl (h.dt 23 75 rfl rfl rfl) ⟨rfl, Ex.refl _⟩
          ·exact fun _ _ h => OpR.undef rfl rfl (h.dt 23 75 rfl rfl rfl) ⟨rfl, Ex.refl _⟩
          ·exact fun _ _ h => OpR.undef rfl rfl (h.dt 23 75 rfl rfl rfl) ⟨rfl, Ex.refl _⟩
          ·exact fun _ _ h => OpR.undef rfl rfl (h.dt 23 75 rfl rfl rfl) ⟨rfl, Ex.refl _⟩
          ·exact fun _ _ h => OpR.undef rfl rfl (h.dt 23 75 rfl rfl rfl) ⟨rfl, Ex.refl _⟩
          ·exact fun _ _ h => OpR.undef rfl rfl (h.dt 23 75 rfl rfl rfl) ⟨rfl, Ex.refl _⟩
          ·exact fun _ _ h => OpR.undef rfl rfl (h.dt 23 75 rfl rfl rfl) ⟨rfl, Ex.refl _⟩
          ·exact fun _ _ h => OpR.undef rfl rfl (h.dt 23 75 rfl rfl rfl) ⟨rfl, Ex.refl _⟩
          ·exact fun _ _ h => OpR.skip rfl rfl (h.dt 20 72 rfl rfl rfl) rfl ⟨rfl, Ex.refl _⟩
          ·exact fun _ _ h => os rfl ((yl_pick_t rfl (h.dt 20 72 rfl rfl rfl) rfl rfl kI))
          ·intro fl1199 fh1200 L1196 w1197 hp1198
           have hE1201 := hp1198.ex
           have hE1201z := Ex.size hE1201
           refine SeqR.done (tn (CW.sub (Sub.cons (d := 1) (hp1198.old 1 _ rfl rfl) (Sub.cons (d := 45) (hp1198.old 45 _ rfl rfl) (Sub.cons (d := 46) (hp1198.old 46 _ rfl rfl) (Sub.cons (d := 47) (hp1198.old 47 _ rfl rfl) (Sub.cons (d := 57) (hp1198.nt 5 57 rfl rfl rfl) (Sub.cons (d := 58) (hp1198.nt 6 58 rfl rfl rfl) (Sub.cons (d := 59) (hp1198.nt 7 59 rfl rfl rfl) (Sub.cons (d := 60) (hp1198.nt 8 60 rfl rfl rfl) (Sub.cons (d := 61) (hp1198.nt 9 61 rfl rfl rfl) (Sub.cons (d := 62) (hp1198.nt 10 62 rfl rfl rfl) (Sub.cons (d := 63) (hp1198.nt 11 63 rfl rfl rfl) (Sub.cons (d := 64) (hp1198.nt 12 64 rfl rfl rfl) (Sub.cons (d := 67) (hp1198.nt 15 67 rfl rfl rfl) (Sub.cons (d := 68) (hp1198.nt 16 68 rfl rfl rfl) (Sub.cons (d := 69) (hp1198.nt 17 69 rfl rfl rfl) (Sub.cons (d := 70) (hp1198.nt 18 70 rfl rfl rfl) (Sub.cons (d := 73) (hp1198.nt 21 73 rfl rfl rfl) (Sub.cons (d := 74) (hp1198.nt 22 74 rfl rfl rfl) (Sub.cons (d := 75) (hp1198.nt 23 75 rfl rfl rfl) (Sub.cons (d := 76) (hp1198.nt 24 76 rfl rfl rfl) (Sub.cons (d := 77) (hp1198.nt 25 77 rfl rfl rfl) (Sub.cons (d := 78) (hp1198.nt 26 78 rfl rfl rfl) (Sub.cons (d := 79) (hp1198.nt 27 79 rfl rfl rfl) (Sub.cons (d := 80) (hp1198.nt 28 80 rfl rfl rfl) (Sub.cons (d := 81) (hp1198.nt 29 81 rfl rfl rfl) (Sub.cons (d := 82) (hp1198.nt 30 82 rfl rfl rfl) (Sub.cons (d := 83) (hp1198.nt 31 83 rfl rfl rfl) (Sub.cons (d := 84) (hp1198.nt 32 84 rfl rfl rfl) (Sub.cons (d := 85) (hp1198.nt 33 85 rfl rfl rfl) (Sub.cons (d := 86) (hp1198.nt 34 86 rfl rfl rfl) (Sub.cons (d := 87) (hp1198.nt 35 87 rfl rfl rfl) (Sub.nil _)))))))))))))))))))))))))))))))) ?_))
           refine CW.cond_t rfl rfl (CW.seq (CW.region (sd rfl (yl_assign rfl rfl (SeqR.done (tn (CW.ret (br (tr ?_)))))))))
           refine tr ?_
           have hB1234 : B_i_GoodTable_1 p_0 k91 () = .ret false := by simp only [B_i_GoodTable_1, hb16, hb21, hb23, hb159, hb164, hL90, cond_true, cond_false, loopE_done, loopE_ret]
           have hL1233 : loopM (B_i_GoodTable_1 p_0) (p_0.Idxs.length - 0) 0 () = .ret false := hI136.symm.trans (loopM.ret hlt147 hB1234)
           refine br (tr (rr rfl (.cons rfl .nil) ?_))
           have hM1235 : (i_GoodTable p_0) = (false) := by simp only [i_GoodTable, hb16, hb21, hb23, hb159, hb164, hL90, hL1233, cond_true, cond_false, loopE_done, loopE_ret]
           rw [hM1235]
           exact ⟨rfl, (Ex.trans (Below.only (Ex.trans hf145 hE154) hO157 (by omega)) hE1201)⟩
        ·refine CW.drawsI 36 (vgetI [DetI (.pointer (some ⟨b149, 0 + 0, none⟩)), DetI (.string (bs ((p_0.Idxs.getD k91 d_Idx).Name))), DetI (.bool ((i_areLetters ((p_0.Idxs.getD k91 d_Idx).Name) 1))), DetI (.bool (!(i_areLetters ((p_0.Idxs.getD k91 d_Idx).Name) 1))), DetI (.bool (!(i_areLetters ((p_0.Idxs.getD k91 d_Idx).Name) 1))), DetI (undef), DetI (undef), DetI (undef), DetI (undef), DetI (undef), DetI (undef), DetI (undef), DetI (undef), DetI (.bool (true)), DetI (.bool (true)), DetI (undef), DetI (undef), DetI (undef), DetI (undef), DetI (.bool (true)), DetI (.bool (true)), DetI (undef), DetI (undef), DetI (undef), DetI (undef), DetI (undef), DetI (undef), DetI (undef), DetI (undef), DetI (undef), DetI (undef), DetI (undef), DetI (undef), DetI (undef), DetI (undef), DetI (.bool (true))]) Try.follows rfl rfl rfl rfl rfl rfl (vgetI_stable ⟨StableI.det _, StableI.det _, StableI.det _, StableI.det _, StableI.det _, StableI.det _, StableI.det _, StableI.det _, StableI.det _, StableI.det _, StableI.det _, StableI.det _, StableI.det _, StableI.det _, StableI.det _, StableI.det _, StableI.det _, StableI.det _, StableI.det _, StableI.det _, StableI.det _, StableI.det _, StableI.det _, StableI.det _, StableI.det _, StableI.det _, StableI.det _, StableI.det _, StableI.det _, StableI.det _, StableI.det _, StableI.det _, StableI.det _, StableI.det _, StableI.det _, StableI.det _, trivial⟩) ⟨?_, ?_, ?_, ?_, ?_, ?_, ?_, ?_, ?_, ?_, ?_, ?_, ?_, ?_, ?_, ?_, ?_, ?_, ?_, ?_, ?_, ?_, ?_, ?_, ?_, ?_, ?_, ?_, ?_, ?_, ?_, ?_, ?_, ?_, ?_, ?_, trivial⟩ ?_
         ·exact fun _ _ h => os rfl ((yl_fieldAddr Try.fd171_0 rfl (h.old 6 _ rfl rfl) kI))
         ·exact fun _ _ h => os rfl ((yl_load1 Try.ty9 rfl (h.dt 0 52 rfl rfl rfl) (((Box.ex hB156 h.ex).cell 0).trans rfl) kI))
         ·intro L1251 w1252 hi1253
          refine OpR.op' rfl (yl_call Try.en175 rfl (opvs_cons (hi1253.dt 1 53 rfl rfl rfl) (opvs_cons rfl opvs_nil)) (Cal.mono (c_i_areLetters ((p_0.Idxs.getD k91 d_Idx).Name) 1 (okL.getD o3.2.2 ok_d_Idx _)) ?_))
          rintro v1257 w1256 ⟨rfl, hE1258⟩
          exact ⟨rfl, hE1258⟩
         ·exact fun _ _ h => os rfl ((yl_not rfl (h.dt 2 54 rfl rfl rfl) kI))
         ·exact fun _ _ h => os rfl ((yl_move rfl (h.dt 3 55 rfl rfl rfl) kI))
         ·exact fun _ _ h => OpR.skip rfl rfl (h.dt 4 56 rfl rfl rfl) (not_f hb159) ⟨rfl, Ex.refl _⟩
         ·exact fun _ _ h => OpR.skip rfl rfl (h.dt 4 56 rfl rfl rfl) (not_f hb159) ⟨rfl, Ex.refl _⟩
         ·exact fun _ _ h => OpR.skip rfl rfl (h.dt 4 56 rfl rfl rfl) (not_f hb159) ⟨rfl, Ex.refl _⟩
         ·exact fun _ _ h => OpR.skip rfl rfl (h.dt 4 56 rfl rfl rfl) (not_f hb159) ⟨rfl, Ex.refl _⟩
         ·exact fun _ _ h => OpR.skip rfl rfl (h.dt 4 56 rfl rfl rfl) (not_f hb159) ⟨rfl, Ex.refl _⟩
         ·exact fun _ _ h => OpR.skip rfl rfl (h.dt 4 56 rfl rfl rfl) (not_f hb159) ⟨rfl, Ex.refl _⟩
         ·exact fun _ _ h => OpR.skip rfl rfl (h.dt 4 56 rfl rfl rfl) (not_f hb159) ⟨rfl, Ex.refl _⟩
         ·exact fun _ _ h => OpR.skip rfl rfl (h.dt 4 56 rfl rfl rfl) (not_f hb159) ⟨rfl, Ex.refl _⟩
         ·exact fun _ _ h => os rfl ((yl_pick_t rfl (h.dt 4 56 rfl rfl rfl) (not_f hb159) rfl kI))
         ·exact fun _ _ h => os rfl ((yl_move rfl (h.dt 13 65 rfl rfl rfl) kI))
         ·exact fun _ _ h => OpR.skip rfl rfl (h.dt 14 66 rfl rfl rfl) rfl ⟨rfl, Ex.refl _⟩
         ·exact fun _ _ h => OpR.skip rfl rfl (h.dt 14 66 rfl rfl rfl) rfl ⟨rfl, Ex.refl _⟩
         ·exact fun _ _ h => OpR.skip rfl rfl (h.dt 14 66 rfl rfl rfl) rfl ⟨rfl, Ex.refl _⟩
         ·exact fun _ _ h => OpR.skip rfl rfl (h.dt 14 66 rfl rfl rfl) rfl ⟨rfl, Ex.refl _⟩
         ·exact fun _ _ h => os rfl ((yl_pick_t rfl (h.dt 14 66 rfl rfl rfl) rfl rfl kI))
         ·exact fun _ _ h => os rfl ((yl_move rfl (h.dt 19 71 rfl rfl rfl) kI))
         ·exact fun _ _ h => OpR.skip rfl rfl (h.dt 20 72 rfl rfl rfl) rfl ⟨rfl, Ex.refl _⟩
         ·exact fun _ _ h => OpR.skip rfl rfl (h.dt 20 72 rfl rfl rfl) rfl ⟨rfl, Ex.refl _⟩
         ·exact fun _ _ h => OpR.skip rfl rfl (h.dt 20 72 rfl rfl rfl) rfl ⟨rfl, Ex.refl _⟩
         ·exact fun _ _ h => OpR.undef rfl rfl (h.dt 23 75 rfl rfl rfl) ⟨rfl, Ex.refl _⟩
         ·exact fun _ _ h => OpR.undef rfl rfl (h.dt 23 75 rfl rfl rfl) ⟨rfl, Ex.refl _⟩
         ·exact fun _ _ h => OpR.undef rfl rfl (h.dt 23 75 rfl rfl rfl) ⟨rfl, Ex.refl _⟩
         ·exact fun _ _ h => OpR.undef rfl rfl (h.dt 23 75 rfl rfl rfl) ⟨rfl, Ex.refl _⟩
         ·exact fun _ _ h => OpR.undef rfl rfl (h.dt 23 75 rfl rfl rfl) ⟨rfl, Ex.refl _⟩
         ·exact fun _ _ h => OpR.undef rfl rfl (h.dt 23 75 rfl rfl rfl) ⟨rfl, Ex.refl _⟩
         ·exact fun _ _ h => OpR.undef rfl rfl (h.dt 23 75 rfl rfl rfl) ⟨rfl, Ex.refl _⟩
         ·exact fun _ _ h => OpR.undef rfl rfl (h.dt 23 75 rfl rfl rfl) ⟨rfl, Ex.refl _⟩
         ·exact fun _ _ h => OpR.undef rfl rfl (h.dt 23 75 rfl rfl rfl) ⟨rfl, Ex.refl _⟩
         ·exact fun _ _ h => OpR.undef rfl rfl (h.dt 23 75 rfl rfl rfl) ⟨rfl, Ex.refl _⟩
         ·exact fun _ _ h => OpR.skip rfl rfl (h.dt 20 72 rfl rfl rfl) rfl ⟨rfl, Ex.refl _⟩
         ·exact fun _ _ h => os rfl ((yl_pick_t rfl (h.dt 20 72 rfl rfl rfl) rfl rfl kI))
         ·intro fl1430 fh1431 L1427 w1428 hp1429
          have hE1432 := hp1429.ex
          have hE1432z := Ex.size hE1432
          refine SeqR.done (tn (CW.sub (Sub.cons (d := 1) (hp1429.old 1 _ rfl rfl) (Sub.cons (d := 45) (hp1429.old 45 _ rfl rfl) (Sub.cons (d := 46) (hp1429.old 46 _ rfl rfl) (Sub.cons (d := 47) (hp1429.old 47 _ rfl rfl) (Sub.cons (d := 57) (hp1429.nt 5 57 rfl rfl rfl) (Sub.cons (d := 58) (hp1429.nt 6 58 rfl rfl rfl) (Sub.cons (d := 59) (hp1429.nt 7 59 rfl rfl rfl) (Sub.cons (d := 60) (hp1429.nt 8 60 rfl rfl rfl) (Sub.cons (d := 61) (hp1429.nt 9 61 rfl rfl rfl) (Sub.cons (d := 62) (hp1429.nt 10 62 rfl rfl rfl) (Sub.cons (d := 63) (hp1429.nt 11 63 rfl rfl rfl) (Sub.cons (d := 64) (hp1429.nt 12 64 rfl rfl rfl) (Sub.cons (d := 67) (hp1429.nt 15 67 rfl rfl rfl) (Sub.cons (d := 68) (hp1429.nt 16 68 rfl rfl rfl) (Sub.cons (d := 69) (hp1429.nt 17 69 rfl rfl rfl) (Sub.cons (d := 70) (hp1429.nt 18 70 rfl rfl rfl) (Sub.cons (d := 73) (hp1429.nt 21 73 rfl rfl rfl) (Sub.cons (d := 74) (hp1429.nt 22 74 rfl rfl rfl) (Sub.cons (d := 75) (hp1429.nt 23 75 rfl rfl rfl) (Sub.cons (d := 76) (hp1429.nt 24 76 rfl rfl rfl) (Sub.cons (d := 77) (hp1429.nt 25 77 rfl rfl rfl) (Sub.cons (d := 78) (hp1429.nt 26 78 rfl rfl rfl) (Sub.cons (d := 79) (hp1429.nt 27 79 rfl rfl rfl) (Sub.cons (d := 80) (hp1429.nt 28 80 rfl rfl rfl) (Sub.cons (d := 81) (hp1429.nt 29 81 rfl rfl rfl) (Sub.cons (d := 82) (hp1429.nt 30 82 rfl rfl rfl) (Sub.cons (d := 83) (hp1429.nt 31 83 rfl rfl rfl) (Sub.cons (d := 84) (hp1429.nt 32 84 rfl rfl rfl) (Sub.cons (d := 85) (hp1429.nt 33 85 rfl rfl rfl) (Sub.cons (d := 86) (hp1429.nt 34 86 rfl rfl rfl) (Sub.cons (d := 87) (hp1429.nt 35 87 rfl rfl rfl) (Sub.nil _)))))))))))))))))))))))))))))))) ?_))
          refine CW.cond_t rfl rfl (CW.seq (CW.region (sd rfl (yl_assign rfl rfl (SeqR.done (tn (CW.ret (br (tr ?_)))))))))
          refine tr ?_
          have hB1465 : B_i_GoodTable_1 p_0 k91 () = .ret false := by simp only [B_i_GoodTable_1, hb16, hb21, hb23, hb159, hL90, cond_true, cond_false, loopE_done, loopE_ret]
          have hL1464 : loopM (B_i_GoodTable_1 p_0) (p_0.Idxs.length - 0) 0 () = .ret false := hI136.symm.trans (loopM.ret hlt147 hB1465)
          refine br (tr (rr rfl (.cons rfl .nil) ?_))
          have hM1466 : (i_GoodTable p_0) = (false) := by simp only [i_GoodTable, hb16, hb21, hb23, hb159, hL90, hL1464, cond_true, cond_false, loopE_done, loopE_ret]
          rw [hM1466]
          exact ⟨rfl, (Ex.trans (Below.only (Ex.trans hf145 hE154) hO157 (by omega)) hE1432)⟩
       ·refine CW.seq (CW.region (sd rfl (yl_lss rfl rfl rfl (SeqR.done (tn (CW.seq (CW.cond_f rfl (lt_f hlt147) (CW.exit (tx ?_)))))))))
        refine tx ?_
        have hL1470 : loopM (B_i_GoodTable_1 p_0) (p_0.Idxs.length - 0) 0 () = .done () := hI136.symm.trans (loopM.stop hlt147)
        refine bx (tn (CW.seq (CW.region (sd rfl (yl_assign rfl rfl (SeqR.done (tn (CW.ret (rr rfl (.cons rfl .nil) ?_)))))))))
        have hM1471 : (i_GoodTable p_0) = (true) := by simp only [i_GoodTable, hb16, hb21, hb23, hL90, hL1470, cond_true, cond_false, loopE_done, loopE_ret]
        rw [hM1471]
        exact ⟨rfl, hf145⟩
  ·refine sz rfl rfl (not_f hb21) (sz rfl rfl (not_f hb21) (sz rfl rfl (not_f hb21) (sz rfl rfl (not_f hb21) (sd rfl (yl_pick_t rfl rfl (not_f hb21) rfl (SeqR.done (tn (CW.cond_t rfl rfl (CW.seq ?_)))))))))
   refine CW.region (sd rfl (yl_assign rfl rfl (SeqR.done (tn (CW.ret (tr (rr rfl (.cons rfl .nil) ?_)))))))
   have hM1472 : (i_GoodTable p_0) = (false) := by simp only [i_GoodTable, hb16, hb21, cond_true, cond_false, loopE_done, loopE_ret]
   rw [hM1472]
   exact ⟨rfl, (Ex.trans (Ex.trans (Ex.trans (Ex.refl w) hE12) hE15) hE20)⟩
 ·refine sz rfl rfl (not_f hb16) (sz rfl rfl (not_f hb16) (sz rfl rfl (not_f hb16) (sz rfl rfl (not_f hb16) (sz rfl rfl (not_f hb16) (sd rfl (yl_pick_t rfl rfl (not_f hb16) rfl (sd rfl (yl_move rfl rfl (sz rfl rfl rfl (sz rfl rfl rfl ?_))))))))))
  refine sz rfl rfl rfl (sz rfl rfl rfl (sd rfl (yl_pick_t rfl rfl rfl rfl (SeqR.done (tn (CW.cond_t rfl rfl (CW.seq (CW.region (sd rfl (yl_assign rfl rfl ?_))))))))))
  refine SeqR.done (tn (CW.ret (tr (rr rfl (.cons rfl .nil) ?_))))
  have hM1476 : (i_GoodTable p_0) = (false) := by simp only [i_GoodTable, hb16, cond_true, cond_false, loopE_done, loopE_ret]
  rw [hM1476]
  exact ⟨rfl, (Ex.trans (Ex.trans (Ex.refl w) hE12) hE15)⟩
set_option maxRecDepth 100000 in
set_option maxHeartbeats 2000000 in
theorem c_g_slices_IndexFunc_Idx {A1 : Option Addr} {c1 : Nat} {g3 : Nat} {cp4 : List Value} {w : World} (p_s : List DIdx) (p_f : DIdx → Bool) (h1 : RdS w (Iv 0 w.heap.size) (RF e_Idx) 3 A1 p_s.length c1 p_s) (hen5 : Enters Try.prog g3) (hfn6 : ∀ (w1 : World) (y0 : DIdx), Ex w w1 → y0 ∈ p_s → ok_Idx y0 → Cal Try.prog g3 (([.agg #[.string (bs (y0.Name)), .int .i64 (y0.Col), .int .i64 (y0.Stage)]] : List Value) ++ cp4).toArray w1 fun v w2 => v = .bool (p_f y0) ∧ Ex w1 w2) (o2 : (okL ok_Idx) p_s) : Cal Try.prog 189 #[.slice A1 p_s.length c1, .func (.func g3) #[] cp4.toArray] w fun v w' => v = .int .i64 ((g_slices_IndexFunc_Idx p_s p_f)) ∧ Ex w w' := by
 have hol7 := o2.1
 refine Cal.of (vs := [.slice A1 p_s.length c1, .func (.func g3) #[] cp4.toArray]) Try.func189 rfl Try.ntmps189 rfl (CW.seq (CW.region (sd rfl (yl_assign rfl rfl (SeqR.done (tn (CW.seq (CW.seq (CW.region ?_)))))))))
 refine sd rfl (yl_move rfl rfl (sd rfl (yl_len Try.un34 rfl rfl (sd rfl (yl_move rfl rfl (SeqR.done (tn (CW.block (CW.loop (fun m9 L10 w11 => ∃ (k8 : Nat), m9 = p_s.length - k8 ∧ k8 ≤ p_s.length ∧ w.heap.size ≤ w11.heap.size ∧ lkp L10 0 = some (.slice A1 p_s.length c1) ∧ lkp L10 1 = some (.func (.func g3) #[] cp4.toArray) ∧ lkp L10 7 = some (.int .i64 ((p_s.length : Int))) ∧ lkp L10 8 = some (.int .i64 ((k8 : Int))) ∧ RdS w11 (Iv 0 w.heap.size) (RF e_Idx) 3 A1 p_s.length c1 p_s ∧ Ex w w11 ∧ loopM (B_g_slices_IndexFunc_Idx_0 p_s p_f) (p_s.length - k8) k8 () = loopM (B_g_slices_IndexFunc_Idx_0 p_s p_f) (p_s.length - 0) 0 ()) (p_s.length - 0) ?_ ?_)))))))))
 ·exact ⟨0, rfl, (by omega), Nat.le_refl _, rfl, rfl, rfl, rfl, h1, (Ex.refl w), rfl⟩
 ·rintro m12 L13 w14 ⟨k8, rfl, hk15, hsz17, hl18, hl19, hl20, hl21, hf22, hf23, hI16⟩
  refine CW.sub (Sub.cons hl18 (Sub.cons hl19 (Sub.cons hl20 (Sub.cons hl21 (Sub.nil _))))) ?_
  have hf23z := Ex.size hf23
  have hbg24 := RdS.big hf22
  rcases Nat.lt_or_ge k8 p_s.length with hlt25 | hlt25
  ·refine CW.seq (CW.region (sd rfl (yl_lss rfl rfl rfl (SeqR.done (tn (CW.seq (CW.cond_t rfl (lt_t hlt25) (CW.skip (tn ?_)))))))))
   refine CW.seq (CW.block (CW.seq (CW.region (sd rfl (yl_move rfl rfl (sd rfl (yl_assign rfl rfl (SeqR.done (tn (CW.seq ?_))))))))))
   refine CW.region (sd rfl (yl_move rfl rfl (sd rfl (yl_move rfl rfl (sd rfl (yl_move rfl rfl ?_))))))
   obtain ⟨eb26, eo26, ec26, eA26, eS26, ebl26, el26, eR26, eC26⟩ := RdS.atD hf22 d_Idx (i := k8) (by first | omega | assumption)
   obtain rfl := eR26
   have eC26 : Cells w14 eb26 (eo26 + k8 * 3) [.string (bs ((p_s.getD k8 d_Idx).Name)), .int .i64 ((p_s.getD k8 d_Idx).Col), .int .i64 ((p_s.getD k8 d_Idx).Stage)] := eC26
   refine sd rfl (yl_indexAddrN Try.un34 Try.ty171 rfl rfl rfl eA26 (by first | omega | assumption | (simp only [IntKind.wrap_i64] at *; omega)) (sd rfl (yl_loadN (cs := [.string (bs ((p_s.getD k8 d_Idx).Name)), .int .i64 ((p_s.getD k8 d_Idx).Col), .int .i64 ((p_s.getD k8 d_Idx).Stage)]) Try.ty171 rfl rfl eC26 rfl (sd rfl (yl_callv hen5 rfl rfl (opvs_cons rfl opvs_nil) (Cal.mono (hfn6 w14 (p_s.getD k8 d_Idx) hf23 (getD_mem (by omega)) (okL.getD o2 ok_d_Idx _)) ?_))))))
   rintro v28 w27 ⟨rfl, hE29⟩
   have hE29z := Ex.size hE29
   refine SeqR.done (tn (bcase (p_f (p_s.getD k8 d_Idx)) (fun hb30 => ?_) (fun hb30 => ?_)))
   ·refine CW.cond_t rfl hb30 (CW.seq (CW.region (sd rfl (yl_move rfl rfl (sd rfl (yl_assign rfl rfl (SeqR.done (tn (CW.ret (br ?_))))))))))
    refine tr (tr ?_)
    have hB32 : B_g_slices_IndexFunc_Idx_0 p_s p_f k8 () = .ret (k8 : Int) := by simp only [B_g_slices_IndexFunc_Idx_0, hb30, cond_true, cond_false, loopE_done, loopE_ret]
    have hL31 : loopM (B_g_slices_IndexFunc_Idx_0 p_s p_f) (p_s.length - 0) 0 () = .ret (k8 : Int) := hI16.symm.trans (loopM.ret hlt25 hB32)
    refine br (tr (rr rfl (.cons rfl .nil) ?_))
    have hM33 : (g_slices_IndexFunc_Idx p_s p_f) = ((k8 : Int)) := by simp only [g_slices_IndexFunc_Idx, hb30, hL31, cond_true, cond_false, loopE_done, loopE_ret]
    rw [hM33]
    exact ⟨rfl, (Ex.trans hf23 hE29)⟩
   ·refine CW.cond_f rfl hb30 (CW.skip (bn (tn (CW.region (sd rfl (yl_inc rfl rfl rfl (by omega) (sd rfl (yl_move rfl rfl (SeqR.done (tn ?_))))))))))
    have hB35 : B_g_slices_IndexFunc_Idx_0 p_s p_f k8 () = .cont () := by simp only [B_g_slices_IndexFunc_Idx_0, hb30, cond_true, cond_false, loopE_done, loopE_ret]
    exact ⟨p_s.length - (k8 + 1), by omega, k8 + 1, rfl, hlt25, (by omega), rfl, rfl, rfl, rfl, (RdS.ex good_Idx hf22 hE29), (Ex.trans hf23 hE29), (loopM.cont hlt25 hB35).symm.trans hI16⟩
  ·refine CW.seq (CW.region (sd rfl (yl_lss rfl rfl rfl (SeqR.done (tn (CW.seq (CW.cond_f rfl (lt_f hlt25) (CW.exit (tx ?_)))))))))
   refine tx ?_
   have hL38 : loopM (B_g_slices_IndexFunc_Idx_0 p_s p_f) (p_s.length - 0) 0 () = .done () := hI16.symm.trans (loopM.stop hlt25)
   refine bx (tn (CW.seq (CW.region (sd rfl (yl_assign rfl rfl (SeqR.done (tn (CW.ret (rr rfl (.cons rfl .nil) ?_)))))))))
   have hM39 : (g_slices_IndexFunc_Idx p_s p_f) = (-1) := by simp only [g_slices_IndexFunc_Idx, hL38, cond_true, cond_false, loopE_done, loopE_ret]
   rw [hM39]
   exact ⟨rfl, hf23⟩
set_option maxRecDepth 100000 in
set_option maxHeartbeats 2000000 in
theorem c_i_Table_findIdx_c1 {b2 : Nat} {w : World} (p_x : DIdx) (p_cap0 : Str) (h3 : Box w b2 9 [.string (bs (p_cap0))]) (o1 : ok_Idx p_x) (o4 : okS p_cap0) : Cal Try.prog 190 #[.agg #[.string (bs (p_x.Name)), .int .i64 (p_x.Col), .int .i64 (p_x.Stage)], .pointer (some ⟨b2, 0, none⟩)] w fun v w' => v = .bool ((i_Table_findIdx_c1 p_x p_cap0)) ∧ Ex w w' := by
 have hol5 : p_x.Name.length ≤ 1073741824 := o1
 have hol6 : p_cap0.length ≤ 1073741824 := o4
 refine Cal.of (vs := [.agg #[.string (bs (p_x.Name)), .int .i64 (p_x.Col), .int .i64 (p_x.Stage)], .pointer (some ⟨b2, 0, none⟩)]) Try.func190 rfl Try.ntmps190 rfl (CW.seq (CW.region (sd rfl (yl_box (cs := [.string (bs (p_x.Name)), .int .i64 (p_x.Col), .int .i64 (p_x.Stage)]) rfl rfl rfl ?_))))
 intro b7 w8 hs9 hz10 hB11 hE12
 refine sd rfl (yl_assign rfl rfl (SeqR.done (tn (CW.seq (CW.region (sd rfl (yl_fieldAddr Try.fd171_0 rfl rfl (sd rfl (yl_load1 Try.ty9 rfl rfl ((hB11.cell 0).trans rfl) (sd rfl (yl_load1 Try.ty9 rfl rfl (((Box.ex h3 hE12).cell 0).trans rfl) (sd rfl (yl_seql (a := p_x.Name) (b := p_cap0) rfl rfl rfl ?_)))))))))))))
 refine sd rfl (yl_assign rfl rfl (SeqR.done (tn (CW.ret (rr rfl (.cons rfl .nil) ?_)))))
 have hM14 : (i_Table_findIdx_c1 p_x p_cap0) = (p_x.Name == p_cap0) := by simp only [i_Table_findIdx_c1, cond_true, cond_false, loopE_done, loopE_ret]
 rw [hM14]
 exact ⟨rfl, (Ex.trans (Ex.refl w) hE12)⟩
set_option maxRecDepth 100000 in
set_option maxHeartbeats 2000000 in
theorem c_i_Table_findIdx {A1 : Option Addr} {c1 : Nat} {A2 : Option Addr} {c2 : Nat} {w : World} (p_t : DTable) (p_name : Str) (h1 : RdS w (Iv 0 w.heap.size) (RF e_Str) 1 A1 p_t.Cols.length c1 p_t.Cols) (h2 : RdS w (Iv 0 w.heap.size) (RF e_Idx) 3 A2 p_t.Idxs.length c2 p_t.Idxs) (o3 : ok_Table p_t) (o4 : okS p_name) : Cal Try.prog 143 #[.agg #[.string (bs (p_t.Name)), .slice A1 p_t.Cols.length c1, .slice A2 p_t.Idxs.length c2], .string (bs (p_name))] w fun v w' => v = .int .i64 ((i_Table_findIdx p_t p_name)) ∧ Ex w w' := by
 have hol5 : p_t.Name.length ≤ 1073741824 := o3.1
 have hol6 := o3.2.1.1
 have hol7 := o3.2.2.1
 have hol8 : p_name.length ≤ 1073741824 := o4
 refine Cal.of (vs := [.agg #[.string (bs (p_t.Name)), .slice A1 p_t.Cols.length c1, .slice A2 p_t.Idxs.length c2], .string (bs (p_name))]) Try.func143 rfl Try.ntmps143 rfl (CW.seq (CW.region (sd rfl (yl_box (cs := [.string (bs (p_t.Name)), .slice A1 p_t.Cols.length c1, .slice A2 p_t.Idxs.length c2]) rfl rfl rfl ?_))))
 intro b9 w10 hs11 hz12 hB13 hE14
 refine sd rfl (yl_box (cs := [.string (bs (p_name))]) rfl rfl rfl ?_)
 intro b15 w16 hs17 hz18 hB19 hE20
 refine sd rfl (yl_assign rfl rfl (SeqR.done (tn (CW.seq (CW.region (sd rfl (yl_fieldAddr Try.fd36_2 rfl rfl (sd rfl (yl_load1 Try.ty34 rfl rfl (((Box.ex hB13 hE20).cell 2).trans rfl) (sd rfl (yl_makeFunc rfl (opvs_cons rfl opvs_nil) (sd rfl (yl_call Try.en189 rfl (opvs_cons rfl (opvs_cons rfl opvs_nil)) (Cal.mono (c_g_slices_IndexFunc_Idx p_t.Idxs (fun y0 => i_Table_findIdx_c1 y0 p_name) (RdS.up (RdS.ex good_Idx (RdS.ex good_Idx h2 hE14) hE20) good_Idx) Try.en190 (fun _ y0 => fun hE hm0 ov0 => c_i_Table_findIdx_c1 y0 p_name (Box.ex hB19 hE) ov0 o4) o3.2.2) ?_))))))))))))))
 rintro v25 w24 ⟨rfl, hE26⟩
 have hE26z := Ex.size hE26
 refine sd rfl (yl_assign rfl rfl (SeqR.done (tn (CW.ret (rr rfl (.cons rfl .nil) ?_)))))
 have hM27 : (i_Table_findIdx p_t p_name) = ((g_slices_IndexFunc_Idx p_t.Idxs (fun y0 => i_Table_findIdx_c1 y0 p_name))) := by simp only [i_Table_findIdx, cond_true, cond_false, loopE_done, loopE_ret]
 rw [hM27]
 exact ⟨rfl, (Ex.trans (Ex.trans (Ex.trans (Ex.refl w) hE14) hE20) hE26)⟩
set_option maxRecDepth 100000 in
set_option maxHeartbeats 2000000 in
theorem c_i_hasIdx {A1 : Option Addr} {c1 : Nat} {A2 : Option Addr} {c2 : Nat} {w : World} (p_t : DTable) (p_name : Str) (h1 : RdS w (Iv 0 w.heap.size) (RF e_Str) 1 A1 p_t.Cols.length c1 p_t.Cols) (h2 : RdS w (Iv 0 w.heap.size) (RF e_Idx) 3 A2 p_t.Idxs.length c2 p_t.Idxs) (o3 : ok_Table p_t) (o4 : okS p_name) : Cal Try.prog 92 #[.agg #[.string (bs (p_t.Name)), .slice A1 p_t.Cols.length c1, .slice A2 p_t.Idxs.length c2], .string (bs (p_name))] w fun v w' => v = .bool ((i_hasIdx p_t p_name)) ∧ Ex w w' := by
 have hol5 : p_t.Name.length ≤ 1073741824 := o3.1
 have hol6 := o3.2.1.1
 have hol7 := o3.2.2.1
 have hol8 : p_name.length ≤ 1073741824 := o4
 refine Cal.of (vs := [.agg #[.string (bs (p_t.Name)), .slice A1 p_t.Cols.length c1, .slice A2 p_t.Idxs.length c2], .string (bs (p_name))]) Try.func92 rfl Try.ntmps92 rfl (CW.seq (CW.region (sd rfl (yl_box (cs := [.string (bs (p_t.Name)), .slice A1 p_t.Cols.length c1, .slice A2 p_t.Idxs.length c2]) rfl rfl rfl ?_))))
 intro b9 w10 hs11 hz12 hB13 hE14
 refine sd rfl (yl_assign rfl rfl (SeqR.done (tn (CW.seq (CW.region (sd rfl (yl_loadN (cs := [.string (bs (p_t.Name)), .slice A1 p_t.Cols.length c1, .slice A2 p_t.Idxs.length c2]) Try.ty36 rfl rfl (hB13.cells (n := 3) rfl) rfl ?_)))))))
 have q15 := RdS.ex good_Str h1 hE14
 have q16 := RdS.ex good_Idx h2 hE14
 refine sd rfl (yl_call Try.en130 rfl (opvs_cons rfl opvs_nil) (Cal.mono (c_i_GoodTable p_t (RdS.up q15 good_Str) (RdS.up q16 good_Idx) o3) ?_))
 rintro v18 w17 ⟨rfl, hE19⟩
 have hE19z := Ex.size hE19
 refine sd rfl (yl_move rfl rfl (bcase (i_GoodTable p_t) (fun hb20 => ?_) (fun hb20 => ?_)))
 ·have hb20p := f_i_GoodTable hb20
  refine sy rfl rfl hb20 (yl_loadN (cs := [.string (bs (p_t.Name)), .slice A1 p_t.Cols.length c1, .slice A2 p_t.Idxs.length c2]) Try.ty36 rfl rfl ((Box.ex hB13 hE19).cells (n := 3) rfl) rfl (sy rfl rfl hb20 (yl_move rfl rfl (sy rfl rfl hb20 (yl_call Try.en143 rfl (opvs_cons rfl (opvs_cons rfl opvs_nil)) (Cal.mono (c_i_Table_findIdx p_t p_name (RdS.up (RdS.ex good_Str q15 hE19) good_Str) (RdS.up (RdS.ex good_Idx q16 hE19) good_Idx) o3 o4) ?_))))))
  rintro v25 w24 ⟨rfl, hE26⟩
  have hE26z := Ex.size hE26
  have hrf27 := rf_i_findIdx p_t p_name
  refine sy rfl rfl hb20 (yl_geq rfl rfl rfl (sd rfl (yl_pick_t rfl rfl hb20 rfl (sd rfl (yl_assign rfl rfl (SeqR.done (tn (CW.ret (rr rfl (.cons rfl .nil) ?_)))))))))
  have hM28 : (i_hasIdx p_t p_name) = (decide (0 ≤ (i_Table_findIdx p_t p_name))) := by simp only [i_hasIdx, hb20, cond_true, cond_false, loopE_done, loopE_ret]
  rw [hM28]
  exact ⟨rfl, (Ex.trans (Ex.trans (Ex.trans (Ex.refl w) hE14) hE19) hE26)⟩
 ·refine sz rfl rfl hb20 (sz rfl rfl hb20 (sz rfl rfl hb20 (sz rfl rfl hb20 (sd rfl (yl_pick_f rfl rfl hb20 rfl (sd rfl (yl_assign rfl rfl (SeqR.done (tn (CW.ret ?_))))))))))
  refine rr rfl (.cons rfl .nil) ?_
  have hM32 : (i_hasIdx p_t p_name) = (false) := by simp only [i_hasIdx, hb20, cond_true, cond_false, loopE_done, loopE_ret]
  rw [hM32]
  exact ⟨rfl, (Ex.trans (Ex.trans (Ex.refl w) hE14) hE19)⟩
set_option maxRecDepth 100000 in
set_option maxHeartbeats 2000000 in
theorem c_i_Table_idx {A1 : Option Addr} {c1 : Nat} {A2 : Option Addr} {c2 : Nat} {w : World} (p_t : DTable) (p_name : Str) (h1 : RdS w (Iv 0 w.heap.size) (RF e_Str) 1 A1 p_t.Cols.length c1 p_t.Cols) (h2 : RdS w (Iv 0 w.heap.size) (RF e_Idx) 3 A2 p_t.Idxs.length c2 p_t.Idxs) (o3 : ok_Table p_t) (o4 : okS p_name) (pre0 : (0 ≤ i_Table_findIdx p_t p_name ∧ i_Table_findIdx p_t p_name < (p_t.Idxs.length : Int))) : Cal Try.prog 144 #[.agg #[.string (bs (p_t.Name)), .slice A1 p_t.Cols.length c1, .slice A2 p_t.Idxs.length c2], .string (bs (p_name))] w fun v w' => v = .agg #[.string (bs ((i_Table_idx p_t p_name).Name)), .int .i64 ((i_Table_idx p_t p_name).Col), .int .i64 ((i_Table_idx p_t p_name).Stage)] ∧ ok_Idx (i_Table_idx p_t p_name) ∧ Ex w w' := by
 have hol5 : p_t.Name.length ≤ 1073741824 := o3.1
 have hol6 := o3.2.1.1
 have hol7 := o3.2.2.1
 have hol8 : p_name.length ≤ 1073741824 := o4
 refine Cal.of (vs := [.agg #[.string (bs (p_t.Name)), .slice A1 p_t.Cols.length c1, .slice A2 p_t.Idxs.length c2], .string (bs (p_name))]) Try.func144 rfl Try.ntmps144 rfl (CW.seq (CW.region (sd rfl (yl_box (cs := [.string (bs (p_t.Name)), .slice A1 p_t.Cols.length c1, .slice A2 p_t.Idxs.length c2]) rfl rfl rfl ?_))))
 intro b9 w10 hs11 hz12 hB13 hE14
 refine sd rfl (yl_alloc Try.ty171 (cs := [.string (bs (([] : Str))), .int .i64 (0), .int .i64 (0)]) rfl rfl ?_)
 intro b15 w16 hs17 hz18 hB19 hE20
 refine SeqR.done (tn (CW.seq ?_))
 have q21 := Box.ex hB13 hE20
 have q25 := RdS.ex good_Idx (RdS.ex good_Idx h2 hE14) hE20
 have hrf27 := rf_i_findIdx p_t p_name
 refine CW.drawsI 5 (vgetI [DetI (.pointer (some ⟨b9, 0 + 2, none⟩)), DetI (.slice A2 p_t.Idxs.length c2), DetI (.agg #[.string (bs (p_t.Name)), .slice A1 p_t.Cols.length c1, .slice A2 p_t.Idxs.length c2]), DetI (.string (bs (p_name))), DetI (.int .i64 ((i_Table_findIdx p_t p_name)))]) Try.follows rfl rfl rfl rfl rfl rfl (vgetI_stable ⟨StableI.det _, StableI.det _, StableI.det _, StableI.det _, StableI.det _, trivial⟩) ⟨?_, ?_, ?_, ?_, ?_, trivial⟩ ?_
 ·exact fun _ _ h => os rfl ((yl_fieldAddr Try.fd36_2 rfl (h.old 2 _ rfl rfl) kI))
 ·exact fun _ _ h => os rfl ((yl_load1 Try.ty34 rfl (h.dt 0 5 rfl rfl rfl) (((Box.ex q21 h.ex).cell 2).trans rfl) kI))
 ·exact fun _ _ h => os rfl ((yl_loadN (cs := [.string (bs (p_t.Name)), .slice A1 p_t.Cols.length c1, .slice A2 p_t.Idxs.length c2]) Try.ty36 rfl (h.old 2 _ rfl rfl) ((Box.ex q21 h.ex).cells (n := 3) rfl) rfl kI))
 ·exact fun _ _ h => os rfl ((yl_move rfl (h.old 1 _ rfl rfl) kI))
 ·intro L50 w51 hi52
  have hE53 := hi52.ex
  refine OpR.op' rfl (yl_call Try.en143 rfl (opvs_cons (hi52.dt 2 7 rfl rfl rfl) (opvs_cons (hi52.dt 3 8 rfl rfl rfl) opvs_nil)) (Cal.mono (c_i_Table_findIdx p_t p_name (RdS.up (RdS.ex good_Str (RdS.ex good_Str (RdS.ex good_Str h1 hE14) hE20) hE53) good_Str) (RdS.up (RdS.ex good_Idx q25 hE53) good_Idx) o3 o4) ?_))
  rintro v59 w58 ⟨rfl, hE60⟩
  exact ⟨rfl, hE60⟩
 ·intro fl64 fh65 L61 w62 hp63
  have hE66 := hp63.ex
  have hE66z := Ex.size hE66
  have hx67 := hp63.old 4 _ rfl rfl
  obtain ⟨eb71, eo71, ec71, eA71, eS71, ebl71, el71, eR71, eC71⟩ := RdS.atD (RdS.ex good_Idx q25 hE66) d_Idx (i := ((i_Table_findIdx p_t p_name)).toNat) (by first | omega | assumption | (simp only [IntKind.wrap_i64] at *; omega))
  obtain rfl := eR71
  have eC71 : Cells w62 eb71 (eo71 + (((i_Table_findIdx p_t p_name)).toNat) * 3) [.string (bs ((p_t.Idxs.getD (((i_Table_findIdx p_t p_name)).toNat) d_Idx).Name)), .int .i64 ((p_t.Idxs.getD (((i_Table_findIdx p_t p_name)).toNat) d_Idx).Col), .int .i64 ((p_t.Idxs.getD (((i_Table_findIdx p_t p_name)).toNat) d_Idx).Stage)] := eC71
  refine sd rfl (yl_indexAddr Try.un34 Try.ty171 rfl (hp63.nt 1 6 rfl rfl rfl) (hp63.nt 4 9 rfl rfl rfl) eA71 (by first | omega | assumption | (simp only [IntKind.wrap_i64] at *; omega)) (by first | omega | assumption | (simp only [IntKind.wrap_i64] at *; omega)) (sd rfl (yl_loadN (cs := [.string (bs ((p_t.Idxs.getD (((i_Table_findIdx p_t p_name)).toNat) d_Idx).Name)), .int .i64 ((p_t.Idxs.getD (((i_Table_findIdx p_t p_name)).toNat) d_Idx).Col), .int .i64 ((p_t.Idxs.getD (((i_Table_findIdx p_t p_name)).toNat) d_Idx).Stage)]) Try.ty171 rfl rfl eC71 rfl (SeqR.u rfl rfl (yl_store (vs := [.string (bs ((p_t.Idxs.getD (((i_Table_findIdx p_t p_name)).toNat) d_Idx).Name)), .int .i64 ((p_t.Idxs.getD (((i_Table_findIdx p_t p_name)).toNat) d_Idx).Col), .int .i64 ((p_t.Idxs.getD (((i_Table_findIdx p_t p_name)).toNat) d_Idx).Stage)]) Try.ty171 rfl hx67 rfl rfl rfl rfl (Box.ex hB19 hE66) (Nat.le_of_ble_eq_true rfl) ?_)))))
  intro w73 hB74 hO75
  have hB74 : Box w73 b15 171 [.string (bs ((p_t.Idxs.getD (((i_Table_findIdx p_t p_name)).toNat) d_Idx).Name)), .int .i64 ((p_t.Idxs.getD (((i_Table_findIdx p_t p_name)).toNat) d_Idx).Col), .int .i64 ((p_t.Idxs.getD (((i_Table_findIdx p_t p_name)).toNat) d_Idx).Stage)] := hB74
  have hO75z := hO75.size
  refine SeqR.done (tn (CW.sub (Sub.cons (d := 4) hx67 (Sub.nil _)) (CW.ret (rr rfl (.cons ⟨_, rfl, run_loadN Try.ty171 (cs := [.string (bs ((p_t.Idxs.getD (((i_Table_findIdx p_t p_name)).toNat) d_Idx).Name)), .int .i64 ((p_t.Idxs.getD (((i_Table_findIdx p_t p_name)).toNat) d_Idx).Col), .int .i64 ((p_t.Idxs.getD (((i_Table_findIdx p_t p_name)).toNat) d_Idx).Stage)]) rfl (hB74.cells (n := 3) rfl)⟩ .nil) ?_))))
  have hM76 : (i_Table_idx p_t p_name) = ((p_t.Idxs.getD (((i_Table_findIdx p_t p_name)).toNat) d_Idx)) := by simp only [i_Table_idx, cond_true, cond_false, loopE_done, loopE_ret]
  rw [hM76]
  exact ⟨rfl, (okL.getD o3.2.2 ok_d_Idx _), (Below.only (Ex.trans (Ex.trans (Ex.trans (Ex.refl w) hE14) hE20) hE66) hO75 (by omega))⟩
set_option maxRecDepth 100000 in
set_option maxHeartbeats 2000000 in
theorem c_g_slices_Clone_string {A1 : Option Addr} {c1 : Nat} {w : World} (p_s : List Str) (h1 : RdS w (Iv 0 w.heap.size) (RF e_Str) 1 A1 p_s.length c1 p_s) (o2 : (okL okS) p_s) : Cal Try.prog 191 #[.slice A1 p_s.length c1] w fun v w' => ∃ A_1 c_1 lo_1 hi_1, v = .slice A_1 ((g_slices_Clone_string p_s).length) c_1 ∧ OwnL w' lo_1 hi_1 9 1 (RF e_Str) A_1 ((g_slices_Clone_string p_s).length) c_1 (g_slices_Clone_string p_s) ∧ (okL okS) (g_slices_Clone_string p_s) ∧ (w.heap.size ≤ lo_1 ∧ lo_1 ≤ hi_1 ∧ hi_1 ≤ w'.heap.size) ∧ Ex w w' := by
 have hol3 := o2.1
 refine Cal.of (vs := [.slice A1 p_s.length c1]) Try.func191 rfl Try.ntmps191 rfl (CW.seq (CW.region (sd rfl (yl_assign rfl rfl (SeqR.done (tn (CW.seq (CW.seq (CW.region ?_)))))))))
 refine sd rfl (yl_move rfl rfl (sd rfl (yl_snil Try.un22 rfl rfl rfl (SeqR.done (tn (bcase (A1.isNone) (fun hb4 => ?_) (fun hb4 => ?_)))))))
 ·have hnil5 : p_s = [] := RdS.nilA h1 hb4
  refine CW.cond_t rfl hb4 (CW.seq (CW.region (sd rfl (yl_assign rfl rfl (SeqR.done (tn (CW.ret (tr (rr rfl (.cons rfl .nil) ?_)))))))))
  have hM6 : (g_slices_Clone_string p_s) = (([] : List Str)) := by simp only [g_slices_Clone_string, hnil5, cond_true, cond_false, loopE_done, loopE_ret, List.append_nil]
  rw [hM6]
  exact ⟨none, 0, w.heap.size, w.heap.size, rfl, (OwnL.nil _ _ _ _ _ _), (okL.nil _), (by omega), (Ex.refl w)⟩
 ·refine CW.cond_f rfl hb4 (CW.skip (tn (CW.seq (CW.region (sd rfl (yl_buildSlice (cs := []) Try.un22 Try.ty9 (by decide) rfl opvs_nil (by kernel_rfl) ?_))))))
  intro b7 w8 hs9 hz10 hB11 hE12
  have hO13 : OwnL w8 b7 (b7 + 1) 9 1 (RF e_Str) (some ⟨b7, 0, none⟩) 0 0 ([] : List Str) := OwnL.of_box (S := fun _ => False) hB11 (Nat.le_refl _) (Nat.lt_succ_self _) EncL.nil (Nat.le_of_ble_eq_true rfl) (fun h => h) (fun _ h => False.elim h)
  refine sd rfl (yl_move rfl rfl ?_)
  obtain ⟨nw15, he16, hs17⟩ := RdS.src (RdS.ex good_Str h1 hE12)
  have hol18 : p_s.length ≤ 1073741824 := o2.1
  refine sd rfl (yl_appendL (S := (fun _ => False)) (lo := b7) (hi := (b7 + 1)) (xs := ([] : List Str)) (ys := p_s) good_Str Try.un22 Try.ty9 rfl (Nat.le_of_ble_eq_true rfl) rfl rfl rfl hO13 he16 hs17 rfl (by first | omega | (simp only [List.length_append, List.length_cons, List.length_nil, List.length_take, List.length_drop, List.length_replicate, List.length_set, toS_length]; omega)) (by first | omega | (simp only [List.length_append, List.length_cons, List.length_nil, List.length_take, List.length_drop, List.length_replicate, List.length_set, toS_length]; omega)) (by omega) (by omega) (fun _ h _ => False.elim h) (by omega) ?_)
  intro A19 c20 w21 row22 hO23 hG24 hrg25
  have hG24z := hG24.size
  refine sd rfl (yl_assign rfl rfl (SeqR.done (tn (CW.ret (rr rfl (.cons rfl .nil) ?_)))))
  have hM26 : (g_slices_Clone_string p_s) = ((([] : List Str) ++ p_s)) := by simp only [g_slices_Clone_string, cond_true, cond_false, loopE_done, loopE_ret]
  have hol27 : p_s.length ≤ 1073741824 := o2.1
  rw [hM26]
  exact ⟨A19, c20, b7, w21.heap.size, rfl, hO23, (okL.mk (xs := (([] : List Str) ++ p_s)) (by first | omega | (simp only [List.length_append, List.length_cons, List.length_nil, List.length_take, List.length_drop, List.length_replicate, List.length_set, toS_length]; omega)) (okE.append okE.nil (o2).2)), (by omega), (Below.grown (Ex.trans (Ex.refl w) hE12) hG24 (by omega) (fun k hk => by have := hrg25 k hk; omega))⟩
set_option maxRecDepth 100000 in
set_option maxHeartbeats 2000000 in
theorem c_g_slices_Clone_Idx {A1 : Option Addr} {c1 : Nat} {w : World} (p_s : List DIdx) (h1 : RdS w (Iv 0 w.heap.size) (RF e_Idx) 3 A1 p_s.length c1 p_s) (o2 : (okL ok_Idx) p_s) : Cal Try.prog 192 #[.slice A1 p_s.length c1] w fun v w' => ∃ A_1 c_1 lo_1 hi_1, v = .slice A_1 ((g_slices_Clone_Idx p_s).length) c_1 ∧ OwnL w' lo_1 hi_1 171 3 (RF e_Idx) A_1 ((g_slices_Clone_Idx p_s).length) c_1 (g_slices_Clone_Idx p_s) ∧ (okL ok_Idx) (g_slices_Clone_Idx p_s) ∧ (w.heap.size ≤ lo_1 ∧ lo_1 ≤ hi_1 ∧ hi_1 ≤ w'.heap.size) ∧ Ex w w' := by
 have hol3 := o2.1
 refine Cal.of (vs := [.slice A1 p_s.length c1]) Try.func192 rfl Try.ntmps192 rfl (CW.seq (CW.region (sd rfl (yl_assign rfl rfl (SeqR.done (tn (CW.seq (CW.seq (CW.region ?_)))))))))
 refine sd rfl (yl_move rfl rfl (sd rfl (yl_snil Try.un34 rfl rfl rfl (SeqR.done (tn (bcase (A1.isNone) (fun hb4 => ?_) (fun hb4 => ?_)))))))
 ·have hnil5 : p_s = [] := RdS.nilA h1 hb4
  refine CW.cond_t rfl hb4 (CW.seq (CW.region (sd rfl (yl_assign rfl rfl (SeqR.done (tn (CW.ret (tr (rr rfl (.cons rfl .nil) ?_)))))))))
  have hM6 : (g_slices_Clone_Idx p_s) = (([] : List DIdx)) := by simp only [g_slices_Clone_Idx, hnil5, cond_true, cond_false, loopE_done, loopE_ret, List.append_nil]
  rw [hM6]
  exact ⟨none, 0, w.heap.size, w.heap.size, rfl, (OwnL.nil _ _ _ _ _ _), (okL.nil _), (by omega), (Ex.refl w)⟩
 ·refine CW.cond_f rfl hb4 (CW.skip (tn (CW.seq (CW.region (sd rfl (yl_buildSlice (cs := []) Try.un34 Try.ty171 (by decide) rfl opvs_nil (by kernel_rfl) ?_))))))
  intro b7 w8 hs9 hz10 hB11 hE12
  have hO13 : OwnL w8 b7 (b7 + 1) 171 3 (RF e_Idx) (some ⟨b7, 0, none⟩) 0 0 ([] : List DIdx) := OwnL.of_box (S := fun _ => False) hB11 (Nat.le_refl _) (Nat.lt_succ_self _) EncL.nil (Nat.le_of_ble_eq_true rfl) (fun h => h) (fun _ h => False.elim h)
  refine sd rfl (yl_move rfl rfl ?_)
  obtain ⟨nw15, he16, hs17⟩ := RdS.src (RdS.ex good_Idx h1 hE12)
  have hol18 : p_s.length ≤ 1073741824 := o2.1
  refine sd rfl (yl_appendL (S := (fun _ => False)) (lo := b7) (hi := (b7 + 1)) (xs := ([] : List DIdx)) (ys := p_s) good_Idx Try.un34 Try.ty171 rfl (Nat.le_of_ble_eq_true rfl) rfl rfl rfl hO13 he16 hs17 rfl (by first | omega | (simp only [List.length_append, List.length_cons, List.length_nil, List.length_take, List.length_drop, List.length_replicate, List.length_set, toS_length]; omega)) (by first | omega | (simp only [List.length_append, List.length_cons, List.length_nil, List.length_take, List.length_drop, List.length_replicate, List.length_set, toS_length]; omega)) (by omega) (by omega) (fun _ h _ => False.elim h) (by omega) ?_)
  intro A19 c20 w21 row22 hO23 hG24 hrg25
  have hG24z := hG24.size
  refine sd rfl (yl_assign rfl rfl (SeqR.done (tn (CW.ret (rr rfl (.cons rfl .nil) ?_)))))
  have hM26 : (g_slices_Clone_Idx p_s) = ((([] : List DIdx) ++ p_s)) := by simp only [g_slices_Clone_Idx, cond_true, cond_false, loopE_done, loopE_ret]
  have hol27 : p_s.length ≤ 1073741824 := o2.1
  rw [hM26]
  exact ⟨A19, c20, b7, w21.heap.size, rfl, hO23, (okL.mk (xs := (([] : List DIdx) ++ p_s)) (by first | omega | (simp only [List.length_append, List.length_cons, List.length_nil, List.length_take, List.length_drop, List.length_replicate, List.length_set, toS_length]; omega)) (okE.append okE.nil (o2).2)), (by omega), (Below.grown (Ex.trans (Ex.refl w) hE12) hG24 (by omega) (fun k hk => by have := hrg25 k hk; omega))⟩
set_option maxRecDepth 100000 in
set_option maxHeartbeats 2000000 in
theorem c_i_copyTable {A1 : Option Addr} {c1 : Nat} {A2 : Option Addr} {c2 : Nat} {w : World} (p_t : DTable) (h1 : RdS w (Iv 0 w.heap.size) (RF e_Str) 1 A1 p_t.Cols.length c1 p_t.Cols) (h2 : RdS w (Iv 0 w.heap.size) (RF e_Idx) 3 A2 p_t.Idxs.length c2 p_t.Idxs) (o3 : ok_Table p_t) : Cal Try.prog 145 #[.agg #[.string (bs (p_t.Name)), .slice A1 p_t.Cols.length c1, .slice A2 p_t.Idxs.length c2]] w fun v w' => ∃ A_1 c_1 lo_1 hi_1 A_2 c_2 lo_2 hi_2, v = .agg #[.string (bs ((i_copyTable p_t).Name)), .slice A_1 (((i_copyTable p_t).Cols).length) c_1, .slice A_2 (((i_copyTable p_t).Idxs).length) c_2] ∧ OwnL w' lo_1 hi_1 9 1 (RF e_Str) A_1 (((i_copyTable p_t).Cols).length) c_1 ((i_copyTable p_t).Cols) ∧ OwnL w' lo_2 hi_2 171 3 (RF e_Idx) A_2 (((i_copyTable p_t).Idxs).length) c_2 ((i_copyTable p_t).Idxs) ∧ ok_Table (i_copyTable p_t) ∧ (w.heap.size ≤ lo_1 ∧ lo_1 ≤ hi_1 ∧ hi_1 ≤ w'.heap.size) ∧ (w.heap.size ≤ lo_2 ∧ lo_2 ≤ hi_2 ∧ hi_2 ≤ w'.heap.size) ∧ (hi_1 ≤ lo_2 ∨ hi_2 ≤ lo_1) ∧ Ex w w' := by
 have hol4 : p_t.Name.length ≤ 1073741824 := o3.1
 have hol5 := o3.2.1.1
 have hol6 := o3.2.2.1
 refine Cal.of (vs := [.agg #[.string (bs (p_t.Name)), .slice A1 p_t.Cols.length c1, .slice A2 p_t.Idxs.length c2]]) Try.func145 rfl Try.ntmps145 rfl (CW.seq (CW.region (sd rfl (yl_box (cs := [.string (bs (p_t.Name)), .slice A1 p_t.Cols.length c1, .slice A2 p_t.Idxs.length c2]) rfl rfl rfl ?_))))
 intro b7 w8 hs9 hz10 hB11 hE12
 refine sd rfl (yl_alloc Try.ty36 (cs := [.string (bs (([] : Str))), .slice none 0 0, .slice none 0 0]) rfl rfl ?_)
 intro b13 w14 hs15 hz16 hB17 hE18
 refine SeqR.done (tn (CW.seq ?_))
 have q19 := Box.ex hB11 hE18
 refine CW.drawsI 8 (vgetI [DetI (.pointer (some ⟨b7, 0 + 0, none⟩)), DetI (.string (bs (p_t.Name))), DetI (.pointer (some ⟨b7, 0 + 1, none⟩)), DetI (.slice A1 p_t.Cols.length c1), fun lo hi v wq => ∃ A23 c23 lo23 hi23, v = .slice A23 ((g_slices_Clone_string p_t.Cols).length) c23 ∧ OwnL wq lo23 hi23 9 1 (RF e_Str) A23 ((g_slices_Clone_string p_t.Cols).length) c23 (g_slices_Clone_string p_t.Cols) ∧ (okL okS) (g_slices_Clone_string p_t.Cols) ∧ (lo ≤ lo23 ∧ lo23 ≤ hi23 ∧ hi23 ≤ hi), DetI (.pointer (some ⟨b7, 0 + 2, none⟩)), DetI (.slice A2 p_t.Idxs.length c2), fun lo hi v wq => ∃ A28 c28 lo28 hi28, v = .slice A28 ((g_slices_Clone_Idx p_t.Idxs).length) c28 ∧ OwnL wq lo28 hi28 171 3 (RF e_Idx) A28 ((g_slices_Clone_Idx p_t.Idxs).length) c28 (g_slices_Clone_Idx p_t.Idxs) ∧ (okL ok_Idx) (g_slices_Clone_Idx p_t.Idxs) ∧ (lo ≤ lo28 ∧ lo28 ≤ hi28 ∧ hi28 ≤ hi)]) Try.follows rfl rfl rfl rfl rfl rfl (vgetI_stable ⟨StableI.det _, StableI.det _, StableI.det _, StableI.det _, (fun _ _ _ _ _ ⟨A23, c23, lo23, hi23, hv, h23, ho24, hr0⟩ e => ⟨A23, c23, lo23, hi23, hv, OwnL.ex good_Str h23 e, ho24, hr0⟩), StableI.det _, StableI.det _, (fun _ _ _ _ _ ⟨A28, c28, lo28, hi28, hv, h28, ho29, hr0⟩ e => ⟨A28, c28, lo28, hi28, hv, OwnL.ex good_Idx h28 e, ho29, hr0⟩), trivial⟩) ⟨?_, ?_, ?_, ?_, ?_, ?_, ?_, ?_, trivial⟩ ?_
 ·exact fun _ _ h => os rfl ((yl_fieldAddr Try.fd36_0 rfl (h.old 1 _ rfl rfl) kI))
 ·exact fun _ _ h => os rfl ((yl_load1 Try.ty9 rfl (h.dt 0 3 rfl rfl rfl) (((Box.ex q19 h.ex).cell 0).trans rfl) kI))
 ·exact fun _ _ h => os rfl ((yl_fieldAddr Try.fd36_1 rfl (h.old 1 _ rfl rfl) kI))
 ·exact fun _ _ h => os rfl ((yl_load1 Try.ty22 rfl (h.dt 2 5 rfl rfl rfl) (((Box.ex q19 h.ex).cell 1).trans rfl) kI))
 ·intro L52 w53 hi54
  have hE55 := hi54.ex
  refine OpR.op' rfl (yl_call Try.en191 rfl (opvs_cons (hi54.dt 3 6 rfl rfl rfl) opvs_nil) (Cal.mono (c_g_slices_Clone_string p_t.Cols (RdS.up (RdS.ex good_Str (RdS.ex good_Str (RdS.ex good_Str h1 hE12) hE18) hE55) good_Str) o3.2.1) ?_))
  rintro v61 w58 ⟨A59, c59, lo59, hi59, rfl, h59, ho60, hrn63, hE62⟩
  exact ⟨⟨A59, c59, lo59, hi59, rfl, h59, ho60, hrn63⟩, hE62⟩
 ·exact fun _ _ h => os rfl ((yl_fieldAddr Try.fd36_2 rfl (h.old 1 _ rfl rfl) kI))
 ·exact fun _ _ h => os rfl ((yl_load1 Try.ty34 rfl (h.dt 5 8 rfl rfl rfl) (((Box.ex q19 h.ex).cell 2).trans rfl) kI))
 ·intro L75 w76 hi77
  have hE78 := hi77.ex
  refine OpR.op' rfl (yl_call Try.en192 rfl (opvs_cons (hi77.dt 6 9 rfl rfl rfl) opvs_nil) (Cal.mono (c_g_slices_Clone_Idx p_t.Idxs (RdS.up (RdS.ex good_Idx (RdS.ex good_Idx (RdS.ex good_Idx h2 hE12) hE18) hE78) good_Idx) o3.2.2) ?_))
  rintro v84 w81 ⟨A82, c82, lo82, hi82, rfl, h82, ho83, hrn86, hE85⟩
  exact ⟨⟨A82, c82, lo82, hi82, rfl, h82, ho83, hrn86⟩, hE85⟩
 ·intro fl90 fh91 L87 w88 hp89
  have hE92 := hp89.ex
  have hE92z := Ex.size hE92
  have hx93 := hp89.old 2 _ rfl rfl
  have hr96 := hp89.rng 4 rfl
  obtain ⟨_, hx95, A23_97, c23_98, lo23_99, hi23_100, rfl, h101, h102, hrn103⟩ := hp89.new 4 7 rfl rfl
  have hr105 := hp89.rng 7 rfl
  have hsp106 := hp89.sep 4 7 rfl rfl rfl
  obtain ⟨_, hx104, A28_107, c28_108, lo28_109, hi28_110, rfl, h111, h112, hrn113⟩ := hp89.new 7 10 rfl rfl
  refine sd rfl (yl_build (cs := [.string (bs (p_t.Name)), .slice A23_97 ((g_slices_Clone_string p_t.Cols).length) c23_98, .slice A28_107 ((g_slices_Clone_Idx p_t.Idxs).length) c28_108]) rfl (opvs_cons (hp89.nt 1 4 rfl rfl rfl) (opvs_cons hx95 (opvs_cons hx104 opvs_nil))) (by kernel_rfl) (SeqR.u rfl rfl (yl_store (vs := [.string (bs (p_t.Name)), .slice A23_97 ((g_slices_Clone_string p_t.Cols).length) c23_98, .slice A28_107 ((g_slices_Clone_Idx p_t.Idxs).length) c28_108]) Try.ty36 rfl hx93 rfl rfl rfl rfl (Box.ex hB17 hE92) (Nat.le_of_ble_eq_true rfl) ?_)))
  intro w115 hB116 hO117
  have hB116 : Box w115 b13 36 [.string (bs (p_t.Name)), .slice A23_97 ((g_slices_Clone_string p_t.Cols).length) c23_98, .slice A28_107 ((g_slices_Clone_Idx p_t.Idxs).length) c28_108] := hB116
  have hO117z := hO117.size
  refine SeqR.done (tn (CW.sub (Sub.cons (d := 2) hx93 (Sub.nil _)) (CW.ret (rr rfl (.cons ⟨_, rfl, run_loadN Try.ty36 (cs := [.string (bs (p_t.Name)), .slice A23_97 ((g_slices_Clone_string p_t.Cols).length) c23_98, .slice A28_107 ((g_slices_Clone_Idx p_t.Idxs).length) c28_108]) rfl (hB116.cells (n := 3) rfl)⟩ .nil) ?_))))
  have hM118 : (i_copyTable p_t) = ((⟨p_t.Name, (g_slices_Clone_string p_t.Cols), (g_slices_Clone_Idx p_t.Idxs)⟩ : DTable)) := by simp only [i_copyTable, cond_true, cond_false, loopE_done, loopE_ret]
  rw [hM118]
  exact ⟨A23_97, c23_98, lo23_99, hi23_100, A28_107, c28_108, lo28_109, hi28_110, rfl, (OwnL.only good_Str h101 hO117 (by omega)), (OwnL.only good_Idx h111 hO117 (by omega)), ⟨o3.1, h102, h112⟩, (by omega), (by omega), (by omega), (Below.only (Ex.trans (Ex.trans (Ex.trans (Ex.refl w) hE12) hE18) hE92) hO117 (by omega))⟩
set_option maxRecDepth 100000 in
set_option maxHeartbeats 2000000 in
theorem c_i_Table_withStage {A1 : Option Addr} {c1 : Nat} {A2 : Option Addr} {c2 : Nat} {w : World} (p_t : DTable) (p_name : Str) (p_stage : Int) (h1 : RdS w (Iv 0 w.heap.size) (RF e_Str) 1 A1 p_t.Cols.length c1 p_t.Cols) (h2 : RdS w (Iv 0 w.heap.size) (RF e_Idx) 3 A2 p_t.Idxs.length c2 p_t.Idxs) (o3 : ok_Table p_t) (o4 : okS p_name) (pre0 : (0 ≤ i_Table_findIdx p_t p_name ∧ i_Table_findIdx p_t p_name < (p_t.Idxs.length : Int))) : Cal Try.prog 146 #[.agg #[.string (bs (p_t.Name)), .slice A1 p_t.Cols.length c1, .slice A2 p_t.Idxs.length c2], .string (bs (p_name)), .int .i64 (p_stage)] w fun v w' => ∃ A_1 c_1 lo_1 hi_1 A_2 c_2 lo_2 hi_2, v = .agg #[.string (bs ((i_Table_withStage p_t p_name p_stage).Name)), .slice A_1 (((i_Table_withStage p_t p_name p_stage).Cols).length) c_1, .slice A_2 (((i_Table_withStage p_t p_name p_stage).Idxs).length) c_2] ∧ OwnL w' lo_1 hi_1 9 1 (RF e_Str) A_1 (((i_Table_withStage p_t p_name p_stage).Cols).length) c_1 ((i_Table_withStage p_t p_name p_stage).Cols) ∧ OwnL w' lo_2 hi_2 171 3 (RF e_Idx) A_2 (((i_Table_withStage p_t p_name p_stage).Idxs).length) c_2 ((i_Table_withStage p_t p_name p_stage).Idxs) ∧ ok_Table (i_Table_withStage p_t p_name p_stage) ∧ (w.heap.size ≤ lo_1 ∧ lo_1 ≤ hi_1 ∧ hi_1 ≤ w'.heap.size) ∧ (w.heap.size ≤ lo_2 ∧ lo_2 ≤ hi_2 ∧ hi_2 ≤ w'.heap.size) ∧ (hi_1 ≤ lo_2 ∨ hi_2 ≤ lo_1) ∧ Ex w w' := by
 have hol5 : p_t.Name.length ≤ 1073741824 := o3.1
 have hol6 := o3.2.1.1
 have hol7 := o3.2.2.1
 have hol8 : p_name.length ≤ 1073741824 := o4
 refine Cal.of (vs := [.agg #[.string (bs (p_t.Name)), .slice A1 p_t.Cols.length c1, .slice A2 p_t.Idxs.length c2], .string (bs (p_name)), .int .i64 (p_stage)]) Try.func146 rfl Try.ntmps146 rfl (CW.seq (CW.region (sd rfl (yl_box (cs := [.string (bs (p_t.Name)), .slice A1 p_t.Cols.length c1, .slice A2 p_t.Idxs.length c2]) rfl rfl rfl ?_))))
 intro b9 w10 hs11 hz12 hB13 hE14
 refine sd rfl (yl_alloc Try.ty36 (cs := [.string (bs (([] : Str))), .slice none 0 0, .slice none 0 0]) rfl rfl ?_)
 intro b15 w16 hs17 hz18 hB19 hE20
 refine SeqR.done (tn (CW.seq (CW.region ?_)))
 have q21 := Box.ex hB13 hE20
 refine sd rfl (yl_loadN (cs := [.string (bs (p_t.Name)), .slice A1 p_t.Cols.length c1, .slice A2 p_t.Idxs.length c2]) Try.ty36 rfl rfl (q21.cells (n := 3) rfl) rfl ?_)
 have q23 := RdS.ex good_Str (RdS.ex good_Str h1 hE14) hE20
 have q25 := RdS.ex good_Idx (RdS.ex good_Idx h2 hE14) hE20
 refine sd rfl (yl_call Try.en145 rfl (opvs_cons rfl opvs_nil) (Cal.mono (c_i_copyTable p_t (RdS.up q23 good_Str) (RdS.up q25 good_Idx) o3) ?_))
 rintro v30 w26 ⟨A27, c27, lo27, hi27, A28, c28, lo28, hi28, rfl, h27, h28, ho29, hrn32, hrn33, hrn34, hE31⟩
 have hE31z := Ex.size hE31
 have hrf35 := rf_copyTable p_t
 refine sd rfl (yl_alloc Try.ty36 (cs := [.string (bs (([] : Str))), .slice none 0 0, .slice none 0 0]) rfl rfl ?_)
 intro b36 w37 hs38 hz39 hB40 hE41
 refine SeqR.u rfl rfl (yl_store (vs := [.string (bs ((i_copyTable p_t).Name)), .slice A27 (((i_copyTable p_t).Cols).length) c27, .slice A28 (((i_copyTable p_t).Idxs).length) c28]) Try.ty36 rfl rfl rfl rfl rfl rfl hB40 (Nat.le_of_ble_eq_true rfl) ?_)
 intro w42 hB43 hO44
 have hB43 : Box w42 b36 36 [.string (bs ((i_copyTable p_t).Name)), .slice A27 (((i_copyTable p_t).Cols).length) c27, .slice A28 (((i_copyTable p_t).Idxs).length) c28] := hB43
 have hO44z := hO44.size
 refine SeqR.done (tn (CW.seq ?_))
 have hrf55 := rf_i_findIdx p_t p_name
 refine CW.drawsI 6 (vgetI [DetI (.pointer (some ⟨b36, 0 + 2, none⟩)), DetI (.slice A28 (((i_copyTable p_t).Idxs).length) c28), DetI (.agg #[.string (bs (p_t.Name)), .slice A1 p_t.Cols.length c1, .slice A2 p_t.Idxs.length c2]), DetI (.string (bs (p_name))), DetI (.int .i64 ((i_Table_findIdx p_t p_name))), DetI (.int .i64 (p_stage))]) Try.follows rfl rfl rfl rfl rfl rfl (vgetI_stable ⟨StableI.det _, StableI.det _, StableI.det _, StableI.det _, StableI.det _, StableI.det _, trivial⟩) ⟨?_, ?_, ?_, ?_, ?_, ?_, trivial⟩ ?_
 ·exact fun _ _ h => os rfl ((yl_fieldAddr Try.fd36_2 rfl (h.old 7 _ rfl rfl) kI))
 ·exact fun _ _ h => os rfl ((yl_load1 Try.ty34 rfl (h.dt 0 10 rfl rfl rfl) (((Box.ex hB43 h.ex).cell 2).trans rfl) kI))
 ·intro L67 w68 hi69
  have hE70 := hi69.ex
  have hE70z := Ex.size hE70
  exact os rfl ((yl_loadN (cs := [.string (bs (p_t.Name)), .slice A1 p_t.Cols.length c1, .slice A2 p_t.Idxs.length c2]) Try.ty36 rfl (hi69.old 3 _ rfl rfl) ((Box.ex (Box.only (Box.ex (Box.ex q21 hE31) hE41) hO44 (by omega)) hE70).cells (n := 3) rfl) rfl kI))
 ·exact fun _ _ h => os rfl ((yl_move rfl (h.old 1 _ rfl rfl) kI))
 ·intro L78 w79 hi80
  have hE81 := hi80.ex
  have hE81z := Ex.size hE81
  refine OpR.op' rfl (yl_call Try.en143 rfl (opvs_cons (hi80.dt 2 12 rfl rfl rfl) (opvs_cons (hi80.dt 3 13 rfl rfl rfl) opvs_nil)) (Cal.mono (c_i_Table_findIdx p_t p_name (RdS.up (RdS.ex good_Str (RdS.only good_Str (RdS.ex good_Str (RdS.ex good_Str q23 hE31) hE41) hO44 (by simp only [Iv]; omega)) hE81) good_Str) (RdS.up (RdS.ex good_Idx (RdS.only good_Idx (RdS.ex good_Idx (RdS.ex good_Idx q25 hE31) hE41) hO44 (by simp only [Iv]; omega)) hE81) good_Idx) o3 o4) ?_))
  rintro v87 w86 ⟨rfl, hE88⟩
  exact ⟨rfl, hE88⟩
 ·exact fun _ _ h => os rfl ((yl_move rfl (h.old 2 _ rfl rfl) kI))
 ·intro fl97 fh98 L94 w95 hp96
  have hE99 := hp96.ex
  have hE99z := Ex.size hE99
  have q108 := OwnL.ex good_Idx (OwnL.only good_Idx (OwnL.ex good_Idx h28 hE41) hO44 (by omega)) hE99
  obtain ⟨eb109, eo109, ec109, eA109, eS109, ebl109, el109, eR109, eC109⟩ := RdS.atD (OwnL.rd good_Idx q108) d_Idx (i := ((i_Table_findIdx p_t p_name)).toNat) (by first | omega | assumption | (simp only [IntKind.wrap_i64] at *; omega))
  obtain rfl := eR109
  have eC109 : Cells w95 eb109 (eo109 + (((i_Table_findIdx p_t p_name)).toNat) * 3) [.string (bs ((((i_copyTable p_t).Idxs).getD (((i_Table_findIdx p_t p_name)).toNat) d_Idx).Name)), .int .i64 ((((i_copyTable p_t).Idxs).getD (((i_Table_findIdx p_t p_name)).toNat) d_Idx).Col), .int .i64 ((((i_copyTable p_t).Idxs).getD (((i_Table_findIdx p_t p_name)).toNat) d_Idx).Stage)] := eC109
  refine sd rfl (yl_indexAddr Try.un34 Try.ty171 rfl (hp96.nt 1 11 rfl rfl rfl) (hp96.nt 4 14 rfl rfl rfl) eA109 (by first | omega | assumption | (simp only [IntKind.wrap_i64] at *; omega)) (by first | omega | assumption | (simp only [IntKind.wrap_i64] at *; omega)) (sd rfl (yl_fieldAddr Try.fd171_2 rfl rfl ?_)))
  have hrg110 := OwnL.rng q108 (i := ((i_Table_findIdx p_t p_name)).toNat) (by first | omega | assumption | (simp only [IntKind.wrap_i64] at *; omega)) eb109 (by rw [eA109]; rfl)
  refine SeqR.u rfl rfl (yl_storeF (off := eo109) (i := ((i_Table_findIdx p_t p_name)).toNat) (d := 2) (dx := d_Idx) (x' := (⟨(((i_copyTable p_t).Idxs).getD (((i_Table_findIdx p_t p_name)).toNat) d_Idx).Name, (((i_copyTable p_t).Idxs).getD (((i_Table_findIdx p_t p_name)).toNat) d_Idx).Col, p_stage⟩ : DIdx)) (vs := [.int .i64 (p_stage)]) Try.ty3 rfl q108 eA109 rfl (hp96.nt 5 15 rfl rfl rfl) rfl rfl rfl (by first | omega | assumption | (simp only [IntKind.wrap_i64] at *; omega)) (Nat.le_of_ble_eq_true rfl) rfl rfl ?_)
  intro w111 hB112 hO113
  have hO113z := hO113.size
  refine SeqR.done (tn (CW.sub (Sub.cons (d := 6) (hp96.old 6 _ rfl rfl) (Sub.cons (d := 7) (hp96.old 7 _ rfl rfl) (Sub.nil _))) (CW.seq (CW.region (sd rfl (yl_loadN (cs := [.string (bs ((i_copyTable p_t).Name)), .slice A27 (((i_copyTable p_t).Cols).length) c27, .slice A28 (((i_copyTable p_t).Idxs).length) c28]) Try.ty36 rfl rfl ((Box.only (Box.ex hB43 hE99) hO113 (by omega)).cells (n := 3) rfl) rfl (SeqR.u rfl rfl (yl_store (vs := [.string (bs ((i_copyTable p_t).Name)), .slice A27 (((i_copyTable p_t).Cols).length) c27, .slice A28 (((i_copyTable p_t).Idxs).length) c28]) Try.ty36 rfl rfl rfl rfl rfl rfl (Box.only (Box.ex (Box.only (Box.ex (Box.ex hB19 hE31) hE41) hO44 (by omega)) hE99) hO113 (by omega)) (Nat.le_of_ble_eq_true rfl) ?_))))))))
  intro w121 hB122 hO123
  have hB122 : Box w121 b15 36 [.string (bs ((i_copyTable p_t).Name)), .slice A27 (((i_copyTable p_t).Cols).length) c27, .slice A28 (((i_copyTable p_t).Idxs).length) c28] := hB122
  have hO123z := hO123.size
  refine SeqR.done (tn (CW.ret (rr rfl (.cons ⟨_, rfl, run_loadN Try.ty36 (cs := [.string (bs ((i_copyTable p_t).Name)), .slice A27 (((i_copyTable p_t).Cols).length) c27, .slice A28 (((i_copyTable p_t).Idxs).length) c28]) rfl (hB122.cells (n := 3) rfl)⟩ .nil) ?_)))
  have hM124 : (i_Table_withStage p_t p_name p_stage) = ((⟨(i_copyTable p_t).Name, (i_copyTable p_t).Cols, (((i_copyTable p_t).Idxs).set (((i_Table_findIdx p_t p_name)).toNat) (⟨(((i_copyTable p_t).Idxs).getD (((i_Table_findIdx p_t p_name)).toNat) d_Idx).Name, (((i_copyTable p_t).Idxs).getD (((i_Table_findIdx p_t p_name)).toNat) d_Idx).Col, p_stage⟩ : DIdx))⟩ : DTable)) := by simp only [i_Table_withStage, cond_true, cond_false, loopE_done, loopE_ret]
  have q130 := OwnL.only good_Idx hB112 hO123 (by omega)
  have hfx131 := (q130).1
  have hol132 : ((i_copyTable p_t).Idxs).length ≤ 1073741824 := ho29.2.2.1
  rw [hM124]
  exact ⟨A27, c27, lo27, hi27, A28, c28, lo28, hi28, (by first | rfl | (simp only [List.length_replicate, List.length_set]; done) | (simp only [List.length_replicate, List.length_set]; rfl) | rw [hfx131]), (OwnL.only good_Str (OwnL.only good_Str (OwnL.ex good_Str (OwnL.only good_Str (OwnL.ex good_Str h27 hE41) hO44 (by omega)) hE99) hO113 (by omega)) hO123 (by omega)), (OwnL.fix q130), ⟨ho29.1, ho29.2.1, (okL.mk (xs := (((i_copyTable p_t).Idxs).set (((i_Table_findIdx p_t p_name)).toNat) (⟨(((i_copyTable p_t).Idxs).getD (((i_Table_findIdx p_t p_name)).toNat) d_Idx).Name, (((i_copyTable p_t).Idxs).getD (((i_Table_findIdx p_t p_name)).toNat) d_Idx).Col, p_stage⟩ : DIdx))) (by first | omega | (simp only [List.length_append, List.length_cons, List.length_nil, List.length_take, List.length_drop, List.length_replicate, List.length_set, toS_length]; omega)) (okE.set (ho29.2.2).2 (okL.getD ho29.2.2 ok_d_Idx _)))⟩, (by omega), (by omega), (by omega), (Below.only (Below.only (Ex.trans (Below.only (Ex.trans (Ex.trans (Ex.trans (Ex.trans (Ex.refl w) hE14) hE20) hE31) hE41) hO44 (by omega)) hE99) hO113 (by omega)) hO123 (by omega))⟩
set_option maxRecDepth 100000 in
set_option maxHeartbeats 2000000 in
theorem c_i_Table_wayTo {A1 : Option Addr} {c1 : Nat} {A2 : Option Addr} {c2 : Nat} {w : World} (p_t : DTable) (p_name : Str) (p_stage : Int) (h1 : RdS w (Iv 0 w.heap.size) (RF e_Str) 1 A1 p_t.Cols.length c1 p_t.Cols) (h2 : RdS w (Iv 0 w.heap.size) (RF e_Idx) 3 A2 p_t.Idxs.length c2 p_t.Idxs) (o3 : ok_Table p_t) (o4 : okS p_name) (pre0 : (0 ≤ i_Table_findIdx p_t p_name ∧ i_Table_findIdx p_t p_name < (p_t.Idxs.length : Int))) (pre1 : (0 ≤ (i_Table_idx p_t p_name).Stage ∧ (i_Table_idx p_t p_name).Stage ≤ 3)) (pre2 : (0 ≤ p_stage ∧ p_stage ≤ 3)) : Cal Try.prog 94 #[.agg #[.string (bs (p_t.Name)), .slice A1 p_t.Cols.length c1, .slice A2 p_t.Idxs.length c2], .string (bs (p_name)), .int .i64 (p_stage)] w fun v w' => ∃ A_1 c_1 lo_1 hi_1, v = .slice A_1 ((i_Table_wayTo p_t p_name p_stage).length) c_1 ∧ OwnD w' lo_1 hi_1 36 3 RO_Table A_1 ((i_Table_wayTo p_t p_name p_stage).length) c_1 (i_Table_wayTo p_t p_name p_stage) ∧ (okL ok_Table) (i_Table_wayTo p_t p_name p_stage) ∧ (w.heap.size ≤ lo_1 ∧ lo_1 ≤ hi_1 ∧ hi_1 ≤ w'.heap.size) ∧ Ex w w' := by
 have hol5 : p_t.Name.length ≤ 1073741824 := o3.1
 have hol6 := o3.2.1.1
 have hol7 := o3.2.2.1
 have hol8 : p_name.length ≤ 1073741824 := o4
 refine Cal.of (vs := [.agg #[.string (bs (p_t.Name)), .slice A1 p_t.Cols.length c1, .slice A2 p_t.Idxs.length c2], .string (bs (p_name)), .int .i64 (p_stage)]) Try.func94 rfl Try.ntmps94 rfl (CW.seq (CW.region (sd rfl (yl_box (cs := [.string (bs (p_t.Name)), .slice A1 p_t.Cols.length c1, .slice A2 p_t.Idxs.length c2]) rfl rfl rfl ?_))))
 intro b9 w10 hs11 hz12 hB13 hE14
 refine sd rfl (yl_assign rfl rfl (SeqR.done (tn (CW.seq (CW.region (sd rfl (yl_loadN (cs := [.string (bs (p_t.Name)), .slice A1 p_t.Cols.length c1, .slice A2 p_t.Idxs.length c2]) Try.ty36 rfl rfl (hB13.cells (n := 3) rfl) rfl (sd rfl (yl_move rfl rfl ?_)))))))))
 have q15 := RdS.ex good_Str h1 hE14
 have q16 := RdS.ex good_Idx h2 hE14
 refine sd rfl (yl_call Try.en144 rfl (opvs_cons rfl (opvs_cons rfl opvs_nil)) (Cal.mono (c_i_Table_idx p_t p_name (RdS.up q15 good_Str) (RdS.up q16 good_Idx) o3 o4 (by first | omega | assumption | (simp only [IntKind.wrap_i64] at *; omega))) ?_))
 rintro v19 w17 ⟨rfl, ho18, hE20⟩
 have hE20z := Ex.size hE20
 refine sd rfl (yl_field1 Try.fd171_2 rfl rfl rfl (sd rfl (yl_assign rfl rfl (SeqR.done (tn (CW.seq (CW.region ?_)))))))
 have q21 := Box.ex hB13 hE20
 refine sd rfl (yl_loadN (cs := [.string (bs (p_t.Name)), .slice A1 p_t.Cols.length c1, .slice A2 p_t.Idxs.length c2]) Try.ty36 rfl rfl (q21.cells (n := 3) rfl) rfl ?_)
 have q22 := RdS.ex good_Str q15 hE20
 have q23 := RdS.ex good_Idx q16 hE20
 refine sd rfl (yl_call Try.en145 rfl (opvs_cons rfl opvs_nil) (Cal.mono (c_i_copyTable p_t (RdS.up q22 good_Str) (RdS.up q23 good_Idx) o3) ?_))
 rintro v28 w24 ⟨A25, c25, lo25, hi25, A26, c26, lo26, hi26, rfl, h25, h26, ho27, hrn30, hrn31, hrn32, hE29⟩
 have hE29z := Ex.size hE29
 have hrf33 := rf_copyTable p_t
 refine sd rfl (yl_buildSlice (cs := [.string (bs ((i_copyTable p_t).Name)), .slice A25 (((i_copyTable p_t).Cols).length) c25, .slice A26 (((i_copyTable p_t).Idxs).length) c26]) Try.un46 Try.ty36 (by decide) rfl (opvs_cons rfl opvs_nil) (by kernel_rfl) ?_)
 intro b34 w35 hs36 hz37 hB38 hE39
 have hO40 : OwnD w35 w17.heap.size (b34 + 1) 36 3 RO_Table (some ⟨b34, 0, none⟩) 1 1 ([(i_copyTable p_t)] : List DTable) := OwnD.of_box (b := b34) (xs := ([(i_copyTable p_t)] : List DTable)) (cells := [[.string (bs ((i_copyTable p_t).Name)), .slice A25 (((i_copyTable p_t).Cols).length) c25, .slice A26 (((i_copyTable p_t).Idxs).length) c26]]) (by rw [List.flatten_singleton]; exact hB38) (by omega) (Nat.lt_succ_self _) (.cons (l := w17.heap.size) (h := b34) (Nat.le_refl _) (by omega) rfl (fun k hk => by cases hk; exact .inr (Nat.le_refl _)) (mkO_Table (l := w17.heap.size) (h := b34) (OwnL.ex good_Str h25 hE39) (OwnL.ex good_Idx h26 hE39) (by omega) (by omega) (by omega)) (.nil (Nat.le_succ _))) (Nat.le_of_ble_eq_true rfl)
 refine sd rfl (yl_assign rfl rfl (SeqR.done (tn (CW.seq (CW.block (CW.loop (fun m97 L98 w99 => ∃ (x92 : Int) (x93 : List DTable) (A94 : Option Addr) (c95 : Nat) (u96 : Nat), ((p_stage - x92).toNat + (x92 - p_stage).toNat) < m97 ∧ w35.heap.size ≤ w99.heap.size ∧ lkp L98 1 = some (.string (bs (p_name))) ∧ lkp L98 2 = some (.int .i64 (p_stage)) ∧ lkp L98 3 = some (.pointer (some ⟨b9, 0, none⟩)) ∧ lkp L98 7 = some (.int .i64 (x92)) ∧ lkp L98 8 = some (.slice A94 x93.length c95) ∧ Box w99 b9 36 [.string (bs (p_t.Name)), .slice A1 p_t.Cols.length c1, .slice A2 p_t.Idxs.length c2] ∧ RdS w99 (Iv 0 w.heap.size) (RF e_Str) 1 A1 p_t.Cols.length c1 p_t.Cols ∧ RdS w99 (Iv 0 w.heap.size) (RF e_Idx) 3 A2 p_t.Idxs.length c2 p_t.Idxs ∧ OwnD w99 w17.heap.size u96 36 3 RO_Table A94 x93.length c95 x93 ∧ Ex w w99 ∧ (w17.heap.size ≤ u96 ∧ u96 ≤ w99.heap.size) ∧ x93.length + 1 * ((p_stage - x92).toNat + (x92 - p_stage).toNat) ≤ 1 + 1 * ((p_stage - (i_Table_idx p_t p_name).Stage).toNat + ((i_Table_idx p_t p_name).Stage - p_stage).toNat) ∧ (∀ y ∈ x93, ok_Table y) ∧ 0 ≤ x92 ∧ x92 ≤ 3 ∧ loopW (B_i_Table_wayTo_0 p_t p_name p_stage) m97 (x92, x93) = loopW (B_i_Table_wayTo_0 p_t p_name p_stage) (((p_stage - (i_Table_idx p_t p_name).Stage).toNat + ((i_Table_idx p_t p_name).Stage - p_stage).toNat) + 1) ((i_Table_idx p_t p_name).Stage, ([(i_copyTable p_t)] : List DTable))) (((p_stage - (i_Table_idx p_t p_name).Stage).toNat + ((i_Table_idx p_t p_name).Stage - p_stage).toNat) + 1) ?_ ?_))))))
 ·exact ⟨(i_Table_idx p_t p_name).Stage, ([(i_copyTable p_t)] : List DTable), (some ⟨b34, 0, none⟩), 1, (b34 + 1), Nat.lt_succ_self _, Nat.le_refl _, rfl, rfl, rfl, rfl, rfl, (Box.ex (Box.ex q21 hE29) hE39), (RdS.ex good_Str (RdS.ex good_Str q22 hE29) hE39), (RdS.ex good_Idx (RdS.ex good_Idx q23 hE29) hE39), hO40, (Ex.trans (Ex.trans (Ex.trans (Ex.trans (Ex.refl w) hE14) hE20) hE29) hE39), (by omega), (by first | (simp; done) | (first | omega | (simp only [List.length_append, List.length_cons, List.length_nil, List.length_set, toS_length]; omega))), ((okL.mk (Nat.le_of_ble_eq_true rfl) (okE.cons ho27 okE.nil))).2, (by first | omega | assumption | (simp only [IntKind.wrap_i64] at *; omega)), (by first | omega | assumption | (simp only [IntKind.wrap_i64] at *; omega)), rfl⟩
 ·rintro m110 L111 w112 ⟨x92, x93, A94, c95, u96, hk113, hsz115, hl116, hl117, hl118, hl119, hl120, hf121, hf122, hf123, hf124, hf125, hu126, hln127, hok128, hv129, hv130, hI114⟩
  refine CW.sub (Sub.cons hl116 (Sub.cons hl117 (Sub.cons hl118 (Sub.cons hl119 (Sub.cons hl120 (Sub.nil _)))))) ?_
  have hf121z := Box.lt hf121
  have hf125z := Ex.size hf125
  refine CW.seq (CW.seq (CW.region (sd rfl (yl_move rfl rfl (sd rfl (yl_move rfl rfl (sd rfl (yl_neq rfl rfl rfl (SeqR.done (tn (bcase (decide (x92 = p_stage)) (fun hb131 => ?_) (fun hb131 => ?_))))))))))))
  ·have hb131p := dec_t hb131
   refine CW.cond_f rfl (not_t hb131) (CW.exit (tx (tx ?_)))
   have hB133 : B_i_Table_wayTo_0 p_t p_name p_stage (x92, x93) = .brk (x92, x93) := by simp only [B_i_Table_wayTo_0, hb131, cond_true, cond_false, loopE_done, loopE_ret]
   have hL132 : loopW (B_i_Table_wayTo_0 p_t p_name p_stage) (((p_stage - (i_Table_idx p_t p_name).Stage).toNat + ((i_Table_idx p_t p_name).Stage - p_stage).toNat) + 1) ((i_Table_idx p_t p_name).Stage, ([(i_copyTable p_t)] : List DTable)) = .done (x92, x93) := hI114.symm.trans (loopW.brk hk113 hB133)
   refine bx (tn (CW.seq (CW.region (sd rfl (yl_move rfl rfl (sd rfl (yl_assign rfl rfl (SeqR.done (tn (CW.ret ?_))))))))))
   refine rr rfl (.cons rfl .nil) ?_
   have hM134 : (i_Table_wayTo p_t p_name p_stage) = (x93) := by simp only [i_Table_wayTo, hb131, hL132, cond_true, cond_false, loopE_done, loopE_ret]
   rw [hM134]
   exact ⟨A94, c95, w17.heap.size, u96, rfl, hf124, (okL.mk (xs := x93) (by first | omega | (simp only [List.length_append, List.length_cons, List.length_nil, List.length_take, List.length_drop, List.length_replicate, List.length_set, toS_length]; omega)) hok128), (by omega), hf125⟩
  ·have hb131p := dec_f hb131
   refine CW.cond_t rfl (not_f hb131) (CW.skip (tn (CW.block (CW.seq (CW.seq (CW.region (sd rfl (yl_move rfl rfl (sd rfl (yl_move rfl rfl ?_))))))))))
   refine sd rfl (yl_lss rfl rfl rfl (SeqR.done (tn (bcase (decide (x92 < p_stage)) (fun hb135 => ?_) (fun hb135 => ?_)))))
   ·have hb135p := dec_t hb135
    refine CW.cond_t rfl hb135 (CW.region (sd rfl (yl_move rfl rfl (sd rfl (yl_add rfl rfl rfl (sd rfl (yl_assign rfl rfl (SeqR.done (tn (CW.region (sd rfl (yl_move rfl rfl ?_))))))))))))
    refine sd rfl (yl_loadN (cs := [.string (bs (p_t.Name)), .slice A1 p_t.Cols.length c1, .slice A2 p_t.Idxs.length c2]) Try.ty36 rfl rfl (hf121.cells (n := 3) rfl) rfl (sd rfl (yl_move rfl rfl (sd rfl (yl_move rfl rfl (sd rfl (yl_call Try.en146 rfl (opvs_cons rfl (opvs_cons rfl (opvs_cons rfl opvs_nil))) (Cal.mono (c_i_Table_withStage p_t p_name (IntKind.wrap .i64 (x92 + 1)) (RdS.up hf122 good_Str) (RdS.up hf123 good_Idx) o3 o4 (by first | omega | assumption | (simp only [IntKind.wrap_i64] at *; omega))) ?_))))))))
    rintro v140 w136 ⟨A137, c137, lo137, hi137, A138, c138, lo138, hi138, rfl, h137, h138, ho139, hrn142, hrn143, hrn144, hE141⟩
    have hE141z := Ex.size hE141
    refine sd rfl (yl_buildSlice (cs := [.string (bs ((i_Table_withStage p_t p_name (IntKind.wrap .i64 (x92 + 1))).Name)), .slice A137 (((i_Table_withStage p_t p_name (IntKind.wrap .i64 (x92 + 1))).Cols).length) c137, .slice A138 (((i_Table_withStage p_t p_name (IntKind.wrap .i64 (x92 + 1))).Idxs).length) c138]) Try.un46 Try.ty36 (by decide) rfl (opvs_cons rfl opvs_nil) (by kernel_rfl) ?_)
    intro b145 w146 hs147 hz148 hB149 hE150
    have hO151 : OwnD w146 w112.heap.size (b145 + 1) 36 3 RO_Table (some ⟨b145, 0, none⟩) 1 1 ([(i_Table_withStage p_t p_name (IntKind.wrap .i64 (x92 + 1)))] : List DTable) := OwnD.of_box (b := b145) (xs := ([(i_Table_withStage p_t p_name (IntKind.wrap .i64 (x92 + 1)))] : List DTable)) (cells := [[.string (bs ((i_Table_withStage p_t p_name (IntKind.wrap .i64 (x92 + 1))).Name)), .slice A137 (((i_Table_withStage p_t p_name (IntKind.wrap .i64 (x92 + 1))).Cols).length) c137, .slice A138 (((i_Table_withStage p_t p_name (IntKind.wrap .i64 (x92 + 1))).Idxs).length) c138]]) (by rw [List.flatten_singleton]; exact hB149) (by omega) (Nat.lt_succ_self _) (.cons (l := w112.heap.size) (h := b145) (Nat.le_refl _) (by omega) rfl (fun k hk => by cases hk; exact .inr (Nat.le_refl _)) (mkO_Table (l := w112.heap.size) (h := b145) (OwnL.ex good_Str h137 hE150) (OwnL.ex good_Idx h138 hE150) (by omega) (by omega) (by omega)) (.nil (Nat.le_succ _))) (Nat.le_of_ble_eq_true rfl)
    refine sd rfl (yl_appendD (xs := x93) (ys := ([(i_Table_withStage p_t p_name (IntKind.wrap .i64 (x92 + 1)))] : List DTable)) goodO_Table Try.un46 Try.ty36 rfl (Nat.le_of_ble_eq_true rfl) rfl rfl rfl (OwnD.ex goodO_Table (OwnD.ex goodO_Table hf124 hE141) hE150) hO151 (by first | omega | (simp only [List.length_append, List.length_cons, List.length_nil, List.length_take, List.length_drop, List.length_replicate, List.length_set, toS_length]; omega)) (by first | omega | (simp only [List.length_append, List.length_cons, List.length_nil, List.length_take, List.length_drop, List.length_replicate, List.length_set, toS_length]; omega)) (by omega) (by omega) (by omega) (by omega) ?_)
    intro A154 c155 w156 row157 hO158 hG159 hrg160
    have hG159z := hG159.size
    refine sd rfl (yl_assign rfl rfl (SeqR.done (bn (tn ?_))))
    have hB161 : B_i_Table_wayTo_0 p_t p_name p_stage (x92, x93) = .cont (IntKind.wrap .i64 (x92 + 1), (x93 ++ ([(i_Table_withStage p_t p_name (IntKind.wrap .i64 (x92 + 1)))] : List DTable))) := by simp only [B_i_Table_wayTo_0, hb131, hb135, cond_true, cond_false, loopE_done, loopE_ret]
    have hmu174 : ((p_stage - IntKind.wrap .i64 (x92 + 1)).toNat + (IntKind.wrap .i64 (x92 + 1) - p_stage).toNat) < ((p_stage - x92).toNat + (x92 - p_stage).toNat) := by first | omega | assumption | (simp only [IntKind.wrap_i64] at *; omega)
    exact ⟨m110 - 1, by omega, IntKind.wrap .i64 (x92 + 1), (x93 ++ ([(i_Table_withStage p_t p_name (IntKind.wrap .i64 (x92 + 1)))] : List DTable)), A154, c155, w156.heap.size, (by omega), (by omega), rfl, rfl, rfl, rfl, rfl, (Box.grown (Box.ex (Box.ex hf121 hE141) hE150) hG159 (fun k hk => by have := hrg160 k hk; omega)), (RdS.grown good_Str (RdS.ex good_Str (RdS.ex good_Str hf122 hE141) hE150) hG159 (fun k hk => by have := hrg160 k hk; simp only [Iv]; omega)), (RdS.grown good_Idx (RdS.ex good_Idx (RdS.ex good_Idx hf123 hE141) hE150) hG159 (fun k hk => by have := hrg160 k hk; simp only [Iv]; omega)), hO158, (Below.grown (Ex.trans (Ex.trans hf125 hE141) hE150) hG159 (by omega) (fun k hk => by have := hrg160 k hk; omega)), (by omega), (by first | omega | (simp only [List.length_append, List.length_cons, List.length_nil, List.length_set, toS_length]; omega)), (okE.append hok128 ((okL.mk (Nat.le_of_ble_eq_true rfl) (okE.cons ho139 okE.nil))).2), (by first | omega | assumption | (simp only [IntKind.wrap_i64] at *; omega)), (by first | omega | assumption | (simp only [IntKind.wrap_i64] at *; omega)), (loopW.cont hk113 hB161).symm.trans hI114⟩
   ·have hb135p := dec_f hb135
    refine CW.cond_f rfl hb135 (CW.region (sd rfl (yl_move rfl rfl (sd rfl (yl_sub rfl rfl rfl (sd rfl (yl_assign rfl rfl (SeqR.done (tn (CW.region (sd rfl (yl_move rfl rfl ?_))))))))))))
    refine sd rfl (yl_loadN (cs := [.string (bs (p_t.Name)), .slice A1 p_t.Cols.length c1, .slice A2 p_t.Idxs.length c2]) Try.ty36 rfl rfl (hf121.cells (n := 3) rfl) rfl (sd rfl (yl_move rfl rfl (sd rfl (yl_move rfl rfl (sd rfl (yl_call Try.en146 rfl (opvs_cons rfl (opvs_cons rfl (opvs_cons rfl opvs_nil))) (Cal.mono (c_i_Table_withStage p_t p_name (IntKind.wrap .i64 (x92 - 1)) (RdS.up hf122 good_Str) (RdS.up hf123 good_Idx) o3 o4 (by first | omega | assumption | (simp only [IntKind.wrap_i64] at *; omega))) ?_))))))))
    rintro v179 w175 ⟨A176, c176, lo176, hi176, A177, c177, lo177, hi177, rfl, h176, h177, ho178, hrn181, hrn182, hrn183, hE180⟩
    have hE180z := Ex.size hE180
    refine sd rfl (yl_buildSlice (cs := [.string (bs ((i_Table_withStage p_t p_name (IntKind.wrap .i64 (x92 - 1))).Name)), .slice A176 (((i_Table_withStage p_t p_name (IntKind.wrap .i64 (x92 - 1))).Cols).length) c176, .slice A177 (((i_Table_withStage p_t p_name (IntKind.wrap .i64 (x92 - 1))).Idxs).length) c177]) Try.un46 Try.ty36 (by decide) rfl (opvs_cons rfl opvs_nil) (by kernel_rfl) ?_)
    intro b184 w185 hs186 hz187 hB188 hE189
    have hO190 : OwnD w185 w112.heap.size (b184 + 1) 36 3 RO_Table (some ⟨b184, 0, none⟩) 1 1 ([(i_Table_withStage p_t p_name (IntKind.wrap .i64 (x92 - 1)))] : List DTable) := OwnD.of_box (b := b184) (xs := ([(i_Table_withStage p_t p_name (IntKind.wrap .i64 (x92 - 1)))] : List DTable)) (cells := [[.string (bs ((i_Table_withStage p_t p_name (IntKind.wrap .i64 (x92 - 1))).Name)), .slice A176 (((i_Table_withStage p_t p_name (IntKind.wrap .i64 (x92 - 1))).Cols).length) c176, .slice A177 (((i_Table_withStage p_t p_name (IntKind.wrap .i64 (x92 - 1))).Idxs).length) c177]]) (by rw [List.flatten_singleton]; exact hB188) (by omega) (Nat.lt_succ_self _) (.cons (l := w112.heap.size) (h := b184) (Nat.le_refl _) (by omega) rfl (fun k hk => by cases hk; exact .inr (Nat.le_refl _)) (mkO_Table (l := w112.heap.size) (h := b184) (OwnL.ex good_Str h176 hE189) (OwnL.ex good_Idx h177 hE189) (by omega) (by omega) (by omega)) (.nil (Nat.le_succ _))) (Nat.le_of_ble_eq_true rfl)
    refine sd rfl (yl_appendD (xs := x93) (ys := ([(i_Table_withStage p_t p_name (IntKind.wrap .i64 (x92 - 1)))] : List DTable)) goodO_Table Try.un46 Try.ty36 rfl (Nat.le_of_ble_eq_true rfl) rfl rfl rfl (OwnD.ex goodO_Table (OwnD.ex goodO_Table hf124 hE180) hE189) hO190 (by first | omega | (simp only [List.length_append, List.length_cons, List.length_nil, List.length_take, List.length_drop, List.length_replicate, List.length_set, toS_length]; omega)) (by first | omega | (simp only [List.length_append, List.length_cons, List.length_nil, List.length_take, List.length_drop, List.length_replicate, List.length_set, toS_length]; omega)) (by omega) (by omega) (by omega) (by omega) ?_)
    intro A193 c194 w195 row196 hO197 hG198 hrg199
    have hG198z := hG198.size
    refine sd rfl (yl_assign rfl rfl (SeqR.done (bn (tn ?_))))
    have hB200 : B_i_Table_wayTo_0 p_t p_name p_stage (x92, x93) = .cont (IntKind.wrap .i64 (x92 - 1), (x93 ++ ([(i_Table_withStage p_t p_name (IntKind.wrap .i64 (x92 - 1)))] : List DTable))) := by simp only [B_i_Table_wayTo_0, hb131, hb135, cond_true, cond_false, loopE_done, loopE_ret]
    have hmu213 : ((p_stage - IntKind.wrap .i64 (x92 - 1)).toNat + (IntKind.wrap .i64 (x92 - 1) - p_stage).toNat) < ((p_stage - x92).toNat + (x92 - p_stage).toNat) := by first | omega | assumption | (simp only [IntKind.wrap_i64] at *; omega)
    exact ⟨m110 - 1, by omega, IntKind.wrap .i64 (x92 - 1), (x93 ++ ([(i_Table_withStage p_t p_name (IntKind.wrap .i64 (x92 - 1)))] : List DTable)), A193, c194, w195.heap.size, (by omega), (by omega), rfl, rfl, rfl, rfl, rfl, (Box.grown (Box.ex (Box.ex hf121 hE180) hE189) hG198 (fun k hk => by have := hrg199 k hk; omega)), (RdS.grown good_Str (RdS.ex good_Str (RdS.ex good_Str hf122 hE180) hE189) hG198 (fun k hk => by have := hrg199 k hk; simp only [Iv]; omega)), (RdS.grown good_Idx (RdS.ex good_Idx (RdS.ex good_Idx hf123 hE180) hE189) hG198 (fun k hk => by have := hrg199 k hk; simp only [Iv]; omega)), hO197, (Below.grown (Ex.trans (Ex.trans hf125 hE180) hE189) hG198 (by omega) (fun k hk => by have := hrg199 k hk; omega)), (by omega), (by first | omega | (simp only [List.length_append, List.length_cons, List.length_nil, List.length_set, toS_length]; omega)), (okE.append hok128 ((okL.mk (Nat.le_of_ble_eq_true rfl) (okE.cons ho178 okE.nil))).2), (by first | omega | assumption | (simp only [IntKind.wrap_i64] at *; omega)), (by first | omega | assumption | (simp only [IntKind.wrap_i64] at *; omega)), (loopW.cont hk113 hB200).symm.trans hI114⟩
set_option maxRecDepth 100000 in
set_option maxHeartbeats 2000000 in
theorem c_i_WayTo {A1 : Option Addr} {c1 : Nat} {A2 : Option Addr} {c2 : Nat} {w : World} (p_t : DTable) (p_name : Str) (p_stage : Int) (h1 : RdS w (Iv 0 w.heap.size) (RF e_Str) 1 A1 p_t.Cols.length c1 p_t.Cols) (h2 : RdS w (Iv 0 w.heap.size) (RF e_Idx) 3 A2 p_t.Idxs.length c2 p_t.Idxs) (o3 : ok_Table p_t) (o4 : okS p_name) : Cal Try.prog 40 #[.agg #[.string (bs (p_t.Name)), .slice A1 p_t.Cols.length c1, .slice A2 p_t.Idxs.length c2], .string (bs (p_name)), .int .i64 (p_stage)] w fun v w' => ∃ A_1 c_1 lo_1 hi_1, v = .tuple #[.slice A_1 (((i_WayTo p_t p_name p_stage).1).length) c_1, .bool ((i_WayTo p_t p_name p_stage).2)] ∧ OwnD w' lo_1 hi_1 36 3 RO_Table A_1 (((i_WayTo p_t p_name p_stage).1).length) c_1 ((i_WayTo p_t p_name p_stage).1) ∧ (okL ok_Table) ((i_WayTo p_t p_name p_stage).1) ∧ (w.heap.size ≤ lo_1 ∧ lo_1 ≤ hi_1 ∧ hi_1 ≤ w'.heap.size) ∧ Ex w w' := by
 have hol5 : p_t.Name.length ≤ 1073741824 := o3.1
 have hol6 := o3.2.1.1
 have hol7 := o3.2.2.1
 have hol8 : p_name.length ≤ 1073741824 := o4
 refine Cal.of (vs := [.agg #[.string (bs (p_t.Name)), .slice A1 p_t.Cols.length c1, .slice A2 p_t.Idxs.length c2], .string (bs (p_name)), .int .i64 (p_stage)]) Try.func40 rfl Try.ntmps40 rfl (CW.seq (CW.region (sd rfl (yl_box (cs := [.string (bs (p_t.Name)), .slice A1 p_t.Cols.length c1, .slice A2 p_t.Idxs.length c2]) rfl rfl rfl ?_))))
 intro b9 w10 hs11 hz12 hB13 hE14
 refine sd rfl (yl_assign rfl rfl (sd rfl (yl_assign rfl rfl (SeqR.done (tn (CW.seq (CW.seq (CW.region (sd rfl (yl_loadN (cs := [.string (bs (p_t.Name)), .slice A1 p_t.Cols.length c1, .slice A2 p_t.Idxs.length c2]) Try.ty36 rfl rfl (hB13.cells (n := 3) rfl) rfl (sd rfl (yl_move rfl rfl ?_))))))))))))
 have q15 := RdS.ex good_Str h1 hE14
 have q16 := RdS.ex good_Idx h2 hE14
 refine sd rfl (yl_call Try.en92 rfl (opvs_cons rfl (opvs_cons rfl opvs_nil)) (Cal.mono (c_i_hasIdx p_t p_name (RdS.up q15 good_Str) (RdS.up q16 good_Idx) o3 o4) ?_))
 rintro v18 w17 ⟨rfl, hE19⟩
 have hE19z := Ex.size hE19
 refine sd rfl (yl_not rfl rfl (sd rfl (yl_move rfl rfl (bcase (i_hasIdx p_t p_name) (fun hb20 => ?_) (fun hb20 => ?_)))))
 ·obtain ⟨hb20p0, hb20p1, hb20p2⟩ := f_i_hasIdx hb20
  refine sy rfl rfl (not_t hb20) (yl_move rfl rfl (sy rfl rfl (not_t hb20) (yl_call Try.en93 rfl (opvs_cons rfl opvs_nil) (Cal.mono (c_i_isStage p_stage) ?_))))
  rintro v22 w21 ⟨rfl, hE23⟩
  have hE23z := Ex.size hE23
  refine sy rfl rfl (not_t hb20) (yl_not rfl rfl (sd rfl (yl_pick_f rfl rfl (not_t hb20) rfl (SeqR.done (tn (bcase (i_isStage p_stage) (fun hb24 => ?_) (fun hb24 => ?_)))))))
  ·have hb24p := f_i_isStage hb24
   refine CW.cond_f rfl (not_t hb24) (CW.skip (tn (CW.seq (CW.region (sd rfl (yl_loadN (cs := [.string (bs (p_t.Name)), .slice A1 p_t.Cols.length c1, .slice A2 p_t.Idxs.length c2]) Try.ty36 rfl rfl ((Box.ex (Box.ex hB13 hE19) hE23).cells (n := 3) rfl) rfl (sd rfl (yl_move rfl rfl (sd rfl (yl_move rfl rfl (sd rfl (yl_call Try.en94 rfl (opvs_cons rfl (opvs_cons rfl (opvs_cons rfl opvs_nil))) (Cal.mono (c_i_Table_wayTo p_t p_name p_stage (RdS.up (RdS.ex good_Str (RdS.ex good_Str q15 hE19) hE23) good_Str) (RdS.up (RdS.ex good_Idx (RdS.ex good_Idx q16 hE19) hE23) good_Idx) o3 o4 (by first | omega | assumption | (simp only [IntKind.wrap_i64] at *; omega)) (by first | omega | assumption | (simp only [IntKind.wrap_i64] at *; omega)) (by first | omega | assumption | (simp only [IntKind.wrap_i64] at *; omega))) ?_)))))))))))))
   rintro v34 w31 ⟨A32, c32, lo32, hi32, rfl, h32, ho33, hrn36, hE35⟩
   have hE35z := Ex.size hE35
   refine sd rfl (yl_assign rfl rfl (sd rfl (yl_assign rfl rfl (SeqR.done (tn (CW.ret (rr rfl (.cons rfl (.cons rfl .nil)) ?_)))))))
   have hM37 : (i_WayTo p_t p_name p_stage) = (((i_Table_wayTo p_t p_name p_stage), true)) := by simp only [i_WayTo, hb20, hb24, cond_true, cond_false, loopE_done, loopE_ret]
   rw [hM37]
   exact ⟨A32, c32, lo32, hi32, rfl, h32, ho33, (by omega), (Ex.trans (Ex.trans (Ex.trans (Ex.trans (Ex.refl w) hE14) hE19) hE23) hE35)⟩
  ·refine CW.cond_t rfl (not_f hb24) (CW.seq (CW.region (sd rfl (yl_assign rfl rfl (sd rfl (yl_assign rfl rfl (SeqR.done (tn (CW.ret (tr ?_))))))))))
   refine rr rfl (.cons rfl (.cons rfl .nil)) ?_
   have hM42 : (i_WayTo p_t p_name p_stage) = ((([] : List DTable), false)) := by simp only [i_WayTo, hb20, hb24, cond_true, cond_false, loopE_done, loopE_ret]
   rw [hM42]
   exact ⟨none, 0, w21.heap.size, w21.heap.size, rfl, (OwnD.nil _ _ _ _ _ _), (okL.nil _), (by omega), (Ex.trans (Ex.trans (Ex.trans (Ex.refl w) hE14) hE19) hE23)⟩
 ·refine sz rfl rfl (not_f hb20) (sz rfl rfl (not_f hb20) (sz rfl rfl (not_f hb20) (sd rfl (yl_pick_t rfl rfl (not_f hb20) rfl (SeqR.done (tn (CW.cond_t rfl rfl (CW.seq (CW.region ?_)))))))))
  refine sd rfl (yl_assign rfl rfl (sd rfl (yl_assign rfl rfl (SeqR.done (tn (CW.ret (tr (rr rfl (.cons rfl (.cons rfl .nil)) ?_))))))))
  have hM46 : (i_WayTo p_t p_name p_stage) = ((([] : List DTable), false)) := by simp only [i_WayTo, hb20, cond_true, cond_false, loopE_done, loopE_ret]
  rw [hM46]
  exact ⟨none, 0, w17.heap.size, w17.heap.size, rfl, (OwnD.nil _ _ _ _ _ _), (okL.nil _), (by omega), (Ex.trans (Ex.trans (Ex.refl w) hE14) hE19)⟩
set_option maxRecDepth 100000 in
set_option maxHeartbeats 2000000 in
theorem c_g_slices_IndexFunc_Write {A1 : Option Addr} {c1 : Nat} {g3 : Nat} {cp4 : List Value} {w : World} (p_s : List DWrite) (p_f : DWrite → Bool) (h1 : RdS w (Iv 0 w.heap.size) (RF e_Write) 3 A1 p_s.length c1 p_s) (hen5 : Enters Try.prog g3) (hfn6 : ∀ (w1 : World) (y0 : DWrite), Ex w w1 → y0 ∈ p_s → ok_Write y0 → Cal Try.prog g3 (([.agg #[.string (bs (y0.Key)), .string (bs (y0.Val)), .bool (y0.Gone)]] : List Value) ++ cp4).toArray w1 fun v w2 => v = .bool (p_f y0) ∧ Ex w1 w2) (o2 : (okL ok_Write) p_s) : Cal Try.prog 187 #[.slice A1 p_s.length c1, .func (.func g3) #[] cp4.toArray] w fun v w' => v = .int .i64 ((g_slices_IndexFunc_Write p_s p_f)) ∧ Ex w w' := by
 have hol7 := o2.1
 refine Cal.of (vs := [.slice A1 p_s.length c1, .func (.func g3) #[] cp4.toArray]) Try.func187 rfl Try.ntmps187 rfl (CW.seq (CW.region (sd rfl (yl_assign rfl rfl (SeqR.done (tn (CW.seq (CW.seq (CW.region ?_)))))))))
 refine sd rfl (yl_move rfl rfl (sd rfl (yl_len Try.un48 rfl rfl (sd rfl (yl_move rfl rfl (SeqR.done (tn (CW.block (CW.loop (fun m9 L10 w11 => ∃ (k8 : Nat), m9 = p_s.length - k8 ∧ k8 ≤ p_s.length ∧ w.heap.size ≤ w11.heap.size ∧ lkp L10 0 = some (.slice A1 p_s.length c1) ∧ lkp L10 1 = some (.func (.func g3) #[] cp4.toArray) ∧ lkp L10 7 = some (.int .i64 ((p_s.length : Int))) ∧ lkp L10 8 = some (.int .i64 ((k8 : Int))) ∧ RdS w11 (Iv 0 w.heap.size) (RF e_Write) 3 A1 p_s.length c1 p_s ∧ Ex w w11 ∧ loopM (B_g_slices_IndexFunc_Write_0 p_s p_f) (p_s.length - k8) k8 () = loopM (B_g_slices_IndexFunc_Write_0 p_s p_f) (p_s.length - 0) 0 ()) (p_s.length - 0) ?_ ?_)))))))))
 ·exact ⟨0, rfl, (by omega), Nat.le_refl _, rfl, rfl, rfl, rfl, h1, (Ex.refl w), rfl⟩
 ·rintro m12 L13 w14 ⟨k8, rfl, hk15, hsz17, hl18, hl19, hl20, hl21, hf22, hf23, hI16⟩
  refine CW.sub (Sub.cons hl18 (Sub.cons hl19 (Sub.cons hl20 (Sub.cons hl21 (Sub.nil _))))) ?_
  have hf23z := Ex.size hf23
  have hbg24 := RdS.big hf22
  rcases Nat.lt_or_ge k8 p_s.length with hlt25 | hlt25
  ·refine CW.seq (CW.region (sd rfl (yl_lss rfl rfl rfl (SeqR.done (tn (CW.seq (CW.cond_t rfl (lt_t hlt25) (CW.skip (tn ?_)))))))))
   refine CW.seq (CW.block (CW.seq (CW.region (sd rfl (yl_move rfl rfl (sd rfl (yl_assign rfl rfl (SeqR.done (tn (CW.seq ?_))))))))))
   refine CW.region (sd rfl (yl_move rfl rfl (sd rfl (yl_move rfl rfl (sd rfl (yl_move rfl rfl ?_))))))
   obtain ⟨eb26, eo26, ec26, eA26, eS26, ebl26, el26, eR26, eC26⟩ := RdS.atD hf22 d_Write (i := k8) (by first | omega | assumption)
   obtain rfl := eR26
   have eC26 : Cells w14 eb26 (eo26 + k8 * 3) [.string (bs ((p_s.getD k8 d_Write).Key)), .string (bs ((p_s.getD k8 d_Write).Val)), .bool ((p_s.getD k8 d_Write).Gone)] := eC26
   refine sd rfl (yl_indexAddrN Try.un48 Try.ty31 rfl rfl rfl eA26 (by first | omega | assumption | (simp only [IntKind.wrap_i64] at *; omega)) (sd rfl (yl_loadN (cs := [.string (bs ((p_s.getD k8 d_Write).Key)), .string (bs ((p_s.getD k8 d_Write).Val)), .bool ((p_s.getD k8 d_Write).Gone)]) Try.ty31 rfl rfl eC26 rfl (sd rfl (yl_callv hen5 rfl rfl (opvs_cons rfl opvs_nil) (Cal.mono (hfn6 w14 (p_s.getD k8 d_Write) hf23 (getD_mem (by omega)) (okL.getD o2 ok_d_Write _)) ?_))))))
   rintro v28 w27 ⟨rfl, hE29⟩
   have hE29z := Ex.size hE29
   refine SeqR.done (tn (bcase (p_f (p_s.getD k8 d_Write)) (fun hb30 => ?_) (fun hb30 => ?_)))
   ·refine CW.cond_t rfl hb30 (CW.seq (CW.region (sd rfl (yl_move rfl rfl (sd rfl (yl_assign rfl rfl (SeqR.done (tn (CW.ret (br ?_))))))))))
    refine tr (tr ?_)
    have hB32 : B_g_slices_IndexFunc_Write_0 p_s p_f k8 () = .ret (k8 : Int) := by simp only [B_g_slices_IndexFunc_Write_0, hb30, cond_true, cond_false, loopE_done, loopE_ret]
    have hL31 : loopM (B_g_slices_IndexFunc_Write_0 p_s p_f) (p_s.length - 0) 0 () = .ret (k8 : Int) := hI16.symm.trans (loopM.ret hlt25 hB32)
    refine br (tr (rr rfl (.cons rfl .nil) ?_))
    have hM33 : (g_slices_IndexFunc_Write p_s p_f) = ((k8 : Int)) := by simp only [g_slices_IndexFunc_Write, hb30, hL31, cond_true, cond_false, loopE_done, loopE_ret]
    rw [hM33]
    exact ⟨rfl, (Ex.trans hf23 hE29)⟩
   ·refine CW.cond_f rfl hb30 (CW.skip (bn (tn (CW.region (sd rfl (yl_inc rfl rfl rfl (by omega) (sd rfl (yl_move rfl rfl (SeqR.done (tn ?_))))))))))
    have hB35 : B_g_slices_IndexFunc_Write_0 p_s p_f k8 () = .cont () := by simp only [B_g_slices_IndexFunc_Write_0, hb30, cond_true, cond_false, loopE_done, loopE_ret]
    exact ⟨p_s.length - (k8 + 1), by omega, k8 + 1, rfl, hlt25, (by omega), rfl, rfl, rfl, rfl, (RdS.ex good_Write hf22 hE29), (Ex.trans hf23 hE29), (loopM.cont hlt25 hB35).symm.trans hI16⟩
  ·refine CW.seq (CW.region (sd rfl (yl_lss rfl rfl rfl (SeqR.done (tn (CW.seq (CW.cond_f rfl (lt_f hlt25) (CW.exit (tx ?_)))))))))
   refine tx ?_
   have hL38 : loopM (B_g_slices_IndexFunc_Write_0 p_s p_f) (p_s.length - 0) 0 () = .done () := hI16.symm.trans (loopM.stop hlt25)
   refine bx (tn (CW.seq (CW.region (sd rfl (yl_assign rfl rfl (SeqR.done (tn (CW.ret (rr rfl (.cons rfl .nil) ?_)))))))))
   have hM39 : (g_slices_IndexFunc_Write p_s p_f) = (-1) := by simp only [g_slices_IndexFunc_Write, hL38, cond_true, cond_false, loopE_done, loopE_ret]
   rw [hM39]
   exact ⟨rfl, hf23⟩
set_option maxRecDepth 100000 in
set_option maxHeartbeats 2000000 in
theorem c_g_slices_ContainsFunc_Write {A1 : Option Addr} {c1 : Nat} {g3 : Nat} {cp4 : List Value} {w : World} (p_s : List DWrite) (p_f : DWrite → Bool) (h1 : RdS w (Iv 0 w.heap.size) (RF e_Write) 3 A1 p_s.length c1 p_s) (hen5 : Enters Try.prog g3) (hfn6 : ∀ (w1 : World) (y0 : DWrite), Ex w w1 → y0 ∈ p_s → ok_Write y0 → Cal Try.prog g3 (([.agg #[.string (bs (y0.Key)), .string (bs (y0.Val)), .bool (y0.Gone)]] : List Value) ++ cp4).toArray w1 fun v w2 => v = .bool (p_f y0) ∧ Ex w1 w2) (o2 : (okL ok_Write) p_s) : Cal Try.prog 140 #[.slice A1 p_s.length c1, .func (.func g3) #[] cp4.toArray] w fun v w' => v = .bool ((g_slices_ContainsFunc_Write p_s p_f)) ∧ Ex w w' := by
 have hol7 := o2.1
 refine Cal.of (vs := [.slice A1 p_s.length c1, .func (.func g3) #[] cp4.toArray]) Try.func140 rfl Try.ntmps140 rfl (CW.seq (CW.region (sd rfl (yl_assign rfl rfl (SeqR.done (tn (CW.seq (CW.region (sd rfl (yl_move rfl rfl ?_))))))))))
 refine sd rfl (yl_move rfl rfl (sd rfl (yl_call Try.en187 rfl (opvs_cons rfl (opvs_cons rfl opvs_nil)) (Cal.mono (c_g_slices_IndexFunc_Write p_s p_f (RdS.up h1 good_Write) hen5 (fun w1 y0 => fun hE => hfn6 w1 y0 (Ex.trans (Ex.refl w) hE)) o2) ?_))))
 rintro v9 w8 ⟨rfl, hE10⟩
 have hE10z := Ex.size hE10
 refine sd rfl (yl_geq rfl rfl rfl (sd rfl (yl_assign rfl rfl (SeqR.done (tn (CW.ret (rr rfl (.cons rfl .nil) ?_)))))))
 have hM11 : (g_slices_ContainsFunc_Write p_s p_f) = (decide (0 ≤ (g_slices_IndexFunc_Write p_s p_f))) := by simp only [g_slices_ContainsFunc_Write, cond_true, cond_false, loopE_done, loopE_ret]
 rw [hM11]
 exact ⟨rfl, (Ex.trans (Ex.refl w) hE10)⟩
set_option maxRecDepth 100000 in
set_option maxHeartbeats 2000000 in
theorem c_i_isLowerOrDigit {w : World} (p_b : Int) : Cal Try.prog 223 #[.int .u8 (p_b)] w fun v w' => v = .bool ((i_isLowerOrDigit p_b)) ∧ Ex w w' := by
 refine Cal.of (vs := [.int .u8 (p_b)]) Try.func223 rfl Try.ntmps223 rfl (CW.seq (CW.region (sd rfl (yl_assign rfl rfl (SeqR.done (tn (CW.seq (CW.region (sd rfl (yl_move rfl rfl ?_))))))))))
 refine sd rfl (yl_geq rfl rfl rfl (sd rfl (yl_move rfl rfl (bcase (decide (97 ≤ p_b)) (fun hb1 => ?_) (fun hb1 => ?_)))))
 ·have hb1p := dec_t hb1
  refine sy rfl rfl hb1 (yl_move rfl rfl (sy rfl rfl hb1 (yl_leq rfl rfl rfl (sd rfl (yl_pick_t rfl rfl hb1 rfl (sd rfl (yl_move rfl rfl (bcase (decide (p_b ≤ 122)) (fun hb2 => ?_) (fun hb2 => ?_)))))))))
  ·have hb2p := dec_t hb2
   refine sz rfl rfl hb2 (sz rfl rfl hb2 (sz rfl rfl hb2 (sq rfl rfl (sq rfl rfl (sz rfl rfl hb2 (sd rfl (yl_pick_t rfl rfl hb2 rfl (sd rfl (yl_assign rfl rfl (SeqR.done ?_))))))))))
   refine tn (CW.ret (rr rfl (.cons rfl .nil) ?_))
   have hM3 : (i_isLowerOrDigit p_b) = (true) := by simp only [i_isLowerOrDigit, hb1, hb2, cond_true, cond_false, loopE_done, loopE_ret]
   rw [hM3]
   exact ⟨rfl, (Ex.refl w)⟩
  ·have hb2p := dec_f hb2
   refine sy rfl rfl hb2 (yl_move rfl rfl (sy rfl rfl hb2 (yl_geq rfl rfl rfl (sy rfl rfl hb2 (yl_move rfl rfl (bcase (decide (48 ≤ p_b)) (fun hb4 => ?_) (fun hb4 => ?_)))))))
   ·have hb4p := dec_t hb4
    refine sy rfl rfl hb4 (yl_move rfl rfl (sy rfl rfl hb4 (yl_leq rfl rfl rfl (sy rfl rfl hb2 (yl_pick_t rfl rfl hb4 rfl (sd rfl (yl_pick_f rfl rfl hb2 rfl (sd rfl (yl_assign rfl rfl (SeqR.done (tn (CW.ret (rr rfl (.cons rfl .nil) ?_)))))))))))))
    have hM5 : (i_isLowerOrDigit p_b) = (decide (p_b ≤ 57)) := by simp only [i_isLowerOrDigit, hb1, hb2, hb4, cond_true, cond_false, loopE_done, loopE_ret]
    rw [hM5]
    exact ⟨rfl, (Ex.refl w)⟩
   ·have hb4p := dec_f hb4
    refine sz rfl rfl hb4 (sz rfl rfl hb4 (sy rfl rfl hb2 (yl_pick_f rfl rfl hb4 rfl (sd rfl (yl_pick_f rfl rfl hb2 rfl (sd rfl (yl_assign rfl rfl (SeqR.done (tn (CW.ret (rr rfl (.cons rfl .nil) ?_)))))))))))
    have hM6 : (i_isLowerOrDigit p_b) = (false) := by simp only [i_isLowerOrDigit, hb1, hb2, hb4, cond_true, cond_false, loopE_done, loopE_ret]
    rw [hM6]
    exact ⟨rfl, (Ex.refl w)⟩
 ·have hb1p := dec_f hb1
  refine sz rfl rfl hb1 (sz rfl rfl hb1 (sd rfl (yl_pick_f rfl rfl hb1 rfl (sd rfl (yl_move rfl rfl (sy rfl rfl rfl (yl_move rfl rfl (sy rfl rfl rfl (yl_geq rfl rfl rfl (sy rfl rfl rfl (yl_move rfl rfl (bcase (decide (48 ≤ p_b)) (fun hb7 => ?_) (fun hb7 => ?_)))))))))))))
  ·have hb7p := dec_t hb7
   refine sy rfl rfl hb7 (yl_move rfl rfl (sy rfl rfl hb7 (yl_leq rfl rfl rfl (sy rfl rfl rfl (yl_pick_t rfl rfl hb7 rfl (sd rfl (yl_pick_f rfl rfl rfl rfl (sd rfl (yl_assign rfl rfl (SeqR.done (tn (CW.ret (rr rfl (.cons rfl .nil) ?_)))))))))))))
   have hM8 : (i_isLowerOrDigit p_b) = (decide (p_b ≤ 57)) := by simp only [i_isLowerOrDigit, hb1, hb7, cond_true, cond_false, loopE_done, loopE_ret]
   rw [hM8]
   exact ⟨rfl, (Ex.refl w)⟩
  ·have hb7p := dec_f hb7
   refine sz rfl rfl hb7 (sz rfl rfl hb7 (sy rfl rfl rfl (yl_pick_f rfl rfl hb7 rfl (sd rfl (yl_pick_f rfl rfl rfl rfl (sd rfl (yl_assign rfl rfl (SeqR.done (tn (CW.ret (rr rfl (.cons rfl .nil) ?_)))))))))))
   have hM9 : (i_isLowerOrDigit p_b) = (false) := by simp only [i_isLowerOrDigit, hb1, hb7, cond_true, cond_false, loopE_done, loopE_ret]
   rw [hM9]
   exact ⟨rfl, (Ex.refl w)⟩
set_option maxRecDepth 100000 in
set_option maxHeartbeats 2000000 in
theorem c_g_internal_stringslite_IndexByte {w : World} (p_s : Str) (p_c : Int) (o1 : okS p_s) : Cal Try.prog 230 #[.string (bs (p_s)), .int .u8 (p_c)] w fun v w' => v = .int .i64 ((g_internal_stringslite_IndexByte p_s p_c)) ∧ Ex w w' := by
 have hol2 : p_s.length ≤ 1073741824 := o1
 refine Cal.of (vs := [.string (bs (p_s)), .int .u8 (p_c)]) Try.func230 rfl Try.ntmps230 rfl (CW.seq (CW.region (sd rfl (yl_assign rfl rfl (SeqR.done (tn (CW.seq (CW.region (sd rfl (yl_move rfl rfl ?_))))))))))
 refine sd rfl (yl_move rfl rfl (sd rfl (yl_idxB (s := p_s) (c := p_c) Try.ex233 rfl (opvs_cons rfl (opvs_cons rfl opvs_nil)) (sd rfl (yl_assign rfl rfl (SeqR.done (tn (CW.ret (rr rfl (.cons rfl .nil) ?_)))))))))
 have hM3 : (g_internal_stringslite_IndexByte p_s p_c) = (idxB p_s p_c) := by simp only [g_internal_stringslite_IndexByte, cond_true, cond_false, loopE_done, loopE_ret]
 rw [hM3]
 exact ⟨rfl, (Ex.refl w)⟩
set_option maxRecDepth 100000 in
set_option maxHeartbeats 2000000 in
theorem c_g_strings_IndexByte {w : World} (p_s : Str) (p_c : Int) (o1 : okS p_s) : Cal Try.prog 224 #[.string (bs (p_s)), .int .u8 (p_c)] w fun v w' => v = .int .i64 ((g_strings_IndexByte p_s p_c)) ∧ Ex w w' := by
 have hol2 : p_s.length ≤ 1073741824 := o1
 refine Cal.of (vs := [.string (bs (p_s)), .int .u8 (p_c)]) Try.func224 rfl Try.ntmps224 rfl (CW.seq (CW.region (sd rfl (yl_assign rfl rfl (SeqR.done (tn (CW.seq (CW.region (sd rfl (yl_move rfl rfl ?_))))))))))
 refine sd rfl (yl_move rfl rfl (sd rfl (yl_call Try.en230 rfl (opvs_cons rfl (opvs_cons rfl opvs_nil)) (Cal.mono (c_g_internal_stringslite_IndexByte p_s p_c o1) ?_))))
 rintro v4 w3 ⟨rfl, hE5⟩
 have hE5z := Ex.size hE5
 refine sd rfl (yl_assign rfl rfl (SeqR.done (tn (CW.ret (rr rfl (.cons rfl .nil) ?_)))))
 have hM6 : (g_strings_IndexByte p_s p_c) = ((g_internal_stringslite_IndexByte p_s p_c)) := by simp only [g_strings_IndexByte, cond_true, cond_false, loopE_done, loopE_ret]
 rw [hM6]
 exact ⟨rfl, (Ex.trans (Ex.refl w) hE5)⟩
set_option maxRecDepth 100000 in
set_option maxHeartbeats 2000000 in
theorem c_i_hasBytes {w : World} (p_s : Str) (p_others : Str) (o1 : okS p_s) (o2 : okS p_others) : Cal Try.prog 213 #[.string (bs (p_s)), .string (bs (p_others))] w fun v w' => v = .bool ((i_hasBytes p_s p_others)) ∧ Ex w w' := by
 have hol3 : p_s.length ≤ 1073741824 := o1
 have hol4 : p_others.length ≤ 1073741824 := o2
 refine Cal.of (vs := [.string (bs (p_s)), .string (bs (p_others))]) Try.func213 rfl Try.ntmps213 rfl (CW.seq (CW.region (sd rfl (yl_assign rfl rfl (SeqR.done (tn (CW.seq (CW.seq (CW.region ?_)))))))))
 refine sd rfl (yl_move rfl rfl (sd rfl (yl_slen Try.un9 (a := p_s) rfl rfl (sd rfl (yl_move rfl rfl (SeqR.done (tn (CW.block (CW.loop (fun m6 L7 w8 => ∃ (k5 : Nat), m6 = p_s.length - k5 ∧ k5 ≤ p_s.length ∧ w.heap.size ≤ w8.heap.size ∧ lkp L7 0 = some (.string (bs (p_s))) ∧ lkp L7 1 = some (.string (bs (p_others))) ∧ lkp L7 7 = some (.int .i64 ((p_s.length : Int))) ∧ lkp L7 8 = some (.int .i64 ((k5 : Int))) ∧ Ex w w8 ∧ loopM (B_i_hasBytes_0 p_s p_others) (p_s.length - k5) k5 () = loopM (B_i_hasBytes_0 p_s p_others) (p_s.length - 0) 0 ()) (p_s.length - 0) ?_ ?_)))))))))
 ·exact ⟨0, rfl, (by omega), Nat.le_refl _, rfl, rfl, rfl, rfl, (Ex.refl w), rfl⟩
 ·rintro m9 L10 w11 ⟨k5, rfl, hk12, hsz14, hl15, hl16, hl17, hl18, hf19, hI13⟩
  refine CW.sub (Sub.cons hl15 (Sub.cons hl16 (Sub.cons hl17 (Sub.cons hl18 (Sub.nil _))))) ?_
  have hf19z := Ex.size hf19
  have hbg20 : p_s.length ≤ 1073741824 := o1
  rcases Nat.lt_or_ge k5 p_s.length with hlt21 | hlt21
  ·refine CW.seq (CW.region (sd rfl (yl_lss rfl rfl rfl (SeqR.done (tn (CW.seq (CW.cond_t rfl (lt_t hlt21) (CW.skip (tn ?_)))))))))
   refine CW.seq (CW.block (CW.seq (CW.region (sd rfl (yl_move rfl rfl (sd rfl (yl_assign rfl rfl (SeqR.done (tn (CW.seq ?_))))))))))
   refine CW.region (sd rfl (yl_move rfl rfl (sd rfl (yl_move rfl rfl (sd rfl (yl_sindexN Try.un9 (a := p_s) rfl rfl rfl (by first | omega | assumption | (simp only [IntKind.wrap_i64] at *; omega)) (sd rfl (yl_call Try.en223 rfl (opvs_cons rfl opvs_nil) (Cal.mono (c_i_isLowerOrDigit ((p_s.getD k5 0).toNat : Int)) ?_)))))))))
   rintro v23 w22 ⟨rfl, hE24⟩
   have hE24z := Ex.size hE24
   refine sd rfl (yl_not rfl rfl (sd rfl (yl_move rfl rfl (bcase (i_isLowerOrDigit ((p_s.getD k5 0).toNat : Int)) (fun hb25 => ?_) (fun hb25 => ?_)))))
   ·refine sz rfl rfl (not_t hb25) (sz rfl rfl (not_t hb25) (sz rfl rfl (not_t hb25) (sz rfl rfl (not_t hb25) (sz rfl rfl (not_t hb25) (sz rfl rfl (not_t hb25) (sd rfl (yl_pick_f rfl rfl (not_t hb25) rfl (SeqR.done (tn ?_)))))))))
    refine CW.cond_f rfl rfl (CW.skip (bn (tn (CW.region (sd rfl (yl_inc rfl rfl rfl (by omega) (sd rfl (yl_move rfl rfl (SeqR.done (tn ?_))))))))))
    have hB26 : B_i_hasBytes_0 p_s p_others k5 () = .cont () := by simp only [B_i_hasBytes_0, hb25, cond_true, cond_false, loopE_done, loopE_ret]
    exact ⟨p_s.length - (k5 + 1), by omega, k5 + 1, rfl, hlt21, (by omega), rfl, rfl, rfl, rfl, (Ex.trans hf19 hE24), (loopM.cont hlt21 hB26).symm.trans hI13⟩
   ·refine sy rfl rfl (not_f hb25) (yl_move rfl rfl (sy rfl rfl (not_f hb25) (yl_move rfl rfl (sy rfl rfl (not_f hb25) (yl_move rfl rfl (sy rfl rfl (not_f hb25) (yl_sindexN Try.un9 (a := p_s) rfl rfl rfl (by first | omega | assumption | (simp only [IntKind.wrap_i64] at *; omega)) (sy rfl rfl (not_f hb25) (yl_call Try.en224 rfl (opvs_cons rfl (opvs_cons rfl opvs_nil)) (Cal.mono (c_g_strings_IndexByte p_others ((p_s.getD k5 0).toNat : Int) o2) ?_))))))))))
    rintro v29 w28 ⟨rfl, hE30⟩
    have hE30z := Ex.size hE30
    refine sy rfl rfl (not_f hb25) (yl_lss rfl rfl rfl (sd rfl (yl_pick_t rfl rfl (not_f hb25) rfl (SeqR.done (tn (bcase (decide ((g_strings_IndexByte p_others ((p_s.getD k5 0).toNat : Int)) < 0)) (fun hb31 => ?_) (fun hb31 => ?_)))))))
    ·have hb31p := dec_t hb31
     refine CW.cond_t rfl hb31 (CW.seq (CW.region (sd rfl (yl_assign rfl rfl (SeqR.done (tn (CW.ret (br (tr ?_)))))))))
     refine tr ?_
     have hB33 : B_i_hasBytes_0 p_s p_others k5 () = .ret false := by simp only [B_i_hasBytes_0, hb25, hb31, cond_true, cond_false, loopE_done, loopE_ret]
     have hL32 : loopM (B_i_hasBytes_0 p_s p_others) (p_s.length - 0) 0 () = .ret false := hI13.symm.trans (loopM.ret hlt21 hB33)
     refine br (tr (rr rfl (.cons rfl .nil) ?_))
     have hM34 : (i_hasBytes p_s p_others) = (false) := by simp only [i_hasBytes, hb25, hb31, hL32, cond_true, cond_false, loopE_done, loopE_ret]
     rw [hM34]
     exact ⟨rfl, (Ex.trans (Ex.trans hf19 hE24) hE30)⟩
    ·have hb31p := dec_f hb31
     refine CW.cond_f rfl hb31 (CW.skip (bn (tn (CW.region (sd rfl (yl_inc rfl rfl rfl (by omega) (sd rfl (yl_move rfl rfl (SeqR.done (tn ?_))))))))))
     have hB37 : B_i_hasBytes_0 p_s p_others k5 () = .cont () := by simp only [B_i_hasBytes_0, hb25, hb31, cond_true, cond_false, loopE_done, loopE_ret]
     exact ⟨p_s.length - (k5 + 1), by omega, k5 + 1, rfl, hlt21, (by omega), rfl, rfl, rfl, rfl, (Ex.trans (Ex.trans hf19 hE24) hE30), (loopM.cont hlt21 hB37).symm.trans hI13⟩
  ·refine CW.seq (CW.region (sd rfl (yl_lss rfl rfl rfl (SeqR.done (tn (CW.seq (CW.cond_f rfl (lt_f hlt21) (CW.exit (tx ?_)))))))))
   refine tx ?_
   have hL40 : loopM (B_i_hasBytes_0 p_s p_others) (p_s.length - 0) 0 () = .done () := hI13.symm.trans (loopM.stop hlt21)
   refine bx (tn (CW.seq (CW.region (sd rfl (yl_assign rfl rfl (SeqR.done (tn (CW.ret (rr rfl (.cons rfl .nil) ?_)))))))))
   have hM41 : (i_hasBytes p_s p_others) = (true) := by simp only [i_hasBytes, hL40, cond_true, cond_false, loopE_done, loopE_ret]
   rw [hM41]
   exact ⟨rfl, hf19⟩
set_option maxRecDepth 100000 in
set_option maxHeartbeats 2000000 in
theorem c_i_GoodKey {w : World} (p_s : Str) (o1 : okS p_s) : Cal Try.prog 207 #[.string (bs (p_s))] w fun v w' => v = .bool ((i_GoodKey p_s)) ∧ Ex w w' := by
 have hol2 : p_s.length ≤ 1073741824 := o1
 refine Cal.of (vs := [.string (bs (p_s))]) Try.func207 rfl Try.ntmps207 rfl (CW.seq (CW.region (sd rfl (yl_assign rfl rfl (SeqR.done (tn (CW.seq (CW.region (sd rfl (yl_move rfl rfl ?_))))))))))
 refine sd rfl (yl_slen Try.un9 (a := p_s) rfl rfl (sd rfl (yl_call Try.en77 rfl (opvs_cons rfl (opvs_cons rfl (opvs_cons rfl opvs_nil))) (Cal.mono (c_i_within (p_s.length : Int) 1 12) ?_))))
 rintro v4 w3 ⟨rfl, hE5⟩
 have hE5z := Ex.size hE5
 refine sd rfl (yl_move rfl rfl (bcase (i_within (p_s.length : Int) 1 12) (fun hb6 => ?_) (fun hb6 => ?_)))
 ·have hb6p := f_within hb6
  refine sy rfl rfl hb6 (yl_move rfl rfl (sy rfl rfl hb6 (yl_call Try.en213 rfl (opvs_cons rfl (opvs_cons rfl opvs_nil)) (Cal.mono (c_i_hasBytes p_s ([46, 47] : Str) o1 (okS.lit rfl)) ?_))))
  rintro v8 w7 ⟨rfl, hE9⟩
  have hE9z := Ex.size hE9
  refine sd rfl (yl_pick_t rfl rfl hb6 rfl (sd rfl (yl_assign rfl rfl (SeqR.done (tn (CW.ret (rr rfl (.cons rfl .nil) ?_)))))))
  have hM10 : (i_GoodKey p_s) = ((i_hasBytes p_s ([46, 47] : Str))) := by simp only [i_GoodKey, hb6, cond_true, cond_false, loopE_done, loopE_ret]
  rw [hM10]
  exact ⟨rfl, (Ex.trans (Ex.trans (Ex.refl w) hE5) hE9)⟩
 ·refine sz rfl rfl hb6 (sz rfl rfl hb6 (sd rfl (yl_pick_f rfl rfl hb6 rfl (sd rfl (yl_assign rfl rfl (SeqR.done (tn (CW.ret (rr rfl (.cons rfl .nil) ?_)))))))))
  have hM13 : (i_GoodKey p_s) = (false) := by simp only [i_GoodKey, hb6, cond_true, cond_false, loopE_done, loopE_ret]
  rw [hM13]
  exact ⟨rfl, (Ex.trans (Ex.refl w) hE5)⟩
set_option maxRecDepth 100000 in
set_option maxHeartbeats 2000000 in
theorem c_i_areRising {A1 : Option Addr} {c1 : Nat} {w : World} (p_keys : List Str) (h1 : RdS w (Iv 0 w.heap.size) (RF e_Str) 1 A1 p_keys.length c1 p_keys) (o2 : (okL okS) p_keys) : Cal Try.prog 168 #[.slice A1 p_keys.length c1] w fun v w' => v = .bool ((i_areRising p_keys)) ∧ Ex w w' := by
 have hol3 := o2.1
 refine Cal.of (vs := [.slice A1 p_keys.length c1]) Try.func168 rfl Try.ntmps168 rfl (CW.seq (CW.region (sd rfl (yl_assign rfl rfl (SeqR.done (tn (CW.seq (CW.seq (CW.region ?_)))))))))
 refine sd rfl (yl_move rfl rfl (sd rfl (yl_len Try.un22 rfl rfl (sd rfl (yl_move rfl rfl (SeqR.done (tn (CW.block (CW.loop (fun m5 L6 w7 => ∃ (k4 : Nat), m5 = p_keys.length - k4 ∧ k4 ≤ p_keys.length ∧ w.heap.size ≤ w7.heap.size ∧ lkp L6 0 = some (.slice A1 p_keys.length c1) ∧ lkp L6 5 = some (.slice A1 p_keys.length c1) ∧ lkp L6 6 = some (.int .i64 ((p_keys.length : Int))) ∧ lkp L6 7 = some (.int .i64 ((k4 : Int))) ∧ RdS w7 (Iv 0 w.heap.size) (RF e_Str) 1 A1 p_keys.length c1 p_keys ∧ Ex w w7 ∧ loopM (B_i_areRising_0 p_keys) (p_keys.length - k4) k4 () = loopM (B_i_areRising_0 p_keys) (p_keys.length - 0) 0 ()) (p_keys.length - 0) ?_ ?_)))))))))
 ·exact ⟨0, rfl, (by omega), Nat.le_refl _, rfl, rfl, rfl, rfl, h1, (Ex.refl w), rfl⟩
 ·rintro m8 L9 w10 ⟨k4, rfl, hk11, hsz13, hl14, hl15, hl16, hl17, hf18, hf19, hI12⟩
  refine CW.sub (Sub.cons hl14 (Sub.cons hl15 (Sub.cons hl16 (Sub.cons hl17 (Sub.nil _))))) ?_
  have hf19z := Ex.size hf19
  have hbg20 := RdS.big hf18
  rcases Nat.lt_or_ge k4 p_keys.length with hlt21 | hlt21
  ·refine CW.seq (CW.region (sd rfl (yl_lss rfl rfl rfl (SeqR.done (tn (CW.seq (CW.cond_t rfl (lt_t hlt21) (CW.skip (tn ?_)))))))))
   refine CW.seq (CW.block (CW.seq (CW.region (sd rfl (yl_move rfl rfl ?_)))))
   obtain ⟨eb22, eo22, ec22, eA22, eS22, ebl22, el22, eR22, eC22⟩ := RdS.atD hf18 d_Str (i := k4) (by first | omega | assumption)
   obtain rfl := eR22
   have eC22 : Cells w10 eb22 (eo22 + k4 * 1) [.string (bs ((p_keys.getD k4 d_Str)))] := eC22
   refine sd rfl (yl_indexAddrN Try.un22 Try.ty9 rfl rfl rfl eA22 (by first | omega | assumption | (simp only [IntKind.wrap_i64] at *; omega)) (sd rfl (yl_load1 Try.ty9 rfl rfl (eC22 0 _ rfl) (sd rfl (yl_assign rfl rfl (sd rfl (yl_assign rfl rfl (SeqR.done (tn (CW.seq (CW.region (sd rfl (yl_move rfl rfl ?_)))))))))))))
   refine sd rfl (yl_call Try.en207 rfl (opvs_cons rfl opvs_nil) (Cal.mono (c_i_GoodKey (p_keys.getD k4 d_Str) (okL.getD o2 ok_d_Str _)) ?_))
   rintro v24 w23 ⟨rfl, hE25⟩
   have hE25z := Ex.size hE25
   refine sd rfl (yl_not rfl rfl (sd rfl (yl_move rfl rfl (bcase (i_GoodKey (p_keys.getD k4 d_Str)) (fun hb26 => ?_) (fun hb26 => ?_)))))
   ·refine sy rfl rfl (not_t hb26) (yl_move rfl rfl (sy rfl rfl (not_t hb26) (yl_gtr rfl rfl rfl (sy rfl rfl (not_t hb26) (yl_move rfl rfl (bcase (decide (0 < (k4 : Int))) (fun hb27 => ?_) (fun hb27 => ?_)))))))
    ·have hb27p := dec_t hb27
     refine sy rfl rfl hb27 (yl_move rfl rfl (sy rfl rfl hb27 (yl_move rfl rfl (sy rfl rfl hb27 (yl_move rfl rfl (sy rfl rfl hb27 (yl_sub rfl rfl rfl ?_)))))))
     have q28 := RdS.ex good_Str hf18 hE25
     obtain ⟨eb29, eo29, ec29, eA29, eS29, ebl29, el29, eR29, eC29⟩ := RdS.atD q28 d_Str (i := (IntKind.wrap .i64 ((k4 : Int) - 1)).toNat) (by first | omega | assumption | (simp only [IntKind.wrap_i64] at *; omega))
     obtain rfl := eR29
     have eC29 : Cells w23 eb29 (eo29 + ((IntKind.wrap .i64 ((k4 : Int) - 1)).toNat) * 1) [.string (bs ((p_keys.getD ((IntKind.wrap .i64 ((k4 : Int) - 1)).toNat) d_Str)))] := eC29
     refine sy rfl rfl hb27 (yl_indexAddr Try.un22 Try.ty9 rfl rfl rfl eA29 (by first | omega | assumption | (simp only [IntKind.wrap_i64] at *; omega)) (by first | omega | assumption | (simp only [IntKind.wrap_i64] at *; omega)) (sy rfl rfl hb27 (yl_load1 Try.ty9 rfl rfl (eC29 0 _ rfl) (sy rfl rfl hb27 (yl_sleq (a := (p_keys.getD k4 d_Str)) (b := (p_keys.getD ((IntKind.wrap .i64 ((k4 : Int) - 1)).toNat) d_Str)) rfl rfl rfl (sy rfl rfl (not_t hb26) (yl_pick_t rfl rfl hb27 rfl (sd rfl (yl_pick_f rfl rfl (not_t hb26) rfl (SeqR.done (tn (bcase (sLe (p_keys.getD k4 d_Str) (p_keys.getD ((IntKind.wrap .i64 ((k4 : Int) - 1)).toNat) d_Str)) (fun hb30 => ?_) (fun hb30 => ?_)))))))))))))
     ·refine CW.cond_t rfl hb30 (CW.seq (CW.region (sd rfl (yl_assign rfl rfl (SeqR.done (tn (CW.ret (br (tr ?_)))))))))
      refine tr ?_
      have hB32 : B_i_areRising_0 p_keys k4 () = .ret false := by simp only [B_i_areRising_0, hb26, hb27, hb30, cond_true, cond_false, loopE_done, loopE_ret]
      have hL31 : loopM (B_i_areRising_0 p_keys) (p_keys.length - 0) 0 () = .ret false := hI12.symm.trans (loopM.ret hlt21 hB32)
      refine br (tr (rr rfl (.cons rfl .nil) ?_))
      have hM33 : (i_areRising p_keys) = (false) := by simp only [i_areRising, hb26, hb27, hb30, hL31, cond_true, cond_false, loopE_done, loopE_ret]
      rw [hM33]
      exact ⟨rfl, (Ex.trans hf19 hE25)⟩
     ·refine CW.cond_f rfl hb30 (CW.skip (bn (tn (CW.region (sd rfl (yl_inc rfl rfl rfl (by omega) (sd rfl (yl_move rfl rfl (SeqR.done (tn ?_))))))))))
      have hB35 : B_i_areRising_0 p_keys k4 () = .cont () := by simp only [B_i_areRising_0, hb26, hb27, hb30, cond_true, cond_false, loopE_done, loopE_ret]
      exact ⟨p_keys.length - (k4 + 1), by omega, k4 + 1, rfl, hlt21, (by omega), rfl, rfl, rfl, rfl, q28, (Ex.trans hf19 hE25), (loopM.cont hlt21 hB35).symm.trans hI12⟩
    ·have hb27p := dec_f hb27
     refine sz rfl rfl hb27 (sz rfl rfl hb27 (sz rfl rfl hb27 (sz rfl rfl hb27 (sz rfl rfl hb27 (sz rfl rfl hb27 (sz rfl rfl hb27 (sy rfl rfl (not_t hb26) (yl_pick_f rfl rfl hb27 rfl (sd rfl (yl_pick_f rfl rfl (not_t hb26) rfl ?_))))))))))
     refine SeqR.done (tn (CW.cond_f rfl rfl (CW.skip (bn (tn (CW.region (sd rfl (yl_inc rfl rfl rfl (by omega) (sd rfl (yl_move rfl rfl ?_))))))))))
     refine SeqR.done (tn ?_)
     have hB37 : B_i_areRising_0 p_keys k4 () = .cont () := by simp only [B_i_areRising_0, hb26, hb27, cond_true, cond_false, loopE_done, loopE_ret]
     exact ⟨p_keys.length - (k4 + 1), by omega, k4 + 1, rfl, hlt21, (by omega), rfl, rfl, rfl, rfl, (RdS.ex good_Str hf18 hE25), (Ex.trans hf19 hE25), (loopM.cont hlt21 hB37).symm.trans hI12⟩
   ·refine sz rfl rfl (not_f hb26) (sz rfl rfl (not_f hb26) (sz rfl rfl (not_f hb26) (sq rfl rfl (sq rfl rfl (sq rfl rfl (sq rfl rfl (sq rfl rfl (sq rfl rfl ?_))))))))
    refine sq rfl rfl (sz rfl rfl (not_f hb26) (sd rfl (yl_pick_t rfl rfl (not_f hb26) rfl (SeqR.done (tn (CW.cond_t rfl rfl (CW.seq (CW.region (sd rfl (yl_assign rfl rfl ?_))))))))))
    refine SeqR.done (tn (CW.ret (br (tr (tr ?_)))))
    have hB41 : B_i_areRising_0 p_keys k4 () = .ret false := by simp only [B_i_areRising_0, hb26, cond_true, cond_false, loopE_done, loopE_ret]
    have hL40 : loopM (B_i_areRising_0 p_keys) (p_keys.length - 0) 0 () = .ret false := hI12.symm.trans (loopM.ret hlt21 hB41)
    refine br (tr (rr rfl (.cons rfl .nil) ?_))
    have hM42 : (i_areRising p_keys) = (false) := by simp only [i_areRising, hb26, hL40, cond_true, cond_false, loopE_done, loopE_ret]
    rw [hM42]
    exact ⟨rfl, (Ex.trans hf19 hE25)⟩
  ·refine CW.seq (CW.region (sd rfl (yl_lss rfl rfl rfl (SeqR.done (tn (CW.seq (CW.cond_f rfl (lt_f hlt21) (CW.exit (tx ?_)))))))))
   refine tx ?_
   have hL44 : loopM (B_i_areRising_0 p_keys) (p_keys.length - 0) 0 () = .done () := hI12.symm.trans (loopM.stop hlt21)
   refine bx (tn (CW.seq (CW.region (sd rfl (yl_assign rfl rfl (SeqR.done (tn (CW.ret (rr rfl (.cons rfl .nil) ?_)))))))))
   have hM45 : (i_areRising p_keys) = (true) := by simp only [i_areRising, hL44, cond_true, cond_false, loopE_done, loopE_ret]
   rw [hM45]
   exact ⟨rfl, hf19⟩
end Go.Proofs.Ytdbobbmagmcpnaa
