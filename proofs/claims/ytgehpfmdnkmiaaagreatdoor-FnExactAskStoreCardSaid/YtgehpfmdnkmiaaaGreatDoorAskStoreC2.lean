/- Ask Store: what each call returns, part 2. -/
import Derived.Test.YtgehpfmdnkmiaaaGreatDoorAskStoreC1
set_option maxRecDepth 100000
set_option maxHeartbeats 2000000
open Go.Proofs.Tryz Go.Proofs.YtgehpfmdnkmiaaaGreatDoor.Tryz
set_option linter.unusedVariables false
set_option linter.unusedSimpArgs false
namespace Go.Proofs.YtgehpfmdnkmiaaaGreatDoor
open Go.RowKit Go.X
theorem c_s_l25Read {A1 : Option Addr} {c1 : Nat} {A2 : Option Addr} {c2 : Nat} {w : World} (p_t : DTable) (p_w : DWrite) (h1 : RdS w (Iv 0 w.heap.size) (RF e_Str) 1 A1 p_t.Cols.length c1 p_t.Cols) (h2 : RdS w (Iv 0 w.heap.size) (RF e_Idx) 3 A2 p_t.Idxs.length c2 p_t.Idxs) (o3 : ok_Table p_t) (o4 : ok_Write p_w) : Cal Tryz.prog 108 #[.agg #[.string (bs (p_t.Name)), .slice A1 p_t.Cols.length c1, .slice A2 p_t.Idxs.length c2], .agg #[.string (bs (p_w.Key)), .string (bs (p_w.Val)), .bool (p_w.Gone)]] w fun v w' => ∃ A_1 c_1 lo_1 hi_1, v = .tuple #[.agg #[.slice A_1 (((s_l25Read p_t p_w).1.Vals).length) c_1], .bool ((s_l25Read p_t p_w).2)] ∧ OwnL w' lo_1 hi_1 9 1 (RF e_Str) A_1 (((s_l25Read p_t p_w).1.Vals).length) c_1 ((s_l25Read p_t p_w).1.Vals) ∧ ok_Row ((s_l25Read p_t p_w).1) ∧ (w.heap.size ≤ lo_1 ∧ lo_1 ≤ hi_1 ∧ hi_1 ≤ w'.heap.size) ∧ Ex w w' := by
 have hol5 : p_t.Name.length ≤ 1073741824 := o3.1
 have hol6 := o3.2.1.1
 have hol7 := o3.2.2.1
 have hol8 : p_w.Key.length ≤ 1073741824 := o4.1
 have hol9 : p_w.Val.length ≤ 1073741824 := o4.2
 refine Cal.of func108 rfl ntmps108 rfl (cR (sd rfl (yl_box rfl rfl rfl ?_)))
 intro b10 w11 hs12 hz13 hB14 hE15
 refine sd rfl (yl_box rfl rfl rfl ?_)
 intro b16 w17 hs18 hz19 hB20 hE21
 refine sd rfl (yB ty45 (cs := [.slice none 0 0]) rfl rfl ?_)
 intro b22 w23 hs24 hz25 hB26 hE27
 refine sA rfl (dn (CW.seq (cR (sd rfl (yl_fieldAddr fd70_0 rfl rfl ?_)))))
 have q28 := Box.ex hB20 hE27
 refine sd rfl (yl_load1 ty9 rfl rfl ((q28.cell 0).trans rfl) (sd rfl (yl_slen un9 (a := p_w.Key) rfl rfl (sd rfl (yl_lss rfl rfl rfl (dn (bcase (decide ((p_w.Key.length : Int) < 3)) (fun hb29 => ?_) (fun hb29 => ?_))))))))
 ·have hb29p := dec_t hb29
  refine CW.cond_t rfl hb29 (cR (sd rfl (yl_build (cs := [.slice none 0 0]) rfl opvs_nil (by kernel_rfl) (SeqR.u rfl rfl (yl_store (vs := [.slice none 0 0]) ty45 rfl rfl rfl rfl rfl rfl hB26 (nb rfl) ?_)))))
  intro w30 hB31 hO32
  have hB31 : Box w30 b22 45 [.slice none 0 0] := hB31
  have hO32z := hO32.size
  refine sA rfl (dn (CW.ret (tr (rr rfl (.cons ⟨_, rfl, run_loadN ty45 (cs := [.slice none 0 0]) rfl (hB31.cells (n := 1) rfl)⟩ (.cons rfl .nil)) ?_))))
  have hM33 : (s_l25Read p_t p_w) = (((⟨[]⟩ : DRow), false)) := by simp only [s_l25Read, hb29, cL]
  rw [hM33]
  exact ⟨none, 0, w30.heap.size, w30.heap.size, rfl, (OwnL.nil _ _ _ _ _ _), (okL.nil _), oM, (Below.only (Ex.trans (Ex.trans (Ex.trans (Ex.refl w) hE15) hE21) hE27) hO32 oM)⟩
 ·have hb29p := dec_f hb29
  refine CW.cond_f rfl hb29 (CW.skip (tn (CW.seq ?_)))
  have hrf49 := rf_l1Split p_w.Val 44
  refine CW.drawsG 10 (fun _ _ => False) (fun _ _ _ => False) (vgetG [DetG (.pointer (some ⟨b16, 0 + 0, none⟩)), DetG (.string (bs (p_w.Key))), DetG (.string (bs ((p_w.Key.drop 2)))), fun G v wq => ∃ A38, v = .slice A38 1 1 ∧ (G.dn 7 = false → OwnL wq (G.fl 3) (G.fh 3) 9 1 (RF e_Str) A38 1 1 ([(p_w.Key.drop 2)] : List Str)), DetG (.pointer (some ⟨b16, 0 + 1, none⟩)), DetG (.string (bs (p_w.Val))), fun G v wq => ∃ A42 c42 lo42 hi42, v = .slice A42 ((s_l1Split p_w.Val 44).length) c42 ∧ OwnL wq lo42 hi42 9 1 (RF e_Str) A42 ((s_l1Split p_w.Val 44).length) c42 (s_l1Split p_w.Val 44) ∧ (okL okS) (s_l1Split p_w.Val 44) ∧ ((G.fl 6) ≤ lo42 ∧ lo42 ≤ hi42 ∧ hi42 ≤ (G.fh 6)), fun G v wq => ∃ A44 c45, v = .slice A44 ((([(p_w.Key.drop 2)] : List Str) ++ (s_l1Split p_w.Val 44)).length) c45 ∧ OwnL wq (G.fl 7) (G.fh 7) 9 1 (RF e_Str) A44 ((([(p_w.Key.drop 2)] : List Str) ++ (s_l1Split p_w.Val 44)).length) c45 (([(p_w.Key.drop 2)] : List Str) ++ (s_l1Split p_w.Val 44)), fun G v wq => ∃ A44 c45, v = .agg #[.slice A44 ((([(p_w.Key.drop 2)] : List Str) ++ (s_l1Split p_w.Val 44)).length) c45] ∧ OwnL wq (G.fl 7) (G.fh 7) 9 1 (RF e_Str) A44 ((([(p_w.Key.drop 2)] : List Str) ++ (s_l1Split p_w.Val 44)).length) c45 (([(p_w.Key.drop 2)] : List Str) ++ (s_l1Split p_w.Val 44)), fun G v wq => v = .pointer (some ⟨(G.fl 9), 0, none⟩) ∧ Box wq (G.fl 9) 45 [.slice none 0 0] ∧ (G.fl 9) < (G.fh 9)]) Tryz.follows rfl rfl rfl rfl rfl rfl (fun _ _ _ _ _ h => h) (fun _ _ _ _ _ _ _ _ _ h => h.elim) (vgetG_kept ⟨(KeptG.det _), (KeptG.det _), (KeptG.det _), (by rintro i G v w w' K hn hh hj ⟨A38, hv, h0⟩ e; have d3 : G.dn 3 = true := hj; have u3 := Gh.ufl (lo := w.heap.size) (hi := w'.heap.size) d3 hn; have t3 := Gh.ufh (lo := w.heap.size) (hi := w'.heap.size) d3 hn; exact ⟨A38, hv, (by intro hd; simp only [u3, t3]; exact OwnL.chg gS (h0 (Gh.off hd).2) e (fun b hb hp => by exact hp.elim))⟩), (KeptG.det _), (KeptG.det _), (by rintro i G v w w' K hn hh hj ⟨A42, c42, lo42, hi42, hv, h0, h1, hr0⟩ e; have d6 : G.dn 6 = true := hj; have u6 := Gh.ufl (lo := w.heap.size) (hi := w'.heap.size) d6 hn; have t6 := Gh.ufh (lo := w.heap.size) (hi := w'.heap.size) d6 hn; exact ⟨A42, c42, lo42, hi42, hv, (by exact OwnL.chg gS h0 e (fun b hb hp => by exact hp.elim)), h1, (by simp only [u6, t6]; exact hr0)⟩), (by rintro i G v w w' K hn hh hj ⟨A44, c45, hv, h0⟩ e; have d7 : G.dn 7 = true := hj; have u7 := Gh.ufl (lo := w.heap.size) (hi := w'.heap.size) d7 hn; have t7 := Gh.ufh (lo := w.heap.size) (hi := w'.heap.size) d7 hn; exact ⟨A44, c45, hv, (by simp only [u7, t7]; exact OwnL.chg gS h0 e (fun b hb hp => by exact hp.elim))⟩), (by rintro i G v w w' K hn hh hj ⟨A44, c45, hv, h0⟩ e; have d7 : G.dn 7 = true := K.cl 8 7 hj rfl; have u7 := Gh.ufl (lo := w.heap.size) (hi := w'.heap.size) d7 hn; have t7 := Gh.ufh (lo := w.heap.size) (hi := w'.heap.size) d7 hn; exact ⟨A44, c45, hv, (by simp only [u7, t7]; exact OwnL.chg gS h0 e (fun b hb hp => by exact hp.elim))⟩), (by rintro i G v w w' K hn hh hj ⟨hv, h0, he0⟩ e; have d9 : G.dn 9 = true := hj; have u9 := Gh.ufl (lo := w.heap.size) (hi := w'.heap.size) d9 hn; have t9 := Gh.ufh (lo := w.heap.size) (hi := w'.heap.size) d9 hn; exact ⟨(by simp only [u9, t9]; exact hv), (by simp only [u9, t9]; exact Box.chg h0 e (fun hp => by exact hp.elim)), (by simp only [u9, t9]; exact he0)⟩), trivial⟩) ⟨?_, ?_, ?_, ?_, ?_, ?_, ?_, ?_, ?_, ?_, trivial⟩ ?_
  ·intro L51 w52 G50 hgk53
   have hE54 := hgk53.st.ex.ex (fun b h => h.elim (fun h => h.elim) (fun h => h))
   have hE54z := Ex.size hE54
   exact OpR.op' rfl (Yl.sameG (yl_fieldAddr fd70_0 rfl (hgk53.old 3 _ rfl rfl) kI))
  ·intro L57 w58 G56 hgk59
   have hE60 := hgk59.st.ex.ex (fun b h => h.elim (fun h => h.elim) (fun h => h))
   have hE60z := Ex.size hE60
   obtain ⟨_, hx61, rfl⟩ := hgk59.val 0 12 rfl rfl
   exact OpR.op' rfl (Yl.sameG (yl_load1 ty9 rfl hx61 (((Box.ex q28 hE60).cell 0).trans rfl) kI))
  ·intro L64 w65 G63 hgk66
   have hE67 := hgk66.st.ex.ex (fun b h => h.elim (fun h => h.elim) (fun h => h))
   have hE67z := Ex.size hE67
   obtain ⟨_, hx68, rfl⟩ := hgk66.val 1 13 rfl rfl
   exact OpR.op' rfl (Yl.sameG (yl_sslice_lo un9 (a := p_w.Key) (l := 2) rfl hx68 rfl oM kI))
  ·intro L70 w71 G69 hgk72
   have hE73 := hgk72.st.ex.ex (fun b h => h.elim (fun h => h.elim) (fun h => h))
   have hE73z := Ex.size hE73
   obtain ⟨_, hx74, rfl⟩ := hgk72.val 2 14 rfl rfl
   refine OpR.op' rfl (yl_buildSlice (cs := [.string (bs ((p_w.Key.drop 2)))]) un22 ty9 (by decide) rfl (oc hx74 oz) (by kernel_rfl) ?_)
   intro b75 w76 hs77 hz78 hB79 hE80
   have hO81 : OwnL w76 b75 (b75 + 1) 9 1 (RF e_Str) (some ⟨b75, 0, none⟩) 1 1 ([(p_w.Key.drop 2)] : List Str) := OwnL.of_box (S := fun _ => False) hB79 (Nat.le_refl _) (Nat.lt_succ_self _) (EncL.cons (c := [.string (bs ((p_w.Key.drop 2)))]) rfl rfl EncL.nil) (nb rfl) (fun h => h) (fun _ h => False.elim h)
   exact ⟨Chg.of_ex hE80, (some ⟨b75, 0, none⟩), rfl, fun _ => OwnL.more (lo' := w71.heap.size) (hi' := w76.heap.size) hO81 oM oM⟩
  ·intro L83 w84 G82 hgk85
   have hE86 := hgk85.st.ex.ex (fun b h => h.elim (fun h => h.elim) (fun h => h))
   have hE86z := Ex.size hE86
   exact OpR.op' rfl (Yl.sameG (yl_fieldAddr fd70_1 rfl (hgk85.old 3 _ rfl rfl) kI))
  ·intro L89 w90 G88 hgk91
   have hE92 := hgk91.st.ex.ex (fun b h => h.elim (fun h => h.elim) (fun h => h))
   have hE92z := Ex.size hE92
   obtain ⟨_, hx93, rfl⟩ := hgk91.val 4 16 rfl rfl
   exact OpR.op' rfl (Yl.sameG (yl_load1 ty9 rfl hx93 (((Box.ex q28 hE92).cell 1).trans rfl) kI))
  ·intro L96 w97 G95 hgk98
   have hE99 := hgk98.st.ex.ex (fun b h => h.elim (fun h => h.elim) (fun h => h))
   have hE99z := Ex.size hE99
   obtain ⟨_, hx100, rfl⟩ := hgk98.val 5 17 rfl rfl
   refine OpR.op' rfl (yC en109 rfl (oc hx100 (oc rfl oz)) (Cal.mono (c_s_l1Split p_w.Val 44 o4.2) ?_))
   rintro v104 w101 ⟨A102, c102, lo102, hi102, rfl, h102, ho103, hrn106, hE105⟩
   exact ⟨Chg.of_ex hE105, A102, c102, lo102, hi102, rfl, h102, ho103, hrn106⟩
  ·intro L108 w109 G107 hgk110
   have hE111 := hgk110.st.ex.ex (fun b h => h.elim (fun h => h.elim) (fun h => h))
   have hE111z := Ex.size hE111
   obtain ⟨_, hx112, A38_113, rfl, h114⟩ := hgk110.val 3 15 rfl rfl
   have h114 := h114 hgk110.new
   obtain ⟨_, hx115, A42_116, c42_117, lo42_118, hi42_119, rfl, h120, h121, hrn122⟩ := hgk110.val 6 18 rfl rfl
   have hr123 := hgk110.st.rng 3 (hgk110.has 3 rfl)
   have hr124 := hgk110.st.rng 6 (hgk110.has 6 rfl)
   have hsp125 := hgk110.st.sep 3 6 (hgk110.has 3 rfl) (hgk110.has 6 rfl) rfl
   have hol126 : (s_l1Split p_w.Val 44).length ≤ 2147483648 := h121.1
   refine OpR.op' rfl (yl_appendF (lo := w109.heap.size) (xs := ([(p_w.Key.drop 2)] : List Str)) (ys := (s_l1Split p_w.Val 44)) gS un22 ty9 rfl (nb rfl) rfl hx112 hx115 Bl (OwnL.rd gS h114) (OwnL.rd gS h120) Bl Bl Bl (Nat.le_refl _) (fun _ _ h => h) (fun _ _ h => h) ?_)
   intro A129 c130 w131 hO132 hE133 hrg134
   have hE133z := hE133.size
   exact ⟨Chg.of_ex hE133, A129, c130, rfl, OwnL.more (lo' := w109.heap.size) (hi' := w131.heap.size) hO132 oM oM⟩
  ·intro L136 w137 G135 hgk138
   have hE139 := hgk138.st.ex.ex (fun b h => h.elim (fun h => h.elim) (fun h => h))
   have hE139z := Ex.size hE139
   obtain ⟨_, hx140, A44_141, c45_142, rfl, h143⟩ := hgk138.val 7 19 rfl rfl
   have hr144 := hgk138.st.rng 7 (hgk138.has 7 rfl)
   exact OpR.op' rfl (Yl.sameG (yl_build (cs := [.slice A44_141 ((([(p_w.Key.drop 2)] : List Str) ++ (s_l1Split p_w.Val 44)).length) c45_142]) rfl (oc hx140 oz) (by kernel_rfl) ⟨fun _ _ => ⟨A44_141, c45_142, rfl, (OwnL.more (lo' := (G135.fl 7)) (hi' := (G135.fh 7)) h143 oM oM)⟩, rfl⟩))
  ·intro L146 w147 G145 hgk148
   have hE149 := hgk148.st.ex.ex (fun b h => h.elim (fun h => h.elim) (fun h => h))
   have hE149z := Ex.size hE149
   refine OpR.op' rfl (yB ty45 (cs := [.slice none 0 0]) rfl rfl ?_)
   intro b150 w151 hs152 hz153 hB154 hE155
   subst hs152
   exact ⟨Chg.of_ex hE155, rfl, hB154, by rw [Gh.sfl, Gh.sfh]; omega⟩
  ·intro G156 L157 w158 hgp159
   have hE160 := hgp159.st.ex.ex (fun b h => h.elim (fun h => h.elim) (fun h => h))
   have hE160z := Ex.size hE160
   obtain ⟨_, hx164, A42_165, c42_166, lo42_167, hi42_168, rfl, h169, h170, hrn171⟩ := hgp159.val 6 18 rfl rfl
   obtain ⟨_, hx172, A44_173, c45_174, rfl, h175⟩ := hgp159.val 7 19 rfl rfl
   obtain ⟨_, hx176, A44_177, c45_178, rfl, h179⟩ := hgp159.val 8 20 rfl rfl
   obtain ⟨_, hx180, rfl, h181, he182⟩ := hgp159.val 9 6 rfl rfl
   have hr183 := hgp159.st.rng 6 (hgp159.has 6 rfl)
   have hr184 := hgp159.st.rng 7 (hgp159.has 7 rfl)
   have hr185 := hgp159.st.rng 8 (hgp159.has 8 rfl)
   have hr186 := hgp159.st.rng 9 (hgp159.has 9 rfl)
   have hsp187 := hgp159.st.ord 7 6 (hgp159.has 7 rfl) rfl
   have hsp188 := hgp159.st.ord 8 6 (hgp159.has 8 rfl) rfl
   have hsp189 := hgp159.st.sep 6 9 (hgp159.has 6 rfl) (hgp159.has 9 rfl) rfl
   have hsp190 := hgp159.st.ord 8 7 (hgp159.has 8 rfl) rfl
   have hsp191 := hgp159.st.sep 7 9 (hgp159.has 7 rfl) (hgp159.has 9 rfl) rfl
   have hsp192 := hgp159.st.sep 8 9 (hgp159.has 8 rfl) (hgp159.has 9 rfl) rfl
   refine SeqR.u rfl rfl (yl_store (vs := [.slice A44_177 ((([(p_w.Key.drop 2)] : List Str) ++ (s_l1Split p_w.Val 44)).length) c45_178]) ty45 rfl hx180 hx176 rfl rfl rfl h181 (nb rfl) ?_)
   intro w193 hB194 hO195
   have hB194 : Box w193 (G156.fl 9) 45 [.slice A44_177 ((([(p_w.Key.drop 2)] : List Str) ++ (s_l1Split p_w.Val 44)).length) c45_178] := hB194
   have hO195z := hO195.size
   refine dn (CW.sub (sC 2 (hgp159.old 2 _ rfl rfl) (sC 3 (hgp159.old 3 _ rfl rfl) (sC 4 (hgp159.old 4 _ rfl rfl) (sC 6 hx180 (Sub.nil _))))) (CW.seq ?_))
   have hol212 : (s_l1Split p_w.Val 44).length ≤ 2147483648 := h170.1
   refine bcase (s_l25Good p_t (⟨(([(p_w.Key.drop 2)] : List Str) ++ (s_l1Split p_w.Val 44))⟩ : DRow)) (fun hb214 => ?_) (fun hb214 => ?_)
   ·obtain ⟨hb214p0, hb214p1⟩ := f_s_l25Good hb214
    have q218 := Box.only (Box.ex (Box.ex (Box.ex hB14 hE21) hE27) hE160) hO195 oM
    have q223 := RdS.only gS (RdS.ex gS (RdS.ex gS (RdS.ex gS (RdS.ex gS h1 hE15) hE21) hE27) hE160) hO195 (by simp only [Iv]; omega)
    have q228 := RdS.only gI (RdS.ex gI (RdS.ex gI (RdS.ex gI (RdS.ex gI h2 hE15) hE21) hE27) hE160) hO195 (by simp only [Iv]; omega)
    have q230 := OwnL.only gS h179 hO195 oM
    have hol231 : (s_l1Split p_w.Val 44).length ≤ 2147483648 := h170.1
    have hol234 : (s_l1Split p_w.Val 44).length ≤ 2147483648 := h170.1
    have q237 := Box.only (Box.ex q28 hE160) hO195 oM
    refine CW.drawsG 13 (fun G b => G.dn 11 = true ∧ InR [(b22, b22 + 1)] b) (fun i G b => (i = 11 ∧ b22 ≤ b ∧ b < b22 + 1)) (vgetG [DetG (.agg #[.slice A44_177 ((([(p_w.Key.drop 2)] : List Str) ++ (s_l1Split p_w.Val 44)).length) c45_178]), DetG (.agg #[.string (bs (p_t.Name)), .slice A1 p_t.Cols.length c1, .slice A2 p_t.Idxs.length c2]), DetG (.agg #[.slice A44_177 ((([(p_w.Key.drop 2)] : List Str) ++ (s_l1Split p_w.Val 44)).length) c45_178]), DetG (.bool ((s_l25Good p_t (⟨(([(p_w.Key.drop 2)] : List Str) ++ (s_l1Split p_w.Val 44))⟩ : DRow)))), DetG (.bool ((s_l25Good p_t (⟨(([(p_w.Key.drop 2)] : List Str) ++ (s_l1Split p_w.Val 44))⟩ : DRow)))), DetG (.agg #[.string (bs (p_t.Name)), .slice A1 p_t.Cols.length c1, .slice A2 p_t.Idxs.length c2]), DetG (.agg #[.slice A44_177 ((([(p_w.Key.drop 2)] : List Str) ++ (s_l1Split p_w.Val 44)).length) c45_178]), DetG (.agg #[.string (bs ((s_l25Write p_t (⟨(([(p_w.Key.drop 2)] : List Str) ++ (s_l1Split p_w.Val 44))⟩ : DRow)).Key)), .string (bs ((s_l25Write p_t (⟨(([(p_w.Key.drop 2)] : List Str) ++ (s_l1Split p_w.Val 44))⟩ : DRow)).Val)), .bool ((s_l25Write p_t (⟨(([(p_w.Key.drop 2)] : List Str) ++ (s_l1Split p_w.Val 44))⟩ : DRow)).Gone)]), DetG (.agg #[.string (bs (p_w.Key)), .string (bs (p_w.Val)), .bool (p_w.Gone)]), DetG (.bool (((((s_l25Write p_t (⟨(([(p_w.Key.drop 2)] : List Str) ++ (s_l1Split p_w.Val 44))⟩ : DRow)).Key) == p_w.Key) && ((((s_l25Write p_t (⟨(([(p_w.Key.drop 2)] : List Str) ++ (s_l1Split p_w.Val 44))⟩ : DRow)).Val) == p_w.Val) && (((s_l25Write p_t (⟨(([(p_w.Key.drop 2)] : List Str) ++ (s_l1Split p_w.Val 44))⟩ : DRow)).Gone) == p_w.Gone))))), DetG (.bool (((((s_l25Write p_t (⟨(([(p_w.Key.drop 2)] : List Str) ++ (s_l1Split p_w.Val 44))⟩ : DRow)).Key) == p_w.Key) && ((((s_l25Write p_t (⟨(([(p_w.Key.drop 2)] : List Str) ++ (s_l1Split p_w.Val 44))⟩ : DRow)).Val) == p_w.Val) && (((s_l25Write p_t (⟨(([(p_w.Key.drop 2)] : List Str) ++ (s_l1Split p_w.Val 44))⟩ : DRow)).Gone) == p_w.Gone))))), fun G v wq => Box wq b22 45 [.slice A44_177 ((([(p_w.Key.drop 2)] : List Str) ++ (s_l1Split p_w.Val 44)).length) c45_178], DetG (.bool (((((s_l25Write p_t (⟨(([(p_w.Key.drop 2)] : List Str) ++ (s_l1Split p_w.Val 44))⟩ : DRow)).Key) == p_w.Key) && ((((s_l25Write p_t (⟨(([(p_w.Key.drop 2)] : List Str) ++ (s_l1Split p_w.Val 44))⟩ : DRow)).Val) == p_w.Val) && (((s_l25Write p_t (⟨(([(p_w.Key.drop 2)] : List Str) ++ (s_l1Split p_w.Val 44))⟩ : DRow)).Gone) == p_w.Gone)))))]) Tryz.follows rfl rfl rfl rfl rfl rfl (fun _ _ _ _ _ h => ⟨Gh.udn h.1, h.2⟩) (fun i G w lo hi b K hn hh hp => by exact (match hp with | ⟨e, q1, q2⟩ => by subst e; exact .inl ⟨Gh.sdn, .inl ⟨q1, q2⟩⟩)) (vgetG_kept ⟨(KeptG.det _), (KeptG.det _), (KeptG.det _), (KeptG.det _), (KeptG.det _), (KeptG.det _), (KeptG.det _), (KeptG.det _), (KeptG.det _), (KeptG.det _), (KeptG.det _), (by rintro i G v w w' K hn hh hj h0 e; exact (by exact Box.chg h0 e (fun hp => by obtain ⟨rfl, q1, q2⟩ := hp; rw [hj] at hn; cases hn))), (KeptG.det _), trivial⟩) ⟨?_, ?_, ?_, ?_, ?_, ?_, ?_, ?_, ?_, ?_, ?_, ?_, ?_, trivial⟩ ?_
    ·intro L240 w241 G239 hgk242
     have hE243 := hgk242.st.ex.ex (fun b h => h.elim (fun h => hgk242.no rfl h) (fun h => h))
     have hE243z := Ex.size hE243
     exact OpR.op' rfl (Yl.sameG (yl_loadN ty45 rfl (hgk242.old 6 _ rfl rfl) ((Box.ex hB194 hE243).cells (n := 1) rfl) rfl kI))
    ·intro L247 w248 G246 hgk249
     have hE250 := hgk249.st.ex.ex (fun b h => h.elim (fun h => hgk249.no rfl h) (fun h => h))
     have hE250z := Ex.size hE250
     exact OpR.op' rfl (Yl.sameG (yl_loadN ty41 rfl (hgk249.old 2 _ rfl rfl) ((Box.ex q218 hE250).cells (n := 3) rfl) rfl kI))
    ·intro L254 w255 G253 hgk256
     have hE257 := hgk256.st.ex.ex (fun b h => h.elim (fun h => hgk256.no rfl h) (fun h => h))
     have hE257z := Ex.size hE257
     exact OpR.op' rfl (Yl.sameG (yl_loadN ty45 rfl (hgk256.old 6 _ rfl rfl) ((Box.ex hB194 hE257).cells (n := 1) rfl) rfl kI))
    ·intro L261 w262 G260 hgk263
     have hE264 := hgk263.st.ex.ex (fun b h => h.elim (fun h => hgk263.no rfl h) (fun h => h))
     have hE264z := Ex.size hE264
     obtain ⟨_, hx265, rfl⟩ := hgk263.val 1 22 rfl rfl
     obtain ⟨_, hx266, rfl⟩ := hgk263.val 2 23 rfl rfl
     have hol271 : (s_l1Split p_w.Val 44).length ≤ 2147483648 := h170.1
     refine OpR.op' rfl (yC en104 rfl (oc hx265 (oc hx266 oz)) (Cal.mono (c_s_l25Good p_t (⟨(([(p_w.Key.drop 2)] : List Str) ++ (s_l1Split p_w.Val 44))⟩ : DRow) (RdS.up (RdS.ex gS q223 hE264) gS) (RdS.up (RdS.ex gI q228 hE264) gI) (RdS.up (OwnL.rd gS (OwnL.ex gS q230 hE264)) gS) o3 (okL.mk (xs := (([(p_w.Key.drop 2)] : List Str) ++ (s_l1Split p_w.Val 44))) Bl (okE.append ((okL.mk (nb rfl) (okE.cons (okS.drop o4.1 _) okE.nil))).2 (h170).2))) ?_))
     rintro v273 w272 ⟨rfl, hE274⟩
     exact ⟨Chg.of_ex hE274, rfl⟩
    ·intro L276 w277 G275 hgk278
     have hE279 := hgk278.st.ex.ex (fun b h => h.elim (fun h => hgk278.no rfl h) (fun h => h))
     have hE279z := Ex.size hE279
     obtain ⟨_, hx280, rfl⟩ := hgk278.val 3 24 rfl rfl
     exact OpR.op' rfl (Yl.sameG (yM rfl hx280 kI))
    ·intro L282 w283 G281 hgk284
     have hE285 := hgk284.st.ex.ex (fun b h => h.elim (fun h => hgk284.no rfl h) (fun h => h))
     have hE285z := Ex.size hE285
     obtain ⟨_, hx286, rfl⟩ := hgk284.val 4 25 rfl rfl
     exact OpR.want rfl rfl hx286 hb214 (Yl.sameG (yl_loadN ty41 rfl (hgk284.old 2 _ rfl rfl) ((Box.ex q218 hE285).cells (n := 3) rfl) rfl kI))
    ·intro L290 w291 G289 hgk292
     have hE293 := hgk292.st.ex.ex (fun b h => h.elim (fun h => hgk292.no rfl h) (fun h => h))
     have hE293z := Ex.size hE293
     obtain ⟨_, hx294, rfl⟩ := hgk292.val 4 25 rfl rfl
     exact OpR.want rfl rfl hx294 hb214 (Yl.sameG (yl_loadN ty45 rfl (hgk292.old 6 _ rfl rfl) ((Box.ex hB194 hE293).cells (n := 1) rfl) rfl kI))
    ·intro L298 w299 G297 hgk300
     have hE301 := hgk300.st.ex.ex (fun b h => h.elim (fun h => hgk300.no rfl h) (fun h => h))
     have hE301z := Ex.size hE301
     obtain ⟨_, hx302, rfl⟩ := hgk300.val 4 25 rfl rfl
     obtain ⟨_, hx303, rfl⟩ := hgk300.val 5 26 rfl rfl
     obtain ⟨_, hx304, rfl⟩ := hgk300.val 6 27 rfl rfl
     have hol309 : (s_l1Split p_w.Val 44).length ≤ 2147483648 := h170.1
     refine OpR.want rfl rfl hx302 hb214 (yC en130 rfl (oc hx303 (oc hx304 oz)) (Cal.mono (c_s_l25Write p_t (⟨(([(p_w.Key.drop 2)] : List Str) ++ (s_l1Split p_w.Val 44))⟩ : DRow) (RdS.up (RdS.ex gS q223 hE301) gS) (RdS.up (RdS.ex gI q228 hE301) gI) (RdS.up (OwnL.rd gS (OwnL.ex gS q230 hE301)) gS) o3 (okL.mk (xs := (([(p_w.Key.drop 2)] : List Str) ++ (s_l1Split p_w.Val 44))) Bl (okE.append ((okL.mk (nb rfl) (okE.cons (okS.drop o4.1 _) okE.nil))).2 (h170).2)) (by first | omega | assumption | (simp only [wI] at *; omega) | (simp only [lN]; omega))) ?_))
     rintro v311 w310 ⟨rfl, hE312⟩
     exact ⟨Chg.of_ex hE312, rfl⟩
    ·intro L314 w315 G313 hgk316
     have hE317 : Chg (fun b => InR [(b22, b22 + 1)] b ∨ w193.heap.size ≤ b) w193 w315 := hgk316.st.ex.imp (fun b _ h => h.imp (fun h => h.2) (fun h => h))
     have hE317z := Chg.size hE317
     obtain ⟨_, hx318, rfl⟩ := hgk316.val 4 25 rfl rfl
     exact OpR.want rfl rfl hx318 hb214 (Yl.sameG (yl_loadN ty70 rfl (hgk316.old 3 _ rfl rfl) ((Box.chg q237 hE317 (Bx (Box.lt q237))).cells (n := 3) rfl) rfl kI))
    ·intro L322 w323 G321 hgk324
     have hE325 : Chg (fun b => InR [(b22, b22 + 1)] b ∨ w193.heap.size ≤ b) w193 w323 := hgk324.st.ex.imp (fun b _ h => h.imp (fun h => h.2) (fun h => h))
     have hE325z := Chg.size hE325
     obtain ⟨_, hx326, rfl⟩ := hgk324.val 4 25 rfl rfl
     obtain ⟨_, hx327, rfl⟩ := hgk324.val 7 28 rfl rfl
     obtain ⟨_, hx328, rfl⟩ := hgk324.val 8 29 rfl rfl
     exact OpR.want rfl rfl hx326 hb214 (Yl.sameG (yl_aeql (xs := [.string (bs ((s_l25Write p_t (⟨(([(p_w.Key.drop 2)] : List Str) ++ (s_l1Split p_w.Val 44))⟩ : DRow)).Key)), .string (bs ((s_l25Write p_t (⟨(([(p_w.Key.drop 2)] : List Str) ++ (s_l1Split p_w.Val 44))⟩ : DRow)).Val)), .bool ((s_l25Write p_t (⟨(([(p_w.Key.drop 2)] : List Str) ++ (s_l1Split p_w.Val 44))⟩ : DRow)).Gone)]) (ys := [.string (bs (p_w.Key)), .string (bs (p_w.Val)), .bool (p_w.Gone)]) Tryz.ae70 rfl hx327 hx328 kI))
    ·intro L330 w331 G329 hgk332
     have hE333 : Chg (fun b => InR [(b22, b22 + 1)] b ∨ w193.heap.size ≤ b) w193 w331 := hgk332.st.ex.imp (fun b _ h => h.imp (fun h => h.2) (fun h => h))
     have hE333z := Chg.size hE333
     obtain ⟨_, hx334, rfl⟩ := hgk332.val 9 30 rfl rfl
     obtain ⟨_, hx335, rfl⟩ := hgk332.val 4 25 rfl rfl
     exact OpR.op' rfl (Yl.sameG (yl_pick_t rfl hx335 hb214 hx334 kI))
    ·intro L337 w338 G336 hgk339
     have hE340 := hgk339.st.ex.ex (fun b h => h.elim (fun h => hgk339.nw h) (fun h => h))
     have hE340z := Ex.size hE340
     obtain ⟨_, hx342, rfl⟩ := hgk339.val 0 21 rfl rfl
     refine OpR.op' rfl (yl_store (vs := [.slice A44_177 ((([(p_w.Key.drop 2)] : List Str) ++ (s_l1Split p_w.Val 44)).length) c45_178]) ty45 rfl (hgk339.old 4 _ rfl rfl) hx342 rfl rfl rfl (Box.ex (Box.only (Box.ex hB26 hE160) hO195 oM) hE340) (nb rfl) ?_)
     intro w346 hB347 hO348
     have hO348z := hO348.size
     exact ⟨Chg.of_only hO348 (⟨rfl, Nat.le_refl _, by omega⟩), hB347⟩
    ·intro L350 w351 G349 hgk352
     have hE353 : Chg (fun b => InR [(b22, b22 + 1)] b ∨ w193.heap.size ≤ b) w193 w351 := hgk352.st.ex.imp (fun b _ h => h.imp (fun h => h.2) (fun h => h))
     have hE353z := Chg.size hE353
     obtain ⟨_, hx354, rfl⟩ := hgk352.val 10 31 rfl rfl
     exact OpR.op' rfl (Yl.sameG (yA rfl hx354 kI))
    ·intro G355 L356 w357 hgp358
     have hE359 : Chg (fun b => InR [(b22, b22 + 1)] b ∨ w193.heap.size ≤ b) w193 w357 := hgp358.st.ex.imp (fun b _ h => h.imp (fun h => h.2) (fun h => h))
     have hE359z := Chg.size hE359
     obtain ⟨_, h361⟩ := hgp358.fact 11 rfl
     obtain ⟨_, hx362, rfl⟩ := hgp358.val 12 5 rfl rfl
     have hr363 := hgp358.st.rng 11 (hgp358.has 11 rfl)
     refine dn (CW.sub (sC 4 (hgp358.old 4 _ rfl rfl) (sC 5 hx362 (Sub.nil _))) (CW.ret (rr rfl (.cons ⟨_, rfl, run_loadN ty45 (cs := [.slice A44_177 ((([(p_w.Key.drop 2)] : List Str) ++ (s_l1Split p_w.Val 44)).length) c45_178]) rfl (h361.cells (n := 1) rfl)⟩ (.cons rfl .nil)) ?_)))
     have hM364 : (s_l25Read p_t p_w) = (((⟨(([(p_w.Key.drop 2)] : List Str) ++ (s_l1Split p_w.Val 44))⟩ : DRow), ((((s_l25Write p_t (⟨(([(p_w.Key.drop 2)] : List Str) ++ (s_l1Split p_w.Val 44))⟩ : DRow)).Key) == p_w.Key) && ((((s_l25Write p_t (⟨(([(p_w.Key.drop 2)] : List Str) ++ (s_l1Split p_w.Val 44))⟩ : DRow)).Val) == p_w.Val) && (((s_l25Write p_t (⟨(([(p_w.Key.drop 2)] : List Str) ++ (s_l1Split p_w.Val 44))⟩ : DRow)).Gone) == p_w.Gone))))) := by simp only [s_l25Read, hb29, hb214, cL]
     have hol366 : (s_l1Split p_w.Val 44).length ≤ 2147483648 := h170.1
     rw [hM364]
     exact ⟨A44_177, c45_178, (G156.fl 7), (G156.fh 7), rfl, (OwnL.chg gS q230 hE359 Bk), (okL.mk (xs := (([(p_w.Key.drop 2)] : List Str) ++ (s_l1Split p_w.Val 44))) Bl (okE.append ((okL.mk (nb rfl) (okE.cons (okS.drop o4.1 _) okE.nil))).2 (h170).2)), oM, (Ex.chg (Below.only (Ex.trans (Ex.trans (Ex.trans (Ex.trans (Ex.refl w) hE15) hE21) hE27) hE160) hO195 oM) hE359 (fun k hk => by simp only [InR, or_false] at hk; omega))⟩
   ·have q388 := OwnL.only gS h179 hO195 oM
    have hol389 : (s_l1Split p_w.Val 44).length ≤ 2147483648 := h170.1
    refine CW.drawsG 13 (fun G b => G.dn 11 = true ∧ InR [(b22, b22 + 1)] b) (fun i G b => (i = 11 ∧ b22 ≤ b ∧ b < b22 + 1)) (vgetG [DetG (.agg #[.slice A44_177 ((([(p_w.Key.drop 2)] : List Str) ++ (s_l1Split p_w.Val 44)).length) c45_178]), DetG (.agg #[.string (bs (p_t.Name)), .slice A1 p_t.Cols.length c1, .slice A2 p_t.Idxs.length c2]), DetG (.agg #[.slice A44_177 ((([(p_w.Key.drop 2)] : List Str) ++ (s_l1Split p_w.Val 44)).length) c45_178]), DetG (.bool ((s_l25Good p_t (⟨(([(p_w.Key.drop 2)] : List Str) ++ (s_l1Split p_w.Val 44))⟩ : DRow)))), DetG (.bool ((s_l25Good p_t (⟨(([(p_w.Key.drop 2)] : List Str) ++ (s_l1Split p_w.Val 44))⟩ : DRow)))), DetG (undef), DetG (undef), DetG (undef), DetG (undef), DetG (undef), DetG (.bool (false)), fun G v wq => Box wq b22 45 [.slice A44_177 ((([(p_w.Key.drop 2)] : List Str) ++ (s_l1Split p_w.Val 44)).length) c45_178], DetG (.bool (false))]) Tryz.follows rfl rfl rfl rfl rfl rfl (fun _ _ _ _ _ h => ⟨Gh.udn h.1, h.2⟩) (fun i G w lo hi b K hn hh hp => by exact (match hp with | ⟨e, q1, q2⟩ => by subst e; exact .inl ⟨Gh.sdn, .inl ⟨q1, q2⟩⟩)) (vgetG_kept ⟨(KeptG.det _), (KeptG.det _), (KeptG.det _), (KeptG.det _), (KeptG.det _), (KeptG.det _), (KeptG.det _), (KeptG.det _), (KeptG.det _), (KeptG.det _), (KeptG.det _), (by rintro i G v w w' K hn hh hj h0 e; exact (by exact Box.chg h0 e (fun hp => by obtain ⟨rfl, q1, q2⟩ := hp; rw [hj] at hn; cases hn))), (KeptG.det _), trivial⟩) ⟨?_, ?_, ?_, ?_, ?_, ?_, ?_, ?_, ?_, ?_, ?_, ?_, ?_, trivial⟩ ?_
    ·intro L393 w394 G392 hgk395
     have hE396 := hgk395.st.ex.ex (fun b h => h.elim (fun h => hgk395.no rfl h) (fun h => h))
     have hE396z := Ex.size hE396
     exact OpR.op' rfl (Yl.sameG (yl_loadN ty45 rfl (hgk395.old 6 _ rfl rfl) ((Box.ex hB194 hE396).cells (n := 1) rfl) rfl kI))
    ·intro L400 w401 G399 hgk402
     have hE403 := hgk402.st.ex.ex (fun b h => h.elim (fun h => hgk402.no rfl h) (fun h => h))
     have hE403z := Ex.size hE403
     exact OpR.op' rfl (Yl.sameG (yl_loadN ty41 rfl (hgk402.old 2 _ rfl rfl) ((Box.ex (Box.only (Box.ex (Box.ex (Box.ex hB14 hE21) hE27) hE160) hO195 oM) hE403).cells (n := 3) rfl) rfl kI))
    ·intro L407 w408 G406 hgk409
     have hE410 := hgk409.st.ex.ex (fun b h => h.elim (fun h => hgk409.no rfl h) (fun h => h))
     have hE410z := Ex.size hE410
     exact OpR.op' rfl (Yl.sameG (yl_loadN ty45 rfl (hgk409.old 6 _ rfl rfl) ((Box.ex hB194 hE410).cells (n := 1) rfl) rfl kI))
    ·intro L414 w415 G413 hgk416
     have hE417 := hgk416.st.ex.ex (fun b h => h.elim (fun h => hgk416.no rfl h) (fun h => h))
     have hE417z := Ex.size hE417
     obtain ⟨_, hx418, rfl⟩ := hgk416.val 1 22 rfl rfl
     obtain ⟨_, hx419, rfl⟩ := hgk416.val 2 23 rfl rfl
     have hol424 : (s_l1Split p_w.Val 44).length ≤ 2147483648 := h170.1
     refine OpR.op' rfl (yC en104 rfl (oc hx418 (oc hx419 oz)) (Cal.mono (c_s_l25Good p_t (⟨(([(p_w.Key.drop 2)] : List Str) ++ (s_l1Split p_w.Val 44))⟩ : DRow) (RdS.up (RdS.ex gS (RdS.only gS (RdS.ex gS (RdS.ex gS (RdS.ex gS (RdS.ex gS h1 hE15) hE21) hE27) hE160) hO195 (by simp only [Iv]; omega)) hE417) gS) (RdS.up (RdS.ex gI (RdS.only gI (RdS.ex gI (RdS.ex gI (RdS.ex gI (RdS.ex gI h2 hE15) hE21) hE27) hE160) hO195 (by simp only [Iv]; omega)) hE417) gI) (RdS.up (OwnL.rd gS (OwnL.ex gS q388 hE417)) gS) o3 (okL.mk (xs := (([(p_w.Key.drop 2)] : List Str) ++ (s_l1Split p_w.Val 44))) Bl (okE.append ((okL.mk (nb rfl) (okE.cons (okS.drop o4.1 _) okE.nil))).2 (h170).2))) ?_))
     rintro v426 w425 ⟨rfl, hE427⟩
     exact ⟨Chg.of_ex hE427, rfl⟩
    ·intro L429 w430 G428 hgk431
     have hE432 := hgk431.st.ex.ex (fun b h => h.elim (fun h => hgk431.no rfl h) (fun h => h))
     have hE432z := Ex.size hE432
     obtain ⟨_, hx433, rfl⟩ := hgk431.val 3 24 rfl rfl
     exact OpR.op' rfl (Yl.sameG (yM rfl hx433 kI))
    ·intro L435 w436 G434 hgk437
     have hE438 := hgk437.st.ex.ex (fun b h => h.elim (fun h => hgk437.no rfl h) (fun h => h))
     have hE438z := Ex.size hE438
     obtain ⟨_, hx439, rfl⟩ := hgk437.val 4 25 rfl rfl
     exact OpR.skip rfl rfl hx439 hb214 ⟨Chg.refl _ _, rfl⟩
    ·intro L441 w442 G440 hgk443
     have hE444 := hgk443.st.ex.ex (fun b h => h.elim (fun h => hgk443.no rfl h) (fun h => h))
     have hE444z := Ex.size hE444
     obtain ⟨_, hx445, rfl⟩ := hgk443.val 4 25 rfl rfl
     exact OpR.skip rfl rfl hx445 hb214 ⟨Chg.refl _ _, rfl⟩
    ·intro L447 w448 G446 hgk449
     have hE450 := hgk449.st.ex.ex (fun b h => h.elim (fun h => hgk449.no rfl h) (fun h => h))
     have hE450z := Ex.size hE450
     obtain ⟨_, hx451, rfl⟩ := hgk449.val 4 25 rfl rfl
     exact OpR.skip rfl rfl hx451 hb214 ⟨Chg.refl _ _, rfl⟩
    ·intro L453 w454 G452 hgk455
     have hE456 : Chg (fun b => InR [(b22, b22 + 1)] b ∨ w193.heap.size ≤ b) w193 w454 := hgk455.st.ex.imp (fun b _ h => h.imp (fun h => h.2) (fun h => h))
     have hE456z := Chg.size hE456
     obtain ⟨_, hx457, rfl⟩ := hgk455.val 4 25 rfl rfl
     exact OpR.skip rfl rfl hx457 hb214 ⟨Chg.refl _ _, rfl⟩
    ·intro L459 w460 G458 hgk461
     have hE462 : Chg (fun b => InR [(b22, b22 + 1)] b ∨ w193.heap.size ≤ b) w193 w460 := hgk461.st.ex.imp (fun b _ h => h.imp (fun h => h.2) (fun h => h))
     have hE462z := Chg.size hE462
     obtain ⟨_, hx463, rfl⟩ := hgk461.val 4 25 rfl rfl
     exact OpR.skip rfl rfl hx463 hb214 ⟨Chg.refl _ _, rfl⟩
    ·intro L465 w466 G464 hgk467
     have hE468 : Chg (fun b => InR [(b22, b22 + 1)] b ∨ w193.heap.size ≤ b) w193 w466 := hgk467.st.ex.imp (fun b _ h => h.imp (fun h => h.2) (fun h => h))
     have hE468z := Chg.size hE468
     obtain ⟨_, hx469, rfl⟩ := hgk467.val 9 30 rfl rfl
     obtain ⟨_, hx470, rfl⟩ := hgk467.val 4 25 rfl rfl
     exact OpR.op' rfl (Yl.sameG (yl_pick_f rfl hx470 hb214 rfl kI))
    ·intro L472 w473 G471 hgk474
     have hE475 := hgk474.st.ex.ex (fun b h => h.elim (fun h => hgk474.nw h) (fun h => h))
     have hE475z := Ex.size hE475
     obtain ⟨_, hx477, rfl⟩ := hgk474.val 0 21 rfl rfl
     refine OpR.op' rfl (yl_store (vs := [.slice A44_177 ((([(p_w.Key.drop 2)] : List Str) ++ (s_l1Split p_w.Val 44)).length) c45_178]) ty45 rfl (hgk474.old 4 _ rfl rfl) hx477 rfl rfl rfl (Box.ex (Box.only (Box.ex hB26 hE160) hO195 oM) hE475) (nb rfl) ?_)
     intro w481 hB482 hO483
     have hO483z := hO483.size
     exact ⟨Chg.of_only hO483 (⟨rfl, Nat.le_refl _, by omega⟩), hB482⟩
    ·intro L485 w486 G484 hgk487
     have hE488 : Chg (fun b => InR [(b22, b22 + 1)] b ∨ w193.heap.size ≤ b) w193 w486 := hgk487.st.ex.imp (fun b _ h => h.imp (fun h => h.2) (fun h => h))
     have hE488z := Chg.size hE488
     obtain ⟨_, hx489, rfl⟩ := hgk487.val 10 31 rfl rfl
     exact OpR.op' rfl (Yl.sameG (yA rfl hx489 kI))
    ·intro G490 L491 w492 hgp493
     have hE494 : Chg (fun b => InR [(b22, b22 + 1)] b ∨ w193.heap.size ≤ b) w193 w492 := hgp493.st.ex.imp (fun b _ h => h.imp (fun h => h.2) (fun h => h))
     have hE494z := Chg.size hE494
     obtain ⟨_, h496⟩ := hgp493.fact 11 rfl
     obtain ⟨_, hx497, rfl⟩ := hgp493.val 12 5 rfl rfl
     have hr498 := hgp493.st.rng 11 (hgp493.has 11 rfl)
     refine dn (CW.sub (sC 4 (hgp493.old 4 _ rfl rfl) (sC 5 hx497 (Sub.nil _))) (CW.ret (rr rfl (.cons ⟨_, rfl, run_loadN ty45 (cs := [.slice A44_177 ((([(p_w.Key.drop 2)] : List Str) ++ (s_l1Split p_w.Val 44)).length) c45_178]) rfl (h496.cells (n := 1) rfl)⟩ (.cons rfl .nil)) ?_)))
     have hM499 : (s_l25Read p_t p_w) = (((⟨(([(p_w.Key.drop 2)] : List Str) ++ (s_l1Split p_w.Val 44))⟩ : DRow), false)) := by simp only [s_l25Read, hb29, hb214, cL]
     have hol501 : (s_l1Split p_w.Val 44).length ≤ 2147483648 := h170.1
     rw [hM499]
     exact ⟨A44_177, c45_178, (G156.fl 7), (G156.fh 7), rfl, (OwnL.chg gS q388 hE494 Bk), (okL.mk (xs := (([(p_w.Key.drop 2)] : List Str) ++ (s_l1Split p_w.Val 44))) Bl (okE.append ((okL.mk (nb rfl) (okE.cons (okS.drop o4.1 _) okE.nil))).2 (h170).2)), oM, (Ex.chg (Below.only (Ex.trans (Ex.trans (Ex.trans (Ex.trans (Ex.refl w) hE15) hE21) hE27) hE160) hO195 oM) hE494 (fun k hk => by simp only [InR, or_false] at hk; omega))⟩
theorem c_s_l25Rows {A1 : Option Addr} {c1 : Nat} {A2 : Option Addr} {c2 : Nat} {A4 : Option Addr} {c4 : Nat} {w : World} (p_t : DTable) (ps : List DWrite) (h1 : RdS w (Iv 0 w.heap.size) (RF e_Str) 1 A1 p_t.Cols.length c1 p_t.Cols) (h2 : RdS w (Iv 0 w.heap.size) (RF e_Idx) 3 A2 p_t.Idxs.length c2 p_t.Idxs) (h4 : RdS w (Iv 0 w.heap.size) (RF e_Write) 3 A4 ps.length c4 ps) (o3 : ok_Table p_t) (o5 : (okL ok_Write) ps) : Cal Tryz.prog 77 #[.agg #[.string (bs (p_t.Name)), .slice A1 p_t.Cols.length c1, .slice A2 p_t.Idxs.length c2], .slice A4 ps.length c4] w fun v w' => ∃ A_1 c_1 lo_1 hi_1, v = .slice A_1 ((s_l25Rows p_t ps).length) c_1 ∧ OwnD w' lo_1 hi_1 45 1 RO_Row A_1 ((s_l25Rows p_t ps).length) c_1 (s_l25Rows p_t ps) ∧ (okL ok_Row) (s_l25Rows p_t ps) ∧ (w.heap.size ≤ lo_1 ∧ lo_1 ≤ hi_1 ∧ hi_1 ≤ w'.heap.size) ∧ Ex w w' := by
 have hol6 : p_t.Name.length ≤ 1073741824 := o3.1
 have hol7 := o3.2.1.1
 have hol8 := o3.2.2.1
 have hol9 := o5.1
 refine Cal.of func77 rfl ntmps77 rfl (cR (sd rfl (yl_box rfl rfl rfl ?_)))
 intro b10 w11 hs12 hz13 hB14 hE15
 refine sA rfl (dn (cR (sA rfl (dn (CW.seq ?_)))))
 refine cR (sM rfl (sd rfl (yL un43 rfl rfl (sM rfl (dn (CW.block (CW.loop (fun m102 L103 w104 => ∃ (k16 : Nat) (x98 : List DRow) (A99 : Option Addr) (c100 : Nat) (u101 : Nat), m102 = ps.length - k16 ∧ k16 ≤ ps.length ∧ w11.heap.size ≤ w104.heap.size ∧ lkp L103 2 = some (.pointer (some ⟨b10, 0, none⟩)) ∧ lkp L103 5 = some (.slice A99 x98.length c100) ∧ lkp L103 10 = some (.slice A4 ps.length c4) ∧ lkp L103 11 = some (.int .i64 ((ps.length : Int))) ∧ lkp L103 12 = some (.int .i64 ((k16 : Int))) ∧ Box w104 b10 41 [.string (bs (p_t.Name)), .slice A1 p_t.Cols.length c1, .slice A2 p_t.Idxs.length c2] ∧ RdS w104 (Iv 0 w.heap.size) (RF e_Str) 1 A1 p_t.Cols.length c1 p_t.Cols ∧ RdS w104 (Iv 0 w.heap.size) (RF e_Idx) 3 A2 p_t.Idxs.length c2 p_t.Idxs ∧ OwnD w104 w11.heap.size u101 45 1 RO_Row A99 x98.length c100 x98 ∧ RdS w104 (Iv 0 w.heap.size) (RF e_Write) 3 A4 ps.length c4 ps ∧ Ex w w104 ∧ (w11.heap.size ≤ u101 ∧ u101 ≤ w104.heap.size) ∧ x98.length ≤ 0 + 1 * (k16 - 0) ∧ (∀ y ∈ x98, ok_Row y) ∧ loopM (B_s_l25Rows_0 p_t ps) (ps.length - k16) k16 (x98) = loopM (B_s_l25Rows_0 p_t ps) (ps.length - 0) 0 (([] : List DRow))) (ps.length - 0) ?_ ?_)))))))
 ·exact ⟨0, ([] : List DRow), none, 0, w11.heap.size, rfl, oM, Nat.le_refl _, rfl, rfl, rfl, rfl, rfl, hB14, (RdS.ex gS h1 hE15), (RdS.ex gI h2 hE15), (OwnD.nil w11 w11.heap.size w11.heap.size 45 1 RO_Row), (RdS.ex gW h4 hE15), (Ex.trans (Ex.refl w) hE15), oM, (by first | (simp; done) | (first | omega | (simp only [lN, toS_length]; omega))), okE.nil, rfl⟩
 ·rintro m109 L110 w111 ⟨k16, x98, A99, c100, u101, rfl, hk112, hsz114, hl115, hl116, hl117, hl118, hl119, hf120, hf121, hf122, hf123, hf124, hf125, hu126, hln127, hok128, hI113⟩
  refine CW.sub (Sub.cons hl115 (Sub.cons hl116 (Sub.cons hl117 (Sub.cons hl118 (Sub.cons hl119 (Sub.nil _)))))) ?_
  have hf120z := Box.lt hf120
  have hf125z := Ex.size hf125
  have hbg129 := RdS.big hf124
  rcases Nat.lt_or_ge k16 ps.length with hlt130 | hlt130
  ·refine cR (sd rfl (yl_lss rfl rfl rfl (dn (CW.seq (CW.cond_t rfl (lt_t hlt130) (CW.skip (tn ?_)))))))
   refine CW.seq (CW.block (cR ?_))
   obtain ⟨eb131, eo131, _, eA131, _, ebl131, _, eR131, eC131⟩ := RdS.aD hf124 d_Write (i := k16)
   obtain rfl := eR131
   have eC131 : Cells w111 eb131 (eo131 + k16 * 3) [.string (bs ((ps.getD k16 d_Write).Key)), .string (bs ((ps.getD k16 d_Write).Val)), .bool ((ps.getD k16 d_Write).Gone)] := eC131
   refine sd rfl (yl_ixN un43 ty70 rfl rfl rfl eA131 (sd rfl (yl_loadN ty70 rfl rfl eC131 rfl (sd rfl (yB ty70 (cs := [.string (bs (([] : Str))), .string (bs (([] : Str))), .bool (false)]) rfl rfl ?_)))))
   intro b132 w133 hs134 hz135 hB136 hE137
   refine SeqR.u rfl rfl (yl_store (vs := [.string (bs ((ps.getD k16 d_Write).Key)), .string (bs ((ps.getD k16 d_Write).Val)), .bool ((ps.getD k16 d_Write).Gone)]) ty70 rfl rfl rfl rfl rfl rfl hB136 (nb rfl) ?_)
   intro w138 hB139 hO140
   have hB139 : Box w138 b132 70 [.string (bs ((ps.getD k16 d_Write).Key)), .string (bs ((ps.getD k16 d_Write).Val)), .bool ((ps.getD k16 d_Write).Gone)] := hB139
   have hO140z := hO140.size
   refine dn (cR ?_)
   have q142 := Box.only (Box.ex hf120 hE137) hO140 oM
   refine sd rfl (yl_loadN ty41 rfl rfl (q142.cells (n := 3) rfl) rfl (sd rfl (yl_loadN ty70 rfl rfl (hB139.cells (n := 3) rfl) rfl ?_)))
   have q144 := RdS.only gS (RdS.ex gS hf121 hE137) hO140 (by simp only [Iv]; omega)
   have q146 := RdS.only gI (RdS.ex gI hf122 hE137) hO140 (by simp only [Iv]; omega)
   refine sd rfl (yC en108 rfl (oc rfl (oc rfl oz)) (Cal.mono (c_s_l25Read p_t (ps.getD k16 d_Write) (RdS.up q144 gS) (RdS.up q146 gI) o3 (okL.getD o5 ok_d_Write _)) ?_))
   rintro v150 w147 ⟨A148, c148, lo148, hi148, rfl, h148, ho149, hrn152, hE151⟩
   have hE151z := Ex.size hE151
   refine sM rfl (sd rfl (yl_extract rfl rfl rfl (sd rfl (yl_extract rfl rfl rfl (sd rfl (yB ty45 (cs := [.slice none 0 0]) rfl rfl ?_))))))
   intro b153 w154 hs155 hz156 hB157 hE158
   refine SeqR.u rfl rfl (yl_store (vs := [.slice A148 (((s_l25Read p_t (ps.getD k16 d_Write)).1.Vals).length) c148]) ty45 rfl rfl rfl rfl rfl rfl hB157 (nb rfl) ?_)
   intro w159 hB160 hO161
   have hB160 : Box w159 b153 45 [.slice A148 (((s_l25Read p_t (ps.getD k16 d_Write)).1.Vals).length) c148] := hB160
   have hO161z := hO161.size
   refine sA rfl (dn (cR (sM rfl (dn (bcase ((s_l25Read p_t (ps.getD k16 d_Write)).2) (fun hb162 => ?_) (fun hb162 => ?_))))))
   ·refine CW.cond_t rfl hb162 (CW.region (sM rfl (sd rfl (yl_loadN ty45 rfl rfl (hB160.cells (n := 1) rfl) rfl (sd rfl (yl_buildSlice (cs := [.slice A148 (((s_l25Read p_t (ps.getD k16 d_Write)).1.Vals).length) c148]) un36 ty45 (by decide) rfl (oc rfl oz) (by kernel_rfl) ?_))))))
    intro b163 w164 hs165 hz166 hB167 hE168
    have hO169 : OwnD w164 w138.heap.size (b163 + 1) 45 1 RO_Row (some ⟨b163, 0, none⟩) 1 1 ([(s_l25Read p_t (ps.getD k16 d_Write)).1] : List DRow) := OwnD.of_box (b := b163) (xs := ([(s_l25Read p_t (ps.getD k16 d_Write)).1] : List DRow)) (cells := [[.slice A148 (((s_l25Read p_t (ps.getD k16 d_Write)).1.Vals).length) c148]]) (by rw [List.flatten_singleton]; exact hB167) oM (Nat.lt_succ_self _) (.cons (l := w138.heap.size) (h := b163) (Nat.le_refl _) oM rfl (fun k hk => by cases hk; exact .inr (Nat.le_refl _)) (mkO_Row (l := w138.heap.size) (h := b163) (OwnL.ex gS (OwnL.only gS (OwnL.ex gS h148 hE158) hO161 oM) hE168) oM) (.nil (Nat.le_succ _))) (nb rfl)
    refine sd rfl (yl_appendD (xs := x98) (ys := ([(s_l25Read p_t (ps.getD k16 d_Write)).1] : List DRow)) goodO_Row un36 ty45 rfl (nb rfl) rfl rfl rfl (OwnD.ex goodO_Row (OwnD.only goodO_Row (OwnD.ex goodO_Row (OwnD.ex goodO_Row (OwnD.only goodO_Row (OwnD.ex goodO_Row hf123 hE137) hO140 oM) hE151) hE158) hO161 oM) hE168) hO169 Bl Bl oM oM oM oM ?_)
    intro A178 c179 w180 row181 hO182 hG183 hrg184
    have hG183z := hG183.size
    refine sA rfl (SeqR.done (bn (tn (CW.region (sd rfl (yl_inc rfl rfl rfl oM (sM rfl (dn ?_))))))))
    have hB185 : B_s_l25Rows_0 p_t ps k16 (x98) = .cont ((x98 ++ ([(s_l25Read p_t (ps.getD k16 d_Write)).1] : List DRow))) := by simp only [B_s_l25Rows_0, hb162, cL]
    exact ⟨ps.length - (k16 + 1), oM, k16 + 1, (x98 ++ ([(s_l25Read p_t (ps.getD k16 d_Write)).1] : List DRow)), A178, c179, w180.heap.size, rfl, hlt130, oM, rfl, rfl, rfl, rfl, rfl, (Box.grown (Box.ex (Box.only (Box.ex (Box.ex q142 hE151) hE158) hO161 oM) hE168) hG183 (fun k hk => by have := hrg184 k hk; omega)), (RdS.grown gS (RdS.ex gS (RdS.only gS (RdS.ex gS (RdS.ex gS q144 hE151) hE158) hO161 (by simp only [Iv]; omega)) hE168) hG183 (fun k hk => by have := hrg184 k hk; simp only [Iv]; omega)), (RdS.grown gI (RdS.ex gI (RdS.only gI (RdS.ex gI (RdS.ex gI q146 hE151) hE158) hO161 (by simp only [Iv]; omega)) hE168) hG183 (fun k hk => by have := hrg184 k hk; simp only [Iv]; omega)), hO182, (RdS.grown gW (RdS.ex gW (RdS.only gW (RdS.ex gW (RdS.ex gW (RdS.only gW (RdS.ex gW hf124 hE137) hO140 (by simp only [Iv]; omega)) hE151) hE158) hO161 (by simp only [Iv]; omega)) hE168) hG183 (fun k hk => by have := hrg184 k hk; simp only [Iv]; omega)), (Below.grown (Ex.trans (Below.only (Ex.trans (Ex.trans (Below.only (Ex.trans hf125 hE137) hO140 oM) hE151) hE158) hO161 oM) hE168) hG183 oM (fun k hk => by have := hrg184 k hk; omega)), oM, Bl, (okE.append hok128 ((okL.mk (nb rfl) (okE.cons (show ok_Row ((s_l25Read p_t (ps.getD k16 d_Write)).1) from ho149) okE.nil))).2), (loopM.cont hlt130 hB185).symm.trans hI113⟩
   ·refine CW.cond_f rfl hb162 (CW.skip (bn (tn (CW.region (sd rfl (yl_inc rfl rfl rfl oM (sM rfl (dn ?_))))))))
    have hB215 : B_s_l25Rows_0 p_t ps k16 (x98) = .cont (x98) := by simp only [B_s_l25Rows_0, hb162, cL]
    exact ⟨ps.length - (k16 + 1), oM, k16 + 1, x98, A99, c100, u101, rfl, hlt130, oM, rfl, rfl, rfl, rfl, rfl, (Box.only (Box.ex (Box.ex q142 hE151) hE158) hO161 oM), (RdS.only gS (RdS.ex gS (RdS.ex gS q144 hE151) hE158) hO161 (by simp only [Iv]; omega)), (RdS.only gI (RdS.ex gI (RdS.ex gI q146 hE151) hE158) hO161 (by simp only [Iv]; omega)), (OwnD.only goodO_Row (OwnD.ex goodO_Row (OwnD.ex goodO_Row (OwnD.only goodO_Row (OwnD.ex goodO_Row hf123 hE137) hO140 oM) hE151) hE158) hO161 oM), (RdS.only gW (RdS.ex gW (RdS.ex gW (RdS.only gW (RdS.ex gW hf124 hE137) hO140 (by simp only [Iv]; omega)) hE151) hE158) hO161 (by simp only [Iv]; omega)), (Below.only (Ex.trans (Ex.trans (Below.only (Ex.trans hf125 hE137) hO140 oM) hE151) hE158) hO161 oM), oM, Bl, hok128, (loopM.cont hlt130 hB215).symm.trans hI113⟩
  ·refine cR (sd rfl (yl_lss rfl rfl rfl (dn (CW.seq (CW.cond_f rfl (lt_f hlt130) (CW.exit (tx ?_)))))))
   refine tx ?_
   have hL240 : loopM (B_s_l25Rows_0 p_t ps) (ps.length - 0) 0 (([] : List DRow)) = .done (x98) := hI113.symm.trans (loopM.stop hlt130)
   refine bx (tn (cR (sM rfl (sA rfl (dn (CW.ret ?_))))))
   refine rr rfl (.cons rfl .nil) ?_
   have hM241 : (s_l25Rows p_t ps) = (x98) := by simp only [s_l25Rows, hL240, cL]
   rw [hM241]
   exact ⟨A99, c100, w11.heap.size, u101, rfl, hf123, (okL.mk (xs := x98) Bl hok128), oM, hf125⟩
theorem c_s_l30Keyed {A1 : Option Addr} {c1 : Nat} {A2 : Option Addr} {c2 : Nat} {A4 : Option Addr} {c4 : Nat} {w : World} (p_t : DTable) (ps : List DWrite) (p_key : Str) (h1 : RdS w (Iv 0 w.heap.size) (RF e_Str) 1 A1 p_t.Cols.length c1 p_t.Cols) (h2 : RdS w (Iv 0 w.heap.size) (RF e_Idx) 3 A2 p_t.Idxs.length c2 p_t.Idxs) (h4 : RdS w (Iv 0 w.heap.size) (RF e_Write) 3 A4 ps.length c4 ps) (o3 : ok_Table p_t) (o5 : (okL ok_Write) ps) (o6 : okS p_key) (pre0 : s_GoodTable p_t = true) : Cal Tryz.prog 50 #[.agg #[.string (bs (p_t.Name)), .slice A1 p_t.Cols.length c1, .slice A2 p_t.Idxs.length c2], .slice A4 ps.length c4, .string (bs (p_key))] w fun v w' => ∃ A_1 c_1 lo_1 hi_1, v = .slice A_1 ((s_l30Keyed p_t ps p_key).length) c_1 ∧ OwnL w' lo_1 hi_1 45 1 R_Row A_1 ((s_l30Keyed p_t ps p_key).length) c_1 (s_l30Keyed p_t ps p_key) ∧ (okL ok_Row) (s_l30Keyed p_t ps p_key) ∧ (w.heap.size ≤ lo_1 ∧ lo_1 ≤ hi_1 ∧ hi_1 ≤ w'.heap.size) ∧ Ex w w' := by
 have hol7 : p_t.Name.length ≤ 1073741824 := o3.1
 have hol8 := o3.2.1.1
 have hol9 := o3.2.2.1
 have hol10 := o5.1
 have hol11 : p_key.length ≤ 1073741824 := o6
 have hrl := (rows_good p_t ps).1
 refine Cal.of func50 rfl ntmps50 rfl (cR (sd rfl (yl_box rfl rfl rfl ?_)))
 intro b12 w13 hs14 hz15 hB16 hE17
 refine sA rfl (dn (cR (sA rfl (dn (CW.seq ?_)))))
 refine cR (sd rfl (yl_loadN ty41 rfl rfl (hB16.cells (n := 3) rfl) rfl (sM rfl (sd rfl (yC en77 rfl (oc rfl (oc rfl oz)) (Cal.mono (c_s_l25Rows p_t ps (RdS.up (RdS.ex gS h1 hE17) gS) (RdS.up (RdS.ex gI h2 hE17) gI) (RdS.up (RdS.ex gW h4 hE17) gW) o3 o5) ?_))))))
 rintro v24 w21 ⟨A22, c22, lo22, hi22, rfl, h22, ho23, hrn26, hE25⟩
 have hE25z := Ex.size hE25
 refine sd rfl (yL un36 rfl rfl (sM rfl (dn (CW.block (CW.loop (fun m89 L90 w91 => ∃ (k27 : Nat) (x85 : List DRow) (A86 : Option Addr) (c87 : Nat) (u88 : Nat), m89 = (s_l25Rows p_t ps).length - k27 ∧ k27 ≤ (s_l25Rows p_t ps).length ∧ w21.heap.size ≤ w91.heap.size ∧ lkp L90 2 = some (.string (bs (p_key))) ∧ lkp L90 7 = some (.slice A86 x85.length c87) ∧ lkp L90 12 = some (.slice A22 ((s_l25Rows p_t ps).length) c22) ∧ lkp L90 13 = some (.int .i64 (((s_l25Rows p_t ps).length : Int))) ∧ lkp L90 14 = some (.int .i64 ((k27 : Int))) ∧ OwnL w91 w.heap.size u88 45 1 R_Row A86 x85.length c87 x85 ∧ OwnD w91 lo22 hi22 45 1 RO_Row A22 ((s_l25Rows p_t ps).length) c22 (s_l25Rows p_t ps) ∧ Ex w w91 ∧ (w.heap.size ≤ u88 ∧ u88 ≤ w91.heap.size) ∧ x85.length ≤ 0 + 1 * (k27 - 0) ∧ (∀ k, blk A86 = some k → w21.heap.size ≤ k) ∧ (∀ y ∈ x85, ok_Row y) ∧ loopM (B_s_l30Keyed_0 p_t ps p_key) ((s_l25Rows p_t ps).length - k27) k27 (x85) = loopM (B_s_l30Keyed_0 p_t ps p_key) ((s_l25Rows p_t ps).length - 0) 0 (([] : List DRow))) ((s_l25Rows p_t ps).length - 0) ?_ ?_)))))
 ·exact ⟨0, ([] : List DRow), none, 0, w.heap.size, rfl, oM, Nat.le_refl _, rfl, rfl, rfl, rfl, rfl, (OwnL.nil w21 w.heap.size w.heap.size 45 1 R_Row), h22, (Ex.trans (Ex.trans (Ex.refl w) hE17) hE25), oM, (by first | (simp; done) | (first | omega | (simp only [lN, toS_length]; omega))), (fun k h => by cases h), okE.nil, rfl⟩
 ·rintro m94 L95 w96 ⟨k27, x85, A86, c87, u88, rfl, hk97, hsz99, hl100, hl101, hl102, hl103, hl104, hf105, hf106, hf107, hu108, hln109, hok110, hok111, hI98⟩
  refine CW.sub (Sub.cons hl100 (Sub.cons hl101 (Sub.cons hl102 (Sub.cons hl103 (Sub.cons hl104 (Sub.nil _)))))) ?_
  have hf107z := Ex.size hf107
  have hbg112 := RdS.big (OwnL.rd good_Row (OwnD.own goodO_Row good_Row hf106))
  rcases Nat.lt_or_ge k27 ((s_l25Rows p_t ps).length) with hlt114 | hlt114
  ·have hrp := rows_pos pre0 hlt114
   refine cR (sd rfl (yl_lss rfl rfl rfl (dn (CW.seq (CW.cond_t rfl (lt_t hlt114) (CW.skip (tn ?_)))))))
   refine CW.seq (CW.block (cR ?_))
   obtain ⟨_, _, _, eA116, _, ebl116, _, eR116, eC116⟩ := RdS.atD (OwnL.rdI good_Row (OwnD.own goodO_Row good_Row hf106)) d_Row (i := k27) (by first | omega | assumption)
   obtain ⟨A117, c117, rfl, h117⟩ := eR116
   refine sd rfl (yl_ixN un36 ty45 rfl rfl rfl eA116 (sd rfl (yl_loadN ty45 rfl rfl eC116 rfl (sd rfl (yB ty45 (cs := [.slice none 0 0]) rfl rfl ?_)))))
   intro b118 w119 hs120 hz121 hB122 hE123
   refine SeqR.u rfl rfl (yl_store (vs := [.slice A117 ((((s_l25Rows p_t ps).getD k27 d_Row).Vals).length) c117]) ty45 rfl rfl rfl rfl rfl rfl hB122 (nb rfl) ?_)
   intro w124 hB125 hO126
   have hB125 : Box w124 b118 45 [.slice A117 ((((s_l25Rows p_t ps).getD k27 d_Row).Vals).length) c117] := hB125
   have hO126z := hO126.size
   refine dn (cR (sd rfl (yl_fieldAddr fd45_0 rfl rfl (sd rfl (yl_load1 ty22 rfl rfl ((hB125.cell 0).trans rfl) ?_)))))
   have q128 := RdS.only gS (RdS.ex gS h117 hE123) hO126 (by simp only [Iv]; omega)
   obtain ⟨eb129, eo129, _, eA129, _, ebl129, _, eR129, eC129⟩ := RdS.aD q128 d_Str (i := 0)
   obtain rfl := eR129
   have eC129 : Cells w124 eb129 (eo129 + 0 * 1) [.string (bs (((((s_l25Rows p_t ps).getD k27 d_Row).Vals).getD 0 d_Str)))] := eC129
   refine sd rfl (yl_ixN un22 ty9 rfl rfl rfl eA129 (sd rfl (yl_load1 ty9 rfl rfl (eC129 0 _ rfl) (sM rfl (sd rfl (yl_seql (a := ((((s_l25Rows p_t ps).getD k27 d_Row).Vals).getD 0 d_Str)) (b := p_key) rfl rfl rfl (dn (bcase (((((s_l25Rows p_t ps).getD k27 d_Row).Vals).getD 0 d_Str) == p_key) (fun hb130 => ?_) (fun hb130 => ?_)))))))))
   ·refine CW.cond_t rfl hb130 (CW.region (sM rfl (sd rfl (yl_loadN ty45 rfl rfl (hB125.cells (n := 1) rfl) rfl (sd rfl (yl_buildSlice (cs := [.slice A117 ((((s_l25Rows p_t ps).getD k27 d_Row).Vals).length) c117]) un36 ty45 (by decide) rfl (oc rfl oz) (by kernel_rfl) ?_))))))
    intro b131 w132 hs133 hz134 hB135 hE136
    have hO137 : OwnL w132 lo22 (b131 + 1) 45 1 R_Row (some ⟨b131, 0, none⟩) 1 1 ([((s_l25Rows p_t ps).getD k27 d_Row)] : List DRow) := OwnL.of_box (S := Iv lo22 b131) hB135 oM (Nat.lt_succ_self _) (EncL.cons (c := [.slice A117 ((((s_l25Rows p_t ps).getD k27 d_Row).Vals).length) c117]) rfl ⟨A117, c117, rfl, (RdS.ex gS (RdS.wide gS q128 (fun b hh hl => ⟨by first | exact Nat.zero_le _ | (have := hh.1; omega), by omega⟩)) hE136)⟩ EncL.nil) (nb rfl) (fun h => Nat.lt_irrefl _ h.2) (fun _ h => ⟨h.1, Nat.lt_succ_of_lt h.2⟩)
    refine sd rfl (yl_appendM (M := w21.heap.size) (S := (Iv w.heap.size w21.heap.size)) (lo := w.heap.size) (hi := u88) (xs := x85) (ys := ([((s_l25Rows p_t ps).getD k27 d_Row)] : List DRow)) good_Row un36 ty45 rfl (nb rfl) rfl rfl rfl (OwnL.ex good_Row (OwnL.only good_Row (OwnL.ex good_Row hf105 hE123) hO126 oM) hE136) (EncL.cons (c := [.slice A117 ((((s_l25Rows p_t ps).getD k27 d_Row).Vals).length) c117]) rfl ⟨A117, c117, rfl, (RdS.wide gS (RdS.ex gS q128 hE136) (fun b hh hl => ⟨by have := hh.1; omega, by have := hh.2; omega⟩))⟩ EncL.nil) (Or.inr ⟨_, _, rfl, rfl, hB135.cells (o := 0) (n := 1) rfl⟩) rfl Bl Bl oM oM (fun k h _ => ⟨h.1, Or.inr h.2⟩) hok110 oM oM ?_)
    intro A142 c143 w144 row145 hO146 hG147 hrg148 hbk149
    have hG147z := hG147.size
    refine sA rfl (SeqR.done (bn (tn (CW.region (sd rfl (yl_inc rfl rfl rfl oM (sM rfl (dn ?_))))))))
    have hB150 : B_s_l30Keyed_0 p_t ps p_key k27 (x85) = .cont ((x85 ++ ([((s_l25Rows p_t ps).getD k27 d_Row)] : List DRow))) := by simp only [B_s_l30Keyed_0, hb130, cL]
    exact ⟨(s_l25Rows p_t ps).length - (k27 + 1), oM, k27 + 1, (x85 ++ ([((s_l25Rows p_t ps).getD k27 d_Row)] : List DRow)), A142, c143, w144.heap.size, rfl, hlt114, oM, rfl, rfl, rfl, rfl, rfl, hO146, (OwnD.grown goodO_Row (OwnD.ex goodO_Row (OwnD.only goodO_Row (OwnD.ex goodO_Row hf106 hE123) hO126 oM) hE136) hG147 (fun k hk => by have := hrg148 k hk; omega)), (Below.grown (Ex.trans (Below.only (Ex.trans hf107 hE123) hO126 oM) hE136) hG147 oM (fun k hk => by have := hrg148 k hk; omega)), oM, Bl, hbk149, (okE.append hok111 ((okL.mk (nb rfl) (okE.cons (show ok_Row ((s_l25Rows p_t ps).getD k27 d_Row) from (okL.getD ho23 ok_d_Row _)) okE.nil))).2), (loopM.cont hlt114 hB150).symm.trans hI98⟩
   ·refine CW.cond_f rfl hb130 (CW.skip (bn (tn (CW.region (sd rfl (yl_inc rfl rfl rfl oM (sM rfl (dn ?_))))))))
    have hB159 : B_s_l30Keyed_0 p_t ps p_key k27 (x85) = .cont (x85) := by simp only [B_s_l30Keyed_0, hb130, cL]
    exact ⟨(s_l25Rows p_t ps).length - (k27 + 1), oM, k27 + 1, x85, A86, c87, u88, rfl, hlt114, oM, rfl, rfl, rfl, rfl, rfl, (OwnL.only good_Row (OwnL.ex good_Row hf105 hE123) hO126 oM), (OwnD.only goodO_Row (OwnD.ex goodO_Row hf106 hE123) hO126 oM), (Below.only (Ex.trans hf107 hE123) hO126 oM), oM, Bl, hok110, hok111, (loopM.cont hlt114 hB159).symm.trans hI98⟩
  ·refine cR (sd rfl (yl_lss rfl rfl rfl (dn (CW.seq (CW.cond_f rfl (lt_f hlt114) (CW.exit (tx ?_)))))))
   refine tx ?_
   have hL166 : loopM (B_s_l30Keyed_0 p_t ps p_key) ((s_l25Rows p_t ps).length - 0) 0 (([] : List DRow)) = .done (x85) := hI98.symm.trans (loopM.stop hlt114)
   refine bx (tn (cR (sM rfl (sA rfl (dn (CW.ret ?_))))))
   refine rr rfl (.cons rfl .nil) ?_
   have hM167 : (s_l30Keyed p_t ps p_key) = (x85) := by simp only [s_l30Keyed, hL166, cL]
   rw [hM167]
   exact ⟨A86, c87, w.heap.size, u88, rfl, hf105, (okL.mk (xs := x85) Bl hok111), oM, hf107⟩
theorem c_s_l25ReadEntry {A1 : Option Addr} {c1 : Nat} {A2 : Option Addr} {c2 : Nat} {w : World} (p_t : DTable) (pn : Str) (p_key : Str) (h1 : RdS w (Iv 0 w.heap.size) (RF e_Str) 1 A1 p_t.Cols.length c1 p_t.Cols) (h2 : RdS w (Iv 0 w.heap.size) (RF e_Idx) 3 A2 p_t.Idxs.length c2 p_t.Idxs) (o3 : ok_Table p_t) (o4 : okS pn) (o5 : okS p_key) : Cal Tryz.prog 79 #[.agg #[.string (bs (p_t.Name)), .slice A1 p_t.Cols.length c1, .slice A2 p_t.Idxs.length c2], .string (bs (pn)), .string (bs (p_key))] w fun v w' => v = .tuple #[.string (bs ((s_l25ReadEntry p_t pn p_key).1)), .string (bs ((s_l25ReadEntry p_t pn p_key).2.1)), .bool ((s_l25ReadEntry p_t pn p_key).2.2)] ∧ okS ((s_l25ReadEntry p_t pn p_key).1) ∧ okS ((s_l25ReadEntry p_t pn p_key).2.1) ∧ Ex w w' := by
 have hol6 : p_t.Name.length ≤ 1073741824 := o3.1
 have hol7 := o3.2.1.1
 have hol8 := o3.2.2.1
 have hol9 : pn.length ≤ 1073741824 := o4
 have hol10 : p_key.length ≤ 1073741824 := o5
 refine Cal.of func79 rfl ntmps79 rfl (cR (sd rfl (yl_box rfl rfl rfl ?_)))
 intro b11 w12 hs13 hz14 hB15 hE16
 refine sA rfl (sA rfl (sA rfl (dn (cR (sM rfl (sd rfl (yC en109 rfl (oc rfl (oc rfl oz)) (Cal.mono (c_s_l1Split p_key 47 o5) ?_))))))))
 rintro v20 w17 ⟨A18, c18, lo18, hi18, rfl, h18, ho19, hrn22, hE21⟩
 have hE21z := Ex.size hE21
 have hrf23 := rf_l1Split p_key 47
 refine sA rfl (dn (CW.seq (CW.seq (bcase (decide (((s_l1Split p_key 47).length : Int) = 3)) (fun hb24 => ?_) (fun hb24 => ?_)))))
 ·have hb24p := dec_t hb24
  obtain ⟨eb26, eo26, _, eA26, _, ebl26, _, eR26, eC26⟩ := RdS.aD (OwnL.rd gS h18) d_Str (i := 0)
  obtain rfl := eR26
  have eC26 : Cells w17 eb26 (eo26 + 0 * 1) [.string (bs (((s_l1Split p_key 47).getD 0 d_Str)))] := eC26
  have hol28 : p_t.Name.length ≤ 1073741824 := o3.1
  have hol29 : p_t.Name.length ≤ 1073741824 := o3.1
  have hol30 : pn.length ≤ 1073741824 := o4
  refine drI 12 [.slice A18 ((s_l1Split p_key 47).length) c18, .int .i64 (((s_l1Split p_key 47).length : Int)), .bool (!(decide (((s_l1Split p_key 47).length : Int) = 3))), .bool (!(decide (((s_l1Split p_key 47).length : Int) = 3))), .slice A18 ((s_l1Split p_key 47).length) c18, .pointer (some ⟨eb26, eo26 + 0 * 1, none⟩), .string (bs (((s_l1Split p_key 47).getD 0 d_Str))), .pointer (some ⟨b11, 0 + 0, none⟩), .string (bs (p_t.Name)), .string (bs (p_t.Name ++ ([46] : Str))), .string (bs (pn)), .string (bs ((p_t.Name ++ ([46] : Str)) ++ pn))] Tryz.follows rfl ⟨?_, ?_, ?_, ?_, ?_, ?_, ?_, ?_, ?_, ?_, ?_, ?_, trivial⟩ ?_
  ·exact oI rfl fun h => yM rfl (h.old 9 _ rfl rfl) kI
  ·exact oI rfl fun h => yL un22 rfl (h.dt 0 12 rfl rfl rfl) kI
  ·exact oI rfl fun h => yl_neq rfl (h.dt 1 13 rfl rfl rfl) rfl kI
  ·exact oI rfl fun h => yM rfl (h.dt 2 14 rfl rfl rfl) kI
  ·exact oW rfl rfl rfl rfl (not_t hb24) fun h => yM rfl (h.old 9 _ rfl rfl) kI
  ·intro L57 w58 hi59
   have hE60 := hi59.ex
   have hE60z := Ex.size hE60
   exact OpR.want rfl rfl (hi59.dt 3 15 rfl rfl rfl) (not_t hb24) (Yl.sameI (yl_ixN un22 ty9 rfl (hi59.dt 4 16 rfl rfl rfl) rfl eA26 kI))
  ·exact oW rfl rfl rfl rfl (not_t hb24) fun h => yl_load1 ty9 rfl (h.dt 5 17 rfl rfl rfl) ((Cells.ex eC26 h.ex) 0 _ rfl) kI
  ·exact oW rfl rfl rfl rfl (not_t hb24) fun h => yl_fieldAddr fd41_0 rfl (h.old 3 _ rfl rfl) kI
  ·exact oW rfl rfl rfl rfl (not_t hb24) fun h => yl_load1 ty9 rfl (h.dt 7 19 rfl rfl rfl) (((Box.ex (Box.ex hB15 hE21) h.ex).cell 0).trans rfl) kI
  ·intro L83 w84 hi85
   have hE86 := hi85.ex
   have hE86z := Ex.size hE86
   have hol89 : p_t.Name.length ≤ 1073741824 := o3.1
   exact OpR.want rfl rfl (hi85.dt 3 15 rfl rfl rfl) (not_t hb24) (Yl.sameI (yl_sadd (a := p_t.Name) (b := ([46] : Str)) rfl (hi85.dt 8 20 rfl rfl rfl) rfl Bl kI))
  ·exact oW rfl rfl rfl rfl (not_t hb24) fun h => yM rfl (h.old 1 _ rfl rfl) kI
  ·intro L96 w97 hi98
   have hE99 := hi98.ex
   have hE99z := Ex.size hE99
   have hol103 : p_t.Name.length ≤ 1073741824 := o3.1
   have hol104 : pn.length ≤ 1073741824 := o4
   exact OpR.want rfl rfl (hi98.dt 3 15 rfl rfl rfl) (not_t hb24) (Yl.sameI (yl_sadd (a := (p_t.Name ++ ([46] : Str))) (b := pn) rfl (hi98.dt 9 21 rfl rfl rfl) (hi98.dt 10 22 rfl rfl rfl) Bl kI))
  ·intro fl108 fh109 L105 w106 hp107
   have hE110 := hp107.ex
   have hE110z := Ex.size hE110
   have hx111 := hp107.old 9 _ rfl rfl
   have hx112 := hp107.nt 3 15 rfl rfl rfl
   refine sy rfl hx112 (not_t hb24) (yl_sneq (a := ((s_l1Split p_key 47).getD 0 d_Str)) (b := ((p_t.Name ++ ([46] : Str)) ++ pn)) rfl (hp107.nt 6 18 rfl rfl rfl) (hp107.nt 11 23 rfl rfl rfl) (sd rfl (yl_pick_f rfl hx112 (not_t hb24) rfl (sM rfl (bcase (((s_l1Split p_key 47).getD 0 d_Str) == ((p_t.Name ++ ([46] : Str)) ++ pn)) (fun hb115 => ?_) (fun hb115 => ?_))))))
   ·refine sy rfl rfl (not_t hb115) (yM rfl hx111 ?_)
    have q117 := OwnL.ex gS h18 hE110
    obtain ⟨eb118, eo118, _, eA118, _, ebl118, _, eR118, eC118⟩ := RdS.aD (OwnL.rd gS q117) d_Str (i := 1)
    obtain rfl := eR118
    have eC118 : Cells w106 eb118 (eo118 + 1 * 1) [.string (bs (((s_l1Split p_key 47).getD 1 d_Str)))] := eC118
    refine sy rfl rfl (not_t hb115) (yl_ixN un22 ty9 rfl rfl rfl eA118 (sy rfl rfl (not_t hb115) (yl_load1 ty9 rfl rfl (eC118 0 _ rfl) (sy rfl rfl (not_t hb115) (yC en75 rfl (oc rfl oz) (Cal.mono (c_s_l25Field ((s_l1Split p_key 47).getD 1 d_Str) (okS_l1Split o5 _ _)) ?_))))))
    rintro v120 w119 ⟨rfl, hE121⟩
    have hE121z := Ex.size hE121
    refine sy rfl rfl (not_t hb115) (yl_not rfl rfl (sd rfl (yl_pick_f rfl rfl (not_t hb115) rfl (sM rfl (bcase (s_l25Field ((s_l1Split p_key 47).getD 1 d_Str)) (fun hb122 => ?_) (fun hb122 => ?_))))))
    ·refine sy rfl rfl (not_t hb122) (yM rfl hx111 ?_)
     obtain ⟨eb125, eo125, _, eA125, _, ebl125, _, eR125, eC125⟩ := RdS.atD (OwnL.rd gS (OwnL.ex gS q117 hE121)) d_Str (i := 2) (by first | omega | assumption)
     obtain rfl := eR125
     have eC125 : Cells w119 eb125 (eo125 + 2 * 1) [.string (bs (((s_l1Split p_key 47).getD 2 d_Str)))] := eC125
     refine sy rfl rfl (not_t hb122) (yl_ixN un22 ty9 rfl rfl rfl eA125 (sy rfl rfl (not_t hb122) (yl_load1 ty9 rfl rfl (eC125 0 _ rfl) (sy rfl rfl (not_t hb122) (yC en75 rfl (oc rfl oz) (Cal.mono (c_s_l25Field ((s_l1Split p_key 47).getD 2 d_Str) (okS_l1Split o5 _ _)) ?_))))))
     rintro v127 w126 ⟨rfl, hE128⟩
     have hE128z := Ex.size hE128
     refine sy rfl rfl (not_t hb122) (yl_not rfl rfl (sd rfl (yl_pick_f rfl rfl (not_t hb122) rfl (dn (CW.sub (sC 9 hx111 (sC 39 rfl (Sub.nil _))) (bcase (s_l25Field ((s_l1Split p_key 47).getD 2 d_Str)) (fun hb129 => ?_) (fun hb129 => ?_)))))))
     ·refine CW.cond_f rfl (not_t hb129) (CW.skip (tn (CW.seq (drI 9 [.slice A18 ((s_l1Split p_key 47).length) c18, .pointer (some ⟨eb118, eo118 + 1 * 1, none⟩), .string (bs (((s_l1Split p_key 47).getD 1 d_Str))), .slice A18 ((s_l1Split p_key 47).length) c18, .pointer (some ⟨eb125, eo125 + 2 * 1, none⟩), .string (bs (((s_l1Split p_key 47).getD 2 d_Str))), .string (bs (((s_l1Split p_key 47).getD 1 d_Str))), .string (bs (((s_l1Split p_key 47).getD 2 d_Str))), .bool (true)] Tryz.follows rfl ⟨?_, ?_, ?_, ?_, ?_, ?_, ?_, ?_, ?_, trivial⟩ ?_))))
      ·exact oI rfl fun h => yM rfl (h.old 9 _ rfl rfl) kI
      ·intro L138 w139 hi140
       have hE141 := hi140.ex
       have hE141z := Ex.size hE141
       exact os rfl ((yl_ixN un22 ty9 rfl (hi140.dt 0 40 rfl rfl rfl) rfl eA118 kI))
      ·exact oI rfl fun h => yl_load1 ty9 rfl (h.dt 1 41 rfl rfl rfl) ((Cells.ex (Cells.ex (Cells.ex eC118 hE121) hE128) h.ex) 0 _ rfl) kI
      ·exact oI rfl fun h => yM rfl (h.old 9 _ rfl rfl) kI
      ·intro L154 w155 hi156
       have hE157 := hi156.ex
       have hE157z := Ex.size hE157
       exact os rfl ((yl_ixN un22 ty9 rfl (hi156.dt 3 43 rfl rfl rfl) rfl eA125 kI))
      ·exact oI rfl fun h => yl_load1 ty9 rfl (h.dt 4 44 rfl rfl rfl) ((Cells.ex (Cells.ex eC125 hE128) h.ex) 0 _ rfl) kI
      ·exact oI rfl fun h => yA rfl (h.dt 2 42 rfl rfl rfl) kI
      ·exact oI rfl fun h => yA rfl (h.dt 5 45 rfl rfl rfl) kI
      ·exact oI rfl fun _ => yA rfl rfl kI
      ·intro fl182 fh183 L179 w180 hp181
       have hE184 := hp181.ex
       have hE184z := Ex.size hE184
       refine dn (CW.sub (sC 6 (hp181.nt 6 6 rfl rfl rfl) (sC 7 (hp181.nt 7 7 rfl rfl rfl) (sC 8 (hp181.nt 8 8 rfl rfl rfl) (Sub.nil _)))) (CW.ret (rr rfl (.cons rfl (.cons rfl (.cons rfl .nil))) ?_)))
       have hM188 : (s_l25ReadEntry p_t pn p_key) = ((((s_l1Split p_key 47).getD 1 d_Str), ((s_l1Split p_key 47).getD 2 d_Str), true)) := by simp only [s_l25ReadEntry, hb24, hb115, hb122, hb129, cL]
       rw [hM188]
       exact ⟨rfl, (okS_l1Split o5 _ _), (okS_l1Split o5 _ _), (Ex.trans (Ex.trans (Ex.trans (Ex.trans (Ex.trans (Ex.trans (Ex.refl w) hE16) hE21) hE110) hE121) hE128) hE184)⟩
     ·refine CW.cond_t rfl (not_f hb129) (cR (sA rfl (sA rfl (sA rfl (dn (CW.ret ?_))))))
      refine tr (rr rfl (.cons rfl (.cons rfl (.cons rfl .nil))) ?_)
      have hM195 : (s_l25ReadEntry p_t pn p_key) = ((([] : Str), ([] : Str), false)) := by simp only [s_l25ReadEntry, hb24, hb115, hb122, hb129, cL]
      rw [hM195]
      exact ⟨rfl, (okS.lit rfl), (okS.lit rfl), (Ex.trans (Ex.trans (Ex.trans (Ex.trans (Ex.trans (Ex.refl w) hE16) hE21) hE110) hE121) hE128)⟩
    ·refine sz rfl rfl (not_f hb122) (sz rfl rfl (not_f hb122) (sz rfl rfl (not_f hb122) (sz rfl rfl (not_f hb122) (sz rfl rfl (not_f hb122) (sd rfl (yl_pick_t rfl rfl (not_f hb122) rfl (dn (CW.sub (sC 9 hx111 (sC 39 rfl (Sub.nil _))) ?_))))))))
     refine CW.cond_t rfl rfl (cR (sA rfl (sA rfl (sA rfl (dn (CW.ret ?_))))))
     refine tr (rr rfl (.cons rfl (.cons rfl (.cons rfl .nil))) ?_)
     have hM201 : (s_l25ReadEntry p_t pn p_key) = ((([] : Str), ([] : Str), false)) := by simp only [s_l25ReadEntry, hb24, hb115, hb122, cL]
     rw [hM201]
     exact ⟨rfl, (okS.lit rfl), (okS.lit rfl), (Ex.trans (Ex.trans (Ex.trans (Ex.trans (Ex.refl w) hE16) hE21) hE110) hE121)⟩
   ·refine sz rfl rfl (not_f hb115) (sz rfl rfl (not_f hb115) (sz rfl rfl (not_f hb115) (sz rfl rfl (not_f hb115) (sz rfl rfl (not_f hb115) (sd rfl (yl_pick_t rfl rfl (not_f hb115) rfl (sM rfl (sz rfl rfl rfl (sz rfl rfl rfl ?_)))))))))
    refine sz rfl rfl rfl (sz rfl rfl rfl (sz rfl rfl rfl (sd rfl (yl_pick_t rfl rfl rfl rfl (dn (CW.sub (sC 9 hx111 (sC 39 rfl (Sub.nil _))) (CW.cond_t rfl rfl (CW.seq ?_))))))))
    refine CW.region (sA rfl (sA rfl (sA rfl (dn (CW.ret (tr (rr rfl (.cons rfl (.cons rfl (.cons rfl .nil))) ?_)))))))
    have hM206 : (s_l25ReadEntry p_t pn p_key) = ((([] : Str), ([] : Str), false)) := by simp only [s_l25ReadEntry, hb24, hb115, cL]
    rw [hM206]
    exact ⟨rfl, (okS.lit rfl), (okS.lit rfl), (Ex.trans (Ex.trans (Ex.trans (Ex.refl w) hE16) hE21) hE110)⟩
 ·have hb24p := dec_f hb24
  refine drI 12 [.slice A18 ((s_l1Split p_key 47).length) c18, .int .i64 (((s_l1Split p_key 47).length : Int)), .bool (!(decide (((s_l1Split p_key 47).length : Int) = 3))), .bool (!(decide (((s_l1Split p_key 47).length : Int) = 3))), undef, undef, undef, undef, undef, undef, undef, undef] Tryz.follows rfl ⟨?_, ?_, ?_, ?_, ?_, ?_, ?_, ?_, ?_, ?_, ?_, ?_, trivial⟩ ?_
  ·exact oI rfl fun h => yM rfl (h.old 9 _ rfl rfl) kI
  ·exact oI rfl fun h => yL un22 rfl (h.dt 0 12 rfl rfl rfl) kI
  ·exact oI rfl fun h => yl_neq rfl (h.dt 1 13 rfl rfl rfl) rfl kI
  ·exact oI rfl fun h => yM rfl (h.dt 2 14 rfl rfl rfl) kI
  ·exact oS rfl rfl rfl rfl rfl (not_f hb24)
  ·exact oS rfl rfl rfl rfl rfl (not_f hb24)
  ·exact oS rfl rfl rfl rfl rfl (not_f hb24)
  ·exact oS rfl rfl rfl rfl rfl (not_f hb24)
  ·exact oS rfl rfl rfl rfl rfl (not_f hb24)
  ·exact oS rfl rfl rfl rfl rfl (not_f hb24)
  ·exact oS rfl rfl rfl rfl rfl (not_f hb24)
  ·exact oS rfl rfl rfl rfl rfl (not_f hb24)
  ·intro fl273 fh274 L270 w271 hp272
   have hE275 := hp272.ex
   have hE275z := Ex.size hE275
   have hx277 := hp272.nt 3 15 rfl rfl rfl
   refine sz rfl hx277 (not_f hb24) (sd rfl (yl_pick_t rfl hx277 (not_f hb24) rfl (sM rfl (sz rfl rfl rfl (sz rfl rfl rfl (sz rfl rfl rfl (sz rfl rfl rfl (sz rfl rfl rfl (sd rfl (yl_pick_t rfl rfl rfl rfl ?_))))))))))
   refine sM rfl (sz rfl rfl rfl (sz rfl rfl rfl (sz rfl rfl rfl (sz rfl rfl rfl (sz rfl rfl rfl (sd rfl (yl_pick_t rfl rfl rfl rfl (dn ?_))))))))
   refine CW.sub (sC 9 (hp272.old 9 _ rfl rfl) (sC 39 rfl (Sub.nil _))) (CW.cond_t rfl rfl (cR (sA rfl (sA rfl (sA rfl (dn ?_))))))
   refine CW.ret (tr (rr rfl (.cons rfl (.cons rfl (.cons rfl .nil))) ?_))
   have hM280 : (s_l25ReadEntry p_t pn p_key) = ((([] : Str), ([] : Str), false)) := by simp only [s_l25ReadEntry, hb24, cL]
   rw [hM280]
   exact ⟨rfl, (okS.lit rfl), (okS.lit rfl), (Ex.trans (Ex.trans (Ex.trans (Ex.refl w) hE16) hE21) hE275)⟩
theorem c_s_l25Entries {A1 : Option Addr} {c1 : Nat} {A2 : Option Addr} {c2 : Nat} {A5 : Option Addr} {c5 : Nat} {w : World} (p_t : DTable) (pn : Str) (ps : List DWrite) (h1 : RdS w (Iv 0 w.heap.size) (RF e_Str) 1 A1 p_t.Cols.length c1 p_t.Cols) (h2 : RdS w (Iv 0 w.heap.size) (RF e_Idx) 3 A2 p_t.Idxs.length c2 p_t.Idxs) (h5 : RdS w (Iv 0 w.heap.size) (RF e_Write) 3 A5 ps.length c5 ps) (o3 : ok_Table p_t) (o4 : okS pn) (o6 : (okL ok_Write) ps) : Cal Tryz.prog 78 #[.agg #[.string (bs (p_t.Name)), .slice A1 p_t.Cols.length c1, .slice A2 p_t.Idxs.length c2], .string (bs (pn)), .slice A5 ps.length c5] w fun v w' => ∃ A_1 c_1 lo_1 hi_1, v = .slice A_1 ((s_l25Entries p_t pn ps).length) c_1 ∧ OwnL w' lo_1 hi_1 9 1 (RF e_Str) A_1 ((s_l25Entries p_t pn ps).length) c_1 (s_l25Entries p_t pn ps) ∧ (okL okS) (s_l25Entries p_t pn ps) ∧ (w.heap.size ≤ lo_1 ∧ lo_1 ≤ hi_1 ∧ hi_1 ≤ w'.heap.size) ∧ Ex w w' := by
 have hol7 : p_t.Name.length ≤ 1073741824 := o3.1
 have hol8 := o3.2.1.1
 have hol9 := o3.2.2.1
 have hol10 : pn.length ≤ 1073741824 := o4
 have hol11 := o6.1
 refine Cal.of func78 rfl ntmps78 rfl (cR (sd rfl (yl_box rfl rfl rfl ?_)))
 intro b12 w13 hs14 hz15 hB16 hE17
 refine sA rfl (dn (cR (sA rfl (dn (CW.seq ?_)))))
 refine cR (sM rfl (sd rfl (yL un43 rfl rfl (sM rfl (dn (CW.block (CW.loop (fun m84 L85 w86 => ∃ (k18 : Nat) (x80 : List Str) (A81 : Option Addr) (c82 : Nat) (u83 : Nat), m84 = ps.length - k18 ∧ k18 ≤ ps.length ∧ w13.heap.size ≤ w86.heap.size ∧ lkp L85 1 = some (.string (bs (pn))) ∧ lkp L85 3 = some (.pointer (some ⟨b12, 0, none⟩)) ∧ lkp L85 7 = some (.slice A81 x80.length c82) ∧ lkp L85 13 = some (.slice A5 ps.length c5) ∧ lkp L85 14 = some (.int .i64 ((ps.length : Int))) ∧ lkp L85 15 = some (.int .i64 ((k18 : Int))) ∧ Box w86 b12 41 [.string (bs (p_t.Name)), .slice A1 p_t.Cols.length c1, .slice A2 p_t.Idxs.length c2] ∧ RdS w86 (Iv 0 w.heap.size) (RF e_Str) 1 A1 p_t.Cols.length c1 p_t.Cols ∧ RdS w86 (Iv 0 w.heap.size) (RF e_Idx) 3 A2 p_t.Idxs.length c2 p_t.Idxs ∧ OwnL w86 w13.heap.size u83 9 1 (RF e_Str) A81 x80.length c82 x80 ∧ RdS w86 (Iv 0 w.heap.size) (RF e_Write) 3 A5 ps.length c5 ps ∧ Ex w w86 ∧ (w13.heap.size ≤ u83 ∧ u83 ≤ w86.heap.size) ∧ x80.length ≤ 0 + 1 * (k18 - 0) ∧ (∀ y ∈ x80, okS y) ∧ loopM (B_s_l25Entries_0 p_t pn ps) (ps.length - k18) k18 (x80) = loopM (B_s_l25Entries_0 p_t pn ps) (ps.length - 0) 0 (([] : List Str))) (ps.length - 0) ?_ ?_)))))))
 ·exact ⟨0, ([] : List Str), none, 0, w13.heap.size, rfl, oM, Nat.le_refl _, rfl, rfl, rfl, rfl, rfl, rfl, hB16, (RdS.ex gS h1 hE17), (RdS.ex gI h2 hE17), (OwnL.nil w13 w13.heap.size w13.heap.size 9 1 (RF e_Str)), (RdS.ex gW h5 hE17), (Ex.trans (Ex.refl w) hE17), oM, (by first | (simp; done) | (first | omega | (simp only [lN, toS_length]; omega))), okE.nil, rfl⟩
 ·rintro m91 L92 w93 ⟨k18, x80, A81, c82, u83, rfl, hk94, hsz96, hl97, hl98, hl99, hl100, hl101, hl102, hf103, hf104, hf105, hf106, hf107, hf108, hu109, hln110, hok111, hI95⟩
  refine CW.sub (Sub.cons hl97 (Sub.cons hl98 (Sub.cons hl99 (Sub.cons hl100 (Sub.cons hl101 (Sub.cons hl102 (Sub.nil _))))))) ?_
  have hf103z := Box.lt hf103
  have hf108z := Ex.size hf108
  have hbg112 := RdS.big hf107
  rcases Nat.lt_or_ge k18 ps.length with hlt113 | hlt113
  ·refine cR (sd rfl (yl_lss rfl rfl rfl (dn (CW.seq (CW.cond_t rfl (lt_t hlt113) (CW.skip (tn ?_)))))))
   refine CW.seq (CW.block (cR ?_))
   obtain ⟨eb114, eo114, _, eA114, _, ebl114, _, eR114, eC114⟩ := RdS.aD hf107 d_Write (i := k18)
   obtain rfl := eR114
   have eC114 : Cells w93 eb114 (eo114 + k18 * 3) [.string (bs ((ps.getD k18 d_Write).Key)), .string (bs ((ps.getD k18 d_Write).Val)), .bool ((ps.getD k18 d_Write).Gone)] := eC114
   refine sd rfl (yl_ixN un43 ty70 rfl rfl rfl eA114 (sd rfl (yl_loadN ty70 rfl rfl eC114 rfl (sd rfl (yB ty70 (cs := [.string (bs (([] : Str))), .string (bs (([] : Str))), .bool (false)]) rfl rfl ?_)))))
   intro b115 w116 hs117 hz118 hB119 hE120
   refine SeqR.u rfl rfl (yl_store (vs := [.string (bs ((ps.getD k18 d_Write).Key)), .string (bs ((ps.getD k18 d_Write).Val)), .bool ((ps.getD k18 d_Write).Gone)]) ty70 rfl rfl rfl rfl rfl rfl hB119 (nb rfl) ?_)
   intro w121 hB122 hO123
   have hB122 : Box w121 b115 70 [.string (bs ((ps.getD k18 d_Write).Key)), .string (bs ((ps.getD k18 d_Write).Val)), .bool ((ps.getD k18 d_Write).Gone)] := hB122
   have hO123z := hO123.size
   refine dn (cR ?_)
   have q125 := Box.only (Box.ex hf103 hE120) hO123 oM
   refine sd rfl (yl_loadN ty41 rfl rfl (q125.cells (n := 3) rfl) rfl (sM rfl (sd rfl (yl_fieldAddr fd70_0 rfl rfl (sd rfl (yl_load1 ty9 rfl rfl ((hB122.cell 0).trans rfl) ?_))))))
   have q127 := RdS.only gS (RdS.ex gS hf104 hE120) hO123 (by simp only [Iv]; omega)
   have q129 := RdS.only gI (RdS.ex gI hf105 hE120) hO123 (by simp only [Iv]; omega)
   refine sd rfl (yC en79 rfl (oc rfl (oc rfl (oc rfl oz))) (Cal.mono (c_s_l25ReadEntry p_t pn ((ps.getD k18 d_Write).Key) (RdS.up q127 gS) (RdS.up q129 gI) o3 o4 ((okL.getD o6 ok_d_Write _).1)) ?_))
   rintro v133 w130 ⟨rfl, ho131, ho132, hE134⟩
   have hE134z := Ex.size hE134
   refine sM rfl (sd rfl (yl_extract rfl rfl rfl (sd rfl (yl_extract rfl rfl rfl (sd rfl (yl_extract rfl rfl rfl (sA rfl (sA rfl (sA rfl (dn ?_))))))))))
   refine cR (sM rfl (dn (bcase ((s_l25ReadEntry p_t pn ((ps.getD k18 d_Write).Key)).2.2) (fun hb135 => ?_) (fun hb135 => ?_))))
   ·refine CW.cond_t rfl hb135 (CW.region (sM rfl (sd rfl (yl_fieldAddr fd70_0 rfl rfl (sd rfl (yl_load1 ty9 rfl rfl (((Box.ex hB122 hE134).cell 0).trans rfl) (sd rfl (yl_buildSlice (cs := [.string (bs ((ps.getD k18 d_Write).Key))]) un22 ty9 (by decide) rfl (oc rfl oz) (by kernel_rfl) ?_))))))))
    intro b137 w138 hs139 hz140 hB141 hE142
    have hO143 : OwnL w138 b137 (b137 + 1) 9 1 (RF e_Str) (some ⟨b137, 0, none⟩) 1 1 ([(ps.getD k18 d_Write).Key] : List Str) := OwnL.of_box (S := fun _ => False) hB141 (Nat.le_refl _) (Nat.lt_succ_self _) (EncL.cons (c := [.string (bs ((ps.getD k18 d_Write).Key))]) rfl rfl EncL.nil) (nb rfl) (fun h => h) (fun _ h => False.elim h)
    refine sd rfl (yl_appendL (S := (fun _ => False)) (lo := w13.heap.size) (hi := u83) (xs := x80) (ys := ([(ps.getD k18 d_Write).Key] : List Str)) gS un22 ty9 rfl (nb rfl) rfl rfl rfl (OwnL.ex gS (OwnL.ex gS (OwnL.only gS (OwnL.ex gS hf106 hE120) hO123 oM) hE134) hE142) (EncL.cons (c := [.string (bs ((ps.getD k18 d_Write).Key))]) rfl rfl EncL.nil) (Or.inr ⟨_, _, rfl, rfl, hB141.cells (o := 0) (n := 1) rfl⟩) rfl Bl Bl oM oM (fun _ h _ => False.elim h) oM ?_)
    intro A148 c149 w150 row151 hO152 hG153 hrg154
    have hG153z := hG153.size
    refine sA rfl (SeqR.done (bn (tn (CW.region (sd rfl (yl_inc rfl rfl rfl oM (sM rfl (dn ?_))))))))
    have hB155 : B_s_l25Entries_0 p_t pn ps k18 (x80) = .cont ((x80 ++ ([(ps.getD k18 d_Write).Key] : List Str))) := by simp only [B_s_l25Entries_0, hb135, cL]
    exact ⟨ps.length - (k18 + 1), oM, k18 + 1, (x80 ++ ([(ps.getD k18 d_Write).Key] : List Str)), A148, c149, w150.heap.size, rfl, hlt113, oM, rfl, rfl, rfl, rfl, rfl, rfl, (Box.grown (Box.ex (Box.ex q125 hE134) hE142) hG153 (fun k hk => by have := hrg154 k hk; omega)), (RdS.grown gS (RdS.ex gS (RdS.ex gS q127 hE134) hE142) hG153 (fun k hk => by have := hrg154 k hk; simp only [Iv]; omega)), (RdS.grown gI (RdS.ex gI (RdS.ex gI q129 hE134) hE142) hG153 (fun k hk => by have := hrg154 k hk; simp only [Iv]; omega)), hO152, (RdS.grown gW (RdS.ex gW (RdS.ex gW (RdS.only gW (RdS.ex gW hf107 hE120) hO123 (by simp only [Iv]; omega)) hE134) hE142) hG153 (fun k hk => by have := hrg154 k hk; simp only [Iv]; omega)), (Below.grown (Ex.trans (Ex.trans (Below.only (Ex.trans hf108 hE120) hO123 oM) hE134) hE142) hG153 oM (fun k hk => by have := hrg154 k hk; omega)), oM, Bl, (okE.append hok111 ((okL.mk (nb rfl) (okE.cons (okL.getD o6 ok_d_Write _).1 okE.nil))).2), (loopM.cont hlt113 hB155).symm.trans hI95⟩
   ·refine CW.cond_f rfl hb135 (CW.skip (bn (tn (CW.region (sd rfl (yl_inc rfl rfl rfl oM (sM rfl (dn ?_))))))))
    have hB175 : B_s_l25Entries_0 p_t pn ps k18 (x80) = .cont (x80) := by simp only [B_s_l25Entries_0, hb135, cL]
    exact ⟨ps.length - (k18 + 1), oM, k18 + 1, x80, A81, c82, u83, rfl, hlt113, oM, rfl, rfl, rfl, rfl, rfl, rfl, (Box.ex q125 hE134), (RdS.ex gS q127 hE134), (RdS.ex gI q129 hE134), (OwnL.ex gS (OwnL.only gS (OwnL.ex gS hf106 hE120) hO123 oM) hE134), (RdS.ex gW (RdS.only gW (RdS.ex gW hf107 hE120) hO123 (by simp only [Iv]; omega)) hE134), (Ex.trans (Below.only (Ex.trans hf108 hE120) hO123 oM) hE134), oM, Bl, hok111, (loopM.cont hlt113 hB175).symm.trans hI95⟩
  ·refine cR (sd rfl (yl_lss rfl rfl rfl (dn (CW.seq (CW.cond_f rfl (lt_f hlt113) (CW.exit (tx ?_)))))))
   refine tx ?_
   have hL188 : loopM (B_s_l25Entries_0 p_t pn ps) (ps.length - 0) 0 (([] : List Str)) = .done (x80) := hI95.symm.trans (loopM.stop hlt113)
   refine bx (tn (cR (sM rfl (sA rfl (dn (CW.ret ?_))))))
   refine rr rfl (.cons rfl .nil) ?_
   have hM189 : (s_l25Entries p_t pn ps) = (x80) := by simp only [s_l25Entries, hL188, cL]
   rw [hM189]
   exact ⟨A81, c82, w13.heap.size, u83, rfl, hf106, (okL.mk (xs := x80) Bl hok111), oM, hf108⟩
theorem c_s_l30Less {A1 : Option Addr} {c1 : Nat} {A3 : Option Addr} {c3 : Nat} {w : World} (p_a : DRow) (p_b : DRow) (p_col : Int) (h1 : RdS w (Iv 0 w.heap.size) (RF e_Str) 1 A1 p_a.Vals.length c1 p_a.Vals) (h3 : RdS w (Iv 0 w.heap.size) (RF e_Str) 1 A3 p_b.Vals.length c3 p_b.Vals) (o2 : ok_Row p_a) (o4 : ok_Row p_b) (pre0 : (0 ≤ p_col ∧ p_col < (p_a.Vals.length : Int) ∧ p_col < (p_b.Vals.length : Int))) : Cal Tryz.prog 80 #[.agg #[.slice A1 p_a.Vals.length c1], .agg #[.slice A3 p_b.Vals.length c3], .int .i64 (p_col)] w fun v w' => v = .bool ((s_l30Less p_a p_b p_col)) ∧ Ex w w' := by
 have hol5 := o2.1
 have hol6 := o4.1
 obtain ⟨hp01, hp02, hp03⟩ := pre0
 refine Cal.of func80 rfl ntmps80 rfl (cR (sd rfl (yl_box rfl rfl rfl ?_)))
 intro b7 w8 hs9 hz10 hB11 hE12
 refine sd rfl (yl_box rfl rfl rfl ?_)
 intro b13 w14 hs15 hz16 hB17 hE18
 refine sA rfl (dn (CW.seq (CW.seq ?_)))
 have q19 := Box.ex hB11 hE18
 have q21 := RdS.ex gS (RdS.ex gS h1 hE12) hE18
 obtain ⟨eb22, eo22, _, eA22, _, ebl22, _, eR22, eC22⟩ := RdS.atD q21 d_Str (i := (p_col).toNat) Bo
 obtain rfl := eR22
 have eC22 : Cells w14 eb22 (eo22 + ((p_col).toNat) * 1) [.string (bs ((p_a.Vals.getD ((p_col).toNat) d_Str)))] := eC22
 have q24 := RdS.ex gS (RdS.ex gS h3 hE12) hE18
 obtain ⟨eb25, eo25, _, eA25, _, ebl25, _, eR25, eC25⟩ := RdS.atD q24 d_Str (i := (p_col).toNat) Bo
 obtain rfl := eR25
 have eC25 : Cells w14 eb25 (eo25 + ((p_col).toNat) * 1) [.string (bs ((p_b.Vals.getD ((p_col).toNat) d_Str)))] := eC25
 refine drI 11 [.pointer (some ⟨b7, 0 + 0, none⟩), .slice A1 p_a.Vals.length c1, .int .i64 (p_col), .pointer (some ⟨eb22, eo22 + ((p_col).toNat) * 1, none⟩), .string (bs ((p_a.Vals.getD ((p_col).toNat) d_Str))), .pointer (some ⟨b13, 0 + 0, none⟩), .slice A3 p_b.Vals.length c3, .int .i64 (p_col), .pointer (some ⟨eb25, eo25 + ((p_col).toNat) * 1, none⟩), .string (bs ((p_b.Vals.getD ((p_col).toNat) d_Str))), .bool (!((p_a.Vals.getD ((p_col).toNat) d_Str) == (p_b.Vals.getD ((p_col).toNat) d_Str)))] Tryz.follows rfl ⟨?_, ?_, ?_, ?_, ?_, ?_, ?_, ?_, ?_, ?_, ?_, trivial⟩ ?_
 ·exact oI rfl fun h => yl_fieldAddr fd45_0 rfl (h.old 3 _ rfl rfl) kI
 ·exact oI rfl fun h => yl_load1 ty22 rfl (h.dt 0 7 rfl rfl rfl) (((Box.ex q19 h.ex).cell 0).trans rfl) kI
 ·exact oI rfl fun h => yM rfl (h.old 2 _ rfl rfl) kI
 ·intro L42 w43 hi44
  have hE45 := hi44.ex
  have hE45z := Ex.size hE45
  exact os rfl ((yl_indexAddr un22 ty9 rfl (hi44.dt 1 8 rfl rfl rfl) (hi44.dt 2 9 rfl rfl rfl) eA22 Bo Bo kI))
 ·exact oI rfl fun h => yl_load1 ty9 rfl (h.dt 3 10 rfl rfl rfl) ((Cells.ex eC22 h.ex) 0 _ rfl) kI
 ·exact oI rfl fun h => yl_fieldAddr fd45_0 rfl (h.old 4 _ rfl rfl) kI
 ·exact oI rfl fun h => yl_load1 ty22 rfl (h.dt 5 12 rfl rfl rfl) (((Box.ex hB17 h.ex).cell 0).trans rfl) kI
 ·exact oI rfl fun h => yM rfl (h.old 2 _ rfl rfl) kI
 ·intro L70 w71 hi72
  have hE73 := hi72.ex
  have hE73z := Ex.size hE73
  exact os rfl ((yl_indexAddr un22 ty9 rfl (hi72.dt 6 13 rfl rfl rfl) (hi72.dt 7 14 rfl rfl rfl) eA25 Bo Bo kI))
 ·exact oI rfl fun h => yl_load1 ty9 rfl (h.dt 8 15 rfl rfl rfl) ((Cells.ex eC25 h.ex) 0 _ rfl) kI
 ·exact oI rfl fun h => yl_sneq (a := (p_a.Vals.getD ((p_col).toNat) d_Str)) (b := (p_b.Vals.getD ((p_col).toNat) d_Str)) rfl (h.dt 4 11 rfl rfl rfl) (h.dt 9 16 rfl rfl rfl) kI
 ·intro fl91 fh92 L88 w89 hp90
  have hE93 := hp90.ex
  have hE93z := Ex.size hE93
  refine dn (CW.sub (sC 2 (hp90.old 2 _ rfl rfl) (sC 3 (hp90.old 3 _ rfl rfl) (sC 4 (hp90.old 4 _ rfl rfl) (sC 17 (hp90.nt 10 17 rfl rfl rfl) (Sub.nil _))))) (bcase ((p_a.Vals.getD ((p_col).toNat) d_Str) == (p_b.Vals.getD ((p_col).toNat) d_Str)) (fun hb98 => ?_) (fun hb98 => ?_)))
  ·refine CW.cond_f rfl (not_t hb98) (CW.skip (tn (CW.seq ?_)))
   obtain ⟨eb101, eo101, _, eA101, _, ebl101, _, eR101, eC101⟩ := RdS.aD (RdS.ex gS q21 hE93) d_Str (i := 0)
   obtain rfl := eR101
   have eC101 : Cells w89 eb101 (eo101 + 0 * 1) [.string (bs ((p_a.Vals.getD 0 d_Str)))] := eC101
   obtain ⟨eb104, eo104, _, eA104, _, ebl104, _, eR104, eC104⟩ := RdS.aD (RdS.ex gS q24 hE93) d_Str (i := 0)
   obtain rfl := eR104
   have eC104 : Cells w89 eb104 (eo104 + 0 * 1) [.string (bs ((p_b.Vals.getD 0 d_Str)))] := eC104
   refine drI 10 [.pointer (some ⟨b7, 0 + 0, none⟩), .slice A1 p_a.Vals.length c1, .pointer (some ⟨eb101, eo101 + 0 * 1, none⟩), .string (bs ((p_a.Vals.getD 0 d_Str))), .pointer (some ⟨b13, 0 + 0, none⟩), .slice A3 p_b.Vals.length c3, .pointer (some ⟨eb104, eo104 + 0 * 1, none⟩), .string (bs ((p_b.Vals.getD 0 d_Str))), .bool (sLt (p_a.Vals.getD 0 d_Str) (p_b.Vals.getD 0 d_Str)), .bool (sLt (p_a.Vals.getD 0 d_Str) (p_b.Vals.getD 0 d_Str))] Tryz.follows rfl ⟨?_, ?_, ?_, ?_, ?_, ?_, ?_, ?_, ?_, ?_, trivial⟩ ?_
   ·exact oI rfl fun h => yl_fieldAddr fd45_0 rfl (h.old 3 _ rfl rfl) kI
   ·exact oI rfl fun h => yl_load1 ty22 rfl (h.dt 0 29 rfl rfl rfl) (((Box.ex (Box.ex q19 hE93) h.ex).cell 0).trans rfl) kI
   ·intro L116 w117 hi118
    have hE119 := hi118.ex
    have hE119z := Ex.size hE119
    exact os rfl ((yl_ixN un22 ty9 rfl (hi118.dt 1 30 rfl rfl rfl) rfl eA101 kI))
   ·exact oI rfl fun h => yl_load1 ty9 rfl (h.dt 2 31 rfl rfl rfl) ((Cells.ex eC101 h.ex) 0 _ rfl) kI
   ·exact oI rfl fun h => yl_fieldAddr fd45_0 rfl (h.old 4 _ rfl rfl) kI
   ·exact oI rfl fun h => yl_load1 ty22 rfl (h.dt 4 33 rfl rfl rfl) (((Box.ex (Box.ex hB17 hE93) h.ex).cell 0).trans rfl) kI
   ·intro L138 w139 hi140
    have hE141 := hi140.ex
    have hE141z := Ex.size hE141
    exact os rfl ((yl_ixN un22 ty9 rfl (hi140.dt 5 34 rfl rfl rfl) rfl eA104 kI))
   ·exact oI rfl fun h => yl_load1 ty9 rfl (h.dt 6 35 rfl rfl rfl) ((Cells.ex eC104 h.ex) 0 _ rfl) kI
   ·exact oI rfl fun h => yl_slss (a := (p_a.Vals.getD 0 d_Str)) (b := (p_b.Vals.getD 0 d_Str)) rfl (h.dt 3 32 rfl rfl rfl) (h.dt 7 36 rfl rfl rfl) kI
   ·exact oI rfl fun h => yA rfl (h.dt 8 37 rfl rfl rfl) kI
   ·intro fl163 fh164 L160 w161 hp162
    have hE165 := hp162.ex
    have hE165z := Ex.size hE165
    refine dn (CW.sub (sC 6 (hp162.nt 9 6 rfl rfl rfl) (Sub.nil _)) (CW.ret (rr rfl (.cons rfl .nil) ?_)))
    have hM167 : (s_l30Less p_a p_b p_col) = (sLt (p_a.Vals.getD 0 d_Str) (p_b.Vals.getD 0 d_Str)) := by simp only [s_l30Less, hb98, cL]
    rw [hM167]
    exact ⟨rfl, (Ex.trans (Ex.trans (Ex.trans (Ex.trans (Ex.refl w) hE12) hE18) hE93) hE165)⟩
  ·refine CW.cond_t rfl (not_f hb98) (CW.seq (drI 12 [.pointer (some ⟨b7, 0 + 0, none⟩), .slice A1 p_a.Vals.length c1, .int .i64 (p_col), .pointer (some ⟨eb22, eo22 + ((p_col).toNat) * 1, none⟩), .string (bs ((p_a.Vals.getD ((p_col).toNat) d_Str))), .pointer (some ⟨b13, 0 + 0, none⟩), .slice A3 p_b.Vals.length c3, .int .i64 (p_col), .pointer (some ⟨eb25, eo25 + ((p_col).toNat) * 1, none⟩), .string (bs ((p_b.Vals.getD ((p_col).toNat) d_Str))), .bool (sLt (p_a.Vals.getD ((p_col).toNat) d_Str) (p_b.Vals.getD ((p_col).toNat) d_Str)), .bool (sLt (p_a.Vals.getD ((p_col).toNat) d_Str) (p_b.Vals.getD ((p_col).toNat) d_Str))] Tryz.follows rfl ⟨?_, ?_, ?_, ?_, ?_, ?_, ?_, ?_, ?_, ?_, ?_, ?_, trivial⟩ ?_))
   ·exact oI rfl fun h => yl_fieldAddr fd45_0 rfl (h.old 3 _ rfl rfl) kI
   ·exact oI rfl fun h => yl_load1 ty22 rfl (h.dt 0 18 rfl rfl rfl) (((Box.ex (Box.ex q19 hE93) h.ex).cell 0).trans rfl) kI
   ·exact oI rfl fun h => yM rfl (h.old 2 _ rfl rfl) kI
   ·intro L192 w193 hi194
    have hE195 := hi194.ex
    have hE195z := Ex.size hE195
    exact os rfl ((yl_indexAddr un22 ty9 rfl (hi194.dt 1 19 rfl rfl rfl) (hi194.dt 2 20 rfl rfl rfl) eA22 Bo Bo kI))
   ·exact oI rfl fun h => yl_load1 ty9 rfl (h.dt 3 21 rfl rfl rfl) ((Cells.ex (Cells.ex eC22 hE93) h.ex) 0 _ rfl) kI
   ·exact oI rfl fun h => yl_fieldAddr fd45_0 rfl (h.old 4 _ rfl rfl) kI
   ·exact oI rfl fun h => yl_load1 ty22 rfl (h.dt 5 23 rfl rfl rfl) (((Box.ex (Box.ex hB17 hE93) h.ex).cell 0).trans rfl) kI
   ·exact oI rfl fun h => yM rfl (h.old 2 _ rfl rfl) kI
   ·intro L220 w221 hi222
    have hE223 := hi222.ex
    have hE223z := Ex.size hE223
    exact os rfl ((yl_indexAddr un22 ty9 rfl (hi222.dt 6 24 rfl rfl rfl) (hi222.dt 7 25 rfl rfl rfl) eA25 Bo Bo kI))
   ·exact oI rfl fun h => yl_load1 ty9 rfl (h.dt 8 26 rfl rfl rfl) ((Cells.ex (Cells.ex eC25 hE93) h.ex) 0 _ rfl) kI
   ·exact oI rfl fun h => yl_slss (a := (p_a.Vals.getD ((p_col).toNat) d_Str)) (b := (p_b.Vals.getD ((p_col).toNat) d_Str)) rfl (h.dt 4 22 rfl rfl rfl) (h.dt 9 27 rfl rfl rfl) kI
   ·exact oI rfl fun h => yA rfl (h.dt 10 28 rfl rfl rfl) kI
   ·intro fl246 fh247 L243 w244 hp245
    have hE248 := hp245.ex
    have hE248z := Ex.size hE248
    refine dn (CW.sub (sC 6 (hp245.nt 11 6 rfl rfl rfl) (Sub.nil _)) (CW.ret (tr (rr rfl (.cons rfl .nil) ?_))))
    have hM250 : (s_l30Less p_a p_b p_col) = (sLt (p_a.Vals.getD ((p_col).toNat) d_Str) (p_b.Vals.getD ((p_col).toNat) d_Str)) := by simp only [s_l30Less, hb98, cL]
    rw [hM250]
    exact ⟨rfl, (Ex.trans (Ex.trans (Ex.trans (Ex.trans (Ex.refl w) hE12) hE18) hE93) hE248)⟩
theorem c_s_l30Pairs {A1 : Option Addr} {c1 : Nat} {A2 : Option Addr} {c2 : Nat} {A5 : Option Addr} {c5 : Nat} {w : World} (p_0 : DTable) (p_1 : Str) (p_2 : List DWrite) (h1 : RdS w (Iv 0 w.heap.size) (RF e_Str) 1 A1 p_0.Cols.length c1 p_0.Cols) (h2 : RdS w (Iv 0 w.heap.size) (RF e_Idx) 3 A2 p_0.Idxs.length c2 p_0.Idxs) (h5 : RdS w (Iv 0 w.heap.size) (RF e_Write) 3 A5 p_2.length c5 p_2) (o3 : ok_Table p_0) (o4 : okS p_1) (o6 : (okL ok_Write) p_2) (pre0 : p_2.length ≤ 24) : Cal Tryz.prog 52 #[.agg #[.string (bs (p_0.Name)), .slice A1 p_0.Cols.length c1, .slice A2 p_0.Idxs.length c2], .string (bs (p_1)), .slice A5 p_2.length c5] w fun v w' => ∃ A_1 c_1 lo_1 hi_1, v = .slice A_1 ((s_l30Pairs p_0 p_1 p_2).length) c_1 ∧ OwnL w' lo_1 hi_1 45 1 R_Row A_1 ((s_l30Pairs p_0 p_1 p_2).length) c_1 (s_l30Pairs p_0 p_1 p_2) ∧ (okL ok_Row) (s_l30Pairs p_0 p_1 p_2) ∧ (w.heap.size ≤ lo_1 ∧ lo_1 ≤ hi_1 ∧ hi_1 ≤ w'.heap.size) ∧ Ex w w' := by
 have hol7 : p_0.Name.length ≤ 1073741824 := o3.1
 have hol8 := o3.2.1.1
 have hol9 := o3.2.2.1
 have hol10 : p_1.length ≤ 1073741824 := o4
 have hol11 := o6.1
 have hen := entries_le p_0 p_1 p_2
 refine Cal.of func52 rfl ntmps52 rfl (cR (sd rfl (yl_box rfl rfl rfl ?_)))
 intro b12 w13 hs14 hz15 hB16 hE17
 refine sA rfl (dn (cR (sA rfl (dn (CW.seq ?_)))))
 refine cR (sd rfl (yl_loadN ty41 rfl rfl (hB16.cells (n := 3) rfl) rfl (sM rfl (sM rfl ?_))))
 have q18 := RdS.ex gS h1 hE17
 have q19 := RdS.ex gI h2 hE17
 refine sd rfl (yC en78 rfl (oc rfl (oc rfl (oc rfl oz))) (Cal.mono (c_s_l25Entries p_0 p_1 p_2 (RdS.up q18 gS) (RdS.up q19 gI) (RdS.up (RdS.ex gW h5 hE17) gW) o3 o4 o6) ?_))
 rintro v24 w21 ⟨A22, c22, lo22, hi22, rfl, h22, ho23, hrn26, hE25⟩
 have hE25z := Ex.size hE25
 refine sd rfl (yL un22 rfl rfl (sM rfl (dn (CW.block (CW.loop (fun m193 L194 w195 => ∃ (k27 : Nat) (x189 : List DRow) (A190 : Option Addr) (c191 : Nat) (u192 : Nat), m193 = (s_l25Entries p_0 p_1 p_2).length - k27 ∧ k27 ≤ (s_l25Entries p_0 p_1 p_2).length ∧ w21.heap.size ≤ w195.heap.size ∧ lkp L194 1 = some (.string (bs (p_1))) ∧ lkp L194 3 = some (.pointer (some ⟨b12, 0, none⟩)) ∧ lkp L194 7 = some (.slice A190 x189.length c191) ∧ lkp L194 18 = some (.slice A22 ((s_l25Entries p_0 p_1 p_2).length) c22) ∧ lkp L194 19 = some (.int .i64 (((s_l25Entries p_0 p_1 p_2).length : Int))) ∧ lkp L194 20 = some (.int .i64 ((k27 : Int))) ∧ Box w195 b12 41 [.string (bs (p_0.Name)), .slice A1 p_0.Cols.length c1, .slice A2 p_0.Idxs.length c2] ∧ RdS w195 (Iv 0 w.heap.size) (RF e_Str) 1 A1 p_0.Cols.length c1 p_0.Cols ∧ RdS w195 (Iv 0 w.heap.size) (RF e_Idx) 3 A2 p_0.Idxs.length c2 p_0.Idxs ∧ OwnL w195 w21.heap.size u192 45 1 R_Row A190 x189.length c191 x189 ∧ OwnL w195 lo22 hi22 9 1 (RF e_Str) A22 ((s_l25Entries p_0 p_1 p_2).length) c22 (s_l25Entries p_0 p_1 p_2) ∧ Ex w w195 ∧ (w21.heap.size ≤ u192 ∧ u192 ≤ w195.heap.size) ∧ x189.length ≤ 0 + 1 * (k27 - 0) ∧ (∀ y ∈ x189, ok_Row y) ∧ is2 x189 ∧ loopM (B_s_l30Pairs_0 p_0 p_1 p_2) ((s_l25Entries p_0 p_1 p_2).length - k27) k27 (x189) = loopM (B_s_l30Pairs_0 p_0 p_1 p_2) ((s_l25Entries p_0 p_1 p_2).length - 0) 0 (([] : List DRow))) ((s_l25Entries p_0 p_1 p_2).length - 0) ?_ ?_)))))
 ·exact ⟨0, ([] : List DRow), none, 0, w21.heap.size, rfl, oM, Nat.le_refl _, rfl, rfl, rfl, rfl, rfl, rfl, (Box.ex hB16 hE25), (RdS.ex gS q18 hE25), (RdS.ex gI q19 hE25), (OwnL.nil w21 w21.heap.size w21.heap.size 45 1 R_Row), h22, (Ex.trans (Ex.trans (Ex.refl w) hE17) hE25), oM, (by first | (simp; done) | (first | omega | (simp only [lN, toS_length]; omega))), okE.nil, (by first | omega | assumption | (simp only [lN]; omega) | exact is2.nil | exact is2.app ‹is2 _› rfl | exact is2.set ‹is2 _› (is2.at ‹is2 _› (by first | omega | (simp only [wI] at *; omega) | (simp only [lN, wI] at *; omega))) _ | exact is2.set ‹is2 _› rfl _ | (simp only [wI] at *; omega) | (simp only [lN, wI] at *; omega)), rfl⟩
 ·rintro m201 L202 w203 ⟨k27, x189, A190, c191, u192, rfl, hk204, hsz206, hl207, hl208, hl209, hl210, hl211, hl212, hf213, hf214, hf215, hf216, hf217, hf218, hu219, hln220, hok221, hv222, hI205⟩
  refine CW.sub (Sub.cons hl207 (Sub.cons hl208 (Sub.cons hl209 (Sub.cons hl210 (Sub.cons hl211 (Sub.cons hl212 (Sub.nil _))))))) ?_
  have hf213z := Box.lt hf213
  have hf218z := Ex.size hf218
  have hbg223 := RdS.big (OwnL.rd gS hf217)
  rcases Nat.lt_or_ge k27 ((s_l25Entries p_0 p_1 p_2).length) with hlt225 | hlt225
  ·refine cR (sd rfl (yl_lss rfl rfl rfl (dn (CW.seq (CW.cond_t rfl (lt_t hlt225) (CW.skip (tn ?_)))))))
   refine CW.seq (CW.block (cR ?_))
   obtain ⟨eb227, eo227, _, eA227, _, ebl227, _, eR227, eC227⟩ := RdS.atD (OwnL.rd gS hf217) d_Str (i := k27) (by first | omega | assumption | (simp only [wI] at *; omega) | (simp only [lN, wI] at *; omega))
   obtain rfl := eR227
   have eC227 : Cells w203 eb227 (eo227 + k27 * 1) [.string (bs (((s_l25Entries p_0 p_1 p_2).getD k27 d_Str)))] := eC227
   refine sd rfl (yl_indexAddrN un22 ty9 rfl rfl rfl eA227 (by first | omega | assumption | (simp only [wI] at *; omega) | (simp only [lN, wI] at *; omega)) (sd rfl (yl_load1 ty9 rfl rfl (eC227 0 _ rfl) (sA rfl (dn (cR (sd rfl (yl_loadN ty41 rfl rfl (hf213.cells (n := 3) rfl) rfl (sM rfl ?_)))))))))
   refine sM rfl (sd rfl (yC en79 rfl (oc rfl (oc rfl (oc rfl oz))) (Cal.mono (c_s_l25ReadEntry p_0 p_1 ((s_l25Entries p_0 p_1 p_2).getD k27 d_Str) (RdS.up hf214 gS) (RdS.up hf215 gI) o3 o4 (okL.getD ho23 ok_d_Str _)) ?_)))
   rintro v231 w228 ⟨rfl, ho229, ho230, hE232⟩
   have hE232z := Ex.size hE232
   refine sM rfl (sd rfl (yl_extract rfl rfl rfl (sd rfl (yl_extract rfl rfl rfl (sd rfl (yl_extract rfl rfl rfl (sA rfl (sA rfl (sA rfl (dn ?_))))))))))
   refine cR (sM rfl (sM rfl (sd rfl (yl_buildSlice (cs := [.string (bs ((s_l25ReadEntry p_0 p_1 ((s_l25Entries p_0 p_1 p_2).getD k27 d_Str)).2.1)), .string (bs ((s_l25ReadEntry p_0 p_1 ((s_l25Entries p_0 p_1 p_2).getD k27 d_Str)).1))]) un22 ty9 (by decide) rfl (oc rfl (oc rfl oz)) (by kernel_rfl) ?_))))
   intro b233 w234 hs235 hz236 hB237 hE238
   have hO239 : OwnL w234 b233 (b233 + 1) 9 1 (RF e_Str) (some ⟨b233, 0, none⟩) 2 2 ([(s_l25ReadEntry p_0 p_1 ((s_l25Entries p_0 p_1 p_2).getD k27 d_Str)).2.1, (s_l25ReadEntry p_0 p_1 ((s_l25Entries p_0 p_1 p_2).getD k27 d_Str)).1] : List Str) := OwnL.of_box (S := fun _ => False) hB237 (Nat.le_refl _) (Nat.lt_succ_self _) (EncL.cons (c := [.string (bs ((s_l25ReadEntry p_0 p_1 ((s_l25Entries p_0 p_1 p_2).getD k27 d_Str)).2.1))]) rfl rfl (EncL.cons (c := [.string (bs ((s_l25ReadEntry p_0 p_1 ((s_l25Entries p_0 p_1 p_2).getD k27 d_Str)).1))]) rfl rfl EncL.nil)) (nb rfl) (fun h => h) (fun _ h => False.elim h)
   refine sd rfl (yl_build (cs := [.slice (some ⟨b233, 0, none⟩) 2 2]) rfl (oc rfl oz) (by kernel_rfl) (sd rfl (yB ty45 (cs := [.slice none 0 0]) rfl rfl ?_)))
   intro b240 w241 hs242 hz243 hB244 hE245
   refine SeqR.u rfl rfl (yl_store (vs := [.slice (some ⟨b233, 0, none⟩) 2 2]) ty45 rfl rfl rfl rfl rfl rfl hB244 (nb rfl) ?_)
   intro w246 hB247 hO248
   have hB247 : Box w246 b240 45 [.slice (some ⟨b233, 0, none⟩) 2 2] := hB247
   have hO248z := hO248.size
   refine dn (cR (sM rfl (sd rfl (yL un36 rfl rfl (sA rfl (dn ?_))))))
   refine cR (sM rfl (sd rfl (yl_loadN ty45 rfl rfl (hB247.cells (n := 1) rfl) rfl (sd rfl (yl_buildSlice (cs := [.slice (some ⟨b233, 0, none⟩) 2 2]) un36 ty45 (by decide) rfl (oc rfl oz) (by kernel_rfl) ?_)))))
   intro b249 w250 hs251 hz252 hB253 hE254
   have hO255 : OwnL w250 b233 (b249 + 1) 45 1 R_Row (some ⟨b249, 0, none⟩) 1 1 ([(⟨([(s_l25ReadEntry p_0 p_1 ((s_l25Entries p_0 p_1 p_2).getD k27 d_Str)).2.1, (s_l25ReadEntry p_0 p_1 ((s_l25Entries p_0 p_1 p_2).getD k27 d_Str)).1] : List Str)⟩ : DRow)] : List DRow) := OwnL.of_box (S := Iv b233 b249) hB253 oM (Nat.lt_succ_self _) (EncL.cons (c := [.slice (some ⟨b233, 0, none⟩) 2 2]) rfl ⟨(some ⟨b233, 0, none⟩), 2, rfl, (RdS.ex gS (RdS.wide gS (RdS.fix (OwnL.rd gS (OwnL.only gS (OwnL.ex gS hO239 hE245) hO248 oM))) (fun b hh hl => ⟨by first | exact Nat.zero_le _ | (have := hh.1; omega), by omega⟩)) hE254)⟩ EncL.nil) (nb rfl) (fun h => Nat.lt_irrefl _ h.2) (fun _ h => ⟨h.1, Nat.lt_succ_of_lt h.2⟩)
   have q267 := OwnL.ex gS (OwnL.only gS (OwnL.ex gS hO239 hE245) hO248 oM) hE254
   refine sd rfl (yl_appendB (S := (Iv u192 w250.heap.size)) (lo := w21.heap.size) (hi := u192) (xs := x189) (ys := ([(⟨([(s_l25ReadEntry p_0 p_1 ((s_l25Entries p_0 p_1 p_2).getD k27 d_Str)).2.1, (s_l25ReadEntry p_0 p_1 ((s_l25Entries p_0 p_1 p_2).getD k27 d_Str)).1] : List Str)⟩ : DRow)] : List DRow)) good_Row un36 ty45 rfl (nb rfl) rfl rfl rfl (OwnL.ex good_Row (OwnL.only good_Row (OwnL.ex good_Row (OwnL.ex good_Row (OwnL.ex good_Row hf216 hE232) hE238) hE245) hO248 oM) hE254) (EncL.cons (c := [.slice (some ⟨b233, 0, none⟩) 2 2]) rfl ⟨(some ⟨b233, 0, none⟩), 2, rfl, (RdS.wide gS (RdS.fix (OwnL.rd gS q267)) (fun b hh hl => ⟨by have := hh.1; omega, hl⟩))⟩ EncL.nil) (Or.inr ⟨_, _, rfl, rfl, hB253.cells (o := 0) (n := 1) rfl⟩) rfl Bl Bl oM oM (fun _ h _ => h.1) oM (nb rfl) ?_)
   intro A268 c269 w270 row271 hO272 hG273 hrg274 hbk275
   have hG273z := hG273.size
   refine sA rfl (dn (CW.seq (CW.block (CW.loop (fun m295 L296 w297 => ∃ (x292 : Int) (x293 : List DRow) (u294 : Nat), ((x292).toNat) < m295 ∧ w270.heap.size ≤ w297.heap.size ∧ lkp L296 1 = some (.string (bs (p_1))) ∧ lkp L296 3 = some (.pointer (some ⟨b12, 0, none⟩)) ∧ lkp L296 7 = some (.slice A268 ((x189 ++ ([(⟨([(s_l25ReadEntry p_0 p_1 ((s_l25Entries p_0 p_1 p_2).getD k27 d_Str)).2.1, (s_l25ReadEntry p_0 p_1 ((s_l25Entries p_0 p_1 p_2).getD k27 d_Str)).1] : List Str)⟩ : DRow)] : List DRow)).length) c269) ∧ lkp L296 13 = some (.pointer (some ⟨b240, 0, none⟩)) ∧ lkp L296 14 = some (.int .i64 (x292)) ∧ lkp L296 18 = some (.slice A22 ((s_l25Entries p_0 p_1 p_2).length) c22) ∧ lkp L296 19 = some (.int .i64 (((s_l25Entries p_0 p_1 p_2).length : Int))) ∧ lkp L296 20 = some (.int .i64 ((k27 : Int))) ∧ Box w297 b12 41 [.string (bs (p_0.Name)), .slice A1 p_0.Cols.length c1, .slice A2 p_0.Idxs.length c2] ∧ RdS w297 (Iv 0 w.heap.size) (RF e_Str) 1 A1 p_0.Cols.length c1 p_0.Cols ∧ RdS w297 (Iv 0 w.heap.size) (RF e_Idx) 3 A2 p_0.Idxs.length c2 p_0.Idxs ∧ OwnL w297 w21.heap.size u294 45 1 R_Row A268 ((x189 ++ ([(⟨([(s_l25ReadEntry p_0 p_1 ((s_l25Entries p_0 p_1 p_2).getD k27 d_Str)).2.1, (s_l25ReadEntry p_0 p_1 ((s_l25Entries p_0 p_1 p_2).getD k27 d_Str)).1] : List Str)⟩ : DRow)] : List DRow)).length) c269 x293 ∧ Box w297 b240 45 [.slice (some ⟨b233, 0, none⟩) 2 2] ∧ OwnL w297 b233 (b233 + 1) 9 1 (RF e_Str) (some ⟨b233, 0, none⟩) 2 2 ([(s_l25ReadEntry p_0 p_1 ((s_l25Entries p_0 p_1 p_2).getD k27 d_Str)).2.1, (s_l25ReadEntry p_0 p_1 ((s_l25Entries p_0 p_1 p_2).getD k27 d_Str)).1] : List Str) ∧ OwnL w297 lo22 hi22 9 1 (RF e_Str) A22 ((s_l25Entries p_0 p_1 p_2).length) c22 (s_l25Entries p_0 p_1 p_2) ∧ Ex w w297 ∧ (w21.heap.size ≤ u294 ∧ u294 ≤ w297.heap.size) ∧ x293.length + 0 * ((x292).toNat) ≤ x189.length + 1 + 0 * (((x189.length : Int)).toNat) ∧ (∀ y ∈ x293, ok_Row y) ∧ (0 ≤ x292 ∧ x292 + 1 ≤ (x293.length : Int)) ∧ is2 x293 ∧ loopW (B_s_l30Pairs_1 p_0 p_1 p_2 k27 x189) m295 (x292, x293) = loopW (B_s_l30Pairs_1 p_0 p_1 p_2 k27 x189) ((((x189.length : Int)).toNat) + 1) ((x189.length : Int), (x189 ++ ([(⟨([(s_l25ReadEntry p_0 p_1 ((s_l25Entries p_0 p_1 p_2).getD k27 d_Str)).2.1, (s_l25ReadEntry p_0 p_1 ((s_l25Entries p_0 p_1 p_2).getD k27 d_Str)).1] : List Str)⟩ : DRow)] : List DRow)))) ((((x189.length : Int)).toNat) + 1) ?_ ?_))))
   ·exact ⟨(x189.length : Int), (x189 ++ ([(⟨([(s_l25ReadEntry p_0 p_1 ((s_l25Entries p_0 p_1 p_2).getD k27 d_Str)).2.1, (s_l25ReadEntry p_0 p_1 ((s_l25Entries p_0 p_1 p_2).getD k27 d_Str)).1] : List Str)⟩ : DRow)] : List DRow)), w270.heap.size, Nat.lt_succ_self _, Nat.le_refl _, rfl, rfl, rfl, rfl, rfl, rfl, rfl, rfl, (Box.grown (Box.ex (Box.only (Box.ex (Box.ex (Box.ex hf213 hE232) hE238) hE245) hO248 oM) hE254) hG273 (fun k hk => by have := hrg274 k hk; omega)), (RdS.grown gS (RdS.ex gS (RdS.only gS (RdS.ex gS (RdS.ex gS (RdS.ex gS hf214 hE232) hE238) hE245) hO248 (by simp only [Iv]; omega)) hE254) hG273 (fun k hk => by have := hrg274 k hk; simp only [Iv]; omega)), (RdS.grown gI (RdS.ex gI (RdS.only gI (RdS.ex gI (RdS.ex gI (RdS.ex gI hf215 hE232) hE238) hE245) hO248 (by simp only [Iv]; omega)) hE254) hG273 (fun k hk => by have := hrg274 k hk; simp only [Iv]; omega)), hO272, (Box.grown (Box.ex hB247 hE254) hG273 (fun k hk => by have := hrg274 k hk; omega)), (OwnL.grown gS q267 hG273 (fun k hk => by have := hrg274 k hk; omega)), (OwnL.grown gS (OwnL.ex gS (OwnL.only gS (OwnL.ex gS (OwnL.ex gS (OwnL.ex gS hf217 hE232) hE238) hE245) hO248 oM) hE254) hG273 (fun k hk => by have := hrg274 k hk; omega)), (Below.grown (Ex.trans (Below.only (Ex.trans (Ex.trans (Ex.trans hf218 hE232) hE238) hE245) hO248 oM) hE254) hG273 oM (fun k hk => by have := hrg274 k hk; omega)), oM, (by first | (simp; done) | (first | omega | (simp only [lN, toS_length]; omega))), (okE.append hok221 ((okL.mk (nb rfl) (okE.cons (show ok_Row (⟨([(s_l25ReadEntry p_0 p_1 ((s_l25Entries p_0 p_1 p_2).getD k27 d_Str)).2.1, (s_l25ReadEntry p_0 p_1 ((s_l25Entries p_0 p_1 p_2).getD k27 d_Str)).1] : List Str)⟩ : DRow) from (okL.mk (nb rfl) (okE.cons ho230 (okE.cons ho229 okE.nil)))) okE.nil))).2), (by first | omega | assumption | (simp only [lN]; omega) | exact is2.nil | exact is2.app ‹is2 _› rfl | exact is2.set ‹is2 _› (is2.at ‹is2 _› (by first | omega | (simp only [wI] at *; omega) | (simp only [lN, wI] at *; omega))) _ | exact is2.set ‹is2 _› rfl _ | (simp only [wI] at *; omega) | (simp only [lN, wI] at *; omega)), (by first | omega | assumption | (simp only [lN]; omega) | exact is2.nil | exact is2.app ‹is2 _› rfl | exact is2.set ‹is2 _› (is2.at ‹is2 _› (by first | omega | (simp only [wI] at *; omega) | (simp only [lN, wI] at *; omega))) _ | exact is2.set ‹is2 _› rfl _ | (simp only [wI] at *; omega) | (simp only [lN, wI] at *; omega)), rfl⟩
   ·rintro m331 L332 w333 ⟨x292, x293, u294, hk334, hsz336, hl337, hl338, hl339, hl340, hl341, hl342, hl343, hl344, hf345, hf346, hf347, hf348, hf349, hf350, hf351, hf352, hu353, hln354, hok355, hv356, hv357, hI335⟩
    refine CW.sub (Sub.cons hl337 (Sub.cons hl338 (Sub.cons hl339 (Sub.cons hl340 (Sub.cons hl341 (Sub.cons hl342 (Sub.cons hl343 (Sub.cons hl344 (Sub.nil _))))))))) ?_
    have hf345z := Box.lt hf345
    have hf349z := Box.lt hf349
    have hf352z := Ex.size hf352
    refine CW.seq (CW.seq (bcase (decide (0 < x292)) (fun hb358 => ?_) (fun hb358 => ?_)))
    ·have hb358p := dec_t hb358
     obtain ⟨eb359, eo359, ec359, eA359, eS359, ebl359, el359, eR359, eC359⟩ := OwnL.atN good_Row hf348 d_Row (i := (IntKind.wrap .i64 (x292 - 1)).toNat) (by first | omega | assumption | (simp only [wI] at *; omega) | (simp only [lN, wI] at *; omega))
     have hnb360 := hbk275 eb359 (by rw [eA359]; rfl)
     obtain ⟨A361, c361, rfl, h361⟩ := eR359
     refine drI 11 [.int .i64 (x292), .bool (decide (0 < x292)), .bool (decide (0 < x292)), .agg #[.slice (some ⟨b233, 0, none⟩) 2 2], .slice A268 ((x189 ++ ([(⟨([(s_l25ReadEntry p_0 p_1 ((s_l25Entries p_0 p_1 p_2).getD k27 d_Str)).2.1, (s_l25ReadEntry p_0 p_1 ((s_l25Entries p_0 p_1 p_2).getD k27 d_Str)).1] : List Str)⟩ : DRow)] : List DRow)).length) c269, .int .i64 (x292), .int .i64 (IntKind.wrap .i64 (x292 - 1)), .pointer (some ⟨eb359, eo359 + ((IntKind.wrap .i64 (x292 - 1)).toNat) * 1, none⟩), .agg #[.slice A361 (((x293.getD ((IntKind.wrap .i64 (x292 - 1)).toNat) d_Row).Vals).length) c361], .bool ((s_l30Less (⟨([(s_l25ReadEntry p_0 p_1 ((s_l25Entries p_0 p_1 p_2).getD k27 d_Str)).2.1, (s_l25ReadEntry p_0 p_1 ((s_l25Entries p_0 p_1 p_2).getD k27 d_Str)).1] : List Str)⟩ : DRow) (x293.getD ((IntKind.wrap .i64 (x292 - 1)).toNat) d_Row) 1)), .bool ((s_l30Less (⟨([(s_l25ReadEntry p_0 p_1 ((s_l25Entries p_0 p_1 p_2).getD k27 d_Str)).2.1, (s_l25ReadEntry p_0 p_1 ((s_l25Entries p_0 p_1 p_2).getD k27 d_Str)).1] : List Str)⟩ : DRow) (x293.getD ((IntKind.wrap .i64 (x292 - 1)).toNat) d_Row) 1))] Tryz.follows rfl ⟨?_, ?_, ?_, ?_, ?_, ?_, ?_, ?_, ?_, ?_, ?_, trivial⟩ ?_
     ·exact oI rfl fun h => yM rfl (h.old 14 _ rfl rfl) kI
     ·exact oI rfl fun h => yl_gtr rfl (h.dt 0 42 rfl rfl rfl) rfl kI
     ·exact oI rfl fun h => yM rfl (h.dt 1 43 rfl rfl rfl) kI
     ·exact oW rfl rfl rfl rfl hb358 fun h => yl_loadN ty45 rfl (h.old 13 _ rfl rfl) ((Box.ex hf349 h.ex).cells (n := 1) rfl) rfl kI
     ·exact oW rfl rfl rfl rfl hb358 fun h => yM rfl (h.old 7 _ rfl rfl) kI
     ·exact oW rfl rfl rfl rfl hb358 fun h => yM rfl (h.old 14 _ rfl rfl) kI
     ·exact oW rfl rfl rfl rfl hb358 fun h => yl_sub rfl (h.dt 5 47 rfl rfl rfl) rfl kI
     ·intro L404 w405 hi406
      have hE407 := hi406.ex
      have hE407z := Ex.size hE407
      exact OpR.want rfl rfl (hi406.dt 2 44 rfl rfl rfl) hb358 (Yl.sameI (yl_indexAddr un36 ty45 rfl (hi406.dt 4 46 rfl rfl rfl) (hi406.dt 6 48 rfl rfl rfl) eA359 (by first | omega | assumption | (simp only [wI] at *; omega) | (simp only [lN, wI] at *; omega)) (by first | omega | assumption | (simp only [wI] at *; omega) | (simp only [lN, wI] at *; omega)) kI))
     ·exact oW rfl rfl rfl rfl hb358 fun h => yl_loadN ty45 rfl (h.dt 7 49 rfl rfl rfl) (Cells.ex eC359 h.ex) rfl kI
     ·intro L418 w419 hi420
      have hE421 := hi420.ex
      have hE421z := Ex.size hE421
      have q426 := OwnL.ex gS hf350 hE421
      have hle425 := OwnL.len q426
      exact OpR.want rfl rfl (hi420.dt 2 44 rfl rfl rfl) hb358 (yC en80 rfl (oc (hi420.dt 3 45 rfl rfl rfl) (oc (hi420.dt 8 50 rfl rfl rfl) (oc rfl oz))) (Cal.mono (Cal.args (by rw [← hle425] <;> rfl) (c_s_l30Less (⟨([(s_l25ReadEntry p_0 p_1 ((s_l25Entries p_0 p_1 p_2).getD k27 d_Str)).2.1, (s_l25ReadEntry p_0 p_1 ((s_l25Entries p_0 p_1 p_2).getD k27 d_Str)).1] : List Str)⟩ : DRow) (x293.getD ((IntKind.wrap .i64 (x292 - 1)).toNat) d_Row) 1 (RdS.fix (RdS.up (OwnL.rd gS q426) gS)) (RdS.up (RdS.ex gS h361 hE421) gS) (okL.mk (nb rfl) (okE.cons ho230 (okE.cons ho229 okE.nil))) (okL.getD (okL.mk (xs := x293) Bl hok355) ok_d_Row _) (less_pre rfl ‹is2 _› (by first | omega | assumption | (simp only [wI] at *; omega) | (simp only [lN, wI] at *; omega))))) fun _ _ h => h))
     ·exact oI rfl fun h => yl_pick_t rfl (h.dt 2 44 rfl rfl rfl) hb358 (h.dt 9 51 rfl rfl rfl) kI
     ·intro fl441 fh442 L438 w439 hp440
      have hE443 := hp440.ex
      have hE443z := Ex.size hE443
      refine dn (CW.sub (sC 1 (hp440.old 1 _ rfl rfl) (sC 3 (hp440.old 3 _ rfl rfl) (sC 7 (hp440.old 7 _ rfl rfl) (sC 13 (hp440.old 13 _ rfl rfl) (sC 14 (hp440.old 14 _ rfl rfl) (sC 18 (hp440.old 18 _ rfl rfl) (sC 19 (hp440.old 19 _ rfl rfl) (sC 20 (hp440.old 20 _ rfl rfl) (sC 45 (hp440.nt 3 45 rfl rfl rfl) (sC 46 (hp440.nt 4 46 rfl rfl rfl) (sC 47 (hp440.nt 5 47 rfl rfl rfl) (sC 48 (hp440.nt 6 48 rfl rfl rfl) (sC 49 (hp440.nt 7 49 rfl rfl rfl) (sC 50 (hp440.nt 8 50 rfl rfl rfl) (sC 51 (hp440.nt 9 51 rfl rfl rfl) (sC 52 (hp440.nt 10 52 rfl rfl rfl) (Sub.nil _))))))))))))))))) (bcase (s_l30Less (⟨([(s_l25ReadEntry p_0 p_1 ((s_l25Entries p_0 p_1 p_2).getD k27 d_Str)).2.1, (s_l25ReadEntry p_0 p_1 ((s_l25Entries p_0 p_1 p_2).getD k27 d_Str)).1] : List Str)⟩ : DRow) (x293.getD ((IntKind.wrap .i64 (x292 - 1)).toNat) d_Row) 1) (fun hb460 => ?_) (fun hb460 => ?_)))
      ·refine CW.cond_t rfl hb460 (CW.skip (tn (CW.block (cR (sM rfl (sM rfl (sM rfl ?_)))))))
       refine sM rfl (sd rfl (yl_sub rfl rfl rfl (sd rfl (yl_indexAddr un36 ty45 rfl rfl rfl eA359 (by first | omega | assumption | (simp only [wI] at *; omega) | (simp only [lN, wI] at *; omega)) (by first | omega | assumption | (simp only [wI] at *; omega) | (simp only [lN, wI] at *; omega)) (sd rfl (yl_loadN ty45 rfl rfl (Cells.ex eC359 hE443) rfl ?_))))))
       have q462 := OwnL.ex good_Row hf348 hE443
       obtain ⟨eb463, eo463, ec463, eA463, eS463, ebl463, el463, eR463, eC463⟩ := OwnL.atN good_Row q462 d_Row (i := (x292).toNat) (by first | omega | assumption | (simp only [wI] at *; omega) | (simp only [lN, wI] at *; omega))
       have hnb464 := hbk275 eb463 (by rw [eA463]; rfl)
       obtain ⟨A465, c465, rfl, h465⟩ := eR463
       refine sd rfl (yl_indexAddr un36 ty45 rfl rfl rfl eA463 (by first | omega | assumption | (simp only [wI] at *; omega) | (simp only [lN, wI] at *; omega)) (by first | omega | assumption | (simp only [wI] at *; omega) | (simp only [lN, wI] at *; omega)) ?_)
       have hrg466 := OwnL.rng q462 (i := (x292).toNat) (by first | omega | assumption | (simp only [wI] at *; omega) | (simp only [lN, wI] at *; omega)) eb463 (by rw [eA463]; rfl)
       refine SeqR.u rfl rfl (yl_storeW (off := eo463) (i := (x292).toNat) (x' := (x293.getD ((IntKind.wrap .i64 (x292 - 1)).toNat) d_Row)) (vs := [.slice A361 (((x293.getD ((IntKind.wrap .i64 (x292 - 1)).toNat) d_Row).Vals).length) c361]) (S' := (IvN w21.heap.size u294 A268)) good_Row ty45 rfl q462 eA463 rfl rfl rfl rfl (by first | omega | assumption | (simp only [wI] at *; omega) | (simp only [lN, wI] at *; omega)) ⟨A361, c361, rfl, (RdS.ex gS h361 hE443)⟩ (fun b hh _ => ⟨hh.1, fun e => hh.2.2 (by rw [eA463, e]; rfl)⟩) oM ?_)
       intro w467 hB468 hO469
       have hO469z := hO469.size
       refine dn (CW.region (sM rfl (sd rfl (yl_sub rfl rfl rfl (sA rfl (SeqR.done (bn (tn ?_))))))))
       have hB471 : B_s_l30Pairs_1 p_0 p_1 p_2 k27 x189 (x292, x293) = .cont (IntKind.wrap .i64 (x292 - 1), (x293.set ((x292).toNat) (x293.getD ((IntKind.wrap .i64 (x292 - 1)).toNat) d_Row))) := by simp only [B_s_l30Pairs_1, hb358, hb460, cL]
       have hmu486 : ((IntKind.wrap .i64 (x292 - 1)).toNat) < ((x292).toNat) := by first | omega | assumption | (simp only [lN]; omega) | exact is2.nil | exact is2.app ‹is2 _› rfl | exact is2.set ‹is2 _› (is2.at ‹is2 _› (by first | omega | (simp only [wI] at *; omega) | (simp only [lN, wI] at *; omega))) _ | exact is2.set ‹is2 _› rfl _ | (simp only [wI] at *; omega) | (simp only [lN, wI] at *; omega)
       exact ⟨m331 - 1, oM, IntKind.wrap .i64 (x292 - 1), (x293.set ((x292).toNat) (x293.getD ((IntKind.wrap .i64 (x292 - 1)).toNat) d_Row)), w467.heap.size, oM, oM, rfl, rfl, rfl, rfl, rfl, rfl, rfl, rfl, (Box.only (Box.ex hf345 hE443) hO469 oM), (RdS.only gS (RdS.ex gS hf346 hE443) hO469 (by simp only [Iv]; omega)), (RdS.only gI (RdS.ex gI hf347 hE443) hO469 (by simp only [Iv]; omega)), hB468, (Box.only (Box.ex hf349 hE443) hO469 oM), (OwnL.only gS (OwnL.ex gS hf350 hE443) hO469 oM), (OwnL.only gS (OwnL.ex gS hf351 hE443) hO469 oM), (Below.only (Ex.trans hf352 hE443) hO469 oM), oM, Bl, (okE.set hok355 (okL.getD (okL.mk (xs := x293) Bl hok355) ok_d_Row _)), (by first | omega | assumption | (simp only [lN]; omega) | exact is2.nil | exact is2.app ‹is2 _› rfl | exact is2.set ‹is2 _› (is2.at ‹is2 _› (by first | omega | (simp only [wI] at *; omega) | (simp only [lN, wI] at *; omega))) _ | exact is2.set ‹is2 _› rfl _ | (simp only [wI] at *; omega) | (simp only [lN, wI] at *; omega)), (by first | omega | assumption | (simp only [lN]; omega) | exact is2.nil | exact is2.app ‹is2 _› rfl | exact is2.set ‹is2 _› (is2.at ‹is2 _› (by first | omega | (simp only [wI] at *; omega) | (simp only [lN, wI] at *; omega))) _ | exact is2.set ‹is2 _› rfl _ | (simp only [wI] at *; omega) | (simp only [lN, wI] at *; omega)), (loopW.cont hk334 hB471).symm.trans hI335⟩
      ·refine CW.cond_f rfl hb460 (CW.exit (tx (tx ?_)))
       have hB488 : B_s_l30Pairs_1 p_0 p_1 p_2 k27 x189 (x292, x293) = .brk (x292, x293) := by simp only [B_s_l30Pairs_1, hb358, hb460, cL]
       have hL487 : loopW (B_s_l30Pairs_1 p_0 p_1 p_2 k27 x189) ((((x189.length : Int)).toNat) + 1) ((x189.length : Int), (x189 ++ ([(⟨([(s_l25ReadEntry p_0 p_1 ((s_l25Entries p_0 p_1 p_2).getD k27 d_Str)).2.1, (s_l25ReadEntry p_0 p_1 ((s_l25Entries p_0 p_1 p_2).getD k27 d_Str)).1] : List Str)⟩ : DRow)] : List DRow))) = .done (x292, x293) := hI335.symm.trans (loopW.brk hk334 hB488)
       refine bx (tn (CW.region (sM rfl (sM rfl (sd rfl (yl_loadN ty45 rfl rfl ((Box.ex hf349 hE443).cells (n := 1) rfl) rfl ?_))))))
       have q490 := OwnL.ex good_Row hf348 hE443
       obtain ⟨eb491, eo491, ec491, eA491, eS491, ebl491, el491, eR491, eC491⟩ := OwnL.atN good_Row q490 d_Row (i := (x292).toNat) (by first | omega | assumption | (simp only [wI] at *; omega) | (simp only [lN, wI] at *; omega))
       have hnb492 := hbk275 eb491 (by rw [eA491]; rfl)
       obtain ⟨A493, c493, rfl, h493⟩ := eR491
       refine sd rfl (yl_indexAddr un36 ty45 rfl rfl rfl eA491 (by first | omega | assumption | (simp only [wI] at *; omega) | (simp only [lN, wI] at *; omega)) (by first | omega | assumption | (simp only [wI] at *; omega) | (simp only [lN, wI] at *; omega)) ?_)
       have hrg494 := OwnL.rng q490 (i := (x292).toNat) (by first | omega | assumption | (simp only [wI] at *; omega) | (simp only [lN, wI] at *; omega)) eb491 (by rw [eA491]; rfl)
       refine SeqR.u rfl rfl (yl_storeW (off := eo491) (i := (x292).toNat) (x' := (⟨([(s_l25ReadEntry p_0 p_1 ((s_l25Entries p_0 p_1 p_2).getD k27 d_Str)).2.1, (s_l25ReadEntry p_0 p_1 ((s_l25Entries p_0 p_1 p_2).getD k27 d_Str)).1] : List Str)⟩ : DRow)) (vs := [.slice (some ⟨b233, 0, none⟩) 2 2]) (S' := (Iv b233 (b233 + 1))) good_Row ty45 rfl q490 eA491 rfl rfl rfl rfl (by first | omega | assumption | (simp only [wI] at *; omega) | (simp only [lN, wI] at *; omega)) ⟨(some ⟨b233, 0, none⟩), 2, rfl, (RdS.fix (OwnL.rdI gS (OwnL.ex gS hf350 hE443)))⟩ (fun b hh _ => ⟨by have := hh.1; omega, by have := hh.1; have := hh.2; omega⟩) oM ?_)
       intro w495 hB496 hO497
       have hO497z := hO497.size
       refine SeqR.done (bn (tn (CW.region (sd rfl (yl_inc rfl rfl rfl oM (sM rfl (dn ?_)))))))
       have hB499 : B_s_l30Pairs_0 p_0 p_1 p_2 k27 (x189) = .cont ((x293.set ((x292).toNat) (⟨([(s_l25ReadEntry p_0 p_1 ((s_l25Entries p_0 p_1 p_2).getD k27 d_Str)).2.1, (s_l25ReadEntry p_0 p_1 ((s_l25Entries p_0 p_1 p_2).getD k27 d_Str)).1] : List Str)⟩ : DRow))) := by simp only [B_s_l30Pairs_0, hb358, hb460, hL487, cL]
       have hz510 := OwnL.len hB496
       exact ⟨(s_l25Entries p_0 p_1 p_2).length - (k27 + 1), oM, k27 + 1, (x293.set ((x292).toNat) (⟨([(s_l25ReadEntry p_0 p_1 ((s_l25Entries p_0 p_1 p_2).getD k27 d_Str)).2.1, (s_l25ReadEntry p_0 p_1 ((s_l25Entries p_0 p_1 p_2).getD k27 d_Str)).1] : List Str)⟩ : DRow)), A268, c269, w495.heap.size, rfl, hlt225, oM, rfl, rfl, (by rw [← hz510]; exact rfl), rfl, rfl, rfl, (Box.only (Box.ex hf345 hE443) hO497 oM), (RdS.only gS (RdS.ex gS hf346 hE443) hO497 (by simp only [Iv]; omega)), (RdS.only gI (RdS.ex gI hf347 hE443) hO497 (by simp only [Iv]; omega)), (OwnL.fix hB496), (OwnL.only gS (OwnL.ex gS hf351 hE443) hO497 oM), (Below.only (Ex.trans hf352 hE443) hO497 oM), oM, Bl, (okE.set hok355 (okL.mk (nb rfl) (okE.cons ho230 (okE.cons ho229 okE.nil)))), (by first | omega | assumption | (simp only [lN]; omega) | exact is2.nil | exact is2.app ‹is2 _› rfl | exact is2.set ‹is2 _› (is2.at ‹is2 _› (by first | omega | (simp only [wI] at *; omega) | (simp only [lN, wI] at *; omega))) _ | exact is2.set ‹is2 _› rfl _ | (simp only [wI] at *; omega) | (simp only [lN, wI] at *; omega)), (loopM.cont hlt225 hB499).symm.trans hI205⟩
    ·have hb358p := dec_f hb358
     refine drI 11 [.int .i64 (x292), .bool (decide (0 < x292)), .bool (decide (0 < x292)), undef, undef, undef, undef, undef, undef, undef, .bool (false)] Tryz.follows rfl ⟨?_, ?_, ?_, ?_, ?_, ?_, ?_, ?_, ?_, ?_, ?_, trivial⟩ ?_
     ·exact oI rfl fun h => yM rfl (h.old 14 _ rfl rfl) kI
     ·exact oI rfl fun h => yl_gtr rfl (h.dt 0 42 rfl rfl rfl) rfl kI
     ·exact oI rfl fun h => yM rfl (h.dt 1 43 rfl rfl rfl) kI
     ·exact oS rfl rfl rfl rfl rfl hb358
     ·exact oS rfl rfl rfl rfl rfl hb358
     ·exact oS rfl rfl rfl rfl rfl hb358
     ·exact oS rfl rfl rfl rfl rfl hb358
     ·exact oS rfl rfl rfl rfl rfl hb358
     ·exact oS rfl rfl rfl rfl rfl hb358
     ·exact oS rfl rfl rfl rfl rfl hb358
     ·exact oI rfl fun h => yl_pick_f rfl (h.dt 2 44 rfl rfl rfl) hb358 rfl kI
     ·intro fl570 fh571 L567 w568 hp569
      have hE572 := hp569.ex
      have hE572z := Ex.size hE572
      refine dn (CW.sub (sC 1 (hp569.old 1 _ rfl rfl) (sC 3 (hp569.old 3 _ rfl rfl) (sC 7 (hp569.old 7 _ rfl rfl) (sC 13 (hp569.old 13 _ rfl rfl) (sC 14 (hp569.old 14 _ rfl rfl) (sC 18 (hp569.old 18 _ rfl rfl) (sC 19 (hp569.old 19 _ rfl rfl) (sC 20 (hp569.old 20 _ rfl rfl) (sC 45 (hp569.nt 3 45 rfl rfl rfl) (sC 46 (hp569.nt 4 46 rfl rfl rfl) (sC 47 (hp569.nt 5 47 rfl rfl rfl) (sC 48 (hp569.nt 6 48 rfl rfl rfl) (sC 49 (hp569.nt 7 49 rfl rfl rfl) (sC 50 (hp569.nt 8 50 rfl rfl rfl) (sC 51 (hp569.nt 9 51 rfl rfl rfl) (sC 52 (hp569.nt 10 52 rfl rfl rfl) (Sub.nil _))))))))))))))))) (CW.cond_f rfl rfl (CW.exit (tx (tx ?_)))))
      have hB590 : B_s_l30Pairs_1 p_0 p_1 p_2 k27 x189 (x292, x293) = .brk (x292, x293) := by simp only [B_s_l30Pairs_1, hb358, cL]
      have hL589 : loopW (B_s_l30Pairs_1 p_0 p_1 p_2 k27 x189) ((((x189.length : Int)).toNat) + 1) ((x189.length : Int), (x189 ++ ([(⟨([(s_l25ReadEntry p_0 p_1 ((s_l25Entries p_0 p_1 p_2).getD k27 d_Str)).2.1, (s_l25ReadEntry p_0 p_1 ((s_l25Entries p_0 p_1 p_2).getD k27 d_Str)).1] : List Str)⟩ : DRow)] : List DRow))) = .done (x292, x293) := hI335.symm.trans (loopW.brk hk334 hB590)
      refine bx (tn (CW.region (sM rfl (sM rfl (sd rfl (yl_loadN ty45 rfl rfl ((Box.ex hf349 hE572).cells (n := 1) rfl) rfl ?_))))))
      have q592 := OwnL.ex good_Row hf348 hE572
      obtain ⟨eb593, eo593, ec593, eA593, eS593, ebl593, el593, eR593, eC593⟩ := OwnL.atN good_Row q592 d_Row (i := (x292).toNat) (by first | omega | assumption | (simp only [wI] at *; omega) | (simp only [lN, wI] at *; omega))
      have hnb594 := hbk275 eb593 (by rw [eA593]; rfl)
      obtain ⟨A595, c595, rfl, h595⟩ := eR593
      refine sd rfl (yl_indexAddr un36 ty45 rfl rfl rfl eA593 (by first | omega | assumption | (simp only [wI] at *; omega) | (simp only [lN, wI] at *; omega)) (by first | omega | assumption | (simp only [wI] at *; omega) | (simp only [lN, wI] at *; omega)) ?_)
      have hrg596 := OwnL.rng q592 (i := (x292).toNat) (by first | omega | assumption | (simp only [wI] at *; omega) | (simp only [lN, wI] at *; omega)) eb593 (by rw [eA593]; rfl)
      refine SeqR.u rfl rfl (yl_storeW (off := eo593) (i := (x292).toNat) (x' := (⟨([(s_l25ReadEntry p_0 p_1 ((s_l25Entries p_0 p_1 p_2).getD k27 d_Str)).2.1, (s_l25ReadEntry p_0 p_1 ((s_l25Entries p_0 p_1 p_2).getD k27 d_Str)).1] : List Str)⟩ : DRow)) (vs := [.slice (some ⟨b233, 0, none⟩) 2 2]) (S' := (Iv b233 (b233 + 1))) good_Row ty45 rfl q592 eA593 rfl rfl rfl rfl (by first | omega | assumption | (simp only [wI] at *; omega) | (simp only [lN, wI] at *; omega)) ⟨(some ⟨b233, 0, none⟩), 2, rfl, (RdS.fix (OwnL.rdI gS (OwnL.ex gS hf350 hE572)))⟩ (fun b hh _ => ⟨by have := hh.1; omega, by have := hh.1; have := hh.2; omega⟩) oM ?_)
      intro w597 hB598 hO599
      have hO599z := hO599.size
      refine SeqR.done (bn (tn (CW.region (sd rfl (yl_inc rfl rfl rfl oM (sM rfl (dn ?_)))))))
      have hB601 : B_s_l30Pairs_0 p_0 p_1 p_2 k27 (x189) = .cont ((x293.set ((x292).toNat) (⟨([(s_l25ReadEntry p_0 p_1 ((s_l25Entries p_0 p_1 p_2).getD k27 d_Str)).2.1, (s_l25ReadEntry p_0 p_1 ((s_l25Entries p_0 p_1 p_2).getD k27 d_Str)).1] : List Str)⟩ : DRow))) := by simp only [B_s_l30Pairs_0, hb358, hL589, cL]
      have hz612 := OwnL.len hB598
      exact ⟨(s_l25Entries p_0 p_1 p_2).length - (k27 + 1), oM, k27 + 1, (x293.set ((x292).toNat) (⟨([(s_l25ReadEntry p_0 p_1 ((s_l25Entries p_0 p_1 p_2).getD k27 d_Str)).2.1, (s_l25ReadEntry p_0 p_1 ((s_l25Entries p_0 p_1 p_2).getD k27 d_Str)).1] : List Str)⟩ : DRow)), A268, c269, w597.heap.size, rfl, hlt225, oM, rfl, rfl, (by rw [← hz612]; exact rfl), rfl, rfl, rfl, (Box.only (Box.ex hf345 hE572) hO599 oM), (RdS.only gS (RdS.ex gS hf346 hE572) hO599 (by simp only [Iv]; omega)), (RdS.only gI (RdS.ex gI hf347 hE572) hO599 (by simp only [Iv]; omega)), (OwnL.fix hB598), (OwnL.only gS (OwnL.ex gS hf351 hE572) hO599 oM), (Below.only (Ex.trans hf352 hE572) hO599 oM), oM, Bl, (okE.set hok355 (okL.mk (nb rfl) (okE.cons ho230 (okE.cons ho229 okE.nil)))), (by first | omega | assumption | (simp only [lN]; omega) | exact is2.nil | exact is2.app ‹is2 _› rfl | exact is2.set ‹is2 _› (is2.at ‹is2 _› (by first | omega | (simp only [wI] at *; omega) | (simp only [lN, wI] at *; omega))) _ | exact is2.set ‹is2 _› rfl _ | (simp only [wI] at *; omega) | (simp only [lN, wI] at *; omega)), (loopM.cont hlt225 hB601).symm.trans hI205⟩
  ·refine cR (sd rfl (yl_lss rfl rfl rfl (dn (CW.seq (CW.cond_f rfl (lt_f hlt225) (CW.exit (tx ?_)))))))
   refine tx ?_
   have hL613 : loopM (B_s_l30Pairs_0 p_0 p_1 p_2) ((s_l25Entries p_0 p_1 p_2).length - 0) 0 (([] : List DRow)) = .done (x189) := hI205.symm.trans (loopM.stop hlt225)
   refine bx (tn (cR (sM rfl (sA rfl (dn (CW.ret ?_))))))
   refine rr rfl (.cons rfl .nil) ?_
   have hM614 : (s_l30Pairs p_0 p_1 p_2) = (x189) := by simp only [s_l30Pairs, hL613, cL]
   rw [hM614]
   exact ⟨A190, c191, w21.heap.size, u192, rfl, hf216, (okL.mk (xs := x189) Bl hok221), oM, hf218⟩
theorem c_s_l30Ask {A1 : Option Addr} {c1 : Nat} {A2 : Option Addr} {c2 : Nat} {A4 : Option Addr} {c4 : Nat} {A6 : Option Addr} {c6 : Nat} {A7 : Option Addr} {c7 : Nat} {w : World} (p_0 : DTable) (p_1 : List DWrite) (p_2 : DStmt) (h1 : RdS w (Iv 0 w.heap.size) (RF e_Str) 1 A1 p_0.Cols.length c1 p_0.Cols) (h2 : RdS w (Iv 0 w.heap.size) (RF e_Idx) 3 A2 p_0.Idxs.length c2 p_0.Idxs) (h4 : RdS w (Iv 0 w.heap.size) (RF e_Write) 3 A4 p_1.length c4 p_1) (h6 : RdS w (Iv 0 w.heap.size) (RF e_Str) 1 A6 p_2.Act.Old.Vals.length c6 p_2.Act.Old.Vals) (h7 : RdS w (Iv 0 w.heap.size) (RF e_Str) 1 A7 p_2.Act.New.Vals.length c7 p_2.Act.New.Vals) (o3 : ok_Table p_0) (o5 : (okL ok_Write) p_1) (o8 : ok_Stmt p_2) (pre0 : s_GoodStmt p_0 p_2 = true) (pre1 : s_l5Rows p_1 = true) : Cal Tryz.prog 27 #[.agg #[.string (bs (p_0.Name)), .slice A1 p_0.Cols.length c1, .slice A2 p_0.Idxs.length c2], .slice A4 p_1.length c4, .agg #[.int .i64 (p_2.Kind), .int .i64 (p_2.Act.Kind), .slice A6 p_2.Act.Old.Vals.length c6, .slice A7 p_2.Act.New.Vals.length c7, .string (bs (p_2.Idx)), .string (bs (p_2.Low)), .string (bs (p_2.High))]] w fun v w' => ∃ A_1 c_1 lo_1 hi_1, v = .tuple #[.slice A_1 (((s_l30Ask p_0 p_1 p_2).1).length) c_1, .bool ((s_l30Ask p_0 p_1 p_2).2)] ∧ OwnL w' lo_1 hi_1 45 1 R_Row A_1 (((s_l30Ask p_0 p_1 p_2).1).length) c_1 ((s_l30Ask p_0 p_1 p_2).1) ∧ (okL ok_Row) ((s_l30Ask p_0 p_1 p_2).1) ∧ (w.heap.size ≤ lo_1 ∧ lo_1 ≤ hi_1 ∧ hi_1 ≤ w'.heap.size) ∧ Ex w w' := by
 have hol9 : p_0.Name.length ≤ 1073741824 := o3.1
 have hol10 := o3.2.1.1
 have hol11 := o3.2.2.1
 have hol12 := o5.1
 have hol13 := o8.1.1.1
 have hol14 := o8.1.2.1
 have hol15 : p_2.Idx.length ≤ 1073741824 := o8.2.1
 have hol16 : p_2.Low.length ≤ 1073741824 := o8.2.2.1
 have hol17 : p_2.High.length ≤ 1073741824 := o8.2.2.2
 have hai := ask_idx pre0
 have hl24 := rows24 pre1
 refine Cal.of func27 rfl ntmps27 rfl (cR (sd rfl (yl_box rfl rfl rfl ?_)))
 intro b18 w19 hs20 hz21 hB22 hE23
 refine sd rfl (yl_box rfl rfl rfl ?_)
 intro b24 w25 hs26 hz27 hB28 hE29
 refine sA rfl (sA rfl (dn (CW.seq (cR (sd rfl (yl_fieldAddr fd49_0 rfl rfl (sd rfl (yl_load1 ty3 rfl rfl ((hB28.cell 0).trans rfl) ?_))))))))
 refine sd rfl (yl_eql rfl rfl rfl (dn (bcase (decide (p_2.Kind = 2)) (fun hb30 => ?_) (fun hb30 => ?_))))
 ·have hb30p := dec_t hb30
  refine CW.cond_t rfl hb30 (cR (sd rfl (yl_loadN ty41 rfl rfl ((Box.ex hB22 hE29).cells (n := 3) rfl) rfl (sM rfl (sd rfl (yl_fieldAddr fd49_3 rfl rfl (sd rfl (yl_load1 ty9 rfl rfl ((hB28.cell 5).trans rfl) (sd rfl (yC en50 rfl (oc rfl (oc rfl (oc rfl oz))) (Cal.mono (c_s_l30Keyed p_0 p_1 p_2.Low (RdS.up (RdS.ex gS (RdS.ex gS h1 hE23) hE29) gS) (RdS.up (RdS.ex gI (RdS.ex gI h2 hE23) hE29) gI) (RdS.up (RdS.ex gW (RdS.ex gW h4 hE23) hE29) gW) o3 o5 o8.2.2.1 (good_stmt pre0)) ?_)))))))))))
  rintro v41 w38 ⟨A39, c39, lo39, hi39, rfl, h39, ho40, hrn43, hE42⟩
  have hE42z := Ex.size hE42
  have hrf44 := keyed_le p_0 p_1 p_2.Low
  refine sA rfl (sA rfl (dn (CW.ret (tr (rr rfl (.cons rfl (.cons rfl .nil)) ?_)))))
  have hM45 : (s_l30Ask p_0 p_1 p_2) = (((s_l30Keyed p_0 p_1 p_2.Low), true)) := by simp only [s_l30Ask, hb30, cL]
  rw [hM45]
  exact ⟨A39, c39, lo39, hi39, rfl, h39, ho40, oM, (Ex.trans (Ex.trans (Ex.trans (Ex.refl w) hE23) hE29) hE42)⟩
 ·have hb30p := dec_f hb30
  refine CW.cond_f rfl hb30 (CW.skip (tn (CW.seq (CW.seq (bcase (decide (p_2.Kind = 3)) (fun hb49 => ?_) (fun hb49 => ?_))))))
  ·have hb49p := dec_t hb49
   have q50 := Box.ex hB22 hE29
   have q52 := RdS.ex gS (RdS.ex gS h1 hE23) hE29
   have q54 := RdS.ex gI (RdS.ex gI h2 hE23) hE29
   have hrf56 := rf_s_l24Idx p_0 p_2.Idx
   refine drI 10 [.pointer (some ⟨b24, 0 + 0, none⟩), .int .i64 (p_2.Kind), .bool (!(decide (p_2.Kind = 3))), .bool (!(decide (p_2.Kind = 3))), .pointer (some ⟨b18, 0 + 2, none⟩), .slice A2 p_0.Idxs.length c2, .agg #[.string (bs (p_0.Name)), .slice A1 p_0.Cols.length c1, .slice A2 p_0.Idxs.length c2], .pointer (some ⟨b24, 0 + 4, none⟩), .string (bs (p_2.Idx)), .int .i64 ((s_l24Idx p_0 p_2.Idx))] Tryz.follows rfl ⟨?_, ?_, ?_, ?_, ?_, ?_, ?_, ?_, ?_, ?_, trivial⟩ ?_
   ·exact oI rfl fun h => yl_fieldAddr fd49_0 rfl (h.old 5 _ rfl rfl) kI
   ·exact oI rfl fun h => yl_load1 ty3 rfl (h.dt 0 19 rfl rfl rfl) (((Box.ex hB28 h.ex).cell 0).trans rfl) kI
   ·exact oI rfl fun h => yl_neq rfl (h.dt 1 20 rfl rfl rfl) rfl kI
   ·exact oI rfl fun h => yM rfl (h.dt 2 21 rfl rfl rfl) kI
   ·exact oW rfl rfl rfl rfl (not_t hb49) fun h => yl_fieldAddr fd41_2 rfl (h.old 3 _ rfl rfl) kI
   ·exact oW rfl rfl rfl rfl (not_t hb49) fun h => yl_load1 ty39 rfl (h.dt 4 23 rfl rfl rfl) (((Box.ex q50 h.ex).cell 2).trans rfl) kI
   ·exact oW rfl rfl rfl rfl (not_t hb49) fun h => yl_loadN ty41 rfl (h.old 3 _ rfl rfl) ((Box.ex q50 h.ex).cells (n := 3) rfl) rfl kI
   ·exact oW rfl rfl rfl rfl (not_t hb49) fun h => yl_fieldAddr fd49_2 rfl (h.old 5 _ rfl rfl) kI
   ·exact oW rfl rfl rfl rfl (not_t hb49) fun h => yl_load1 ty9 rfl (h.dt 7 26 rfl rfl rfl) (((Box.ex hB28 h.ex).cell 4).trans rfl) kI
   ·intro L111 w112 hi113
    have hE114 := hi113.ex
    exact OpR.want rfl rfl (hi113.dt 3 22 rfl rfl rfl) (not_t hb49) (yC en51 rfl (oc (hi113.dt 6 25 rfl rfl rfl) (oc (hi113.dt 8 27 rfl rfl rfl) oz)) (Cal.mono (c_s_l24Idx p_0 p_2.Idx (RdS.up (RdS.ex gS q52 hE114) gS) (RdS.up (RdS.ex gI q54 hE114) gI) o3 o8.2.1) fun _ _ h => h))
   ·intro fl126 fh127 L123 w124 hp125
    have hE128 := hp125.ex
    have hE128z := Ex.size hE128
    have hx132 := hp125.nt 3 22 rfl rfl rfl
    have q135 := RdS.ex gI q54 hE128
    obtain ⟨eb136, eo136, _, eA136, _, ebl136, _, eR136, eC136⟩ := RdS.atD q135 d_Idx (i := ((s_l24Idx p_0 p_2.Idx)).toNat) Bo
    obtain rfl := eR136
    have eC136 : Cells w124 eb136 (eo136 + (((s_l24Idx p_0 p_2.Idx)).toNat) * 3) [.string (bs ((p_0.Idxs.getD (((s_l24Idx p_0 p_2.Idx)).toNat) d_Idx).Name)), .int .i64 ((p_0.Idxs.getD (((s_l24Idx p_0 p_2.Idx)).toNat) d_Idx).Col), .int .i64 ((p_0.Idxs.getD (((s_l24Idx p_0 p_2.Idx)).toNat) d_Idx).Stage)] := eC136
    refine sy rfl hx132 (not_t hb49) (yl_indexAddr un39 ty88 rfl (hp125.nt 5 24 rfl rfl rfl) (hp125.nt 9 28 rfl rfl rfl) eA136 Bo Bo (sy rfl hx132 (not_t hb49) (yl_fieldAddr fd88_2 rfl rfl (sy rfl hx132 (not_t hb49) (yl_load1 ty3 rfl rfl (eC136 2 _ rfl) (sy rfl hx132 (not_t hb49) (yl_lss rfl rfl rfl (sd rfl (yl_pick_f rfl hx132 (not_t hb49) rfl (dn (CW.sub (sC 1 (hp125.old 1 _ rfl rfl) (sC 3 (hp125.old 3 _ rfl rfl) (sC 5 (hp125.old 5 _ rfl rfl) (sC 33 rfl (Sub.nil _))))) (bcase (decide (((p_0.Idxs.getD (((s_l24Idx p_0 p_2.Idx)).toNat) d_Idx).Stage) < 3)) (fun hb137 => ?_) (fun hb137 => ?_)))))))))))))
    ·have hb137p := dec_t hb137
     refine CW.cond_t rfl hb137 (cR (sA rfl (sA rfl (dn (CW.ret (tr ?_))))))
     refine rr rfl (.cons rfl (.cons rfl .nil)) ?_
     have hM138 : (s_l30Ask p_0 p_1 p_2) = ((([] : List DRow), false)) := by simp only [s_l30Ask, hb30, hb49, hb137, cL]
     rw [hM138]
     exact ⟨none, 0, w124.heap.size, w124.heap.size, rfl, (OwnL.nil _ _ _ _ _ _), (okL.nil _), oM, (Ex.trans (Ex.trans (Ex.trans (Ex.refl w) hE23) hE29) hE128)⟩
    ·have hb137p := dec_f hb137
     refine CW.cond_f rfl hb137 (CW.skip (tn (cR (sA rfl (dn (CW.seq ?_))))))
     refine cR ?_
     have q142 := Box.ex q50 hE128
     refine sd rfl (yl_loadN ty41 rfl rfl (q142.cells (n := 3) rfl) rfl (sd rfl (yl_fieldAddr fd49_2 rfl rfl ?_)))
     have q143 := Box.ex hB28 hE128
     refine sd rfl (yl_load1 ty9 rfl rfl ((q143.cell 4).trans rfl) (sM rfl ?_))
     have q144 := RdS.ex gS q52 hE128
     have q147 := RdS.ex gW (RdS.ex gW (RdS.ex gW h4 hE23) hE29) hE128
     refine sd rfl (yC en52 rfl (oc rfl (oc rfl (oc rfl oz))) (Cal.mono (c_s_l30Pairs p_0 p_2.Idx p_1 (RdS.up q144 gS) (RdS.up q135 gI) (RdS.up q147 gW) o3 o8.2.1 o5 (rows24 pre1)) ?_))
     rintro v151 w148 ⟨A149, c149, lo149, hi149, rfl, h149, ho150, hrn153, hE152⟩
     have hE152z := Ex.size hE152
     have hrf154 := pairs_le p_0 p_2.Idx p_1 oM
     refine sd rfl (yL un36 rfl rfl (sM rfl (dn (CW.block (CW.loop (fun m225 L226 w227 => ∃ (k155 : Nat) (x221 : List DRow) (A222 : Option Addr) (c223 : Nat) (u224 : Nat), m225 = (s_l30Pairs p_0 p_2.Idx p_1).length - k155 ∧ k155 ≤ (s_l30Pairs p_0 p_2.Idx p_1).length ∧ w148.heap.size ≤ w227.heap.size ∧ lkp L226 1 = some (.slice A4 p_1.length c4) ∧ lkp L226 3 = some (.pointer (some ⟨b18, 0, none⟩)) ∧ lkp L226 5 = some (.pointer (some ⟨b24, 0, none⟩)) ∧ lkp L226 8 = some (.slice A222 x221.length c223) ∧ lkp L226 38 = some (.slice A149 ((s_l30Pairs p_0 p_2.Idx p_1).length) c149) ∧ lkp L226 39 = some (.int .i64 (((s_l30Pairs p_0 p_2.Idx p_1).length : Int))) ∧ lkp L226 40 = some (.int .i64 ((k155 : Int))) ∧ RdS w227 (Iv 0 w.heap.size) (RF e_Write) 3 A4 p_1.length c4 p_1 ∧ Box w227 b18 41 [.string (bs (p_0.Name)), .slice A1 p_0.Cols.length c1, .slice A2 p_0.Idxs.length c2] ∧ RdS w227 (Iv 0 w.heap.size) (RF e_Str) 1 A1 p_0.Cols.length c1 p_0.Cols ∧ RdS w227 (Iv 0 w.heap.size) (RF e_Idx) 3 A2 p_0.Idxs.length c2 p_0.Idxs ∧ Box w227 b24 49 [.int .i64 (p_2.Kind), .int .i64 (p_2.Act.Kind), .slice A6 p_2.Act.Old.Vals.length c6, .slice A7 p_2.Act.New.Vals.length c7, .string (bs (p_2.Idx)), .string (bs (p_2.Low)), .string (bs (p_2.High))] ∧ RdS w227 (Iv 0 w.heap.size) (RF e_Str) 1 A6 p_2.Act.Old.Vals.length c6 p_2.Act.Old.Vals ∧ RdS w227 (Iv 0 w.heap.size) (RF e_Str) 1 A7 p_2.Act.New.Vals.length c7 p_2.Act.New.Vals ∧ OwnL w227 w148.heap.size u224 45 1 R_Row A222 x221.length c223 x221 ∧ OwnL w227 lo149 hi149 45 1 R_Row A149 ((s_l30Pairs p_0 p_2.Idx p_1).length) c149 (s_l30Pairs p_0 p_2.Idx p_1) ∧ Ex w w227 ∧ (w148.heap.size ≤ u224 ∧ u224 ≤ w227.heap.size) ∧ x221.length ≤ 0 + 24 * (k155 - 0) ∧ (∀ y ∈ x221, ok_Row y) ∧ loopM (B_s_l30Ask_0 p_0 p_1 p_2) ((s_l30Pairs p_0 p_2.Idx p_1).length - k155) k155 (x221) = loopM (B_s_l30Ask_0 p_0 p_1 p_2) ((s_l30Pairs p_0 p_2.Idx p_1).length - 0) 0 (([] : List DRow))) ((s_l30Pairs p_0 p_2.Idx p_1).length - 0) ?_ ?_)))))
     ·exact ⟨0, ([] : List DRow), none, 0, w148.heap.size, rfl, oM, Nat.le_refl _, rfl, rfl, rfl, rfl, rfl, rfl, rfl, (RdS.ex gW q147 hE152), (Box.ex q142 hE152), (RdS.ex gS q144 hE152), (RdS.ex gI q135 hE152), (Box.ex q143 hE152), (RdS.ex gS (RdS.ex gS (RdS.ex gS (RdS.ex gS h6 hE23) hE29) hE128) hE152), (RdS.ex gS (RdS.ex gS (RdS.ex gS (RdS.ex gS h7 hE23) hE29) hE128) hE152), (OwnL.nil w148 w148.heap.size w148.heap.size 45 1 R_Row), h149, (Ex.trans (Ex.trans (Ex.trans (Ex.trans (Ex.refl w) hE23) hE29) hE128) hE152), oM, (by first | (simp; done) | (first | omega | (simp only [lN, toS_length]; omega))), okE.nil, rfl⟩
     ·rintro m245 L246 w247 ⟨k155, x221, A222, c223, u224, rfl, hk248, hsz250, hl251, hl252, hl253, hl254, hl255, hl256, hl257, hf258, hf259, hf260, hf261, hf262, hf263, hf264, hf265, hf266, hf267, hu268, hln269, hok270, hI249⟩
      refine CW.sub (Sub.cons hl251 (Sub.cons hl252 (Sub.cons hl253 (Sub.cons hl254 (Sub.cons hl255 (Sub.cons hl256 (Sub.cons hl257 (Sub.nil _)))))))) ?_
      have hf259z := Box.lt hf259
      have hf262z := Box.lt hf262
      have hf267z := Ex.size hf267
      have hbg271 := RdS.big (OwnL.rd good_Row hf266)
      rcases Nat.lt_or_ge k155 ((s_l30Pairs p_0 p_2.Idx p_1).length) with hlt273 | hlt273
      ·have hp2 := is2.at (pairs_is2 p_0 p_2.Idx hl24) hlt273
       refine cR (sd rfl (yl_lss rfl rfl rfl (dn (CW.seq (CW.cond_t rfl (lt_t hlt273) (CW.skip (tn ?_)))))))
       refine CW.seq (CW.block (cR ?_))
       obtain ⟨_, _, _, eA275, _, ebl275, _, eR275, eC275⟩ := RdS.aD (OwnL.rd good_Row hf266) d_Row (i := k155)
       obtain ⟨A276, c276, rfl, h276⟩ := eR275
       refine sd rfl (yl_ixN un36 ty45 rfl rfl rfl eA275 (sd rfl (yl_loadN ty45 rfl rfl eC275 rfl (sd rfl (yB ty45 (cs := [.slice none 0 0]) rfl rfl ?_)))))
       intro b277 w278 hs279 hz280 hB281 hE282
       refine SeqR.u rfl rfl (yl_store (vs := [.slice A276 ((((s_l30Pairs p_0 p_2.Idx p_1).getD k155 d_Row).Vals).length) c276]) ty45 rfl rfl rfl rfl rfl rfl hB281 (nb rfl) ?_)
       intro w283 hB284 hO285
       have hB284 : Box w283 b277 45 [.slice A276 ((((s_l30Pairs p_0 p_2.Idx p_1).getD k155 d_Row).Vals).length) c276] := hB284
       have hO285z := hO285.size
       refine dn (CW.seq ?_)
       obtain ⟨eb288, eo288, _, _, _, ebl288, _, eR288, eC288⟩ := RdS.atD (RdS.only gS (RdS.ex gS h276 hE282) hO285 (by simp only [Iv]; omega)) d_Str (i := 1) (by first | omega | assumption)
       obtain rfl := eR288
       have eC288 : Cells w283 eb288 (eo288 + 1 * 1) [.string (bs (((((s_l30Pairs p_0 p_2.Idx p_1).getD k155 d_Row).Vals).getD 1 d_Str)))] := eC288
       refine bcase (sLt ((((s_l30Pairs p_0 p_2.Idx p_1).getD k155 d_Row).Vals).getD 1 d_Str) p_2.Low) (fun hb291 => ?_) (fun hb291 => ?_)
       ·obtain ⟨eb294, eo294, _, eA294, _, ebl294, _, eR294, eC294⟩ := RdS.atD (RdS.only gS (RdS.ex gS h276 hE282) hO285 (by simp only [Iv]; omega)) d_Str (i := 1) (by first | omega | assumption)
        obtain rfl := eR294
        have eC294 : Cells w283 eb294 (eo294 + 1 * 1) [.string (bs (((((s_l30Pairs p_0 p_2.Idx p_1).getD k155 d_Row).Vals).getD 1 d_Str)))] := eC294
        have q296 := Box.only (Box.ex hf262 hE282) hO285 oM
        refine drI 16 [.pointer (some ⟨b277, 0 + 0, none⟩), .slice A276 ((((s_l30Pairs p_0 p_2.Idx p_1).getD k155 d_Row).Vals).length) c276, .pointer (some ⟨eb294, eo294 + 1 * 1, none⟩), .string (bs (((((s_l30Pairs p_0 p_2.Idx p_1).getD k155 d_Row).Vals).getD 1 d_Str))), .pointer (some ⟨b24, 0 + 5, none⟩), .string (bs (p_2.Low)), .bool (!(sLt ((((s_l30Pairs p_0 p_2.Idx p_1).getD k155 d_Row).Vals).getD 1 d_Str) p_2.Low)), .bool (!(sLt ((((s_l30Pairs p_0 p_2.Idx p_1).getD k155 d_Row).Vals).getD 1 d_Str) p_2.Low)), undef, undef, undef, undef, undef, undef, undef, .bool (false)] Tryz.follows rfl ⟨?_, ?_, ?_, ?_, ?_, ?_, ?_, ?_, ?_, ?_, ?_, ?_, ?_, ?_, ?_, ?_, trivial⟩ ?_
        ·exact oI rfl fun h => yl_fieldAddr fd45_0 rfl (h.old 10 _ rfl rfl) kI
        ·exact oI rfl fun h => yl_load1 ty22 rfl (h.dt 0 44 rfl rfl rfl) (((Box.ex hB284 h.ex).cell 0).trans rfl) kI
        ·intro L308 w309 hi310
         have hE311 := hi310.ex
         have hE311z := Ex.size hE311
         exact os rfl ((yl_ixN un22 ty9 rfl (hi310.dt 1 45 rfl rfl rfl) rfl eA294 kI))
        ·exact oI rfl fun h => yl_load1 ty9 rfl (h.dt 2 46 rfl rfl rfl) ((Cells.ex eC294 h.ex) 0 _ rfl) kI
        ·exact oI rfl fun h => yl_fieldAddr fd49_3 rfl (h.old 5 _ rfl rfl) kI
        ·exact oI rfl fun h => yl_load1 ty9 rfl (h.dt 4 48 rfl rfl rfl) (((Box.ex q296 h.ex).cell 5).trans rfl) kI
        ·exact oI rfl fun h => yl_sgeq (a := ((((s_l30Pairs p_0 p_2.Idx p_1).getD k155 d_Row).Vals).getD 1 d_Str)) (b := p_2.Low) rfl (h.dt 3 47 rfl rfl rfl) (h.dt 5 49 rfl rfl rfl) kI
        ·exact oI rfl fun h => yM rfl (h.dt 6 50 rfl rfl rfl) kI
        ·exact oS rfl rfl rfl rfl rfl (not_t hb291)
        ·exact oS rfl rfl rfl rfl rfl (not_t hb291)
        ·exact oS rfl rfl rfl rfl rfl (not_t hb291)
        ·exact oS rfl rfl rfl rfl rfl (not_t hb291)
        ·exact oS rfl rfl rfl rfl rfl (not_t hb291)
        ·exact oS rfl rfl rfl rfl rfl (not_t hb291)
        ·exact oS rfl rfl rfl rfl rfl (not_t hb291)
        ·exact oI rfl fun h => yl_pick_f rfl (h.dt 7 51 rfl rfl rfl) (not_t hb291) rfl kI
        ·intro fl385 fh386 L382 w383 hp384
         have hE387 := hp384.ex
         have hE387z := Ex.size hE387
         refine dn (CW.sub (sC 1 (hp384.old 1 _ rfl rfl) (sC 3 (hp384.old 3 _ rfl rfl) (sC 5 (hp384.old 5 _ rfl rfl) (sC 8 (hp384.old 8 _ rfl rfl) (sC 10 (hp384.old 10 _ rfl rfl) (sC 38 (hp384.old 38 _ rfl rfl) (sC 39 (hp384.old 39 _ rfl rfl) (sC 40 (hp384.old 40 _ rfl rfl) (sC 52 (hp384.nt 8 52 rfl rfl rfl) (sC 53 (hp384.nt 9 53 rfl rfl rfl) (sC 54 (hp384.nt 10 54 rfl rfl rfl) (sC 55 (hp384.nt 11 55 rfl rfl rfl) (sC 56 (hp384.nt 12 56 rfl rfl rfl) (sC 57 (hp384.nt 13 57 rfl rfl rfl) (sC 58 (hp384.nt 14 58 rfl rfl rfl) (sC 59 (hp384.nt 15 59 rfl rfl rfl) (Sub.nil _))))))))))))))))) (CW.cond_f rfl rfl (CW.skip (bn (tn (CW.region (sd rfl (yl_inc rfl rfl rfl oM ?_))))))))
         refine sM rfl (dn ?_)
         have hB404 : B_s_l30Ask_0 p_0 p_1 p_2 k155 (x221) = .cont (x221) := by simp only [B_s_l30Ask_0, hb30, hb49, hb137, hb291, cL]
         exact ⟨(s_l30Pairs p_0 p_2.Idx p_1).length - (k155 + 1), oM, k155 + 1, x221, A222, c223, u224, rfl, hlt273, oM, rfl, rfl, rfl, rfl, rfl, rfl, rfl, (RdS.ex gW (RdS.only gW (RdS.ex gW hf258 hE282) hO285 (by simp only [Iv]; omega)) hE387), (Box.ex (Box.only (Box.ex hf259 hE282) hO285 oM) hE387), (RdS.ex gS (RdS.only gS (RdS.ex gS hf260 hE282) hO285 (by simp only [Iv]; omega)) hE387), (RdS.ex gI (RdS.only gI (RdS.ex gI hf261 hE282) hO285 (by simp only [Iv]; omega)) hE387), (Box.ex q296 hE387), (RdS.ex gS (RdS.only gS (RdS.ex gS hf263 hE282) hO285 (by simp only [Iv]; omega)) hE387), (RdS.ex gS (RdS.only gS (RdS.ex gS hf264 hE282) hO285 (by simp only [Iv]; omega)) hE387), (OwnL.ex good_Row (OwnL.only good_Row (OwnL.ex good_Row hf265 hE282) hO285 oM) hE387), (OwnL.ex good_Row (OwnL.only good_Row (OwnL.ex good_Row hf266 hE282) hO285 oM) hE387), (Ex.trans (Below.only (Ex.trans hf267 hE282) hO285 oM) hE387), oM, Bl, hok270, (loopM.cont hlt273 hB404).symm.trans hI249⟩
       ·have q434 := RdS.only gS (RdS.ex gS h276 hE282) hO285 (by simp only [Iv]; omega)
        obtain ⟨eb435, eo435, _, eA435, _, ebl435, _, eR435, eC435⟩ := RdS.aD q434 d_Str (i := 1)
        obtain rfl := eR435
        have eC435 : Cells w283 eb435 (eo435 + 1 * 1) [.string (bs (((((s_l30Pairs p_0 p_2.Idx p_1).getD k155 d_Row).Vals).getD 1 d_Str)))] := eC435
        have q437 := Box.only (Box.ex hf262 hE282) hO285 oM
        refine drI 16 [.pointer (some ⟨b277, 0 + 0, none⟩), .slice A276 ((((s_l30Pairs p_0 p_2.Idx p_1).getD k155 d_Row).Vals).length) c276, .pointer (some ⟨eb435, eo435 + 1 * 1, none⟩), .string (bs (((((s_l30Pairs p_0 p_2.Idx p_1).getD k155 d_Row).Vals).getD 1 d_Str))), .pointer (some ⟨b24, 0 + 5, none⟩), .string (bs (p_2.Low)), .bool (!(sLt ((((s_l30Pairs p_0 p_2.Idx p_1).getD k155 d_Row).Vals).getD 1 d_Str) p_2.Low)), .bool (!(sLt ((((s_l30Pairs p_0 p_2.Idx p_1).getD k155 d_Row).Vals).getD 1 d_Str) p_2.Low)), .pointer (some ⟨b277, 0 + 0, none⟩), .slice A276 ((((s_l30Pairs p_0 p_2.Idx p_1).getD k155 d_Row).Vals).length) c276, .pointer (some ⟨eb435, eo435 + 1 * 1, none⟩), .string (bs (((((s_l30Pairs p_0 p_2.Idx p_1).getD k155 d_Row).Vals).getD 1 d_Str))), .pointer (some ⟨b24, 0 + 6, none⟩), .string (bs (p_2.High)), .bool (sLe ((((s_l30Pairs p_0 p_2.Idx p_1).getD k155 d_Row).Vals).getD 1 d_Str) p_2.High), .bool (sLe ((((s_l30Pairs p_0 p_2.Idx p_1).getD k155 d_Row).Vals).getD 1 d_Str) p_2.High)] Tryz.follows rfl ⟨?_, ?_, ?_, ?_, ?_, ?_, ?_, ?_, ?_, ?_, ?_, ?_, ?_, ?_, ?_, ?_, trivial⟩ ?_
        ·exact oI rfl fun h => yl_fieldAddr fd45_0 rfl (h.old 10 _ rfl rfl) kI
        ·exact oI rfl fun h => yl_load1 ty22 rfl (h.dt 0 44 rfl rfl rfl) (((Box.ex hB284 h.ex).cell 0).trans rfl) kI
        ·intro L449 w450 hi451
         have hE452 := hi451.ex
         have hE452z := Ex.size hE452
         exact os rfl ((yl_ixN un22 ty9 rfl (hi451.dt 1 45 rfl rfl rfl) rfl eA435 kI))
        ·exact oI rfl fun h => yl_load1 ty9 rfl (h.dt 2 46 rfl rfl rfl) ((Cells.ex eC435 h.ex) 0 _ rfl) kI
        ·exact oI rfl fun h => yl_fieldAddr fd49_3 rfl (h.old 5 _ rfl rfl) kI
        ·exact oI rfl fun h => yl_load1 ty9 rfl (h.dt 4 48 rfl rfl rfl) (((Box.ex q437 h.ex).cell 5).trans rfl) kI
        ·exact oI rfl fun h => yl_sgeq (a := ((((s_l30Pairs p_0 p_2.Idx p_1).getD k155 d_Row).Vals).getD 1 d_Str)) (b := p_2.Low) rfl (h.dt 3 47 rfl rfl rfl) (h.dt 5 49 rfl rfl rfl) kI
        ·exact oI rfl fun h => yM rfl (h.dt 6 50 rfl rfl rfl) kI
        ·exact oW rfl rfl rfl rfl (not_f hb291) fun h => yl_fieldAddr fd45_0 rfl (h.old 10 _ rfl rfl) kI
        ·exact oW rfl rfl rfl rfl (not_f hb291) fun h => yl_load1 ty22 rfl (h.dt 8 52 rfl rfl rfl) (((Box.ex hB284 h.ex).cell 0).trans rfl) kI
        ·intro L495 w496 hi497
         have hE498 := hi497.ex
         have hE498z := Ex.size hE498
         exact OpR.want rfl rfl (hi497.dt 7 51 rfl rfl rfl) (not_f hb291) (Yl.sameI (yl_ixN un22 ty9 rfl (hi497.dt 9 53 rfl rfl rfl) rfl eA435 kI))
        ·exact oW rfl rfl rfl rfl (not_f hb291) fun h => yl_load1 ty9 rfl (h.dt 10 54 rfl rfl rfl) ((Cells.ex eC435 h.ex) 0 _ rfl) kI
        ·exact oW rfl rfl rfl rfl (not_f hb291) fun h => yl_fieldAddr fd49_4 rfl (h.old 5 _ rfl rfl) kI
        ·exact oW rfl rfl rfl rfl (not_f hb291) fun h => yl_load1 ty9 rfl (h.dt 12 56 rfl rfl rfl) (((Box.ex q437 h.ex).cell 6).trans rfl) kI
        ·exact oW rfl rfl rfl rfl (not_f hb291) fun h => yl_sleq (a := ((((s_l30Pairs p_0 p_2.Idx p_1).getD k155 d_Row).Vals).getD 1 d_Str)) (b := p_2.High) rfl (h.dt 11 55 rfl rfl rfl) (h.dt 13 57 rfl rfl rfl) kI
        ·exact oI rfl fun h => yl_pick_t rfl (h.dt 7 51 rfl rfl rfl) (not_f hb291) (h.dt 14 58 rfl rfl rfl) kI
        ·intro fl537 fh538 L534 w535 hp536
         have hE539 := hp536.ex
         have hE539z := Ex.size hE539
         refine dn (CW.sub (sC 1 (hp536.old 1 _ rfl rfl) (sC 3 (hp536.old 3 _ rfl rfl) (sC 5 (hp536.old 5 _ rfl rfl) (sC 8 (hp536.old 8 _ rfl rfl) (sC 10 (hp536.old 10 _ rfl rfl) (sC 38 (hp536.old 38 _ rfl rfl) (sC 39 (hp536.old 39 _ rfl rfl) (sC 40 (hp536.old 40 _ rfl rfl) (sC 52 (hp536.nt 8 52 rfl rfl rfl) (sC 53 (hp536.nt 9 53 rfl rfl rfl) (sC 54 (hp536.nt 10 54 rfl rfl rfl) (sC 55 (hp536.nt 11 55 rfl rfl rfl) (sC 56 (hp536.nt 12 56 rfl rfl rfl) (sC 57 (hp536.nt 13 57 rfl rfl rfl) (sC 58 (hp536.nt 14 58 rfl rfl rfl) (sC 59 (hp536.nt 15 59 rfl rfl rfl) (Sub.nil _))))))))))))))))) (bcase (sLe ((((s_l30Pairs p_0 p_2.Idx p_1).getD k155 d_Row).Vals).getD 1 d_Str) p_2.High) (fun hb556 => ?_) (fun hb556 => ?_)))
         ·refine CW.cond_t rfl hb556 ?_
          have q559 := Box.ex (Box.only (Box.ex hf259 hE282) hO285 oM) hE539
          obtain ⟨eb562, eo562, _, eA562, _, ebl562, _, eR562, eC562⟩ := RdS.aD (RdS.ex gS q434 hE539) d_Str (i := 0)
          obtain rfl := eR562
          have eC562 : Cells w535 eb562 (eo562 + 0 * 1) [.string (bs (((((s_l30Pairs p_0 p_2.Idx p_1).getD k155 d_Row).Vals).getD 0 d_Str)))] := eC562
          have q565 := RdS.ex gS (RdS.only gS (RdS.ex gS hf260 hE282) hO285 (by simp only [Iv]; omega)) hE539
          have q568 := RdS.ex gI (RdS.only gI (RdS.ex gI hf261 hE282) hO285 (by simp only [Iv]; omega)) hE539
          have q571 := RdS.ex gW (RdS.only gW (RdS.ex gW hf258 hE282) hO285 (by simp only [Iv]; omega)) hE539
          have hrf575 := keyed_le p_0 p_1 ((((s_l30Pairs p_0 p_2.Idx p_1).getD k155 d_Row).Vals).getD 0 d_Str)
          refine CW.drawsI 8 (vgetI [DetI (.slice A222 x221.length c223), DetI (.agg #[.string (bs (p_0.Name)), .slice A1 p_0.Cols.length c1, .slice A2 p_0.Idxs.length c2]), DetI (.slice A4 p_1.length c4), DetI (.pointer (some ⟨b277, 0 + 0, none⟩)), DetI (.slice A276 ((((s_l30Pairs p_0 p_2.Idx p_1).getD k155 d_Row).Vals).length) c276), DetI (.pointer (some ⟨eb562, eo562 + 0 * 1, none⟩)), DetI (.string (bs (((((s_l30Pairs p_0 p_2.Idx p_1).getD k155 d_Row).Vals).getD 0 d_Str)))), fun lo hi v wq => ∃ A573 c573 lo573 hi573, v = .slice A573 ((s_l30Keyed p_0 p_1 ((((s_l30Pairs p_0 p_2.Idx p_1).getD k155 d_Row).Vals).getD 0 d_Str)).length) c573 ∧ OwnL wq lo573 hi573 45 1 R_Row A573 ((s_l30Keyed p_0 p_1 ((((s_l30Pairs p_0 p_2.Idx p_1).getD k155 d_Row).Vals).getD 0 d_Str)).length) c573 (s_l30Keyed p_0 p_1 ((((s_l30Pairs p_0 p_2.Idx p_1).getD k155 d_Row).Vals).getD 0 d_Str)) ∧ (okL ok_Row) (s_l30Keyed p_0 p_1 ((((s_l30Pairs p_0 p_2.Idx p_1).getD k155 d_Row).Vals).getD 0 d_Str)) ∧ (lo ≤ lo573 ∧ lo573 ≤ hi573 ∧ hi573 ≤ hi)]) Tryz.follows rfl rfl rfl rfl rfl rfl (vgetI_stable ⟨StableI.det _, StableI.det _, StableI.det _, StableI.det _, StableI.det _, StableI.det _, StableI.det _, (fun _ _ _ _ _ ⟨A573, c573, lo573, hi573, hv, h573, ho574, hr0⟩ e => ⟨A573, c573, lo573, hi573, hv, OwnL.ex good_Row h573 e, ho574, hr0⟩), trivial⟩) ⟨?_, ?_, ?_, ?_, ?_, ?_, ?_, ?_, trivial⟩ ?_
          ·exact oI rfl fun h => yM rfl (h.old 8 _ rfl rfl) kI
          ·exact oI rfl fun h => yl_loadN ty41 rfl (h.old 3 _ rfl rfl) ((Box.ex q559 h.ex).cells (n := 3) rfl) rfl kI
          ·exact oI rfl fun h => yM rfl (h.old 1 _ rfl rfl) kI
          ·exact oI rfl fun h => yl_fieldAddr fd45_0 rfl (h.old 10 _ rfl rfl) kI
          ·exact oI rfl fun h => yl_load1 ty22 rfl (h.dt 3 63 rfl rfl rfl) (((Box.ex (Box.ex hB284 hE539) h.ex).cell 0).trans rfl) kI
          ·intro L603 w604 hi605
           have hE606 := hi605.ex
           have hE606z := Ex.size hE606
           exact os rfl ((yl_ixN un22 ty9 rfl (hi605.dt 4 64 rfl rfl rfl) rfl eA562 kI))
          ·exact oI rfl fun h => yl_load1 ty9 rfl (h.dt 5 65 rfl rfl rfl) ((Cells.ex eC562 h.ex) 0 _ rfl) kI
          ·intro L614 w615 hi616
           have hE617 := hi616.ex
           refine OpR.op' rfl (yC en50 rfl (oc (hi616.dt 1 61 rfl rfl rfl) (oc (hi616.dt 2 62 rfl rfl rfl) (oc (hi616.dt 6 66 rfl rfl rfl) oz))) (Cal.mono (c_s_l30Keyed p_0 p_1 ((((s_l30Pairs p_0 p_2.Idx p_1).getD k155 d_Row).Vals).getD 0 d_Str) (RdS.up (RdS.ex gS q565 hE617) gS) (RdS.up (RdS.ex gI q568 hE617) gI) (RdS.up (RdS.ex gW q571 hE617) gW) o3 o5 (okL.getD (okL.getD ho150 ok_d_Row _) ok_d_Str _) (good_stmt pre0)) ?_))
           rintro v627 w624 ⟨A625, c625, lo625, hi625, rfl, h625, ho626, hrn629, hE628⟩
           exact ⟨⟨A625, c625, lo625, hi625, rfl, h625, ho626, hrn629⟩, hE628⟩
          ·intro fl633 fh634 L630 w631 hp632
           have hE635 := hp632.ex
           have hE635z := Ex.size hE635
           have hr651 := hp632.rng 7 rfl
           obtain ⟨_, hx650, A573_652, c573_653, lo573_654, hi573_655, rfl, h656, h657, hrn658⟩ := hp632.new 7 67 rfl rfl
           obtain ⟨nw664, he665, hs666⟩ := RdS.src (OwnL.rd good_Row h656)
           have hol667 : (s_l30Keyed p_0 p_1 ((((s_l30Pairs p_0 p_2.Idx p_1).getD k155 d_Row).Vals).getD 0 d_Str)).length ≤ 2147483648 := h657.1
           refine sd rfl (yl_appendL (S := (Iv lo573_654 w631.heap.size)) (lo := w148.heap.size) (hi := u224) (xs := x221) (ys := (s_l30Keyed p_0 p_1 ((((s_l30Pairs p_0 p_2.Idx p_1).getD k155 d_Row).Vals).getD 0 d_Str))) good_Row un36 ty45 rfl (nb rfl) rfl (hp632.nt 0 60 rfl rfl rfl) hx650 (OwnL.ex good_Row (OwnL.ex good_Row (OwnL.only good_Row (OwnL.ex good_Row hf265 hE282) hO285 oM) hE539) hE635) he665 hs666 rfl Bl Bl oM oM (fun k h _ => by have := h.1; omega) oM ?_)
           intro A668 c669 w670 row671 hO672 hG673 hrg674
           have hG673z := hG673.size
           refine sA rfl (SeqR.done (bn (tn (CW.sub (sC 1 (hp632.old 1 _ rfl rfl) (sC 3 (hp632.old 3 _ rfl rfl) (sC 5 (hp632.old 5 _ rfl rfl) (sC 8 rfl (sC 38 (hp632.old 38 _ rfl rfl) (sC 39 (hp632.old 39 _ rfl rfl) (sC 40 (hp632.old 40 _ rfl rfl) (sC 52 (hp632.old 52 _ rfl rfl) (sC 53 (hp632.old 53 _ rfl rfl) (sC 54 (hp632.old 54 _ rfl rfl) (sC 55 (hp632.old 55 _ rfl rfl) (sC 56 (hp632.old 56 _ rfl rfl) (sC 57 (hp632.old 57 _ rfl rfl) (sC 58 (hp632.old 58 _ rfl rfl) (Sub.nil _))))))))))))))) (CW.region (sd rfl (yl_inc rfl rfl rfl oM (sM rfl (SeqR.done ?_)))))))))
           refine tn ?_
           have hB675 : B_s_l30Ask_0 p_0 p_1 p_2 k155 (x221) = .cont ((x221 ++ (s_l30Keyed p_0 p_1 ((((s_l30Pairs p_0 p_2.Idx p_1).getD k155 d_Row).Vals).getD 0 d_Str)))) := by simp only [B_s_l30Ask_0, hb30, hb49, hb137, hb291, hb556, cL]
           exact ⟨(s_l30Pairs p_0 p_2.Idx p_1).length - (k155 + 1), oM, k155 + 1, (x221 ++ (s_l30Keyed p_0 p_1 ((((s_l30Pairs p_0 p_2.Idx p_1).getD k155 d_Row).Vals).getD 0 d_Str))), A668, c669, w670.heap.size, rfl, hlt273, oM, rfl, rfl, rfl, rfl, rfl, rfl, rfl, (RdS.grown gW (RdS.ex gW q571 hE635) hG673 (fun k hk => by have := hrg674 k hk; simp only [Iv]; omega)), (Box.grown (Box.ex q559 hE635) hG673 (fun k hk => by have := hrg674 k hk; omega)), (RdS.grown gS (RdS.ex gS q565 hE635) hG673 (fun k hk => by have := hrg674 k hk; simp only [Iv]; omega)), (RdS.grown gI (RdS.ex gI q568 hE635) hG673 (fun k hk => by have := hrg674 k hk; simp only [Iv]; omega)), (Box.grown (Box.ex (Box.ex q437 hE539) hE635) hG673 (fun k hk => by have := hrg674 k hk; omega)), (RdS.grown gS (RdS.ex gS (RdS.ex gS (RdS.only gS (RdS.ex gS hf263 hE282) hO285 (by simp only [Iv]; omega)) hE539) hE635) hG673 (fun k hk => by have := hrg674 k hk; simp only [Iv]; omega)), (RdS.grown gS (RdS.ex gS (RdS.ex gS (RdS.only gS (RdS.ex gS hf264 hE282) hO285 (by simp only [Iv]; omega)) hE539) hE635) hG673 (fun k hk => by have := hrg674 k hk; simp only [Iv]; omega)), hO672, (OwnL.grown good_Row (OwnL.ex good_Row (OwnL.ex good_Row (OwnL.only good_Row (OwnL.ex good_Row hf266 hE282) hO285 oM) hE539) hE635) hG673 (fun k hk => by have := hrg674 k hk; omega)), (Below.grown (Ex.trans (Ex.trans (Below.only (Ex.trans hf267 hE282) hO285 oM) hE539) hE635) hG673 oM (fun k hk => by have := hrg674 k hk; omega)), oM, Bl, (okE.append hok270 (h657).2), (loopM.cont hlt273 hB675).symm.trans hI249⟩
         ·refine CW.cond_f rfl hb556 (CW.skip (bn (tn (CW.region (sd rfl (yl_inc rfl rfl rfl oM (sM rfl (dn ?_))))))))
          have hB707 : B_s_l30Ask_0 p_0 p_1 p_2 k155 (x221) = .cont (x221) := by simp only [B_s_l30Ask_0, hb30, hb49, hb137, hb291, hb556, cL]
          exact ⟨(s_l30Pairs p_0 p_2.Idx p_1).length - (k155 + 1), oM, k155 + 1, x221, A222, c223, u224, rfl, hlt273, oM, rfl, rfl, rfl, rfl, rfl, rfl, rfl, (RdS.ex gW (RdS.only gW (RdS.ex gW hf258 hE282) hO285 (by simp only [Iv]; omega)) hE539), (Box.ex (Box.only (Box.ex hf259 hE282) hO285 oM) hE539), (RdS.ex gS (RdS.only gS (RdS.ex gS hf260 hE282) hO285 (by simp only [Iv]; omega)) hE539), (RdS.ex gI (RdS.only gI (RdS.ex gI hf261 hE282) hO285 (by simp only [Iv]; omega)) hE539), (Box.ex q437 hE539), (RdS.ex gS (RdS.only gS (RdS.ex gS hf263 hE282) hO285 (by simp only [Iv]; omega)) hE539), (RdS.ex gS (RdS.only gS (RdS.ex gS hf264 hE282) hO285 (by simp only [Iv]; omega)) hE539), (OwnL.ex good_Row (OwnL.only good_Row (OwnL.ex good_Row hf265 hE282) hO285 oM) hE539), (OwnL.ex good_Row (OwnL.only good_Row (OwnL.ex good_Row hf266 hE282) hO285 oM) hE539), (Ex.trans (Below.only (Ex.trans hf267 hE282) hO285 oM) hE539), oM, Bl, hok270, (loopM.cont hlt273 hB707).symm.trans hI249⟩
      ·refine cR (sd rfl (yl_lss rfl rfl rfl (dn (CW.seq (CW.cond_f rfl (lt_f hlt273) (CW.exit (tx ?_)))))))
       refine tx ?_
       have hL736 : loopM (B_s_l30Ask_0 p_0 p_1 p_2) ((s_l30Pairs p_0 p_2.Idx p_1).length - 0) 0 (([] : List DRow)) = .done (x221) := hI249.symm.trans (loopM.stop hlt273)
       refine bx (tn (cR (sM rfl (sA rfl (sA rfl (dn ?_))))))
       refine CW.ret (rr rfl (.cons rfl (.cons rfl .nil)) ?_)
       have hM737 : (s_l30Ask p_0 p_1 p_2) = ((x221, true)) := by simp only [s_l30Ask, hb30, hb49, hb137, hL736, cL]
       rw [hM737]
       exact ⟨A222, c223, w148.heap.size, u224, rfl, hf265, (okL.mk (xs := x221) Bl hok270), oM, hf267⟩
  ·have hb49p := dec_f hb49
   refine drI 10 [.pointer (some ⟨b24, 0 + 0, none⟩), .int .i64 (p_2.Kind), .bool (!(decide (p_2.Kind = 3))), .bool (!(decide (p_2.Kind = 3))), undef, undef, undef, undef, undef, undef] Tryz.follows rfl ⟨?_, ?_, ?_, ?_, ?_, ?_, ?_, ?_, ?_, ?_, trivial⟩ ?_
   ·exact oI rfl fun h => yl_fieldAddr fd49_0 rfl (h.old 5 _ rfl rfl) kI
   ·exact oI rfl fun h => yl_load1 ty3 rfl (h.dt 0 19 rfl rfl rfl) (((Box.ex hB28 h.ex).cell 0).trans rfl) kI
   ·exact oI rfl fun h => yl_neq rfl (h.dt 1 20 rfl rfl rfl) rfl kI
   ·exact oI rfl fun h => yM rfl (h.dt 2 21 rfl rfl rfl) kI
   ·exact oS rfl rfl rfl rfl rfl (not_f hb49)
   ·exact oS rfl rfl rfl rfl rfl (not_f hb49)
   ·exact oS rfl rfl rfl rfl rfl (not_f hb49)
   ·exact oS rfl rfl rfl rfl rfl (not_f hb49)
   ·exact oS rfl rfl rfl rfl rfl (not_f hb49)
   ·exact oS rfl rfl rfl rfl rfl (not_f hb49)
   ·intro fl792 fh793 L789 w790 hp791
    have hE794 := hp791.ex
    have hE794z := Ex.size hE794
    have hx798 := hp791.nt 3 22 rfl rfl rfl
    refine sz rfl hx798 (not_f hb49) (sz rfl hx798 (not_f hb49) (sz rfl hx798 (not_f hb49) (sz rfl hx798 (not_f hb49) (sd rfl (yl_pick_t rfl hx798 (not_f hb49) rfl (dn (CW.sub (sC 1 (hp791.old 1 _ rfl rfl) (sC 3 (hp791.old 3 _ rfl rfl) (sC 5 (hp791.old 5 _ rfl rfl) (sC 33 rfl (Sub.nil _))))) (CW.cond_t rfl rfl ?_))))))))
    refine cR (sA rfl (sA rfl (dn (CW.ret (tr (rr rfl (.cons rfl (.cons rfl .nil)) ?_))))))
    have hM801 : (s_l30Ask p_0 p_1 p_2) = ((([] : List DRow), false)) := by simp only [s_l30Ask, hb30, hb49, cL]
    rw [hM801]
    exact ⟨none, 0, w790.heap.size, w790.heap.size, rfl, (OwnL.nil _ _ _ _ _ _), (okL.nil _), oM, (Ex.trans (Ex.trans (Ex.trans (Ex.refl w) hE23) hE29) hE794)⟩
theorem c_s_AskStore {A1 : Option Addr} {c1 : Nat} {A2 : Option Addr} {c2 : Nat} {A4 : Option Addr} {c4 : Nat} {A6 : Option Addr} {c6 : Nat} {A7 : Option Addr} {c7 : Nat} {w : World} (p_t : DTable) (ps : List DWrite) (p_s : DStmt) (h1 : RdS w (Iv 0 w.heap.size) (RF e_Str) 1 A1 p_t.Cols.length c1 p_t.Cols) (h2 : RdS w (Iv 0 w.heap.size) (RF e_Idx) 3 A2 p_t.Idxs.length c2 p_t.Idxs) (h4 : RdS w (Iv 0 w.heap.size) (RF e_Write) 3 A4 ps.length c4 ps) (h6 : RdS w (Iv 0 w.heap.size) (RF e_Str) 1 A6 p_s.Act.Old.Vals.length c6 p_s.Act.Old.Vals) (h7 : RdS w (Iv 0 w.heap.size) (RF e_Str) 1 A7 p_s.Act.New.Vals.length c7 p_s.Act.New.Vals) (o3 : ok_Table p_t) (o5 : (okL ok_Write) ps) (o8 : ok_Stmt p_s) : Cal Tryz.prog 7 #[.agg #[.string (bs (p_t.Name)), .slice A1 p_t.Cols.length c1, .slice A2 p_t.Idxs.length c2], .slice A4 ps.length c4, .agg #[.int .i64 (p_s.Kind), .int .i64 (p_s.Act.Kind), .slice A6 p_s.Act.Old.Vals.length c6, .slice A7 p_s.Act.New.Vals.length c7, .string (bs (p_s.Idx)), .string (bs (p_s.Low)), .string (bs (p_s.High))]] w fun v w' => ∃ A_1 c_1 lo_1 hi_1, v = .tuple #[.slice A_1 (((s_AskStore p_t ps p_s).1).length) c_1, .bool ((s_AskStore p_t ps p_s).2)] ∧ OwnL w' lo_1 hi_1 45 1 R_Row A_1 (((s_AskStore p_t ps p_s).1).length) c_1 ((s_AskStore p_t ps p_s).1) ∧ (okL ok_Row) ((s_AskStore p_t ps p_s).1) ∧ (w.heap.size ≤ lo_1 ∧ lo_1 ≤ hi_1 ∧ hi_1 ≤ w'.heap.size) ∧ Ex w w' := by
 have hol9 : p_t.Name.length ≤ 1073741824 := o3.1
 have hol10 := o3.2.1.1
 have hol11 := o3.2.2.1
 have hol12 := o5.1
 have hol13 := o8.1.1.1
 have hol14 := o8.1.2.1
 have hol15 : p_s.Idx.length ≤ 1073741824 := o8.2.1
 have hol16 : p_s.Low.length ≤ 1073741824 := o8.2.2.1
 have hol17 : p_s.High.length ≤ 1073741824 := o8.2.2.2
 refine Cal.of func7 rfl ntmps7 rfl (cR (sd rfl (yl_box rfl rfl rfl ?_)))
 intro b18 w19 hs20 hz21 hB22 hE23
 refine sd rfl (yl_box rfl rfl rfl ?_)
 intro b24 w25 hs26 hz27 hB28 hE29
 refine sA rfl (sA rfl (dn (CW.seq (cR ?_))))
 have q30 := Box.ex hB22 hE29
 refine sd rfl (yl_loadN ty41 rfl rfl (q30.cells (n := 3) rfl) rfl (sd rfl (yl_loadN ty49 rfl rfl (hB28.cells (n := 7) rfl) rfl ?_)))
 have q32 := RdS.ex gS (RdS.ex gS h1 hE23) hE29
 have q34 := RdS.ex gI (RdS.ex gI h2 hE23) hE29
 have q36 := RdS.ex gS (RdS.ex gS h6 hE23) hE29
 have q38 := RdS.ex gS (RdS.ex gS h7 hE23) hE29
 refine sd rfl (yC en25 rfl (oc rfl (oc rfl oz)) (Cal.mono (c_s_GoodStmt p_t p_s (RdS.up q32 gS) (RdS.up q34 gI) (RdS.up q36 gS) (RdS.up q38 gS) o3 o8) ?_))
 rintro v40 w39 ⟨rfl, hE41⟩
 have hE41z := Ex.size hE41
 refine sd rfl (yl_not rfl rfl (sM rfl (bcase (s_GoodStmt p_t p_s) (fun hb42 => ?_) (fun hb42 => ?_))))
 ·refine sy rfl rfl (not_t hb42) (yM rfl rfl ?_)
  have q45 := RdS.ex gW (RdS.ex gW (RdS.ex gW h4 hE23) hE29) hE41
  refine sy rfl rfl (not_t hb42) (yC en26 rfl (oc rfl oz) (Cal.mono (c_s_l5Rows ps (RdS.up q45 gW) o5) ?_))
  rintro v47 w46 ⟨rfl, hE48⟩
  have hE48z := Ex.size hE48
  refine sy rfl rfl (not_t hb42) (yl_not rfl rfl (sd rfl (yl_pick_f rfl rfl (not_t hb42) rfl (dn (bcase (s_l5Rows ps) (fun hb49 => ?_) (fun hb49 => ?_))))))
  ·have hb49p := l5Rows_len hb49
   refine CW.cond_f rfl (not_t hb49) (CW.skip (tn (cR (sd rfl (yl_loadN ty41 rfl rfl ((Box.ex (Box.ex q30 hE41) hE48).cells (n := 3) rfl) rfl (sM rfl (sd rfl (yl_loadN ty49 rfl rfl ((Box.ex (Box.ex hB28 hE41) hE48).cells (n := 7) rfl) rfl (sd rfl (yC en27 rfl (oc rfl (oc rfl (oc rfl oz))) (Cal.mono (c_s_l30Ask p_t ps p_s (RdS.up (RdS.ex gS (RdS.ex gS q32 hE41) hE48) gS) (RdS.up (RdS.ex gI (RdS.ex gI q34 hE41) hE48) gI) (RdS.up (RdS.ex gW q45 hE48) gW) (RdS.up (RdS.ex gS (RdS.ex gS q36 hE41) hE48) gS) (RdS.up (RdS.ex gS (RdS.ex gS q38 hE41) hE48) gS) o3 o5 o8 Bo Bo) ?_)))))))))))
   rintro v66 w63 ⟨A64, c64, lo64, hi64, rfl, h64, ho65, hrn68, hE67⟩
   have hE67z := Ex.size hE67
   refine sd rfl (yl_extract rfl rfl rfl (sd rfl (yl_extract rfl rfl rfl (sA rfl (sA rfl (dn (CW.ret (rr rfl (.cons rfl (.cons rfl .nil)) ?_))))))))
   have hM69 : (s_AskStore p_t ps p_s) = (((s_l30Ask p_t ps p_s).1, (s_l30Ask p_t ps p_s).2)) := by simp only [s_AskStore, hb42, hb49, cL]
   rw [hM69]
   exact ⟨A64, c64, lo64, hi64, rfl, h64, ho65, oM, (Ex.trans (Ex.trans (Ex.trans (Ex.trans (Ex.trans (Ex.refl w) hE23) hE29) hE41) hE48) hE67)⟩
  ·refine CW.cond_t rfl (not_f hb49) (cR (sA rfl (sA rfl (dn (CW.ret (tr ?_))))))
   refine rr rfl (.cons rfl (.cons rfl .nil)) ?_
   have hM75 : (s_AskStore p_t ps p_s) = ((([] : List DRow), false)) := by simp only [s_AskStore, hb42, hb49, cL]
   rw [hM75]
   exact ⟨none, 0, w46.heap.size, w46.heap.size, rfl, (OwnL.nil _ _ _ _ _ _), (okL.nil _), oM, (Ex.trans (Ex.trans (Ex.trans (Ex.trans (Ex.refl w) hE23) hE29) hE41) hE48)⟩
 ·refine sz rfl rfl (not_f hb42) (sz rfl rfl (not_f hb42) (sz rfl rfl (not_f hb42) (sd rfl (yl_pick_t rfl rfl (not_f hb42) rfl (dn (CW.cond_t rfl rfl (cR ?_)))))))
  refine sA rfl (sA rfl (dn (CW.ret (tr (rr rfl (.cons rfl (.cons rfl .nil)) ?_)))))
  have hM80 : (s_AskStore p_t ps p_s) = ((([] : List DRow), false)) := by simp only [s_AskStore, hb42, cL]
  rw [hM80]
  exact ⟨none, 0, w39.heap.size, w39.heap.size, rfl, (OwnL.nil _ _ _ _ _ _), (okL.nil _), oM, (Ex.trans (Ex.trans (Ex.trans (Ex.refl w) hE23) hE29) hE41)⟩
theorem c_l_toStringS {A1 : Option Addr} {c1 : Nat} {w : World} (p_a : List Str) (h1 : RdS w (Iv 0 w.heap.size) (RF e_Str) 1 A1 p_a.length c1 p_a) (o2 : (okL okS) p_a) : Cal Tryz.prog 28 #[.slice A1 p_a.length c1] w fun v w' => ∃ A_1 c_1 lo_1 hi_1, v = .slice A_1 p_a.length c_1 ∧ OwnL w' lo_1 hi_1 9 1 (RF e_Str) A_1 p_a.length c_1 p_a ∧ (w.heap.size ≤ lo_1 ∧ lo_1 ≤ hi_1 ∧ hi_1 ≤ w'.heap.size) ∧ Ex w w' := by
 have hol3 := o2.1
 refine Cal.of func28 rfl ntmps28 rfl (cR (sA rfl (dn (cR (sM rfl ?_)))))
 refine sd rfl (yL un22 rfl rfl (sd rfl (yl_make (zs := [.string (bs (([] : Str)))]) (n := p_a.length) un22 ty9 rfl rfl (nb rfl) rfl rfl rfl Bo Bo ?_)))
 intro b4 w5 hs6 hz7 hB8 hE9
 have hO10 : OwnL w5 b4 (b4 + 1) 9 1 (RF e_Str) (some ⟨b4, 0, none⟩) p_a.length p_a.length (List.replicate p_a.length d_Str) := by have := OwnL.of_boxF (lo := b4) (hi := b4 + 1) (xs := (List.replicate p_a.length d_Str)) hB8 (Nat.le_refl _) (Nat.lt_succ_self _) (EncL.zerosF (enc := e_Str) (d := d_Str) rfl p_a.length) (by rw [List.length_replicate]; omega); rwa [List.length_replicate] at this
 refine sA rfl (dn (CW.seq (cR (sA rfl (dn ?_)))))
 refine CW.block (CW.loop (fun m20 L21 w22 => ∃ (k11 : Nat) (x19 : List Str), m20 = p_a.length - k11 ∧ k11 ≤ p_a.length ∧ w5.heap.size ≤ w22.heap.size ∧ lkp L21 0 = some (.slice A1 p_a.length c1) ∧ lkp L21 3 = some (.slice (some ⟨b4, 0, none⟩) p_a.length p_a.length) ∧ lkp L21 4 = some (.int .i64 ((k11 : Int))) ∧ RdS w22 (Iv 0 w.heap.size) (RF e_Str) 1 A1 p_a.length c1 p_a ∧ OwnL w22 b4 (b4 + 1) 9 1 (RF e_Str) (some ⟨b4, 0, none⟩) p_a.length p_a.length x19 ∧ Ex w w22 ∧ loopM (B_l_toStringS_0 p_a) (p_a.length - k11) k11 (x19) = loopM (B_l_toStringS_0 p_a) (p_a.length - 0) 0 ((List.replicate p_a.length d_Str))) (p_a.length - 0) ?_ ?_)
 ·exact ⟨0, (List.replicate p_a.length d_Str), rfl, oM, Nat.le_refl _, rfl, rfl, rfl, (RdS.ex gS h1 hE9), hO10, (Ex.trans (Ex.refl w) hE9), rfl⟩
 ·rintro m25 L26 w27 ⟨k11, x19, rfl, hk28, hsz30, hl31, hl32, hl33, hf34, hf35, hf36, hI29⟩
  refine CW.sub (Sub.cons hl31 (Sub.cons hl32 (Sub.cons hl33 (Sub.nil _)))) ?_
  have hf36z := Ex.size hf36
  have hbg37 := RdS.big hf34
  rcases Nat.lt_or_ge k11 p_a.length with hlt38 | hlt38
  ·refine CW.seq (cR (sM rfl (sM rfl (sd rfl (yL un22 rfl rfl (sd rfl (yl_lss rfl rfl rfl (dn ?_))))))))
   refine CW.cond_t rfl (lt_t hlt38) (CW.skip (tn (CW.seq (CW.block (CW.region (sM rfl (sM rfl (sM rfl ?_))))))))
   refine sM rfl ?_
   obtain ⟨eb39, eo39, _, eA39, _, ebl39, _, eR39, eC39⟩ := RdS.aD hf34 d_Str (i := k11)
   obtain rfl := eR39
   have eC39 : Cells w27 eb39 (eo39 + k11 * 1) [.string (bs ((p_a.getD k11 d_Str)))] := eC39
   refine sd rfl (yl_ixN un22 ty9 rfl rfl rfl eA39 (sd rfl (yl_load1 ty9 rfl rfl (eC39 0 _ rfl) ?_)))
   obtain ⟨eb41, eo41, _, eA41, _, ebl41, _, eR41, eC41⟩ := RdS.aD (OwnL.rd gS hf35) d_Str (i := k11)
   obtain rfl := eR41
   have eC41 : Cells w27 eb41 (eo41 + k11 * 1) [.string (bs ((x19.getD k11 d_Str)))] := eC41
   refine sd rfl (yl_ixN un22 ty9 rfl rfl rfl eA41 ?_)
   have hrg42 := OwnL.rng hf35 (i := k11) Bo eb41 (by rw [eA41]; rfl)
   refine SeqR.u rfl rfl (yl_storeF (off := eo41) (i := k11) (d := 0) (dx := d_Str) (x' := (p_a.getD k11 d_Str)) (vs := [.string (bs ((p_a.getD k11 d_Str)))]) ty9 rfl hf35 eA41 rfl rfl rfl rfl rfl Bo (nb rfl) rfl rfl ?_)
   intro w43 hB44 hO45
   have hO45z := hO45.size
   refine SeqR.done (bn (tn (CW.region (sM rfl (sd rfl (yl_inc rfl rfl rfl oM (sA rfl (dn ?_))))))))
   have hB46 : B_l_toStringS_0 p_a k11 (x19) = .cont ((x19.set k11 (p_a.getD k11 d_Str))) := by simp only [B_l_toStringS_0, cL]
   exact ⟨p_a.length - (k11 + 1), oM, k11 + 1, (x19.set k11 (p_a.getD k11 d_Str)), rfl, hlt38, oM, rfl, rfl, rfl, (RdS.only gS hf34 hO45 (by simp only [Iv]; omega)), hB44, (Below.only hf36 hO45 oM), (loopM.cont hlt38 hB46).symm.trans hI29⟩
  ·refine CW.seq (cR (sM rfl (sM rfl (sd rfl (yL un22 rfl rfl (sd rfl (yl_lss rfl rfl rfl (dn ?_))))))))
   refine CW.cond_f rfl (lt_f hlt38) (CW.exit (tx (tx ?_)))
   have hL49 : loopM (B_l_toStringS_0 p_a) (p_a.length - 0) 0 ((List.replicate p_a.length d_Str)) = .done (x19) := hI29.symm.trans (loopM.stop hlt38)
   refine bx (tn (cR (sM rfl (sA rfl (dn (CW.ret ?_))))))
   refine rr rfl (.cons rfl .nil) ?_
   have hM50 : p_a = (x19) := (to_StringS _).symm.trans <| by simp only [l_toStringS, hL49, cL]
   subst hM50
   exact ⟨(some ⟨b4, 0, none⟩), p_a.length, b4, (b4 + 1), rfl, hf35, oM, hf36⟩
theorem c_l_toIdx {w : World} (p_a : DIdx) (o1 : ok_Idx p_a) : Cal Tryz.prog 53 #[.agg #[.string (bs (p_a.Name)), .int .i64 (p_a.Col), .int .i64 (p_a.Stage)]] w fun v w' => v = .agg #[.string (bs (p_a.Name)), .int .i64 (p_a.Col), .int .i64 (p_a.Stage)] ∧ Ex w w' := by
 have hol2 : p_a.Name.length ≤ 1073741824 := o1
 refine Cal.of func53 rfl ntmps53 rfl (cR (sd rfl (yl_box rfl rfl rfl ?_)))
 intro b3 w4 hs5 hz6 hB7 hE8
 refine sd rfl (yB ty88 (cs := [.string (bs (([] : Str))), .int .i64 (0), .int .i64 (0)]) rfl rfl ?_)
 intro b9 w10 hs11 hz12 hB13 hE14
 refine dn (cR (sd rfl (yB ty88 (cs := [.string (bs (([] : Str))), .int .i64 (0), .int .i64 (0)]) rfl rfl ?_)))
 intro b15 w16 hs17 hz18 hB19 hE20
 refine dn (cR (sd rfl (yl_fieldAddr fd84_0 rfl rfl ?_)))
 have q22 := Box.ex (Box.ex hB7 hE14) hE20
 refine sd rfl (yl_load1 ty9 rfl rfl ((q22.cell 0).trans rfl) (sd rfl (yl_fieldAddr fd88_0 rfl rfl (SeqR.u rfl rfl (yl_store (vs := [.string (bs (p_a.Name))]) ty9 rfl rfl rfl rfl rfl rfl hB19 (nb rfl) ?_)))))
 intro w23 hB24 hO25
 have hB24 : Box w23 b15 88 [.string (bs (p_a.Name)), .int .i64 (0), .int .i64 (0)] := hB24
 have hO25z := hO25.size
 refine dn (cR (sd rfl (yl_fieldAddr fd84_1 rfl rfl ?_)))
 have q26 := Box.only q22 hO25 oM
 refine sd rfl (yl_load1 ty3 rfl rfl ((q26.cell 1).trans rfl) (sd rfl (yl_fieldAddr fd88_1 rfl rfl (SeqR.u rfl rfl (yl_store (vs := [.int .i64 (p_a.Col)]) ty3 rfl rfl rfl rfl rfl rfl hB24 (nb rfl) ?_)))))
 intro w27 hB28 hO29
 have hB28 : Box w27 b15 88 [.string (bs (p_a.Name)), .int .i64 (p_a.Col), .int .i64 (0)] := hB28
 have hO29z := hO29.size
 refine dn (cR (sd rfl (yl_fieldAddr fd84_2 rfl rfl (sd rfl (yl_load1 ty3 rfl rfl (((Box.only q26 hO29 oM).cell 2).trans rfl) (sd rfl (yl_fieldAddr fd88_2 rfl rfl (SeqR.u rfl rfl (yl_store (vs := [.int .i64 (p_a.Stage)]) ty3 rfl rfl rfl rfl rfl rfl hB28 (nb rfl) ?_)))))))))
 intro w31 hB32 hO33
 have hB32 : Box w31 b15 88 [.string (bs (p_a.Name)), .int .i64 (p_a.Col), .int .i64 (p_a.Stage)] := hB32
 have hO33z := hO33.size
 refine dn (cR (sd rfl (yl_loadN ty88 rfl rfl (hB32.cells (n := 3) rfl) rfl (SeqR.u rfl rfl (yl_store (vs := [.string (bs (p_a.Name)), .int .i64 (p_a.Col), .int .i64 (p_a.Stage)]) ty88 rfl rfl rfl rfl rfl rfl (Box.only (Box.only (Box.only (Box.ex hB13 hE20) hO25 oM) hO29 oM) hO33 oM) (nb rfl) ?_)))))
 intro w38 hB39 hO40
 have hB39 : Box w38 b9 88 [.string (bs (p_a.Name)), .int .i64 (p_a.Col), .int .i64 (p_a.Stage)] := hB39
 have hO40z := hO40.size
 refine dn (CW.ret (rr rfl (.cons ⟨_, rfl, run_loadN ty88 (cs := [.string (bs (p_a.Name)), .int .i64 (p_a.Col), .int .i64 (p_a.Stage)]) rfl (hB39.cells (n := 3) rfl)⟩ .nil) ?_))
 have hM41 : p_a = (p_a) := (to_Idx _).symm.trans <| by simp only [l_toIdx, cL]
 rw [hM41]
 exact ⟨rfl, (Below.only (Below.only (Below.only (Below.only (Ex.trans (Ex.trans (Ex.trans (Ex.refl w) hE8) hE14) hE20) hO25 oM) hO29 oM) hO33 oM) hO40 oM)⟩
theorem c_l_toIdxS {A1 : Option Addr} {c1 : Nat} {w : World} (p_a : List DIdx) (h1 : RdS w (Iv 0 w.heap.size) (RF e_Idx) 3 A1 p_a.length c1 p_a) (o2 : (okL ok_Idx) p_a) : Cal Tryz.prog 29 #[.slice A1 p_a.length c1] w fun v w' => ∃ A_1 c_1 lo_1 hi_1, v = .slice A_1 p_a.length c_1 ∧ OwnL w' lo_1 hi_1 88 3 (RF e_Idx) A_1 p_a.length c_1 p_a ∧ (w.heap.size ≤ lo_1 ∧ lo_1 ≤ hi_1 ∧ hi_1 ≤ w'.heap.size) ∧ Ex w w' := by
 have hol3 := o2.1
 refine Cal.of func29 rfl ntmps29 rfl (cR (sA rfl (dn (cR (sM rfl ?_)))))
 refine sd rfl (yL un23 rfl rfl (sd rfl (yl_make (zs := [.string (bs (([] : Str))), .int .i64 (0), .int .i64 (0)]) (n := p_a.length) un39 ty88 rfl rfl (nb rfl) rfl rfl rfl Bo Bo ?_)))
 intro b4 w5 hs6 hz7 hB8 hE9
 have hO10 : OwnL w5 b4 (b4 + 1) 88 3 (RF e_Idx) (some ⟨b4, 0, none⟩) p_a.length p_a.length (List.replicate p_a.length d_Idx) := by have := OwnL.of_boxF (lo := b4) (hi := b4 + 1) (xs := (List.replicate p_a.length d_Idx)) hB8 (Nat.le_refl _) (Nat.lt_succ_self _) (EncL.zerosF (enc := e_Idx) (d := d_Idx) rfl p_a.length) (by rw [List.length_replicate]; omega); rwa [List.length_replicate] at this
 refine sA rfl (dn (CW.seq (cR (sA rfl (dn ?_)))))
 refine CW.block (CW.loop (fun m23 L24 w25 => ∃ (k11 : Nat) (x22 : List DIdx), m23 = p_a.length - k11 ∧ k11 ≤ p_a.length ∧ w5.heap.size ≤ w25.heap.size ∧ lkp L24 0 = some (.slice A1 p_a.length c1) ∧ lkp L24 3 = some (.slice (some ⟨b4, 0, none⟩) p_a.length p_a.length) ∧ lkp L24 4 = some (.int .i64 ((k11 : Int))) ∧ RdS w25 (Iv 0 w.heap.size) (RF e_Idx) 3 A1 p_a.length c1 p_a ∧ OwnL w25 b4 (b4 + 1) 88 3 (RF e_Idx) (some ⟨b4, 0, none⟩) p_a.length p_a.length x22 ∧ Ex w w25 ∧ loopM (B_l_toIdxS_0 p_a) (p_a.length - k11) k11 (x22) = loopM (B_l_toIdxS_0 p_a) (p_a.length - 0) 0 ((List.replicate p_a.length d_Idx))) (p_a.length - 0) ?_ ?_)
 ·exact ⟨0, (List.replicate p_a.length d_Idx), rfl, oM, Nat.le_refl _, rfl, rfl, rfl, (RdS.ex gI h1 hE9), hO10, (Ex.trans (Ex.refl w) hE9), rfl⟩
 ·rintro m28 L29 w30 ⟨k11, x22, rfl, hk31, hsz33, hl34, hl35, hl36, hf37, hf38, hf39, hI32⟩
  refine CW.sub (Sub.cons hl34 (Sub.cons hl35 (Sub.cons hl36 (Sub.nil _)))) ?_
  have hf39z := Ex.size hf39
  have hbg40 := RdS.big hf37
  rcases Nat.lt_or_ge k11 p_a.length with hlt41 | hlt41
  ·refine CW.seq (cR (sM rfl (sM rfl (sd rfl (yL un23 rfl rfl (sd rfl (yl_lss rfl rfl rfl (dn ?_))))))))
   refine CW.cond_t rfl (lt_t hlt41) (CW.skip (tn (CW.seq (CW.block (CW.region (sM rfl (sM rfl (sM rfl ?_))))))))
   refine sM rfl ?_
   obtain ⟨eb42, eo42, _, eA42, _, ebl42, _, eR42, eC42⟩ := RdS.aD hf37 d_Idx (i := k11)
   obtain rfl := eR42
   have eC42 : Cells w30 eb42 (eo42 + k11 * 3) [.string (bs ((p_a.getD k11 d_Idx).Name)), .int .i64 ((p_a.getD k11 d_Idx).Col), .int .i64 ((p_a.getD k11 d_Idx).Stage)] := eC42
   refine sd rfl (yl_ixN un23 ty84 rfl rfl rfl eA42 (sd rfl (yl_loadN ty84 rfl rfl eC42 rfl (sd rfl (yC en53 rfl (oc rfl oz) (Cal.mono (c_l_toIdx (p_a.getD k11 d_Idx) (okL.getD o2 ok_d_Idx _)) ?_))))))
   rintro v44 w43 ⟨rfl, hE45⟩
   have hE45z := Ex.size hE45
   have q47 := OwnL.ex gI hf38 hE45
   obtain ⟨eb48, eo48, _, eA48, _, ebl48, _, eR48, eC48⟩ := RdS.aD (OwnL.rd gI q47) d_Idx (i := k11)
   obtain rfl := eR48
   have eC48 : Cells w43 eb48 (eo48 + k11 * 3) [.string (bs ((x22.getD k11 d_Idx).Name)), .int .i64 ((x22.getD k11 d_Idx).Col), .int .i64 ((x22.getD k11 d_Idx).Stage)] := eC48
   refine sd rfl (yl_ixN un39 ty88 rfl rfl rfl eA48 ?_)
   have hrg49 := OwnL.rng q47 (i := k11) Bo eb48 (by rw [eA48]; rfl)
   refine SeqR.u rfl rfl (yl_storeF (off := eo48) (i := k11) (d := 0) (dx := d_Idx) (x' := (p_a.getD k11 d_Idx)) (vs := [.string (bs ((p_a.getD k11 d_Idx).Name)), .int .i64 ((p_a.getD k11 d_Idx).Col), .int .i64 ((p_a.getD k11 d_Idx).Stage)]) ty88 rfl q47 eA48 rfl rfl rfl rfl rfl Bo (nb rfl) rfl rfl ?_)
   intro w50 hB51 hO52
   have hO52z := hO52.size
   refine SeqR.done (bn (tn (CW.region (sM rfl (sd rfl (yl_inc rfl rfl rfl oM (sA rfl (dn ?_))))))))
   have hB53 : B_l_toIdxS_0 p_a k11 (x22) = .cont ((x22.set k11 (p_a.getD k11 d_Idx))) := by simp only [B_l_toIdxS_0, cL]
   exact ⟨p_a.length - (k11 + 1), oM, k11 + 1, (x22.set k11 (p_a.getD k11 d_Idx)), rfl, hlt41, oM, rfl, rfl, rfl, (RdS.only gI (RdS.ex gI hf37 hE45) hO52 (by simp only [Iv]; omega)), hB51, (Below.only (Ex.trans hf39 hE45) hO52 oM), (loopM.cont hlt41 hB53).symm.trans hI32⟩
  ·refine CW.seq (cR (sM rfl (sM rfl (sd rfl (yL un23 rfl rfl (sd rfl (yl_lss rfl rfl rfl (dn ?_))))))))
   refine CW.cond_f rfl (lt_f hlt41) (CW.exit (tx (tx ?_)))
   have hL58 : loopM (B_l_toIdxS_0 p_a) (p_a.length - 0) 0 ((List.replicate p_a.length d_Idx)) = .done (x22) := hI32.symm.trans (loopM.stop hlt41)
   refine bx (tn (cR (sM rfl (sA rfl (dn (CW.ret ?_))))))
   refine rr rfl (.cons rfl .nil) ?_
   have hM59 : p_a = (x22) := (to_IdxS _).symm.trans <| by simp only [l_toIdxS, hL58, cL]
   subst hM59
   exact ⟨(some ⟨b4, 0, none⟩), p_a.length, b4, (b4 + 1), rfl, hf38, oM, hf39⟩
theorem c_l_toTable {A1 : Option Addr} {c1 : Nat} {A2 : Option Addr} {c2 : Nat} {w : World} (p_a : DTable) (h1 : RdS w (Iv 0 w.heap.size) (RF e_Str) 1 A1 p_a.Cols.length c1 p_a.Cols) (h2 : RdS w (Iv 0 w.heap.size) (RF e_Idx) 3 A2 p_a.Idxs.length c2 p_a.Idxs) (o3 : ok_Table p_a) : Cal Tryz.prog 8 #[.agg #[.string (bs (p_a.Name)), .slice A1 p_a.Cols.length c1, .slice A2 p_a.Idxs.length c2]] w fun v w' => ∃ A_1 c_1 lo_1 hi_1 A_2 c_2 lo_2 hi_2, v = .agg #[.string (bs (p_a.Name)), .slice A_1 p_a.Cols.length c_1, .slice A_2 p_a.Idxs.length c_2] ∧ OwnL w' lo_1 hi_1 9 1 (RF e_Str) A_1 p_a.Cols.length c_1 p_a.Cols ∧ OwnL w' lo_2 hi_2 88 3 (RF e_Idx) A_2 p_a.Idxs.length c_2 p_a.Idxs ∧ (w.heap.size ≤ lo_1 ∧ lo_1 ≤ hi_1 ∧ hi_1 ≤ w'.heap.size) ∧ (w.heap.size ≤ lo_2 ∧ lo_2 ≤ hi_2 ∧ hi_2 ≤ w'.heap.size) ∧ (hi_1 ≤ lo_2 ∨ hi_2 ≤ lo_1) ∧ Ex w w' := by
 have hol4 : p_a.Name.length ≤ 1073741824 := o3.1
 have hol5 := o3.2.1.1
 have hol6 := o3.2.2.1
 refine Cal.of func8 rfl ntmps8 rfl (cR (sd rfl (yl_box rfl rfl rfl ?_)))
 intro b7 w8 hs9 hz10 hB11 hE12
 refine sd rfl (yB ty41 (cs := [.string (bs (([] : Str))), .slice none 0 0, .slice none 0 0]) rfl rfl ?_)
 intro b13 w14 hs15 hz16 hB17 hE18
 refine dn (cR (sd rfl (yB ty41 (cs := [.string (bs (([] : Str))), .slice none 0 0, .slice none 0 0]) rfl rfl ?_)))
 intro b19 w20 hs21 hz22 hB23 hE24
 refine dn (cR (sd rfl (yl_fieldAddr fd25_0 rfl rfl ?_)))
 have q26 := Box.ex (Box.ex hB11 hE18) hE24
 refine sd rfl (yl_load1 ty9 rfl rfl ((q26.cell 0).trans rfl) (sd rfl (yl_fieldAddr fd41_0 rfl rfl (SeqR.u rfl rfl (yl_store (vs := [.string (bs (p_a.Name))]) ty9 rfl rfl rfl rfl rfl rfl hB23 (nb rfl) ?_)))))
 intro w27 hB28 hO29
 have hB28 : Box w27 b19 41 [.string (bs (p_a.Name)), .slice none 0 0, .slice none 0 0] := hB28
 have hO29z := hO29.size
 refine dn (cR (sd rfl (yl_fieldAddr fd25_1 rfl rfl ?_)))
 have q30 := Box.only q26 hO29 oM
 refine sd rfl (yl_load1 ty22 rfl rfl ((q30.cell 1).trans rfl) (sd rfl (yC en28 rfl (oc rfl oz) (Cal.mono (c_l_toStringS p_a.Cols (RdS.up (RdS.only gS (RdS.ex gS (RdS.ex gS (RdS.ex gS h1 hE12) hE18) hE24) hO29 (by simp only [Iv]; omega)) gS) o3.2.1) ?_))))
 rintro v37 w35 ⟨A36, c36, lo36, hi36, rfl, h36, hrn39, hE38⟩
 have hE38z := Ex.size hE38
 refine sd rfl (yl_fieldAddr fd41_1 rfl rfl (SeqR.u rfl rfl (yl_store (vs := [.slice A36 p_a.Cols.length c36]) ty22 rfl rfl rfl rfl rfl rfl (Box.ex hB28 hE38) (nb rfl) ?_)))
 intro w41 hB42 hO43
 have hB42 : Box w41 b19 41 [.string (bs (p_a.Name)), .slice A36 p_a.Cols.length c36, .slice none 0 0] := hB42
 have hO43z := hO43.size
 refine dn (cR (sd rfl (yl_fieldAddr fd25_2 rfl rfl (sd rfl (yl_load1 ty23 rfl rfl (((Box.only (Box.ex q30 hE38) hO43 oM).cell 2).trans rfl) (sd rfl (yC en29 rfl (oc rfl oz) (Cal.mono (c_l_toIdxS p_a.Idxs (RdS.up (RdS.only gI (RdS.ex gI (RdS.only gI (RdS.ex gI (RdS.ex gI (RdS.ex gI h2 hE12) hE18) hE24) hO29 (by simp only [Iv]; omega)) hE38) hO43 (by simp only [Iv]; omega)) gI) o3.2.2) ?_))))))))
 rintro v54 w52 ⟨A53, c53, lo53, hi53, rfl, h53, hrn56, hE55⟩
 have hE55z := Ex.size hE55
 refine sd rfl (yl_fieldAddr fd41_2 rfl rfl (SeqR.u rfl rfl (yl_store (vs := [.slice A53 p_a.Idxs.length c53]) ty39 rfl rfl rfl rfl rfl rfl (Box.ex hB42 hE55) (nb rfl) ?_)))
 intro w58 hB59 hO60
 have hB59 : Box w58 b19 41 [.string (bs (p_a.Name)), .slice A36 p_a.Cols.length c36, .slice A53 p_a.Idxs.length c53] := hB59
 have hO60z := hO60.size
 refine dn (cR (sd rfl (yl_loadN ty41 rfl rfl (hB59.cells (n := 3) rfl) rfl (SeqR.u rfl rfl (yl_store (vs := [.string (bs (p_a.Name)), .slice A36 p_a.Cols.length c36, .slice A53 p_a.Idxs.length c53]) ty41 rfl rfl rfl rfl rfl rfl (Box.only (Box.ex (Box.only (Box.ex (Box.only (Box.ex hB17 hE24) hO29 oM) hE38) hO43 oM) hE55) hO60 oM) (nb rfl) ?_)))))
 intro w67 hB68 hO69
 have hB68 : Box w67 b13 41 [.string (bs (p_a.Name)), .slice A36 p_a.Cols.length c36, .slice A53 p_a.Idxs.length c53] := hB68
 have hO69z := hO69.size
 refine dn (CW.ret (rr rfl (.cons ⟨_, rfl, run_loadN ty41 (cs := [.string (bs (p_a.Name)), .slice A36 p_a.Cols.length c36, .slice A53 p_a.Idxs.length c53]) rfl (hB68.cells (n := 3) rfl)⟩ .nil) ?_))
 have hM70 : p_a = (p_a) := (to_Table _).symm.trans <| by simp only [l_toTable, cL]
 rw [hM70]
 exact ⟨A36, c36, lo36, hi36, A53, c53, lo53, hi53, rfl, (OwnL.only gS (OwnL.only gS (OwnL.ex gS (OwnL.only gS h36 hO43 oM) hE55) hO60 oM) hO69 oM), (OwnL.only gI (OwnL.only gI h53 hO60 oM) hO69 oM), oM, oM, oM, (Below.only (Below.only (Ex.trans (Below.only (Ex.trans (Below.only (Ex.trans (Ex.trans (Ex.trans (Ex.refl w) hE12) hE18) hE24) hO29 oM) hE38) hO43 oM) hE55) hO60 oM) hO69 oM)⟩
theorem c_l_toWrite {w : World} (p_a : DWrite) (o1 : ok_Write p_a) : Cal Tryz.prog 30 #[.agg #[.string (bs (p_a.Key)), .string (bs (p_a.Val)), .bool (p_a.Gone)]] w fun v w' => v = .agg #[.string (bs (p_a.Key)), .string (bs (p_a.Val)), .bool (p_a.Gone)] ∧ Ex w w' := by
 have hol2 : p_a.Key.length ≤ 1073741824 := o1.1
 have hol3 : p_a.Val.length ≤ 1073741824 := o1.2
 refine Cal.of func30 rfl ntmps30 rfl (cR (sd rfl (yl_box rfl rfl rfl ?_)))
 intro b4 w5 hs6 hz7 hB8 hE9
 refine sd rfl (yB ty70 (cs := [.string (bs (([] : Str))), .string (bs (([] : Str))), .bool (false)]) rfl rfl ?_)
 intro b10 w11 hs12 hz13 hB14 hE15
 refine dn (cR (sd rfl (yB ty70 (cs := [.string (bs (([] : Str))), .string (bs (([] : Str))), .bool (false)]) rfl rfl ?_)))
 intro b16 w17 hs18 hz19 hB20 hE21
 refine dn (cR (sd rfl (yl_fieldAddr fd64_0 rfl rfl ?_)))
 have q23 := Box.ex (Box.ex hB8 hE15) hE21
 refine sd rfl (yl_load1 ty9 rfl rfl ((q23.cell 0).trans rfl) (sd rfl (yl_fieldAddr fd70_0 rfl rfl (SeqR.u rfl rfl (yl_store (vs := [.string (bs (p_a.Key))]) ty9 rfl rfl rfl rfl rfl rfl hB20 (nb rfl) ?_)))))
 intro w24 hB25 hO26
 have hB25 : Box w24 b16 70 [.string (bs (p_a.Key)), .string (bs (([] : Str))), .bool (false)] := hB25
 have hO26z := hO26.size
 refine dn (cR (sd rfl (yl_fieldAddr fd64_1 rfl rfl ?_)))
 have q27 := Box.only q23 hO26 oM
 refine sd rfl (yl_load1 ty9 rfl rfl ((q27.cell 1).trans rfl) (sd rfl (yl_fieldAddr fd70_1 rfl rfl (SeqR.u rfl rfl (yl_store (vs := [.string (bs (p_a.Val))]) ty9 rfl rfl rfl rfl rfl rfl hB25 (nb rfl) ?_)))))
 intro w28 hB29 hO30
 have hB29 : Box w28 b16 70 [.string (bs (p_a.Key)), .string (bs (p_a.Val)), .bool (false)] := hB29
 have hO30z := hO30.size
 refine dn (cR (sd rfl (yl_fieldAddr fd64_2 rfl rfl (sd rfl (yl_load1 ty4 rfl rfl (((Box.only q27 hO30 oM).cell 2).trans rfl) (sd rfl (yl_fieldAddr fd70_2 rfl rfl (SeqR.u rfl rfl (yl_store (vs := [.bool (p_a.Gone)]) ty4 rfl rfl rfl rfl rfl rfl hB29 (nb rfl) ?_)))))))))
 intro w32 hB33 hO34
 have hB33 : Box w32 b16 70 [.string (bs (p_a.Key)), .string (bs (p_a.Val)), .bool (p_a.Gone)] := hB33
 have hO34z := hO34.size
 refine dn (cR (sd rfl (yl_loadN ty70 rfl rfl (hB33.cells (n := 3) rfl) rfl (SeqR.u rfl rfl (yl_store (vs := [.string (bs (p_a.Key)), .string (bs (p_a.Val)), .bool (p_a.Gone)]) ty70 rfl rfl rfl rfl rfl rfl (Box.only (Box.only (Box.only (Box.ex hB14 hE21) hO26 oM) hO30 oM) hO34 oM) (nb rfl) ?_)))))
 intro w39 hB40 hO41
 have hB40 : Box w39 b10 70 [.string (bs (p_a.Key)), .string (bs (p_a.Val)), .bool (p_a.Gone)] := hB40
 have hO41z := hO41.size
 refine dn (CW.ret (rr rfl (.cons ⟨_, rfl, run_loadN ty70 (cs := [.string (bs (p_a.Key)), .string (bs (p_a.Val)), .bool (p_a.Gone)]) rfl (hB40.cells (n := 3) rfl)⟩ .nil) ?_))
 have hM42 : p_a = (p_a) := (to_Write _).symm.trans <| by simp only [l_toWrite, cL]
 rw [hM42]
 exact ⟨rfl, (Below.only (Below.only (Below.only (Below.only (Ex.trans (Ex.trans (Ex.trans (Ex.refl w) hE9) hE15) hE21) hO26 oM) hO30 oM) hO34 oM) hO41 oM)⟩
theorem c_l_toWriteS {A1 : Option Addr} {c1 : Nat} {w : World} (p_a : List DWrite) (h1 : RdS w (Iv 0 w.heap.size) (RF e_Write) 3 A1 p_a.length c1 p_a) (o2 : (okL ok_Write) p_a) : Cal Tryz.prog 9 #[.slice A1 p_a.length c1] w fun v w' => ∃ A_1 c_1 lo_1 hi_1, v = .slice A_1 p_a.length c_1 ∧ OwnL w' lo_1 hi_1 70 3 (RF e_Write) A_1 p_a.length c_1 p_a ∧ (w.heap.size ≤ lo_1 ∧ lo_1 ≤ hi_1 ∧ hi_1 ≤ w'.heap.size) ∧ Ex w w' := by
 have hol3 := o2.1
 refine Cal.of func9 rfl ntmps9 rfl (cR (sA rfl (dn (cR (sM rfl ?_)))))
 refine sd rfl (yL un26 rfl rfl (sd rfl (yl_make (zs := [.string (bs (([] : Str))), .string (bs (([] : Str))), .bool (false)]) (n := p_a.length) un43 ty70 rfl rfl (nb rfl) rfl rfl rfl Bo Bo ?_)))
 intro b4 w5 hs6 hz7 hB8 hE9
 have hO10 : OwnL w5 b4 (b4 + 1) 70 3 (RF e_Write) (some ⟨b4, 0, none⟩) p_a.length p_a.length (List.replicate p_a.length d_Write) := by have := OwnL.of_boxF (lo := b4) (hi := b4 + 1) (xs := (List.replicate p_a.length d_Write)) hB8 (Nat.le_refl _) (Nat.lt_succ_self _) (EncL.zerosF (enc := e_Write) (d := d_Write) rfl p_a.length) (by rw [List.length_replicate]; omega); rwa [List.length_replicate] at this
 refine sA rfl (dn (CW.seq (cR (sA rfl (dn ?_)))))
 refine CW.block (CW.loop (fun m23 L24 w25 => ∃ (k11 : Nat) (x22 : List DWrite), m23 = p_a.length - k11 ∧ k11 ≤ p_a.length ∧ w5.heap.size ≤ w25.heap.size ∧ lkp L24 0 = some (.slice A1 p_a.length c1) ∧ lkp L24 3 = some (.slice (some ⟨b4, 0, none⟩) p_a.length p_a.length) ∧ lkp L24 4 = some (.int .i64 ((k11 : Int))) ∧ RdS w25 (Iv 0 w.heap.size) (RF e_Write) 3 A1 p_a.length c1 p_a ∧ OwnL w25 b4 (b4 + 1) 70 3 (RF e_Write) (some ⟨b4, 0, none⟩) p_a.length p_a.length x22 ∧ Ex w w25 ∧ loopM (B_l_toWriteS_0 p_a) (p_a.length - k11) k11 (x22) = loopM (B_l_toWriteS_0 p_a) (p_a.length - 0) 0 ((List.replicate p_a.length d_Write))) (p_a.length - 0) ?_ ?_)
 ·exact ⟨0, (List.replicate p_a.length d_Write), rfl, oM, Nat.le_refl _, rfl, rfl, rfl, (RdS.ex gW h1 hE9), hO10, (Ex.trans (Ex.refl w) hE9), rfl⟩
 ·rintro m28 L29 w30 ⟨k11, x22, rfl, hk31, hsz33, hl34, hl35, hl36, hf37, hf38, hf39, hI32⟩
  refine CW.sub (Sub.cons hl34 (Sub.cons hl35 (Sub.cons hl36 (Sub.nil _)))) ?_
  have hf39z := Ex.size hf39
  have hbg40 := RdS.big hf37
  rcases Nat.lt_or_ge k11 p_a.length with hlt41 | hlt41
  ·refine CW.seq (cR (sM rfl (sM rfl (sd rfl (yL un26 rfl rfl (sd rfl (yl_lss rfl rfl rfl (dn ?_))))))))
   refine CW.cond_t rfl (lt_t hlt41) (CW.skip (tn (CW.seq (CW.block (CW.region (sM rfl (sM rfl (sM rfl ?_))))))))
   refine sM rfl ?_
   obtain ⟨eb42, eo42, _, eA42, _, ebl42, _, eR42, eC42⟩ := RdS.aD hf37 d_Write (i := k11)
   obtain rfl := eR42
   have eC42 : Cells w30 eb42 (eo42 + k11 * 3) [.string (bs ((p_a.getD k11 d_Write).Key)), .string (bs ((p_a.getD k11 d_Write).Val)), .bool ((p_a.getD k11 d_Write).Gone)] := eC42
   refine sd rfl (yl_ixN un26 ty64 rfl rfl rfl eA42 (sd rfl (yl_loadN ty64 rfl rfl eC42 rfl (sd rfl (yC en30 rfl (oc rfl oz) (Cal.mono (c_l_toWrite (p_a.getD k11 d_Write) (okL.getD o2 ok_d_Write _)) ?_))))))
   rintro v44 w43 ⟨rfl, hE45⟩
   have hE45z := Ex.size hE45
   have q47 := OwnL.ex gW hf38 hE45
   obtain ⟨eb48, eo48, _, eA48, _, ebl48, _, eR48, eC48⟩ := RdS.aD (OwnL.rd gW q47) d_Write (i := k11)
   obtain rfl := eR48
   have eC48 : Cells w43 eb48 (eo48 + k11 * 3) [.string (bs ((x22.getD k11 d_Write).Key)), .string (bs ((x22.getD k11 d_Write).Val)), .bool ((x22.getD k11 d_Write).Gone)] := eC48
   refine sd rfl (yl_ixN un43 ty70 rfl rfl rfl eA48 ?_)
   have hrg49 := OwnL.rng q47 (i := k11) Bo eb48 (by rw [eA48]; rfl)
   refine SeqR.u rfl rfl (yl_storeF (off := eo48) (i := k11) (d := 0) (dx := d_Write) (x' := (p_a.getD k11 d_Write)) (vs := [.string (bs ((p_a.getD k11 d_Write).Key)), .string (bs ((p_a.getD k11 d_Write).Val)), .bool ((p_a.getD k11 d_Write).Gone)]) ty70 rfl q47 eA48 rfl rfl rfl rfl rfl Bo (nb rfl) rfl rfl ?_)
   intro w50 hB51 hO52
   have hO52z := hO52.size
   refine SeqR.done (bn (tn (CW.region (sM rfl (sd rfl (yl_inc rfl rfl rfl oM (sA rfl (dn ?_))))))))
   have hB53 : B_l_toWriteS_0 p_a k11 (x22) = .cont ((x22.set k11 (p_a.getD k11 d_Write))) := by simp only [B_l_toWriteS_0, cL]
   exact ⟨p_a.length - (k11 + 1), oM, k11 + 1, (x22.set k11 (p_a.getD k11 d_Write)), rfl, hlt41, oM, rfl, rfl, rfl, (RdS.only gW (RdS.ex gW hf37 hE45) hO52 (by simp only [Iv]; omega)), hB51, (Below.only (Ex.trans hf39 hE45) hO52 oM), (loopM.cont hlt41 hB53).symm.trans hI32⟩
  ·refine CW.seq (cR (sM rfl (sM rfl (sd rfl (yL un26 rfl rfl (sd rfl (yl_lss rfl rfl rfl (dn ?_))))))))
   refine CW.cond_f rfl (lt_f hlt41) (CW.exit (tx (tx ?_)))
   have hL58 : loopM (B_l_toWriteS_0 p_a) (p_a.length - 0) 0 ((List.replicate p_a.length d_Write)) = .done (x22) := hI32.symm.trans (loopM.stop hlt41)
   refine bx (tn (cR (sM rfl (sA rfl (dn (CW.ret ?_))))))
   refine rr rfl (.cons rfl .nil) ?_
   have hM59 : p_a = (x22) := (to_WriteS _).symm.trans <| by simp only [l_toWriteS, hL58, cL]
   subst hM59
   exact ⟨(some ⟨b4, 0, none⟩), p_a.length, b4, (b4 + 1), rfl, hf38, oM, hf39⟩
theorem c_l_toRow {A1 : Option Addr} {c1 : Nat} {w : World} (p_a : DRow) (h1 : RdS w (Iv 0 w.heap.size) (RF e_Str) 1 A1 p_a.Vals.length c1 p_a.Vals) (o2 : ok_Row p_a) : Cal Tryz.prog 54 #[.agg #[.slice A1 p_a.Vals.length c1]] w fun v w' => ∃ A_1 c_1 lo_1 hi_1, v = .agg #[.slice A_1 p_a.Vals.length c_1] ∧ OwnL w' lo_1 hi_1 9 1 (RF e_Str) A_1 p_a.Vals.length c_1 p_a.Vals ∧ (w.heap.size ≤ lo_1 ∧ lo_1 ≤ hi_1 ∧ hi_1 ≤ w'.heap.size) ∧ Ex w w' := by
 have hol3 := o2.1
 refine Cal.of func54 rfl ntmps54 rfl (cR (sd rfl (yl_box rfl rfl rfl ?_)))
 intro b4 w5 hs6 hz7 hB8 hE9
 refine sd rfl (yB ty45 (cs := [.slice none 0 0]) rfl rfl ?_)
 intro b10 w11 hs12 hz13 hB14 hE15
 refine dn (cR (sd rfl (yB ty45 (cs := [.slice none 0 0]) rfl rfl ?_)))
 intro b16 w17 hs18 hz19 hB20 hE21
 refine dn (cR (sd rfl (yl_fieldAddr fd28_0 rfl rfl (sd rfl (yl_load1 ty22 rfl rfl (((Box.ex (Box.ex hB8 hE15) hE21).cell 0).trans rfl) (sd rfl (yC en28 rfl (oc rfl oz) (Cal.mono (c_l_toStringS p_a.Vals (RdS.up (RdS.ex gS (RdS.ex gS (RdS.ex gS h1 hE9) hE15) hE21) gS) o2) ?_))))))))
 rintro v29 w27 ⟨A28, c28, lo28, hi28, rfl, h28, hrn31, hE30⟩
 have hE30z := Ex.size hE30
 refine sd rfl (yl_fieldAddr fd45_0 rfl rfl (SeqR.u rfl rfl (yl_store (vs := [.slice A28 p_a.Vals.length c28]) ty22 rfl rfl rfl rfl rfl rfl (Box.ex hB20 hE30) (nb rfl) ?_)))
 intro w33 hB34 hO35
 have hB34 : Box w33 b16 45 [.slice A28 p_a.Vals.length c28] := hB34
 have hO35z := hO35.size
 refine dn (cR (sd rfl (yl_loadN ty45 rfl rfl (hB34.cells (n := 1) rfl) rfl (SeqR.u rfl rfl (yl_store (vs := [.slice A28 p_a.Vals.length c28]) ty45 rfl rfl rfl rfl rfl rfl (Box.only (Box.ex (Box.ex hB14 hE21) hE30) hO35 oM) (nb rfl) ?_)))))
 intro w39 hB40 hO41
 have hB40 : Box w39 b10 45 [.slice A28 p_a.Vals.length c28] := hB40
 have hO41z := hO41.size
 refine dn (CW.ret (rr rfl (.cons ⟨_, rfl, run_loadN ty45 (cs := [.slice A28 p_a.Vals.length c28]) rfl (hB40.cells (n := 1) rfl)⟩ .nil) ?_))
 have hM42 : p_a = (p_a) := (to_Row _).symm.trans <| by simp only [l_toRow, cL]
 rw [hM42]
 exact ⟨A28, c28, lo28, hi28, rfl, (OwnL.only gS (OwnL.only gS h28 hO35 oM) hO41 oM), oM, (Below.only (Below.only (Ex.trans (Ex.trans (Ex.trans (Ex.trans (Ex.refl w) hE9) hE15) hE21) hE30) hO35 oM) hO41 oM)⟩
theorem c_l_toRowAct {A1 : Option Addr} {c1 : Nat} {A2 : Option Addr} {c2 : Nat} {w : World} (p_a : DRowAct) (h1 : RdS w (Iv 0 w.heap.size) (RF e_Str) 1 A1 p_a.Old.Vals.length c1 p_a.Old.Vals) (h2 : RdS w (Iv 0 w.heap.size) (RF e_Str) 1 A2 p_a.New.Vals.length c2 p_a.New.Vals) (o3 : ok_RowAct p_a) : Cal Tryz.prog 31 #[.agg #[.int .i64 (p_a.Kind), .slice A1 p_a.Old.Vals.length c1, .slice A2 p_a.New.Vals.length c2]] w fun v w' => ∃ A_1 c_1 lo_1 hi_1 A_2 c_2 lo_2 hi_2, v = .agg #[.int .i64 (p_a.Kind), .slice A_1 p_a.Old.Vals.length c_1, .slice A_2 p_a.New.Vals.length c_2] ∧ OwnL w' lo_1 hi_1 9 1 (RF e_Str) A_1 p_a.Old.Vals.length c_1 p_a.Old.Vals ∧ OwnL w' lo_2 hi_2 9 1 (RF e_Str) A_2 p_a.New.Vals.length c_2 p_a.New.Vals ∧ (w.heap.size ≤ lo_1 ∧ lo_1 ≤ hi_1 ∧ hi_1 ≤ w'.heap.size) ∧ (w.heap.size ≤ lo_2 ∧ lo_2 ≤ hi_2 ∧ hi_2 ≤ w'.heap.size) ∧ (hi_1 ≤ lo_2 ∨ hi_2 ≤ lo_1) ∧ Ex w w' := by
 have hol4 := o3.1.1
 have hol5 := o3.2.1
 refine Cal.of func31 rfl ntmps31 rfl (cR (sd rfl (yl_box rfl rfl rfl ?_)))
 intro b6 w7 hs8 hz9 hB10 hE11
 refine sd rfl (yB ty47 (cs := [.int .i64 (0), .slice none 0 0, .slice none 0 0]) rfl rfl ?_)
 intro b12 w13 hs14 hz15 hB16 hE17
 refine dn (cR (sd rfl (yB ty47 (cs := [.int .i64 (0), .slice none 0 0, .slice none 0 0]) rfl rfl ?_)))
 intro b18 w19 hs20 hz21 hB22 hE23
 refine dn (cR (sd rfl (yl_fieldAddr fd30_0 rfl rfl ?_)))
 have q25 := Box.ex (Box.ex hB10 hE17) hE23
 refine sd rfl (yl_load1 ty3 rfl rfl ((q25.cell 0).trans rfl) (sd rfl (yl_fieldAddr fd47_0 rfl rfl (SeqR.u rfl rfl (yl_store (vs := [.int .i64 (p_a.Kind)]) ty3 rfl rfl rfl rfl rfl rfl hB22 (nb rfl) ?_)))))
 intro w26 hB27 hO28
 have hB27 : Box w26 b18 47 [.int .i64 (p_a.Kind), .slice none 0 0, .slice none 0 0] := hB27
 have hO28z := hO28.size
 refine dn (cR (sd rfl (yl_fieldAddr fd30_1 rfl rfl ?_)))
 have q29 := Box.only q25 hO28 oM
 refine sd rfl (yl_loadN ty28 rfl rfl (q29.cells (n := 1) rfl) rfl (sd rfl (yC en54 rfl (oc rfl oz) (Cal.mono (c_l_toRow p_a.Old (RdS.up (RdS.only gS (RdS.ex gS (RdS.ex gS (RdS.ex gS h1 hE11) hE17) hE23) hO28 (by simp only [Iv]; omega)) gS) o3.1) ?_))))
 rintro v36 w34 ⟨A35, c35, lo35, hi35, rfl, h35, hrn38, hE37⟩
 have hE37z := Ex.size hE37
 refine sd rfl (yl_fieldAddr fd47_1 rfl rfl (SeqR.u rfl rfl (yl_store (vs := [.slice A35 p_a.Old.Vals.length c35]) ty45 rfl rfl rfl rfl rfl rfl (Box.ex hB27 hE37) (nb rfl) ?_)))
 intro w40 hB41 hO42
 have hB41 : Box w40 b18 47 [.int .i64 (p_a.Kind), .slice A35 p_a.Old.Vals.length c35, .slice none 0 0] := hB41
 have hO42z := hO42.size
 refine dn (cR (sd rfl (yl_fieldAddr fd30_2 rfl rfl (sd rfl (yl_loadN ty28 rfl rfl ((Box.only (Box.ex q29 hE37) hO42 oM).cells (n := 1) rfl) rfl (sd rfl (yC en54 rfl (oc rfl oz) (Cal.mono (c_l_toRow p_a.New (RdS.up (RdS.only gS (RdS.ex gS (RdS.only gS (RdS.ex gS (RdS.ex gS (RdS.ex gS h2 hE11) hE17) hE23) hO28 (by simp only [Iv]; omega)) hE37) hO42 (by simp only [Iv]; omega)) gS) o3.2) ?_))))))))
 rintro v53 w51 ⟨A52, c52, lo52, hi52, rfl, h52, hrn55, hE54⟩
 have hE54z := Ex.size hE54
 refine sd rfl (yl_fieldAddr fd47_2 rfl rfl (SeqR.u rfl rfl (yl_store (vs := [.slice A52 p_a.New.Vals.length c52]) ty45 rfl rfl rfl rfl rfl rfl (Box.ex hB41 hE54) (nb rfl) ?_)))
 intro w57 hB58 hO59
 have hB58 : Box w57 b18 47 [.int .i64 (p_a.Kind), .slice A35 p_a.Old.Vals.length c35, .slice A52 p_a.New.Vals.length c52] := hB58
 have hO59z := hO59.size
 refine dn (cR (sd rfl (yl_loadN ty47 rfl rfl (hB58.cells (n := 3) rfl) rfl (SeqR.u rfl rfl (yl_store (vs := [.int .i64 (p_a.Kind), .slice A35 p_a.Old.Vals.length c35, .slice A52 p_a.New.Vals.length c52]) ty47 rfl rfl rfl rfl rfl rfl (Box.only (Box.ex (Box.only (Box.ex (Box.only (Box.ex hB16 hE23) hO28 oM) hE37) hO42 oM) hE54) hO59 oM) (nb rfl) ?_)))))
 intro w66 hB67 hO68
 have hB67 : Box w66 b12 47 [.int .i64 (p_a.Kind), .slice A35 p_a.Old.Vals.length c35, .slice A52 p_a.New.Vals.length c52] := hB67
 have hO68z := hO68.size
 refine dn (CW.ret (rr rfl (.cons ⟨_, rfl, run_loadN ty47 (cs := [.int .i64 (p_a.Kind), .slice A35 p_a.Old.Vals.length c35, .slice A52 p_a.New.Vals.length c52]) rfl (hB67.cells (n := 3) rfl)⟩ .nil) ?_))
 have hM69 : p_a = (p_a) := (to_RowAct _).symm.trans <| by simp only [l_toRowAct, cL]
 rw [hM69]
 exact ⟨A35, c35, lo35, hi35, A52, c52, lo52, hi52, rfl, (OwnL.only gS (OwnL.only gS (OwnL.ex gS (OwnL.only gS h35 hO42 oM) hE54) hO59 oM) hO68 oM), (OwnL.only gS (OwnL.only gS h52 hO59 oM) hO68 oM), oM, oM, oM, (Below.only (Below.only (Ex.trans (Below.only (Ex.trans (Below.only (Ex.trans (Ex.trans (Ex.trans (Ex.refl w) hE11) hE17) hE23) hO28 oM) hE37) hO42 oM) hE54) hO59 oM) hO68 oM)⟩
theorem c_l_toStmt {A1 : Option Addr} {c1 : Nat} {A2 : Option Addr} {c2 : Nat} {w : World} (p_a : DStmt) (h1 : RdS w (Iv 0 w.heap.size) (RF e_Str) 1 A1 p_a.Act.Old.Vals.length c1 p_a.Act.Old.Vals) (h2 : RdS w (Iv 0 w.heap.size) (RF e_Str) 1 A2 p_a.Act.New.Vals.length c2 p_a.Act.New.Vals) (o3 : ok_Stmt p_a) : Cal Tryz.prog 10 #[.agg #[.int .i64 (p_a.Kind), .int .i64 (p_a.Act.Kind), .slice A1 p_a.Act.Old.Vals.length c1, .slice A2 p_a.Act.New.Vals.length c2, .string (bs (p_a.Idx)), .string (bs (p_a.Low)), .string (bs (p_a.High))]] w fun v w' => ∃ A_1 c_1 lo_1 hi_1 A_2 c_2 lo_2 hi_2, v = .agg #[.int .i64 (p_a.Kind), .int .i64 (p_a.Act.Kind), .slice A_1 p_a.Act.Old.Vals.length c_1, .slice A_2 p_a.Act.New.Vals.length c_2, .string (bs (p_a.Idx)), .string (bs (p_a.Low)), .string (bs (p_a.High))] ∧ OwnL w' lo_1 hi_1 9 1 (RF e_Str) A_1 p_a.Act.Old.Vals.length c_1 p_a.Act.Old.Vals ∧ OwnL w' lo_2 hi_2 9 1 (RF e_Str) A_2 p_a.Act.New.Vals.length c_2 p_a.Act.New.Vals ∧ (w.heap.size ≤ lo_1 ∧ lo_1 ≤ hi_1 ∧ hi_1 ≤ w'.heap.size) ∧ (w.heap.size ≤ lo_2 ∧ lo_2 ≤ hi_2 ∧ hi_2 ≤ w'.heap.size) ∧ (hi_1 ≤ lo_2 ∨ hi_2 ≤ lo_1) ∧ Ex w w' := by
 have hol4 := o3.1.1.1
 have hol5 := o3.1.2.1
 have hol6 : p_a.Idx.length ≤ 1073741824 := o3.2.1
 have hol7 : p_a.Low.length ≤ 1073741824 := o3.2.2.1
 have hol8 : p_a.High.length ≤ 1073741824 := o3.2.2.2
 refine Cal.of func10 rfl ntmps10 rfl (cR (sd rfl (yl_box rfl rfl rfl ?_)))
 intro b9 w10 hs11 hz12 hB13 hE14
 refine sd rfl (yB ty49 (cs := [.int .i64 (0), .int .i64 (0), .slice none 0 0, .slice none 0 0, .string (bs (([] : Str))), .string (bs (([] : Str))), .string (bs (([] : Str)))]) rfl rfl ?_)
 intro b15 w16 hs17 hz18 hB19 hE20
 refine dn (cR (sd rfl (yB ty49 (cs := [.int .i64 (0), .int .i64 (0), .slice none 0 0, .slice none 0 0, .string (bs (([] : Str))), .string (bs (([] : Str))), .string (bs (([] : Str)))]) rfl rfl ?_)))
 intro b21 w22 hs23 hz24 hB25 hE26
 refine dn (cR (sd rfl (yl_fieldAddr fd32_0 rfl rfl ?_)))
 have q28 := Box.ex (Box.ex hB13 hE20) hE26
 refine sd rfl (yl_load1 ty3 rfl rfl ((q28.cell 0).trans rfl) (sd rfl (yl_fieldAddr fd49_0 rfl rfl (SeqR.u rfl rfl (yl_store (vs := [.int .i64 (p_a.Kind)]) ty3 rfl rfl rfl rfl rfl rfl hB25 (nb rfl) ?_)))))
 intro w29 hB30 hO31
 have hB30 : Box w29 b21 49 [.int .i64 (p_a.Kind), .int .i64 (0), .slice none 0 0, .slice none 0 0, .string (bs (([] : Str))), .string (bs (([] : Str))), .string (bs (([] : Str)))] := hB30
 have hO31z := hO31.size
 refine dn (cR (sd rfl (yl_fieldAddr fd32_1 rfl rfl ?_)))
 have q32 := Box.only q28 hO31 oM
 refine sd rfl (yl_loadN ty30 rfl rfl (q32.cells (n := 3) rfl) rfl (sd rfl (yC en31 rfl (oc rfl oz) (Cal.mono (c_l_toRowAct p_a.Act (RdS.up (RdS.only gS (RdS.ex gS (RdS.ex gS (RdS.ex gS h1 hE14) hE20) hE26) hO31 (by simp only [Iv]; omega)) gS) (RdS.up (RdS.only gS (RdS.ex gS (RdS.ex gS (RdS.ex gS h2 hE14) hE20) hE26) hO31 (by simp only [Iv]; omega)) gS) o3.1) ?_))))
 rintro v44 w41 ⟨A42, c42, lo42, hi42, A43, c43, lo43, hi43, rfl, h42, h43, hrn46, hrn47, hrn48, hE45⟩
 have hE45z := Ex.size hE45
 refine sd rfl (yl_fieldAddr fd49_1 rfl rfl (SeqR.u rfl rfl (yl_store (vs := [.int .i64 (p_a.Act.Kind), .slice A42 p_a.Act.Old.Vals.length c42, .slice A43 p_a.Act.New.Vals.length c43]) ty47 rfl rfl rfl rfl rfl rfl (Box.ex hB30 hE45) (nb rfl) ?_)))
 intro w50 hB51 hO52
 have hB51 : Box w50 b21 49 [.int .i64 (p_a.Kind), .int .i64 (p_a.Act.Kind), .slice A42 p_a.Act.Old.Vals.length c42, .slice A43 p_a.Act.New.Vals.length c43, .string (bs (([] : Str))), .string (bs (([] : Str))), .string (bs (([] : Str)))] := hB51
 have hO52z := hO52.size
 refine dn (cR (sd rfl (yl_fieldAddr fd32_2 rfl rfl ?_)))
 have q54 := Box.only (Box.ex q32 hE45) hO52 oM
 refine sd rfl (yl_load1 ty9 rfl rfl ((q54.cell 4).trans rfl) (sd rfl (yl_fieldAddr fd49_2 rfl rfl (SeqR.u rfl rfl (yl_store (vs := [.string (bs (p_a.Idx))]) ty9 rfl rfl rfl rfl rfl rfl hB51 (nb rfl) ?_)))))
 intro w55 hB56 hO57
 have hB56 : Box w55 b21 49 [.int .i64 (p_a.Kind), .int .i64 (p_a.Act.Kind), .slice A42 p_a.Act.Old.Vals.length c42, .slice A43 p_a.Act.New.Vals.length c43, .string (bs (p_a.Idx)), .string (bs (([] : Str))), .string (bs (([] : Str)))] := hB56
 have hO57z := hO57.size
 refine dn (cR (sd rfl (yl_fieldAddr fd32_3 rfl rfl ?_)))
 have q58 := Box.only q54 hO57 oM
 refine sd rfl (yl_load1 ty9 rfl rfl ((q58.cell 5).trans rfl) (sd rfl (yl_fieldAddr fd49_3 rfl rfl (SeqR.u rfl rfl (yl_store (vs := [.string (bs (p_a.Low))]) ty9 rfl rfl rfl rfl rfl rfl hB56 (nb rfl) ?_)))))
 intro w59 hB60 hO61
 have hB60 : Box w59 b21 49 [.int .i64 (p_a.Kind), .int .i64 (p_a.Act.Kind), .slice A42 p_a.Act.Old.Vals.length c42, .slice A43 p_a.Act.New.Vals.length c43, .string (bs (p_a.Idx)), .string (bs (p_a.Low)), .string (bs (([] : Str)))] := hB60
 have hO61z := hO61.size
 refine dn (cR (sd rfl (yl_fieldAddr fd32_4 rfl rfl (sd rfl (yl_load1 ty9 rfl rfl (((Box.only q58 hO61 oM).cell 6).trans rfl) (sd rfl (yl_fieldAddr fd49_4 rfl rfl (SeqR.u rfl rfl (yl_store (vs := [.string (bs (p_a.High))]) ty9 rfl rfl rfl rfl rfl rfl hB60 (nb rfl) ?_)))))))))
 intro w63 hB64 hO65
 have hB64 : Box w63 b21 49 [.int .i64 (p_a.Kind), .int .i64 (p_a.Act.Kind), .slice A42 p_a.Act.Old.Vals.length c42, .slice A43 p_a.Act.New.Vals.length c43, .string (bs (p_a.Idx)), .string (bs (p_a.Low)), .string (bs (p_a.High))] := hB64
 have hO65z := hO65.size
 refine dn (cR (sd rfl (yl_loadN ty49 rfl rfl (hB64.cells (n := 7) rfl) rfl (SeqR.u rfl rfl (yl_store (vs := [.int .i64 (p_a.Kind), .int .i64 (p_a.Act.Kind), .slice A42 p_a.Act.Old.Vals.length c42, .slice A43 p_a.Act.New.Vals.length c43, .string (bs (p_a.Idx)), .string (bs (p_a.Low)), .string (bs (p_a.High))]) ty49 rfl rfl rfl rfl rfl rfl (Box.only (Box.only (Box.only (Box.only (Box.ex (Box.only (Box.ex hB19 hE26) hO31 oM) hE45) hO52 oM) hO57 oM) hO61 oM) hO65 oM) (nb rfl) ?_)))))
 intro w73 hB74 hO75
 have hB74 : Box w73 b15 49 [.int .i64 (p_a.Kind), .int .i64 (p_a.Act.Kind), .slice A42 p_a.Act.Old.Vals.length c42, .slice A43 p_a.Act.New.Vals.length c43, .string (bs (p_a.Idx)), .string (bs (p_a.Low)), .string (bs (p_a.High))] := hB74
 have hO75z := hO75.size
 refine dn (CW.ret (rr rfl (.cons ⟨_, rfl, run_loadN ty49 (cs := [.int .i64 (p_a.Kind), .int .i64 (p_a.Act.Kind), .slice A42 p_a.Act.Old.Vals.length c42, .slice A43 p_a.Act.New.Vals.length c43, .string (bs (p_a.Idx)), .string (bs (p_a.Low)), .string (bs (p_a.High))]) rfl (hB74.cells (n := 7) rfl)⟩ .nil) ?_))
 have hM76 : p_a = (p_a) := (to_Stmt _).symm.trans <| by simp only [l_toStmt, cL]
 rw [hM76]
 exact ⟨A42, c42, lo42, hi42, A43, c43, lo43, hi43, rfl, (OwnL.only gS (OwnL.only gS (OwnL.only gS (OwnL.only gS (OwnL.only gS h42 hO52 oM) hO57 oM) hO61 oM) hO65 oM) hO75 oM), (OwnL.only gS (OwnL.only gS (OwnL.only gS (OwnL.only gS (OwnL.only gS h43 hO52 oM) hO57 oM) hO61 oM) hO65 oM) hO75 oM), oM, oM, oM, (Below.only (Below.only (Below.only (Below.only (Below.only (Ex.trans (Below.only (Ex.trans (Ex.trans (Ex.trans (Ex.refl w) hE14) hE20) hE26) hO31 oM) hE45) hO52 oM) hO57 oM) hO61 oM) hO65 oM) hO75 oM)⟩
theorem c_i_within {w : World} (p_n : Int) (p_low : Int) (p_high : Int) : Cal Tryz.prog 82 #[.int .i64 (p_n), .int .i64 (p_low), .int .i64 (p_high)] w fun v w' => v = .bool ((i_within p_n p_low p_high)) ∧ Ex w w' := by
 refine Cal.of func82 rfl ntmps82 rfl (cR (sA rfl (dn (cR (sM rfl ?_)))))
 refine sM rfl (sd rfl (yl_geq rfl rfl rfl (sM rfl (bcase (decide (p_low ≤ p_n)) (fun hb1 => ?_) (fun hb1 => ?_)))))
 ·have hb1p := dec_t hb1
  refine sy rfl rfl hb1 (yM rfl rfl (sy rfl rfl hb1 (yM rfl rfl (sy rfl rfl hb1 (yl_leq rfl rfl rfl (sd rfl (yl_pick_t rfl rfl hb1 rfl (sA rfl (dn (CW.ret (rr rfl (.cons rfl .nil) ?_)))))))))))
  have hM2 : (i_within p_n p_low p_high) = (decide (p_n ≤ p_high)) := by simp only [i_within, hb1, cL]
  rw [hM2]
  exact ⟨rfl, (Ex.refl w)⟩
 ·have hb1p := dec_f hb1
  refine sz rfl rfl hb1 (sz rfl rfl hb1 (sz rfl rfl hb1 (sd rfl (yl_pick_f rfl rfl hb1 rfl (sA rfl (dn (CW.ret (rr rfl (.cons rfl .nil) ?_))))))))
  have hM3 : (i_within p_n p_low p_high) = (false) := by simp only [i_within, hb1, cL]
  rw [hM3]
  exact ⟨rfl, (Ex.refl w)⟩
theorem c_i_areLetters {w : World} (p_s : Str) (p_most : Int) (o1 : okS p_s) : Cal Tryz.prog 81 #[.string (bs (p_s)), .int .i64 (p_most)] w fun v w' => v = .bool ((i_areLetters p_s p_most)) ∧ Ex w w' := by
 have hol2 : p_s.length ≤ 1073741824 := o1
 refine Cal.of func81 rfl ntmps81 rfl (cR (sA rfl (dn (CW.seq (cR ?_)))))
 refine sM rfl (sd rfl (yl_slen un9 (a := p_s) rfl rfl (sM rfl (dn (CW.block (CW.loop (fun m4 L5 w6 => ∃ (k3 : Nat), m4 = p_s.length - k3 ∧ k3 ≤ p_s.length ∧ w.heap.size ≤ w6.heap.size ∧ lkp L5 0 = some (.string (bs (p_s))) ∧ lkp L5 1 = some (.int .i64 (p_most)) ∧ lkp L5 7 = some (.int .i64 ((p_s.length : Int))) ∧ lkp L5 8 = some (.int .i64 ((k3 : Int))) ∧ Ex w w6 ∧ loopM (B_i_areLetters_0 p_s p_most) (p_s.length - k3) k3 () = loopM (B_i_areLetters_0 p_s p_most) (p_s.length - 0) 0 ()) (p_s.length - 0) ?_ ?_))))))
 ·exact ⟨0, rfl, oM, Nat.le_refl _, rfl, rfl, rfl, rfl, (Ex.refl w), rfl⟩
 ·rintro m7 L8 w9 ⟨k3, rfl, hk10, hsz12, hl13, hl14, hl15, hl16, hf17, hI11⟩
  refine CW.sub (Sub.cons hl13 (Sub.cons hl14 (Sub.cons hl15 (Sub.cons hl16 (Sub.nil _))))) ?_
  have hf17z := Ex.size hf17
  have hbg18 : p_s.length ≤ 1073741824 := o1
  rcases Nat.lt_or_ge k3 p_s.length with hlt19 | hlt19
  ·refine cR (sd rfl (yl_lss rfl rfl rfl (dn (CW.seq (CW.cond_t rfl (lt_t hlt19) (CW.skip (tn ?_)))))))
   refine CW.seq (CW.block (cR (sM rfl (sA rfl (dn (CW.seq ?_))))))
   refine CW.region (sM rfl (sM rfl (sd rfl (yl_sindexN un9 (a := p_s) rfl rfl rfl Bo (sd rfl (yl_lss rfl rfl rfl (sM rfl (bcase (decide (((p_s.getD k3 0).toNat : Int) < 97)) (fun hb20 => ?_) (fun hb20 => ?_)))))))))
   ·have hb20p := dec_t hb20
    refine sz rfl rfl hb20 (sz rfl rfl hb20 (sz rfl rfl hb20 (sz rfl rfl hb20 (sd rfl (yl_pick_t rfl rfl hb20 rfl (dn (CW.cond_t rfl rfl (CW.seq ?_))))))))
    refine CW.region (sA rfl (dn (CW.ret (br (tr (tr ?_))))))
    have hB22 : B_i_areLetters_0 p_s p_most k3 () = .ret false := by simp only [B_i_areLetters_0, hb20, cL]
    have hL21 : loopM (B_i_areLetters_0 p_s p_most) (p_s.length - 0) 0 () = .ret false := hI11.symm.trans (loopM.ret hlt19 hB22)
    refine br (tr (rr rfl (.cons rfl .nil) ?_))
    have hM23 : (i_areLetters p_s p_most) = (false) := by simp only [i_areLetters, hb20, hL21, cL]
    rw [hM23]
    exact ⟨rfl, hf17⟩
   ·have hb20p := dec_f hb20
    refine sy rfl rfl hb20 (yM rfl rfl (sy rfl rfl hb20 (yM rfl rfl (sy rfl rfl hb20 (yl_sindexN un9 (a := p_s) rfl rfl rfl Bo (sy rfl rfl hb20 (yl_gtr rfl rfl rfl (sd rfl (yl_pick_f rfl rfl hb20 rfl (dn (bcase (decide (122 < ((p_s.getD k3 0).toNat : Int))) (fun hb24 => ?_) (fun hb24 => ?_))))))))))))
    ·have hb24p := dec_t hb24
     refine CW.cond_t rfl hb24 (cR (sA rfl (dn (CW.ret (br (tr ?_))))))
     refine tr ?_
     have hB26 : B_i_areLetters_0 p_s p_most k3 () = .ret false := by simp only [B_i_areLetters_0, hb20, hb24, cL]
     have hL25 : loopM (B_i_areLetters_0 p_s p_most) (p_s.length - 0) 0 () = .ret false := hI11.symm.trans (loopM.ret hlt19 hB26)
     refine br (tr (rr rfl (.cons rfl .nil) ?_))
     have hM27 : (i_areLetters p_s p_most) = (false) := by simp only [i_areLetters, hb20, hb24, hL25, cL]
     rw [hM27]
     exact ⟨rfl, hf17⟩
    ·have hb24p := dec_f hb24
     refine CW.cond_f rfl hb24 (CW.skip (bn (tn (CW.region (sd rfl (yl_inc rfl rfl rfl oM (sM rfl (dn ?_))))))))
     have hB28 : B_i_areLetters_0 p_s p_most k3 () = .cont () := by simp only [B_i_areLetters_0, hb20, hb24, cL]
     exact ⟨p_s.length - (k3 + 1), oM, k3 + 1, rfl, hlt19, oM, rfl, rfl, rfl, rfl, hf17, (loopM.cont hlt19 hB28).symm.trans hI11⟩
  ·refine cR (sd rfl (yl_lss rfl rfl rfl (dn (CW.seq (CW.cond_f rfl (lt_f hlt19) (CW.exit (tx ?_)))))))
   refine tx ?_
   have hL29 : loopM (B_i_areLetters_0 p_s p_most) (p_s.length - 0) 0 () = .done () := hI11.symm.trans (loopM.stop hlt19)
   refine bx (tn (cR (sM rfl (sd rfl (yl_slen un9 (a := p_s) rfl rfl (sM rfl (sd rfl (yC en82 rfl (oc rfl (oc rfl (oc rfl oz))) (Cal.mono (c_i_within (p_s.length : Int) 1 p_most) ?_)))))))))
   rintro v31 w30 ⟨rfl, hE32⟩
   have hE32z := Ex.size hE32
   refine sA rfl (dn (CW.ret (rr rfl (.cons rfl .nil) ?_)))
   have hM33 : (i_areLetters p_s p_most) = ((i_within (p_s.length : Int) 1 p_most)) := by simp only [i_areLetters, hL29, cL]
   rw [hM33]
   exact ⟨rfl, (Ex.trans hf17 hE32)⟩
theorem c_g_slices_Index_string {A1 : Option Addr} {c1 : Nat} {w : World} (p_s : List Str) (p_v : Str) (h1 : RdS w (Iv 0 w.heap.size) (RF e_Str) 1 A1 p_s.length c1 p_s) (o2 : (okL okS) p_s) (o3 : okS p_v) : Cal Tryz.prog 110 #[.slice A1 p_s.length c1, .string (bs (p_v))] w fun v w' => v = .int .i64 ((g_slices_Index_string p_s p_v)) ∧ Ex w w' := by
 have hol4 := o2.1
 have hol5 : p_v.length ≤ 1073741824 := o3
 refine Cal.of func110 rfl ntmps110 rfl (cR (sA rfl (dn (CW.seq (cR ?_)))))
 refine sM rfl (sd rfl (yL un22 rfl rfl (sM rfl (dn (CW.block (CW.loop (fun m7 L8 w9 => ∃ (k6 : Nat), m7 = p_s.length - k6 ∧ k6 ≤ p_s.length ∧ w.heap.size ≤ w9.heap.size ∧ lkp L8 0 = some (.slice A1 p_s.length c1) ∧ lkp L8 1 = some (.string (bs (p_v))) ∧ lkp L8 7 = some (.int .i64 ((p_s.length : Int))) ∧ lkp L8 8 = some (.int .i64 ((k6 : Int))) ∧ RdS w9 (Iv 0 w.heap.size) (RF e_Str) 1 A1 p_s.length c1 p_s ∧ Ex w w9 ∧ loopM (B_g_slices_Index_string_0 p_s p_v) (p_s.length - k6) k6 () = loopM (B_g_slices_Index_string_0 p_s p_v) (p_s.length - 0) 0 ()) (p_s.length - 0) ?_ ?_))))))
 ·exact ⟨0, rfl, oM, Nat.le_refl _, rfl, rfl, rfl, rfl, h1, (Ex.refl w), rfl⟩
 ·rintro m10 L11 w12 ⟨k6, rfl, hk13, hsz15, hl16, hl17, hl18, hl19, hf20, hf21, hI14⟩
  refine CW.sub (Sub.cons hl16 (Sub.cons hl17 (Sub.cons hl18 (Sub.cons hl19 (Sub.nil _))))) ?_
  have hf21z := Ex.size hf21
  have hbg22 := RdS.big hf20
  rcases Nat.lt_or_ge k6 p_s.length with hlt23 | hlt23
  ·refine cR (sd rfl (yl_lss rfl rfl rfl (dn (CW.seq (CW.cond_t rfl (lt_t hlt23) (CW.skip (tn ?_)))))))
   refine CW.seq (CW.block (cR (sM rfl (sA rfl (dn (CW.seq ?_))))))
   refine CW.region (sM rfl (sM rfl (sM rfl ?_)))
   obtain ⟨eb24, eo24, _, eA24, _, ebl24, _, eR24, eC24⟩ := RdS.aD hf20 d_Str (i := k6)
   obtain rfl := eR24
   have eC24 : Cells w12 eb24 (eo24 + k6 * 1) [.string (bs ((p_s.getD k6 d_Str)))] := eC24
   refine sd rfl (yl_ixN un22 ty9 rfl rfl rfl eA24 (sd rfl (yl_load1 ty9 rfl rfl (eC24 0 _ rfl) (sd rfl (yl_seql (a := p_v) (b := (p_s.getD k6 d_Str)) rfl rfl rfl (dn (bcase (p_v == (p_s.getD k6 d_Str)) (fun hb25 => ?_) (fun hb25 => ?_))))))))
   ·refine CW.cond_t rfl hb25 (cR (sM rfl (sA rfl (dn (CW.ret (br ?_))))))
    refine tr (tr ?_)
    have hB27 : B_g_slices_Index_string_0 p_s p_v k6 () = .ret (k6 : Int) := by simp only [B_g_slices_Index_string_0, hb25, cL]
    have hL26 : loopM (B_g_slices_Index_string_0 p_s p_v) (p_s.length - 0) 0 () = .ret (k6 : Int) := hI14.symm.trans (loopM.ret hlt23 hB27)
    refine br (tr (rr rfl (.cons rfl .nil) ?_))
    have hM28 : (g_slices_Index_string p_s p_v) = ((k6 : Int)) := by simp only [g_slices_Index_string, hb25, hL26, cL]
    rw [hM28]
    exact ⟨rfl, hf21⟩
   ·refine CW.cond_f rfl hb25 (CW.skip (bn (tn (CW.region (sd rfl (yl_inc rfl rfl rfl oM (sM rfl (dn ?_))))))))
    have hB29 : B_g_slices_Index_string_0 p_s p_v k6 () = .cont () := by simp only [B_g_slices_Index_string_0, hb25, cL]
    exact ⟨p_s.length - (k6 + 1), oM, k6 + 1, rfl, hlt23, oM, rfl, rfl, rfl, rfl, hf20, hf21, (loopM.cont hlt23 hB29).symm.trans hI14⟩
  ·refine cR (sd rfl (yl_lss rfl rfl rfl (dn (CW.seq (CW.cond_f rfl (lt_f hlt23) (CW.exit (tx ?_)))))))
   refine tx ?_
   have hL30 : loopM (B_g_slices_Index_string_0 p_s p_v) (p_s.length - 0) 0 () = .done () := hI14.symm.trans (loopM.stop hlt23)
   refine bx (tn (cR (sA rfl (dn (CW.ret (rr rfl (.cons rfl .nil) ?_))))))
   have hM31 : (g_slices_Index_string p_s p_v) = (-1) := by simp only [g_slices_Index_string, hL30, cL]
   rw [hM31]
   exact ⟨rfl, hf21⟩
theorem c_g_slices_Contains_string {A1 : Option Addr} {c1 : Nat} {w : World} (p_s : List Str) (p_v : Str) (h1 : RdS w (Iv 0 w.heap.size) (RF e_Str) 1 A1 p_s.length c1 p_s) (o2 : (okL okS) p_s) (o3 : okS p_v) : Cal Tryz.prog 83 #[.slice A1 p_s.length c1, .string (bs (p_v))] w fun v w' => v = .bool ((g_slices_Contains_string p_s p_v)) ∧ Ex w w' := by
 refine Cal.of func83 rfl ntmps83 rfl (cR (sA rfl (dn (cR (sM rfl ?_)))))
 refine sM rfl (sd rfl (yC en110 rfl (oc rfl (oc rfl oz)) (Cal.mono (c_g_slices_Index_string p_s p_v (RdS.up h1 gS) o2 o3) ?_)))
 rintro v7 w6 ⟨rfl, hE8⟩
 refine sd rfl (yl_geq rfl rfl rfl (sA rfl (dn (CW.ret (rr rfl (.cons rfl .nil) ?_)))))
 have hM9 : (g_slices_Contains_string p_s p_v) = (decide (0 ≤ (g_slices_Index_string p_s p_v))) := by simp only [g_slices_Contains_string, cL]
 rw [hM9]
 exact ⟨rfl, (Ex.trans (Ex.refl w) hE8)⟩
theorem c_i_isStage {w : World} (p_stage : Int) : Cal Tryz.prog 84 #[.int .i64 (p_stage)] w fun v w' => v = .bool ((i_isStage p_stage)) ∧ Ex w w' := by
 refine Cal.of func84 rfl ntmps84 rfl (cR (sA rfl (dn (cR (sM rfl ?_)))))
 refine sd rfl (yC en82 rfl (oc rfl (oc rfl (oc rfl oz))) (Cal.mono (c_i_within p_stage 0 3) ?_))
 rintro v2 w1 ⟨rfl, hE3⟩
 refine sA rfl (dn (CW.ret (rr rfl (.cons rfl .nil) ?_)))
 have hM4 : (i_isStage p_stage) = ((i_within p_stage 0 3)) := by simp only [i_isStage, cL]
 rw [hM4]
 exact ⟨rfl, (Ex.trans (Ex.refl w) hE3)⟩
end Go.Proofs.YtgehpfmdnkmiaaaGreatDoor
