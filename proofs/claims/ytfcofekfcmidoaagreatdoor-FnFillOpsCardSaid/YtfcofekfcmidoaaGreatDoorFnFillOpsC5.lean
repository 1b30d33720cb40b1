/- Fn Fill Ops: what each call returns, part 5. -/
import Derived.Test.YtfcofekfcmidoaaGreatDoorFnFillOpsC4
set_option maxRecDepth 100000
set_option maxHeartbeats 2000000
open Go.Proofs.Tryz Go.Proofs.YtfcofekfcmidoaaGreatDoor.Tryz
set_option linter.unusedVariables false
set_option linter.unusedSimpArgs false
namespace Go.Proofs.YtfcofekfcmidoaaGreatDoor
open Go.RowKit Go.X
theorem c_i_Table_keysIn {A1 : Option Addr} {c1 : Nat} {A2 : Option Addr} {c2 : Nat} {A5 : Option Addr} {c5 : Nat} {w : World} (p_t : DTable) (pn : Str) (ps : List DWrite) (h1 : RdS w (Iv 0 w.heap.size) (RF e_Str) 1 A1 p_t.Cols.length c1 p_t.Cols) (h2 : RdS w (Iv 0 w.heap.size) (RF e_Idx) 3 A2 p_t.Idxs.length c2 p_t.Idxs) (h5 : RdS w (Iv 0 w.heap.size) (RF e_Write) 3 A5 ps.length c5 ps) (o3 : ok_Table p_t) (o4 : okS pn) (o6 : (okL ok_Write) ps) (pre0 : i_hasIdx p_t pn = true) : Cal Tryz.prog 56 #[.agg #[.string (bs (p_t.Name)), .slice A1 p_t.Cols.length c1, .slice A2 p_t.Idxs.length c2], .string (bs (pn)), .slice A5 ps.length c5] w fun v w' => ∃ A_1 c_1 lo_1 hi_1, v = .slice A_1 ((i_Table_keysIn p_t pn ps).length) c_1 ∧ OwnL w' lo_1 hi_1 9 1 (RF e_Str) A_1 ((i_Table_keysIn p_t pn ps).length) c_1 (i_Table_keysIn p_t pn ps) ∧ (okL okS) (i_Table_keysIn p_t pn ps) ∧ (w.heap.size ≤ lo_1 ∧ lo_1 ≤ hi_1 ∧ hi_1 ≤ w'.heap.size) ∧ Ex w w' := by
 have hol7 : p_t.Name.length ≤ 1073741824 := o3.1
 have hol8 := o3.2.1.1
 have hol9 := o3.2.2.1
 have hol10 : pn.length ≤ 1073741824 := o4
 have hol11 := o6.1
 have hgi := f_i_hasIdx pre0
 have hrl := rowsIn_len pre0 ps
 refine Cal.of func56 rfl ntmps56 rfl (cR (sd rfl (yl_box rfl rfl rfl ?_)))
 intro b12 w13 hs14 hz15 hB16 hE17
 refine sA rfl (dn (cR (sd rfl (yl_buildSlice (cs := []) un23 ty9 (by decide) rfl opvs_nil (by kernel_rfl) ?_))))
 intro b18 w19 hs20 hz21 hB22 hE23
 have hO24 : OwnL w19 b18 (b18 + 1) 9 1 (RF e_Str) (some ⟨b18, 0, none⟩) 0 0 ([] : List Str) := OwnL.of_box (S := fun _ => False) hB22 (Nat.le_refl _) (Nat.lt_succ_self _) EncL.nil (nb rfl) (fun h => h) (fun _ h => False.elim h)
 refine sA rfl (dn (CW.seq (cR ?_)))
 have q25 := Box.ex hB16 hE23
 refine sd rfl (yl_loadN ty26 rfl rfl (q25.cells (n := 3) rfl) rfl (sM rfl ?_))
 have q27 := RdS.ex gS (RdS.ex gS h1 hE17) hE23
 have q29 := RdS.ex gI (RdS.ex gI h2 hE17) hE23
 refine sd rfl (yC en93 rfl (oc rfl (oc rfl oz)) (Cal.mono (c_i_Table_rowsIn p_t ps (RdS.up q27 gS) (RdS.up q29 gI) (RdS.up (RdS.ex gW (RdS.ex gW h5 hE17) hE23) gW) o3 o6 (hasIdx_good pre0)) ?_))
 rintro v35 w32 ⟨A33, c33, lo33, hi33, rfl, h33, ho34, hrn37, hE36⟩
 have hE36z := Ex.size hE36
 refine sd rfl (yL un125 rfl rfl (sM rfl (dn (CW.block (CW.loop (fun m104 L105 w106 => ∃ (k38 : Nat) (x100 : List Str) (A101 : Option Addr) (c102 : Nat) (u103 : Nat), m104 = (i_Table_rowsIn p_t ps).length - k38 ∧ k38 ≤ (i_Table_rowsIn p_t ps).length ∧ w32.heap.size ≤ w106.heap.size ∧ lkp L105 1 = some (.string (bs (pn))) ∧ lkp L105 3 = some (.pointer (some ⟨b12, 0, none⟩)) ∧ lkp L105 7 = some (.slice A101 x100.length c102) ∧ lkp L105 13 = some (.slice A33 ((i_Table_rowsIn p_t ps).length) c33) ∧ lkp L105 14 = some (.int .i64 (((i_Table_rowsIn p_t ps).length : Int))) ∧ lkp L105 15 = some (.int .i64 ((k38 : Int))) ∧ Box w106 b12 26 [.string (bs (p_t.Name)), .slice A1 p_t.Cols.length c1, .slice A2 p_t.Idxs.length c2] ∧ RdS w106 (Iv 0 w.heap.size) (RF e_Str) 1 A1 p_t.Cols.length c1 p_t.Cols ∧ RdS w106 (Iv 0 w.heap.size) (RF e_Idx) 3 A2 p_t.Idxs.length c2 p_t.Idxs ∧ OwnL w106 w32.heap.size u103 9 1 (RF e_Str) A101 x100.length c102 x100 ∧ OwnD w106 lo33 hi33 28 1 RO_Row A33 ((i_Table_rowsIn p_t ps).length) c33 (i_Table_rowsIn p_t ps) ∧ Ex w w106 ∧ (w32.heap.size ≤ u103 ∧ u103 ≤ w106.heap.size) ∧ x100.length ≤ 0 + 1 * (k38 - 0) ∧ (∀ y ∈ x100, okS y) ∧ loopM (B_i_Table_keysIn_0 p_t pn ps) ((i_Table_rowsIn p_t ps).length - k38) k38 (x100) = loopM (B_i_Table_keysIn_0 p_t pn ps) ((i_Table_rowsIn p_t ps).length - 0) 0 (([] : List Str))) ((i_Table_rowsIn p_t ps).length - 0) ?_ ?_)))))
 ·exact ⟨0, ([] : List Str), (some ⟨b18, 0, none⟩), 0, w32.heap.size, rfl, oM, Nat.le_refl _, rfl, rfl, rfl, rfl, rfl, rfl, (Box.ex q25 hE36), (RdS.ex gS q27 hE36), (RdS.ex gI q29 hE36), (OwnL.empty w32 w32.heap.size w32.heap.size 9 1 (RF e_Str) (some ⟨b18, 0, none⟩)), h33, (Ex.trans (Ex.trans (Ex.trans (Ex.refl w) hE17) hE23) hE36), oM, (by first | (simp; done) | (first | omega | (simp only [lN, toS_length]; omega))), okE.nil, rfl⟩
 ·rintro m113 L114 w115 ⟨k38, x100, A101, c102, u103, rfl, hk116, hsz118, hl119, hl120, hl121, hl122, hl123, hl124, hf125, hf126, hf127, hf128, hf129, hf130, hu131, hln132, hok133, hI117⟩
  refine CW.sub (Sub.cons hl119 (Sub.cons hl120 (Sub.cons hl121 (Sub.cons hl122 (Sub.cons hl123 (Sub.cons hl124 (Sub.nil _))))))) ?_
  have hf125z := Box.lt hf125
  have hf130z := Ex.size hf130
  have hbg134 := RdS.big (OwnL.rd good_Row (OwnD.own goodO_Row good_Row hf129))
  rcases Nat.lt_or_ge k38 ((i_Table_rowsIn p_t ps).length) with hlt136 | hlt136
  ·have hrow := rowsIn_at pre0 ps hlt136
   refine cR (sd rfl (yl_lss rfl rfl rfl (dn (CW.seq (CW.cond_t rfl (lt_t hlt136) (CW.skip (tn ?_)))))))
   refine CW.seq (CW.block (cR ?_))
   obtain ⟨_, _, _, eA138, _, ebl138, _, eR138, eC138⟩ := RdS.atD (OwnL.rd good_Row (OwnD.own goodO_Row good_Row hf129)) d_Row (i := k38) (by first | omega | assumption)
   obtain ⟨A139, c139, rfl, h139⟩ := eR138
   refine sd rfl (yl_ixN un125 ty28 rfl rfl rfl eA138 (sd rfl (yl_loadN ty28 rfl rfl eC138 rfl (sd rfl (yB ty28 (cs := [.slice none 0 0]) rfl rfl ?_)))))
   intro b140 w141 hs142 hz143 hB144 hE145
   refine SeqR.u rfl rfl (yl_store (vs := [.slice A139 ((((i_Table_rowsIn p_t ps).getD k38 d_Row).Vals).length) c139]) ty28 rfl rfl rfl rfl rfl rfl hB144 (nb rfl) ?_)
   intro w146 hB147 hO148
   have hB147 : Box w146 b140 28 [.slice A139 ((((i_Table_rowsIn p_t ps).getD k38 d_Row).Vals).length) c139] := hB147
   have hO148z := hO148.size
   refine dn (CW.region (sM rfl ?_))
   have q150 := Box.only (Box.ex hf125 hE145) hO148 oM
   refine sd rfl (yl_loadN ty26 rfl rfl (q150.cells (n := 3) rfl) rfl (sM rfl (sd rfl (yl_loadN ty28 rfl rfl (hB147.cells (n := 1) rfl) rfl ?_))))
   have q152 := RdS.only gS (RdS.ex gS hf126 hE145) hO148 (by simp only [Iv]; omega)
   have q154 := RdS.only gI (RdS.ex gI hf127 hE145) hO148 (by simp only [Iv]; omega)
   refine sd rfl (yC en38 rfl (oc rfl (oc rfl (oc rfl oz))) (Cal.mono (c_i_Table_idxKey p_t pn ((i_Table_rowsIn p_t ps).getD k38 d_Row) (RdS.up q152 gS) (RdS.up q154 gI) (RdS.up (RdS.only gS (RdS.ex gS h139 hE145) hO148 (by simp only [Iv]; omega)) gS) o3 o4 (okL.getD ho34 ok_d_Row _) Bo Bo Bo hrow.2) ?_))
   rintro v159 w157 ⟨rfl, ho158, hE160⟩
   have hE160z := Ex.size hE160
   refine sd rfl (yl_buildSlice (cs := [.string (bs ((i_Table_idxKey p_t pn ((i_Table_rowsIn p_t ps).getD k38 d_Row))))]) un23 ty9 (by decide) rfl (oc rfl oz) (by kernel_rfl) ?_)
   intro b161 w162 hs163 hz164 hB165 hE166
   have hO167 : OwnL w162 b161 (b161 + 1) 9 1 (RF e_Str) (some ⟨b161, 0, none⟩) 1 1 ([(i_Table_idxKey p_t pn ((i_Table_rowsIn p_t ps).getD k38 d_Row))] : List Str) := OwnL.of_box (S := fun _ => False) hB165 (Nat.le_refl _) (Nat.lt_succ_self _) (EncL.cons (c := [.string (bs ((i_Table_idxKey p_t pn ((i_Table_rowsIn p_t ps).getD k38 d_Row))))]) rfl rfl EncL.nil) (nb rfl) (fun h => h) (fun _ h => False.elim h)
   refine sd rfl (yl_appendL (S := (fun _ => False)) (lo := w32.heap.size) (hi := u103) (xs := x100) (ys := ([(i_Table_idxKey p_t pn ((i_Table_rowsIn p_t ps).getD k38 d_Row))] : List Str)) gS un23 ty9 rfl (nb rfl) rfl rfl rfl (OwnL.ex gS (OwnL.ex gS (OwnL.only gS (OwnL.ex gS hf128 hE145) hO148 oM) hE160) hE166) (EncL.cons (c := [.string (bs ((i_Table_idxKey p_t pn ((i_Table_rowsIn p_t ps).getD k38 d_Row))))]) rfl rfl EncL.nil) (Or.inr ⟨_, _, rfl, rfl, hB165.cells (o := 0) (n := 1) rfl⟩) rfl Bl Bl oM oM (fun _ h _ => False.elim h) oM ?_)
   intro A172 c173 w174 row175 hO176 hG177 hrg178
   have hG177z := hG177.size
   refine sA rfl (SeqR.done (bn (tn (CW.region (sd rfl (yl_inc rfl rfl rfl oM (sM rfl (dn ?_))))))))
   have hB179 : B_i_Table_keysIn_0 p_t pn ps k38 (x100) = .cont ((x100 ++ ([(i_Table_idxKey p_t pn ((i_Table_rowsIn p_t ps).getD k38 d_Row))] : List Str))) := by simp only [B_i_Table_keysIn_0, cL]
   exact ⟨(i_Table_rowsIn p_t ps).length - (k38 + 1), oM, k38 + 1, (x100 ++ ([(i_Table_idxKey p_t pn ((i_Table_rowsIn p_t ps).getD k38 d_Row))] : List Str)), A172, c173, w174.heap.size, rfl, hlt136, oM, rfl, rfl, rfl, rfl, rfl, rfl, (Box.grown (Box.ex (Box.ex q150 hE160) hE166) hG177 (fun k hk => by have := hrg178 k hk; omega)), (RdS.grown gS (RdS.ex gS (RdS.ex gS q152 hE160) hE166) hG177 (fun k hk => by have := hrg178 k hk; simp only [Iv]; omega)), (RdS.grown gI (RdS.ex gI (RdS.ex gI q154 hE160) hE166) hG177 (fun k hk => by have := hrg178 k hk; simp only [Iv]; omega)), hO176, (OwnD.grown goodO_Row (OwnD.ex goodO_Row (OwnD.ex goodO_Row (OwnD.only goodO_Row (OwnD.ex goodO_Row hf129 hE145) hO148 oM) hE160) hE166) hG177 (fun k hk => by have := hrg178 k hk; omega)), (Below.grown (Ex.trans (Ex.trans (Below.only (Ex.trans hf130 hE145) hO148 oM) hE160) hE166) hG177 oM (fun k hk => by have := hrg178 k hk; omega)), oM, Bl, (okE.append hok133 ((okL.mk (nb rfl) (okE.cons ho158 okE.nil))).2), (loopM.cont hlt136 hB179).symm.trans hI117⟩
  ·refine cR (sd rfl (yl_lss rfl rfl rfl (dn (CW.seq (CW.cond_f rfl (lt_f hlt136) (CW.exit (tx ?_)))))))
   refine tx ?_
   have hL199 : loopM (B_i_Table_keysIn_0 p_t pn ps) ((i_Table_rowsIn p_t ps).length - 0) 0 (([] : List Str)) = .done (x100) := hI117.symm.trans (loopM.stop hlt136)
   refine bx (tn (cR (sM rfl (sA rfl (dn (CW.ret ?_))))))
   refine rr rfl (.cons rfl .nil) ?_
   have hM200 : (i_Table_keysIn p_t pn ps) = (x100) := by simp only [i_Table_keysIn, hL199, cL]
   rw [hM200]
   exact ⟨A101, c102, w32.heap.size, u103, rfl, hf128, (okL.mk (xs := x100) Bl hok133), oM, hf130⟩
theorem c_i_Table_entriesIn {A1 : Option Addr} {c1 : Nat} {A2 : Option Addr} {c2 : Nat} {A5 : Option Addr} {c5 : Nat} {w : World} (p_t : DTable) (pn : Str) (ps : List DWrite) (h1 : RdS w (Iv 0 w.heap.size) (RF e_Str) 1 A1 p_t.Cols.length c1 p_t.Cols) (h2 : RdS w (Iv 0 w.heap.size) (RF e_Idx) 3 A2 p_t.Idxs.length c2 p_t.Idxs) (h5 : RdS w (Iv 0 w.heap.size) (RF e_Write) 3 A5 ps.length c5 ps) (o3 : ok_Table p_t) (o4 : okS pn) (o6 : (okL ok_Write) ps) (pre0 : (p_t.Name.length ≤ 1 ∧ pn.length ≤ 1)) : Cal Tryz.prog 57 #[.agg #[.string (bs (p_t.Name)), .slice A1 p_t.Cols.length c1, .slice A2 p_t.Idxs.length c2], .string (bs (pn)), .slice A5 ps.length c5] w fun v w' => ∃ A_1 c_1 lo_1 hi_1, v = .slice A_1 ((i_Table_entriesIn p_t pn ps).length) c_1 ∧ OwnL w' lo_1 hi_1 9 1 (RF e_Str) A_1 ((i_Table_entriesIn p_t pn ps).length) c_1 (i_Table_entriesIn p_t pn ps) ∧ (okL okS) (i_Table_entriesIn p_t pn ps) ∧ (w.heap.size ≤ lo_1 ∧ lo_1 ≤ hi_1 ∧ hi_1 ≤ w'.heap.size) ∧ Ex w w' := by
 have hol7 : p_t.Name.length ≤ 1073741824 := o3.1
 have hol8 := o3.2.1.1
 have hol9 := o3.2.2.1
 have hol10 : pn.length ≤ 1073741824 := o4
 have hol11 := o6.1
 refine Cal.of func57 rfl ntmps57 rfl (cR (sd rfl (yl_box rfl rfl rfl ?_)))
 intro b12 w13 hs14 hz15 hB16 hE17
 refine sA rfl (dn (cR (sd rfl (yl_buildSlice (cs := []) un23 ty9 (by decide) rfl opvs_nil (by kernel_rfl) ?_))))
 intro b18 w19 hs20 hz21 hB22 hE23
 have hO24 : OwnL w19 b18 (b18 + 1) 9 1 (RF e_Str) (some ⟨b18, 0, none⟩) 0 0 ([] : List Str) := OwnL.of_box (S := fun _ => False) hB22 (Nat.le_refl _) (Nat.lt_succ_self _) EncL.nil (nb rfl) (fun h => h) (fun _ h => False.elim h)
 refine sA rfl (dn (CW.seq (cR (sM rfl (sd rfl (yL un42 rfl rfl (sM rfl ?_)))))))
 refine dn (CW.block (CW.loop (fun m91 L92 w93 => ∃ (k25 : Nat) (x87 : List Str) (A88 : Option Addr) (c89 : Nat) (u90 : Nat), m91 = ps.length - k25 ∧ k25 ≤ ps.length ∧ w19.heap.size ≤ w93.heap.size ∧ lkp L92 1 = some (.string (bs (pn))) ∧ lkp L92 3 = some (.pointer (some ⟨b12, 0, none⟩)) ∧ lkp L92 7 = some (.slice A88 x87.length c89) ∧ lkp L92 14 = some (.slice A5 ps.length c5) ∧ lkp L92 15 = some (.int .i64 ((ps.length : Int))) ∧ lkp L92 16 = some (.int .i64 ((k25 : Int))) ∧ Box w93 b12 26 [.string (bs (p_t.Name)), .slice A1 p_t.Cols.length c1, .slice A2 p_t.Idxs.length c2] ∧ RdS w93 (Iv 0 w.heap.size) (RF e_Str) 1 A1 p_t.Cols.length c1 p_t.Cols ∧ RdS w93 (Iv 0 w.heap.size) (RF e_Idx) 3 A2 p_t.Idxs.length c2 p_t.Idxs ∧ OwnL w93 b18 u90 9 1 (RF e_Str) A88 x87.length c89 x87 ∧ RdS w93 (Iv 0 w.heap.size) (RF e_Write) 3 A5 ps.length c5 ps ∧ Ex w w93 ∧ (b18 ≤ u90 ∧ u90 ≤ w93.heap.size) ∧ x87.length ≤ 0 + 1 * (k25 - 0) ∧ (∀ y ∈ x87, okS y) ∧ loopM (B_i_Table_entriesIn_0 p_t pn ps) (ps.length - k25) k25 (x87) = loopM (B_i_Table_entriesIn_0 p_t pn ps) (ps.length - 0) 0 (([] : List Str))) (ps.length - 0) ?_ ?_))
 ·exact ⟨0, ([] : List Str), (some ⟨b18, 0, none⟩), 0, (b18 + 1), rfl, oM, Nat.le_refl _, rfl, rfl, rfl, rfl, rfl, rfl, (Box.ex hB16 hE23), (RdS.ex gS (RdS.ex gS h1 hE17) hE23), (RdS.ex gI (RdS.ex gI h2 hE17) hE23), hO24, (RdS.ex gW (RdS.ex gW h5 hE17) hE23), (Ex.trans (Ex.trans (Ex.refl w) hE17) hE23), oM, (by first | (simp; done) | (first | omega | (simp only [lN, toS_length]; omega))), okE.nil, rfl⟩
 ·rintro m103 L104 w105 ⟨k25, x87, A88, c89, u90, rfl, hk106, hsz108, hl109, hl110, hl111, hl112, hl113, hl114, hf115, hf116, hf117, hf118, hf119, hf120, hu121, hln122, hok123, hI107⟩
  refine CW.sub (Sub.cons hl109 (Sub.cons hl110 (Sub.cons hl111 (Sub.cons hl112 (Sub.cons hl113 (Sub.cons hl114 (Sub.nil _))))))) ?_
  have hf115z := Box.lt hf115
  have hf120z := Ex.size hf120
  have hbg124 := RdS.big hf119
  rcases Nat.lt_or_ge k25 ps.length with hlt125 | hlt125
  ·refine cR (sd rfl (yl_lss rfl rfl rfl (dn (CW.seq (CW.cond_t rfl (lt_t hlt125) (CW.skip (tn ?_)))))))
   refine CW.seq (CW.block (cR ?_))
   obtain ⟨eb126, eo126, _, eA126, _, ebl126, _, eR126, eC126⟩ := RdS.aD hf119 d_Write (i := k25)
   obtain rfl := eR126
   have eC126 : Cells w105 eb126 (eo126 + k25 * 3) [.string (bs ((ps.getD k25 d_Write).Key)), .string (bs ((ps.getD k25 d_Write).Val)), .bool ((ps.getD k25 d_Write).Gone)] := eC126
   refine sd rfl (yl_ixN un42 ty39 rfl rfl rfl eA126 (sd rfl (yl_loadN ty39 rfl rfl eC126 rfl (sd rfl (yB ty39 (cs := [.string (bs (([] : Str))), .string (bs (([] : Str))), .bool (false)]) rfl rfl ?_)))))
   intro b127 w128 hs129 hz130 hB131 hE132
   refine SeqR.u rfl rfl (yl_store (vs := [.string (bs ((ps.getD k25 d_Write).Key)), .string (bs ((ps.getD k25 d_Write).Val)), .bool ((ps.getD k25 d_Write).Gone)]) ty39 rfl rfl rfl rfl rfl rfl hB131 (nb rfl) ?_)
   intro w133 hB134 hO135
   have hB134 : Box w133 b127 39 [.string (bs ((ps.getD k25 d_Write).Key)), .string (bs ((ps.getD k25 d_Write).Val)), .bool ((ps.getD k25 d_Write).Gone)] := hB134
   have hO135z := hO135.size
   refine dn (cR ?_)
   have q137 := Box.only (Box.ex hf115 hE132) hO135 oM
   refine sd rfl (yl_loadN ty26 rfl rfl (q137.cells (n := 3) rfl) rfl (sM rfl (sd rfl (yl_fieldAddr fd39_0 rfl rfl (sd rfl (yl_load1 ty9 rfl rfl ((hB134.cell 0).trans rfl) ?_))))))
   have q139 := RdS.only gS (RdS.ex gS hf116 hE132) hO135 (by simp only [Iv]; omega)
   have q141 := RdS.only gI (RdS.ex gI hf117 hE132) hO135 (by simp only [Iv]; omega)
   refine sd rfl (yC en46 rfl (oc rfl (oc rfl (oc rfl oz))) (Cal.mono (c_i_Table_readIdxKey p_t pn ((ps.getD k25 d_Write).Key) (RdS.up q139 gS) (RdS.up q141 gI) o3 o4 ((okL.getD o6 ok_d_Write _).1) Bo) ?_))
   rintro v145 w142 ⟨rfl, ho143, ho144, hE146⟩
   have hE146z := Ex.size hE146
   refine sM rfl (sd rfl (yl_extract rfl rfl rfl (sd rfl (yl_extract rfl rfl rfl (sd rfl (yl_extract rfl rfl rfl (sA rfl (sA rfl (sA rfl (dn ?_))))))))))
   refine cR (sM rfl (dn (bcase ((i_Table_readIdxKey p_t pn ((ps.getD k25 d_Write).Key)).2.2) (fun hb147 => ?_) (fun hb147 => ?_))))
   ·refine CW.cond_t rfl hb147 (CW.region (sM rfl (sd rfl (yl_fieldAddr fd39_0 rfl rfl (sd rfl (yl_load1 ty9 rfl rfl (((Box.ex hB134 hE146).cell 0).trans rfl) (sd rfl (yl_buildSlice (cs := [.string (bs ((ps.getD k25 d_Write).Key))]) un23 ty9 (by decide) rfl (oc rfl oz) (by kernel_rfl) ?_))))))))
    intro b149 w150 hs151 hz152 hB153 hE154
    have hO155 : OwnL w150 b149 (b149 + 1) 9 1 (RF e_Str) (some ⟨b149, 0, none⟩) 1 1 ([(ps.getD k25 d_Write).Key] : List Str) := OwnL.of_box (S := fun _ => False) hB153 (Nat.le_refl _) (Nat.lt_succ_self _) (EncL.cons (c := [.string (bs ((ps.getD k25 d_Write).Key))]) rfl rfl EncL.nil) (nb rfl) (fun h => h) (fun _ h => False.elim h)
    refine sd rfl (yl_appendL (S := (fun _ => False)) (lo := b18) (hi := u90) (xs := x87) (ys := ([(ps.getD k25 d_Write).Key] : List Str)) gS un23 ty9 rfl (nb rfl) rfl rfl rfl (OwnL.ex gS (OwnL.ex gS (OwnL.only gS (OwnL.ex gS hf118 hE132) hO135 oM) hE146) hE154) (EncL.cons (c := [.string (bs ((ps.getD k25 d_Write).Key))]) rfl rfl EncL.nil) (Or.inr ⟨_, _, rfl, rfl, hB153.cells (o := 0) (n := 1) rfl⟩) rfl Bl Bl oM oM (fun _ h _ => False.elim h) oM ?_)
    intro A160 c161 w162 row163 hO164 hG165 hrg166
    have hG165z := hG165.size
    refine sA rfl (SeqR.done (bn (tn (CW.region (sd rfl (yl_inc rfl rfl rfl oM (sM rfl (dn ?_))))))))
    have hB167 : B_i_Table_entriesIn_0 p_t pn ps k25 (x87) = .cont ((x87 ++ ([(ps.getD k25 d_Write).Key] : List Str))) := by simp only [B_i_Table_entriesIn_0, hb147, cL]
    exact ⟨ps.length - (k25 + 1), oM, k25 + 1, (x87 ++ ([(ps.getD k25 d_Write).Key] : List Str)), A160, c161, w162.heap.size, rfl, hlt125, oM, rfl, rfl, rfl, rfl, rfl, rfl, (Box.grown (Box.ex (Box.ex q137 hE146) hE154) hG165 (fun k hk => by have := hrg166 k hk; omega)), (RdS.grown gS (RdS.ex gS (RdS.ex gS q139 hE146) hE154) hG165 (fun k hk => by have := hrg166 k hk; simp only [Iv]; omega)), (RdS.grown gI (RdS.ex gI (RdS.ex gI q141 hE146) hE154) hG165 (fun k hk => by have := hrg166 k hk; simp only [Iv]; omega)), hO164, (RdS.grown gW (RdS.ex gW (RdS.ex gW (RdS.only gW (RdS.ex gW hf119 hE132) hO135 (by simp only [Iv]; omega)) hE146) hE154) hG165 (fun k hk => by have := hrg166 k hk; simp only [Iv]; omega)), (Below.grown (Ex.trans (Ex.trans (Below.only (Ex.trans hf120 hE132) hO135 oM) hE146) hE154) hG165 oM (fun k hk => by have := hrg166 k hk; omega)), oM, Bl, (okE.append hok123 ((okL.mk (nb rfl) (okE.cons (okL.getD o6 ok_d_Write _).1 okE.nil))).2), (loopM.cont hlt125 hB167).symm.trans hI107⟩
   ·refine CW.cond_f rfl hb147 (CW.skip (bn (tn (CW.region (sd rfl (yl_inc rfl rfl rfl oM (sM rfl (dn ?_))))))))
    have hB187 : B_i_Table_entriesIn_0 p_t pn ps k25 (x87) = .cont (x87) := by simp only [B_i_Table_entriesIn_0, hb147, cL]
    exact ⟨ps.length - (k25 + 1), oM, k25 + 1, x87, A88, c89, u90, rfl, hlt125, oM, rfl, rfl, rfl, rfl, rfl, rfl, (Box.ex q137 hE146), (RdS.ex gS q139 hE146), (RdS.ex gI q141 hE146), (OwnL.ex gS (OwnL.only gS (OwnL.ex gS hf118 hE132) hO135 oM) hE146), (RdS.ex gW (RdS.only gW (RdS.ex gW hf119 hE132) hO135 (by simp only [Iv]; omega)) hE146), (Ex.trans (Below.only (Ex.trans hf120 hE132) hO135 oM) hE146), oM, Bl, hok123, (loopM.cont hlt125 hB187).symm.trans hI107⟩
  ·refine cR (sd rfl (yl_lss rfl rfl rfl (dn (CW.seq (CW.cond_f rfl (lt_f hlt125) (CW.exit (tx ?_)))))))
   refine tx ?_
   have hL200 : loopM (B_i_Table_entriesIn_0 p_t pn ps) (ps.length - 0) 0 (([] : List Str)) = .done (x87) := hI107.symm.trans (loopM.stop hlt125)
   refine bx (tn (cR (sM rfl (sA rfl (dn (CW.ret ?_))))))
   refine rr rfl (.cons rfl .nil) ?_
   have hM201 : (i_Table_entriesIn p_t pn ps) = (x87) := by simp only [i_Table_entriesIn, hL200, cL]
   rw [hM201]
   exact ⟨A88, c89, b18, u90, rfl, hf118, (okL.mk (xs := x87) Bl hok123), oM, hf120⟩
theorem c_i_Table_lacksIn {A1 : Option Addr} {c1 : Nat} {A2 : Option Addr} {c2 : Nat} {A5 : Option Addr} {c5 : Nat} {w : World} (p_t : DTable) (pn : Str) (ps : List DWrite) (h1 : RdS w (Iv 0 w.heap.size) (RF e_Str) 1 A1 p_t.Cols.length c1 p_t.Cols) (h2 : RdS w (Iv 0 w.heap.size) (RF e_Idx) 3 A2 p_t.Idxs.length c2 p_t.Idxs) (h5 : RdS w (Iv 0 w.heap.size) (RF e_Write) 3 A5 ps.length c5 ps) (o3 : ok_Table p_t) (o4 : okS pn) (o6 : (okL ok_Write) ps) (pre0 : i_hasIdx p_t pn = true) : Cal Tryz.prog 31 #[.agg #[.string (bs (p_t.Name)), .slice A1 p_t.Cols.length c1, .slice A2 p_t.Idxs.length c2], .string (bs (pn)), .slice A5 ps.length c5] w fun v w' => ∃ A_1 c_1 lo_1 hi_1, v = .slice A_1 ((i_Table_lacksIn p_t pn ps).length) c_1 ∧ OwnL w' lo_1 hi_1 9 1 (RF e_Str) A_1 ((i_Table_lacksIn p_t pn ps).length) c_1 (i_Table_lacksIn p_t pn ps) ∧ (okL okS) (i_Table_lacksIn p_t pn ps) ∧ (w.heap.size ≤ lo_1 ∧ lo_1 ≤ hi_1 ∧ hi_1 ≤ w'.heap.size) ∧ Ex w w' := by
 have hol7 : p_t.Name.length ≤ 1073741824 := o3.1
 have hol8 := o3.2.1.1
 have hol9 := o3.2.2.1
 have hol10 : pn.length ≤ 1073741824 := o4
 have hol11 := o6.1
 have hgi := f_i_hasIdx pre0
 refine Cal.of func31 rfl ntmps31 rfl (cR (sd rfl (yl_box rfl rfl rfl ?_)))
 intro b12 w13 hs14 hz15 hB16 hE17
 refine sA rfl (dn (CW.seq ?_))
 have q18 := RdS.ex gS h1 hE17
 have q19 := RdS.ex gI h2 hE17
 have q20 := RdS.ex gW h5 hE17
 refine CW.drawsI 7 (vgetI [DetI (.agg #[.string (bs (p_t.Name)), .slice A1 p_t.Cols.length c1, .slice A2 p_t.Idxs.length c2]), DetI (.string (bs (pn))), DetI (.slice A5 ps.length c5), fun lo hi v wq => ∃ A22 c22 lo22 hi22, v = .slice A22 ((i_Table_keysIn p_t pn ps).length) c22 ∧ OwnL wq lo22 hi22 9 1 (RF e_Str) A22 ((i_Table_keysIn p_t pn ps).length) c22 (i_Table_keysIn p_t pn ps) ∧ (okL okS) (i_Table_keysIn p_t pn ps) ∧ (lo ≤ lo22 ∧ lo22 ≤ hi22 ∧ hi22 ≤ hi), DetI (.agg #[.string (bs (p_t.Name)), .slice A1 p_t.Cols.length c1, .slice A2 p_t.Idxs.length c2]), DetI (.string (bs (pn))), DetI (.slice A5 ps.length c5)]) Tryz.follows rfl rfl rfl rfl rfl rfl (vgetI_stable ⟨StableI.det _, StableI.det _, StableI.det _, (fun _ _ _ _ _ ⟨A22, c22, lo22, hi22, hv, h22, ho23, hr0⟩ e => ⟨A22, c22, lo22, hi22, hv, OwnL.ex gS h22 e, ho23, hr0⟩), StableI.det _, StableI.det _, StableI.det _, trivial⟩) ⟨?_, ?_, ?_, ?_, ?_, ?_, ?_, trivial⟩ ?_
 ·exact oI rfl fun h => yl_loadN ty26 rfl (h.old 3 _ rfl rfl) ((Box.ex hB16 h.ex).cells (n := 3) rfl) rfl kI
 ·exact oI rfl fun h => yM rfl (h.old 1 _ rfl rfl) kI
 ·exact oI rfl fun h => yM rfl (h.old 2 _ rfl rfl) kI
 ·intro L40 w41 hi42
  have hE43 := hi42.ex
  refine OpR.op' rfl (yC en56 rfl (oc (hi42.dt 0 7 rfl rfl rfl) (oc (hi42.dt 1 8 rfl rfl rfl) (oc (hi42.dt 2 9 rfl rfl rfl) oz))) (Cal.mono (c_i_Table_keysIn p_t pn ps (RdS.up (RdS.ex gS q18 hE43) gS) (RdS.up (RdS.ex gI q19 hE43) gI) (RdS.up (RdS.ex gW q20 hE43) gW) o3 o4 o6 pre0) ?_))
  rintro v53 w50 ⟨A51, c51, lo51, hi51, rfl, h51, ho52, hrn55, hE54⟩
  exact ⟨⟨A51, c51, lo51, hi51, rfl, h51, ho52, hrn55⟩, hE54⟩
 ·exact oI rfl fun h => yl_loadN ty26 rfl (h.old 3 _ rfl rfl) ((Box.ex hB16 h.ex).cells (n := 3) rfl) rfl kI
 ·exact oI rfl fun h => yM rfl (h.old 1 _ rfl rfl) kI
 ·exact oI rfl fun h => yM rfl (h.old 2 _ rfl rfl) kI
 ·intro fl75 fh76 L72 w73 hp74
  have hE77 := hp74.ex
  have hE77z := Ex.size hE77
  have hr79 := hp74.rng 3 rfl
  obtain ⟨_, hx78, A22_80, c22_81, lo22_82, hi22_83, rfl, h84, h85, hrn86⟩ := hp74.new 3 10 rfl rfl
  refine sd rfl (yC en57 rfl (oc (hp74.nt 4 11 rfl rfl rfl) (oc (hp74.nt 5 12 rfl rfl rfl) (oc (hp74.nt 6 13 rfl rfl rfl) oz))) (Cal.mono (c_i_Table_entriesIn p_t pn ps (RdS.up (RdS.ex gS q18 hE77) gS) (RdS.up (RdS.ex gI q19 hE77) gI) (RdS.up (RdS.ex gW q20 hE77) gW) o3 o4 o6 Bo) ?_))
  rintro v96 w93 ⟨A94, c94, lo94, hi94, rfl, h94, ho95, hrn98, hE97⟩
  have hE97z := Ex.size hE97
  refine sd rfl (yC en55 rfl (oc hx78 (oc rfl oz)) (Cal.mono (c_i_without (i_Table_keysIn p_t pn ps) (i_Table_entriesIn p_t pn ps) (RdS.up (OwnL.rd gS (OwnL.ex gS h84 hE97)) gS) (RdS.up (OwnL.rd gS h94) gS) h85 ho95) ?_))
  rintro v105 w102 ⟨A103, c103, lo103, hi103, rfl, h103, ho104, hrn107, hE106⟩
  have hE106z := Ex.size hE106
  refine sA rfl (dn (CW.sub (sC 6 rfl (Sub.nil _)) (CW.ret (rr rfl (.cons rfl .nil) ?_))))
  have hM108 : (i_Table_lacksIn p_t pn ps) = ((i_without (i_Table_keysIn p_t pn ps) (i_Table_entriesIn p_t pn ps))) := by simp only [i_Table_lacksIn, cL]
  rw [hM108]
  exact ⟨A103, c103, lo103, hi103, rfl, h103, ho104, oM, (Ex.trans (Ex.trans (Ex.trans (Ex.trans (Ex.refl w) hE17) hE77) hE97) hE106)⟩
theorem c_i_LacksIn {A1 : Option Addr} {c1 : Nat} {A2 : Option Addr} {c2 : Nat} {A5 : Option Addr} {c5 : Nat} {w : World} (p_t : DTable) (pn : Str) (ps : List DWrite) (h1 : RdS w (Iv 0 w.heap.size) (RF e_Str) 1 A1 p_t.Cols.length c1 p_t.Cols) (h2 : RdS w (Iv 0 w.heap.size) (RF e_Idx) 3 A2 p_t.Idxs.length c2 p_t.Idxs) (h5 : RdS w (Iv 0 w.heap.size) (RF e_Write) 3 A5 ps.length c5 ps) (o3 : ok_Table p_t) (o4 : okS pn) (o6 : (okL ok_Write) ps) : Cal Tryz.prog 13 #[.agg #[.string (bs (p_t.Name)), .slice A1 p_t.Cols.length c1, .slice A2 p_t.Idxs.length c2], .string (bs (pn)), .slice A5 ps.length c5] w fun v w' => ∃ A_1 c_1 lo_1 hi_1, v = .tuple #[.slice A_1 (((i_LacksIn p_t pn ps).1).length) c_1, .bool ((i_LacksIn p_t pn ps).2)] ∧ OwnL w' lo_1 hi_1 9 1 (RF e_Str) A_1 (((i_LacksIn p_t pn ps).1).length) c_1 ((i_LacksIn p_t pn ps).1) ∧ (okL okS) ((i_LacksIn p_t pn ps).1) ∧ (w.heap.size ≤ lo_1 ∧ lo_1 ≤ hi_1 ∧ hi_1 ≤ w'.heap.size) ∧ Ex w w' := by
 have hol7 : p_t.Name.length ≤ 1073741824 := o3.1
 have hol8 := o3.2.1.1
 have hol9 := o3.2.2.1
 have hol10 : pn.length ≤ 1073741824 := o4
 have hol11 := o6.1
 refine Cal.of func13 rfl ntmps13 rfl (cR (sd rfl (yl_box rfl rfl rfl ?_)))
 intro b12 w13 hs14 hz15 hB16 hE17
 refine sA rfl (sA rfl (dn (CW.seq (cR (sd rfl (yl_loadN ty26 rfl rfl (hB16.cells (n := 3) rfl) rfl (sM rfl ?_)))))))
 refine sM rfl ?_
 have q18 := RdS.ex gS h1 hE17
 have q19 := RdS.ex gI h2 hE17
 have q20 := RdS.ex gW h5 hE17
 refine sd rfl (yC en30 rfl (oc rfl (oc rfl (oc rfl oz))) (Cal.mono (c_i_isIdxStore p_t pn ps (RdS.up q18 gS) (RdS.up q19 gI) (RdS.up q20 gW) o3 o4 o6) ?_))
 rintro v22 w21 ⟨rfl, hE23⟩
 have hE23z := Ex.size hE23
 refine sd rfl (yl_not rfl rfl (dn (bcase (i_isIdxStore p_t pn ps) (fun hb24 => ?_) (fun hb24 => ?_))))
 ·have hb24p := f_isIdxStore hb24
  refine CW.cond_f rfl (not_t hb24) (CW.skip (tn (cR (sd rfl (yl_loadN ty26 rfl rfl ((Box.ex hB16 hE23).cells (n := 3) rfl) rfl (sM rfl (sM rfl (sd rfl (yC en31 rfl (oc rfl (oc rfl (oc rfl oz))) (Cal.mono (c_i_Table_lacksIn p_t pn ps (RdS.up (RdS.ex gS q18 hE23) gS) (RdS.up (RdS.ex gI q19 hE23) gI) (RdS.up (RdS.ex gW q20 hE23) gW) o3 o4 o6 (isIdxStore_has hb24)) ?_))))))))))
  rintro v32 w29 ⟨A30, c30, lo30, hi30, rfl, h30, ho31, hrn34, hE33⟩
  have hE33z := Ex.size hE33
  refine sA rfl (sA rfl (dn (CW.ret (rr rfl (.cons rfl (.cons rfl .nil)) ?_))))
  have hM35 : (i_LacksIn p_t pn ps) = (((i_Table_lacksIn p_t pn ps), true)) := by simp only [i_LacksIn, hb24, cL]
  rw [hM35]
  exact ⟨A30, c30, lo30, hi30, rfl, h30, ho31, oM, (Ex.trans (Ex.trans (Ex.trans (Ex.refl w) hE17) hE23) hE33)⟩
 ·refine CW.cond_t rfl (not_f hb24) (cR (sA rfl (sA rfl (dn (CW.ret (tr ?_))))))
  refine rr rfl (.cons rfl (.cons rfl .nil)) ?_
  have hM39 : (i_LacksIn p_t pn ps) = ((([] : List Str), false)) := by simp only [i_LacksIn, hb24, cL]
  rw [hM39]
  exact ⟨none, 0, w21.heap.size, w21.heap.size, rfl, (OwnL.nil _ _ _ _ _ _), (okL.nil _), oM, (Ex.trans (Ex.trans (Ex.refl w) hE17) hE23)⟩
@[reducible] def Y0_45 (p_0 : List Int) := ([(i_FillOps ((s_DrawFillOps p_0).1) ((s_DrawFillOps p_0).2.1) ((s_DrawFillOps p_0).2.2)).1] : List (List DOp))
@[reducible] def Y1_45 (p_1 : List Int) := ([(i_ClearOps ((s_DrawClearOps p_1).1) ((s_DrawClearOps p_1).2.1) ((s_DrawClearOps p_1).2.2)).1] : List (List DOp))
@[reducible] def Y2_45 (p_1 : List Int) := ([(⟨(s_DrawClearOps p_1).2.2, ([] : Str), false⟩ : DWrite)] : List DWrite)
@[reducible] def Y3_45 (p_0 : List Int) := ([(s_RowWrite ((s_DrawFillOps p_0).1) ((s_DrawFillOps p_0).2.2)).1] : List DWrite)
theorem c_l_FnFillOps {A1 : Option Addr} {c1 : Nat} {A2 : Option Addr} {c2 : Nat} {w : World} (p_0 : List Int) (p_1 : List Int) (h1 : RdS w (Iv 0 w.heap.size) (RF e_U8) 1 A1 p_0.length c1 p_0) (h2 : RdS w (Iv 0 w.heap.size) (RF e_U8) 1 A2 p_1.length c2 p_1) (pre0 : codeOk p_0) (pre1 : codeOk p_1) : Cal Tryz.prog 3 #[.slice A1 p_0.length c1, .slice A2 p_1.length c2] w fun v w' => v = .bool ((l_FnFillOps p_0 p_1)) ∧ Ex w w' := by
 have hbg1 := RdS.big h1
 have hbg2 := RdS.big h2
 have hwr : IntKind.wrap .i64 ((p_0.length : Int) + (p_1.length : Int)) = (p_0.length : Int) + (p_1.length : Int) := wrap_in oM
 refine Cal.of func3 rfl ntmps3 rfl (cR (sA rfl (dn (CW.seq (cR ?_)))))
 refine sM rfl (sd rfl (yL un22 rfl rfl (sM rfl (sd rfl (yL un22 rfl rfl (sd rfl (yl_add rfl rfl rfl (sd rfl (yl_gtr rfl rfl rfl (dn (bcase (decide (1048576 < (IntKind.wrap .i64 ((p_0.length : Int) + (p_1.length : Int))))) (fun hb3 => ?_) (fun hb3 => ?_))))))))))))
 ·have hb3p := dec_t hb3
  refine CW.cond_t rfl hb3 (cR (sA rfl (dn (CW.ret (tr (rr rfl (.cons rfl .nil) ?_))))))
  have hM4 : (l_FnFillOps p_0 p_1) = (true) := by simp only [l_FnFillOps, hb3, cL]
  rw [hM4]
  exact ⟨rfl, (Ex.refl w)⟩
 ·have hb3p := dec_f hb3
  refine CW.cond_f rfl hb3 (CW.skip (tn (cR (sM rfl (sd rfl (yC en4 rfl (oc rfl oz) (Cal.mono (c_s_DrawFillOps p_0 (RdS.up h1 gU) (okL.mk (xs := p_0) (by first | omega | (simp only [lN]; omega)) fun _ _ => trivial) (by assumption)) ?_)))))))
  rintro v12 w5 ⟨A6, c6, A7, c7, lo7, hi7, A8, c8, lo8, hi8, rfl, h6, h7, h8, ho9, ho10, ho11, hrn14, hrn15, hrn16, hE13⟩
  have hE13z := Ex.size hE13
  refine sM rfl (sd rfl (yl_extract rfl rfl rfl (sd rfl (yl_extract rfl rfl rfl (sd rfl (yl_extract rfl rfl rfl (sd rfl (yB ty26 (cs := [.string (bs (([] : Str))), .slice none 0 0, .slice none 0 0]) rfl rfl ?_))))))))
  intro b17 w18 hs19 hz20 hB21 hE22
  refine sd rfl (yB ty28 (cs := [.slice none 0 0]) rfl rfl ?_)
  intro b23 w24 hs25 hz26 hB27 hE28
  refine SeqR.u rfl rfl (yl_store (vs := [.string (bs ((s_DrawFillOps p_0).1.Name)), .slice A6 (((s_DrawFillOps p_0).1.Cols).length) c6, .slice A7 (((s_DrawFillOps p_0).1.Idxs).length) c7]) ty26 rfl rfl rfl rfl rfl rfl (Box.ex hB21 hE28) (nb rfl) ?_)
  intro w30 hB31 hO32
  have hB31 : Box w30 b17 26 [.string (bs ((s_DrawFillOps p_0).1.Name)), .slice A6 (((s_DrawFillOps p_0).1.Cols).length) c6, .slice A7 (((s_DrawFillOps p_0).1.Idxs).length) c7] := hB31
  have hO32z := hO32.size
  refine sA rfl (SeqR.u rfl rfl (yl_store (vs := [.slice A8 (((s_DrawFillOps p_0).2.2.Vals).length) c8]) ty28 rfl rfl rfl rfl rfl rfl (Box.only hB27 hO32 oM) (nb rfl) ?_))
  intro w34 hB35 hO36
  have hB35 : Box w34 b23 28 [.slice A8 (((s_DrawFillOps p_0).2.2.Vals).length) c8] := hB35
  have hO36z := hO36.size
  refine dn (cR ?_)
  have q37 := Box.only hB31 hO36 oM
  refine sd rfl (yl_loadN ty26 rfl rfl (q37.cells (n := 3) rfl) rfl (sM rfl (sd rfl (yl_loadN ty28 rfl rfl (hB35.cells (n := 1) rfl) rfl ?_))))
  have q41 := RdS.only gS (RdS.only gS (RdS.ex gS (RdS.ex gS h6 hE22) hE28) hO32 (by simp only [Iv]; omega)) hO36 (by simp only [Iv]; omega)
  have q46 := OwnL.only gI (OwnL.only gI (OwnL.ex gI (OwnL.ex gI h7 hE22) hE28) hO32 oM) hO36 oM
  have q51 := OwnL.only gS (OwnL.only gS (OwnL.ex gS (OwnL.ex gS h8 hE22) hE28) hO32 oM) hO36 oM
  refine sd rfl (yC en5 rfl (oc rfl (oc rfl (oc rfl oz))) (Cal.mono (c_i_FillOps ((s_DrawFillOps p_0).1) ((s_DrawFillOps p_0).2.1) ((s_DrawFillOps p_0).2.2) (RdS.up q41 gS) (RdS.up (OwnL.rd gI q46) gI) (RdS.up (OwnL.rd gS q51) gS) ho9 ho10 ho11) ?_))
  rintro v54 w52 ⟨A53, c53, lo53, hi53, rfl, h53, hrn56, hE55⟩
  have hE55z := Ex.size hE55
  refine sM rfl (sd rfl (yl_extract rfl rfl rfl (sd rfl (yl_extract rfl rfl rfl (sA rfl (sA rfl (dn (cR ?_))))))))
  have q57 := Box.ex q37 hE55
  refine sd rfl (yl_loadN ty26 rfl rfl (q57.cells (n := 3) rfl) rfl (sM rfl ?_))
  have q58 := Box.ex hB35 hE55
  refine sd rfl (yl_loadN ty28 rfl rfl (q58.cells (n := 1) rfl) rfl ?_)
  have q59 := RdS.ex gS q41 hE55
  have q61 := OwnL.ex gI q46 hE55
  have q63 := OwnL.ex gS q51 hE55
  refine sd rfl (yC en6 rfl (oc rfl (oc rfl (oc rfl oz))) (Cal.mono (c_s_FillOps ((s_DrawFillOps p_0).1) ((s_DrawFillOps p_0).2.1) ((s_DrawFillOps p_0).2.2) (RdS.up q59 gS) (RdS.up (OwnL.rd gI q61) gI) (RdS.up (OwnL.rd gS q63) gS) ho9 ho10 ho11) ?_))
  rintro v67 w64 ⟨A65, c65, lo65, hi65, rfl, h65, ho66, hrn69, hE68⟩
  have hE68z := Ex.size hE68
  refine sM rfl (sd rfl (yl_extract rfl rfl rfl (sd rfl (yl_extract rfl rfl rfl (sA rfl (sA rfl (dn (cR ?_))))))))
  refine sM rfl (sd rfl (yC en7 rfl (oc rfl oz) (Cal.mono (c_s_DrawClearOps p_1 (RdS.up (RdS.ex gU (RdS.ex gU (RdS.only gU (RdS.only gU (RdS.ex gU (RdS.ex gU (RdS.ex gU h2 hE13) hE22) hE28) hO32 (by simp only [Iv]; omega)) hO36 (by simp only [Iv]; omega)) hE55) hE68) gU) (okL.mk (xs := p_1) (by first | omega | (simp only [lN]; omega)) fun _ _ => trivial) (by assumption)) ?_)))
  rintro v83 w77 ⟨A78, c78, lo78, hi78, A79, c79, lo79, hi79, rfl, h78, h79, ho80, ho81, ho82, hrn85, hrn86, hrn87, hE84⟩
  have hE84z := Ex.size hE84
  refine sM rfl (sd rfl (yl_extract rfl rfl rfl (sd rfl (yl_extract rfl rfl rfl (sd rfl (yl_extract rfl rfl rfl (sd rfl (yB ty26 (cs := [.string (bs (([] : Str))), .slice none 0 0, .slice none 0 0]) rfl rfl ?_))))))))
  intro b88 w89 hs90 hz91 hB92 hE93
  refine SeqR.u rfl rfl (yl_store (vs := [.string (bs ((s_DrawClearOps p_1).1.Name)), .slice A78 (((s_DrawClearOps p_1).1.Cols).length) c78, .slice A79 (((s_DrawClearOps p_1).1.Idxs).length) c79]) ty26 rfl rfl rfl rfl rfl rfl hB92 (nb rfl) ?_)
  intro w94 hB95 hO96
  have hB95 : Box w94 b88 26 [.string (bs ((s_DrawClearOps p_1).1.Name)), .slice A78 (((s_DrawClearOps p_1).1.Cols).length) c78, .slice A79 (((s_DrawClearOps p_1).1.Idxs).length) c79] := hB95
  have hO96z := hO96.size
  refine sA rfl (sA rfl (dn (cR (sd rfl (yl_loadN ty26 rfl rfl (hB95.cells (n := 3) rfl) rfl (sM rfl (sM rfl ?_)))))))
  have q99 := OwnL.only gS (OwnL.ex gS h78 hE93) hO96 oM
  have q102 := OwnL.only gI (OwnL.ex gI h79 hE93) hO96 oM
  refine sd rfl (yC en8 rfl (oc rfl (oc rfl (oc rfl oz))) (Cal.mono (c_i_ClearOps ((s_DrawClearOps p_1).1) ((s_DrawClearOps p_1).2.1) ((s_DrawClearOps p_1).2.2) (RdS.up (OwnL.rd gS q99) gS) (RdS.up (OwnL.rd gI q102) gI) ho80 ho81 ho82) ?_))
  rintro v106 w103 ⟨A104, c104, lo104, hi104, rfl, h104, ho105, hrn108, hE107⟩
  have hE107z := Ex.size hE107
  refine sM rfl (sd rfl (yl_extract rfl rfl rfl (sd rfl (yl_extract rfl rfl rfl (sA rfl (sA rfl (dn (cR ?_))))))))
  refine sd rfl (yl_loadN ty26 rfl rfl ((Box.ex hB95 hE107).cells (n := 3) rfl) rfl (sM rfl (sM rfl (sd rfl (yC en9 rfl (oc rfl (oc rfl (oc rfl oz))) (Cal.mono (c_s_ClearOps ((s_DrawClearOps p_1).1) ((s_DrawClearOps p_1).2.1) ((s_DrawClearOps p_1).2.2) (RdS.up (OwnL.rd gS (OwnL.ex gS q99 hE107)) gS) (RdS.up (OwnL.rd gI (OwnL.ex gI q102 hE107)) gI) ho80 ho81 ho82) ?_))))))
  rintro v117 w114 ⟨A115, c115, lo115, hi115, rfl, h115, ho116, hrn119, hE118⟩
  have hE118z := Ex.size hE118
  have y2 := Ex.trans (Ex.trans (Below.only (Ex.trans (Ex.trans (Ex.trans (Ex.trans (Below.only (Below.only (Ex.trans (Ex.trans (Ex.trans (Ex.refl w) hE13) hE22) hE28) hO32 oM) hO36 oM) hE55) hE68) hE84) hE93) hO96 oM) hE107) hE118
  refine sM rfl (sd rfl (yl_extract rfl rfl rfl (sd rfl (yl_extract rfl rfl rfl (sA rfl (sA rfl (dn (CW.seq (CW.seq ?_)))))))))
  refine CW.region (sM rfl (sM rfl (sd rfl (yl_bneq un4 rfl rfl rfl (sM rfl (bcase (((i_FillOps ((s_DrawFillOps p_0).1) ((s_DrawFillOps p_0).2.1) ((s_DrawFillOps p_0).2.2)).2) == ((s_FillOps ((s_DrawFillOps p_0).1) ((s_DrawFillOps p_0).2.1) ((s_DrawFillOps p_0).2.2)).2)) (fun hb120 => ?_) (fun hb120 => ?_)))))))
  ·refine sy rfl rfl (not_t hb120) (yM rfl rfl (sy rfl rfl (not_t hb120) (yM rfl rfl ?_)))
   have q127 := OwnL.ex good_Op (OwnL.ex good_Op (OwnL.only good_Op (OwnL.ex good_Op (OwnL.ex good_Op (OwnL.ex good_Op h53 hE68) hE84) hE93) hO96 oM) hE107) hE118
   refine sy rfl rfl (not_t hb120) (yC en10 rfl (oc rfl (oc rfl oz)) (Cal.mono (c_l_qSameOps ((i_FillOps ((s_DrawFillOps p_0).1) ((s_DrawFillOps p_0).2.1) ((s_DrawFillOps p_0).2.2)).1) ((s_FillOps ((s_DrawFillOps p_0).1) ((s_DrawFillOps p_0).2.1) ((s_DrawFillOps p_0).2.2)).1) (RdS.up (OwnL.rd good_Op q127) good_Op) (RdS.up (OwnL.rd good_Op (OwnL.ex good_Op (OwnL.ex good_Op (OwnL.only good_Op (OwnL.ex good_Op (OwnL.ex good_Op h65 hE84) hE93) hO96 oM) hE107) hE118)) good_Op) (ok_FillOps _ _ _) ho66) ?_))
   rintro v135 w134 ⟨rfl, hE136⟩
   have hE136z := Ex.size hE136
   have y0 := Ex.trans y2 hE136
   refine sy rfl rfl (not_t hb120) (yl_not rfl rfl (sd rfl (yl_pick_f rfl rfl (not_t hb120) rfl (sM rfl (bcase (l_qSameOps ((i_FillOps ((s_DrawFillOps p_0).1) ((s_DrawFillOps p_0).2.1) ((s_DrawFillOps p_0).2.2)).1) ((s_FillOps ((s_DrawFillOps p_0).1) ((s_DrawFillOps p_0).2.1) ((s_DrawFillOps p_0).2.2)).1)) (fun hb137 => ?_) (fun hb137 => ?_))))))
   ·refine sy rfl rfl (not_t hb137) (yM rfl rfl (sy rfl rfl (not_t hb137) (yM rfl rfl (sy rfl rfl (not_t hb137) (yl_bneq un4 rfl rfl rfl (sd rfl (yl_pick_f rfl rfl (not_t hb137) rfl (sM rfl (bcase (((i_ClearOps ((s_DrawClearOps p_1).1) ((s_DrawClearOps p_1).2.1) ((s_DrawClearOps p_1).2.2)).2) == ((s_ClearOps ((s_DrawClearOps p_1).1) ((s_DrawClearOps p_1).2.1) ((s_DrawClearOps p_1).2.2)).2)) (fun hb138 => ?_) (fun hb138 => ?_))))))))))
    ·refine sy rfl rfl (not_t hb138) (yM rfl rfl (sy rfl rfl (not_t hb138) (yM rfl rfl ?_)))
     have q141 := OwnL.ex good_Op (OwnL.ex good_Op h104 hE118) hE136
     refine sy rfl rfl (not_t hb138) (yC en10 rfl (oc rfl (oc rfl oz)) (Cal.mono (c_l_qSameOps ((i_ClearOps ((s_DrawClearOps p_1).1) ((s_DrawClearOps p_1).2.1) ((s_DrawClearOps p_1).2.2)).1) ((s_ClearOps ((s_DrawClearOps p_1).1) ((s_DrawClearOps p_1).2.1) ((s_DrawClearOps p_1).2.2)).1) (RdS.up (OwnL.rd good_Op q141) good_Op) (RdS.up (OwnL.rd good_Op (OwnL.ex good_Op h115 hE136)) good_Op) ho105 ho116) ?_))
     rintro v145 w144 ⟨rfl, hE146⟩
     have hE146z := Ex.size hE146
     refine sy rfl rfl (not_t hb138) (yl_not rfl rfl (sd rfl (yl_pick_f rfl rfl (not_t hb138) rfl (dn (bcase (l_qSameOps ((i_ClearOps ((s_DrawClearOps p_1).1) ((s_DrawClearOps p_1).2.1) ((s_DrawClearOps p_1).2.2)).1) ((s_ClearOps ((s_DrawClearOps p_1).1) ((s_DrawClearOps p_1).2.1) ((s_DrawClearOps p_1).2.2)).1)) (fun hb147 => ?_) (fun hb147 => ?_))))))
     ·refine CW.cond_f rfl (not_t hb147) (CW.skip (tn (CW.seq (cR (sM rfl (dn ?_))))))
      refine bcase ((i_FillOps ((s_DrawFillOps p_0).1) ((s_DrawFillOps p_0).2.1) ((s_DrawFillOps p_0).2.2)).2) (fun hb148 => ?_) (fun hb148 => ?_)
      ·refine CW.cond_t rfl hb148 (cR ?_)
       have q156 := Box.ex (Box.ex (Box.ex (Box.ex (Box.only (Box.ex (Box.ex (Box.ex q57 hE68) hE84) hE93) hO96 oM) hE107) hE118) hE136) hE146
       refine sd rfl (yl_loadN ty26 rfl rfl (q156.cells (n := 3) rfl) rfl (sd rfl (yl_loadN ty28 rfl rfl ((Box.ex (Box.ex (Box.ex (Box.ex (Box.only (Box.ex (Box.ex (Box.ex q58 hE68) hE84) hE93) hO96 oM) hE107) hE118) hE136) hE146).cells (n := 1) rfl) rfl ?_)))
       have q172 := RdS.ex gS (RdS.ex gS (RdS.ex gS (RdS.ex gS (RdS.only gS (RdS.ex gS (RdS.ex gS (RdS.ex gS q59 hE68) hE84) hE93) hO96 (by simp only [Iv]; omega)) hE107) hE118) hE136) hE146
       have q181 := OwnL.ex gI (OwnL.ex gI (OwnL.ex gI (OwnL.ex gI (OwnL.only gI (OwnL.ex gI (OwnL.ex gI (OwnL.ex gI q61 hE68) hE84) hE93) hO96 oM) hE107) hE118) hE136) hE146
       refine sd rfl (yC en11 rfl (oc rfl (oc rfl oz)) (Cal.mono (c_s_RowWrite ((s_DrawFillOps p_0).1) ((s_DrawFillOps p_0).2.2) (RdS.up q172 gS) (RdS.up (OwnL.rd gI q181) gI) (RdS.up (OwnL.rd gS (OwnL.ex gS (OwnL.ex gS (OwnL.ex gS (OwnL.ex gS (OwnL.only gS (OwnL.ex gS (OwnL.ex gS (OwnL.ex gS q63 hE68) hE84) hE93) hO96 oM) hE107) hE118) hE136) hE146)) gS) ho9 ho11) ?_))
       rintro v193 w191 ⟨rfl, ho192, hE194⟩
       have hE194z := Ex.size hE194
       refine sM rfl (sd rfl (yl_extract rfl rfl rfl (sd rfl (yl_extract rfl rfl rfl (sd rfl (yB ty39 (cs := [.string (bs (([] : Str))), .string (bs (([] : Str))), .bool (false)]) rfl rfl ?_))))))
       intro b195 w196 hs197 hz198 hB199 hE200
       refine SeqR.u rfl rfl (yl_store (vs := [.string (bs ((s_RowWrite ((s_DrawFillOps p_0).1) ((s_DrawFillOps p_0).2.2)).1.Key)), .string (bs ((s_RowWrite ((s_DrawFillOps p_0).1) ((s_DrawFillOps p_0).2.2)).1.Val)), .bool ((s_RowWrite ((s_DrawFillOps p_0).1) ((s_DrawFillOps p_0).2.2)).1.Gone)]) ty39 rfl rfl rfl rfl rfl rfl hB199 (nb rfl) ?_)
       intro w201 hB202 hO203
       have hB202 : Box w201 b195 39 [.string (bs ((s_RowWrite ((s_DrawFillOps p_0).1) ((s_DrawFillOps p_0).2.2)).1.Key)), .string (bs ((s_RowWrite ((s_DrawFillOps p_0).1) ((s_DrawFillOps p_0).2.2)).1.Val)), .bool ((s_RowWrite ((s_DrawFillOps p_0).1) ((s_DrawFillOps p_0).2.2)).1.Gone)] := hB202
       have hO203z := hO203.size
       refine sA rfl (dn (cR (sd rfl (yl_loadN ty39 rfl rfl (hB202.cells (n := 3) rfl) rfl (sd rfl (yl_buildSlice (cs := [.string (bs ((s_RowWrite ((s_DrawFillOps p_0).1) ((s_DrawFillOps p_0).2.2)).1.Key)), .string (bs ((s_RowWrite ((s_DrawFillOps p_0).1) ((s_DrawFillOps p_0).2.2)).1.Val)), .bool ((s_RowWrite ((s_DrawFillOps p_0).1) ((s_DrawFillOps p_0).2.2)).1.Gone)]) un42 ty39 (by decide) rfl (oc rfl oz) (by kernel_rfl) ?_))))))
       intro b204 w205 hs206 hz207 hB208 hE209
       have y4 := OwnL.ex good_Op (OwnL.only good_Op (OwnL.ex good_Op (OwnL.ex good_Op (OwnL.ex good_Op (OwnL.ex good_Op q127 hE136) hE146) hE194) hE200) hO203 oM) hE209
       have hO210 : OwnL w205 b204 (b204 + 1) 39 3 (RF e_Write) (some ⟨b204, 0, none⟩) 1 1 (Y3_45 p_0) := OwnL.of_box (S := fun _ => False) hB208 (Nat.le_refl _) (Nat.lt_succ_self _) (EncL.cons (c := [.string (bs ((s_RowWrite ((s_DrawFillOps p_0).1) ((s_DrawFillOps p_0).2.2)).1.Key)), .string (bs ((s_RowWrite ((s_DrawFillOps p_0).1) ((s_DrawFillOps p_0).2.2)).1.Val)), .bool ((s_RowWrite ((s_DrawFillOps p_0).1) ((s_DrawFillOps p_0).2.2)).1.Gone)]) rfl rfl EncL.nil) (nb rfl) (fun h => h) (fun _ h => False.elim h)
       refine sM rfl (sd rfl (yl_buildSlice (cs := [.slice A53 (((i_FillOps ((s_DrawFillOps p_0).1) ((s_DrawFillOps p_0).2.1) ((s_DrawFillOps p_0).2.2)).1).length) c53]) un46 ty31 (by decide) rfl (oc rfl oz) (by kernel_rfl) ?_))
       intro b211 w212 hs213 hz214 hB215 hE216
       have hO217 : OwnL w212 w34.heap.size (b211 + 1) 31 1 R_LOp (some ⟨b211, 0, none⟩) 1 1 (Y0_45 p_0) := OwnL.of_box (S := Iv w34.heap.size b211) hB215 oM (Nat.lt_succ_self _) (EncL.cons (c := [.slice A53 (((i_FillOps ((s_DrawFillOps p_0).1) ((s_DrawFillOps p_0).2.1) ((s_DrawFillOps p_0).2.2)).1).length) c53]) rfl ⟨A53, c53, rfl, (RdS.ex good_Op (RdS.wide good_Op (OwnL.rd good_Op y4) (fun b hh hl => ⟨by first | exact Nat.zero_le _ | (have := hh.1; omega), by omega⟩)) hE216)⟩ EncL.nil) (nb rfl) (fun h => Nat.lt_irrefl _ h.2) (fun _ h => ⟨h.1, Nat.lt_succ_of_lt h.2⟩)
       have q226 := OwnL.ex gW hO210 hE216
       have hle225 := OwnL.len q226
       have hle228 := OwnL.len hO217
       refine sd rfl (yC en12 rfl (oc rfl (oc rfl oz)) (Cal.mono (Cal.args (by rw [← hle225, ← hle228] <;> rfl) (c_s_RunInTurn (Y3_45 p_0) (Y0_45 p_0) (RdS.fix (RdS.up (OwnL.rd gW q226) gW)) (RdS.fix (RdS.up (OwnL.rd good_LOp hO217) good_LOp)) (okL.mk (nb rfl) (okE.cons ho192 okE.nil)) (okL.mk (nb rfl) (okE.cons (ok_FillOps _ _ _) okE.nil)) (by first | exact short_Fill _ _ _ | exact short_Clear _ _ _))) ?_))
       rintro v235 w230 ⟨A231, c231, lo231, hi231, A232, c232, lo232, hi232, rfl, h231, h232, ho233, ho234, hrn237, hrn238, hrn239, hE236⟩
       have hE236z := Ex.size hE236
       have y1 := Ex.trans (Ex.trans (Ex.trans (Below.only (Ex.trans (Ex.trans (Ex.trans y0 hE146) hE194) hE200) hO203 oM) hE209) hE216) hE236
       refine sM rfl (sd rfl (yl_extract rfl rfl rfl (sd rfl (yl_extract rfl rfl rfl (sd rfl (yl_extract rfl rfl rfl (sA rfl (sA rfl (sA rfl (dn ?_))))))))))
       refine cR (sd rfl (yl_loadN ty26 rfl rfl ((Box.ex (Box.ex (Box.ex (Box.only (Box.ex (Box.ex q156 hE194) hE200) hO203 oM) hE209) hE216) hE236).cells (n := 3) rfl) rfl (sM rfl (sM rfl (sd rfl (yC en13 rfl (oc rfl (oc rfl (oc rfl oz))) (Cal.mono (c_i_LacksIn ((s_DrawFillOps p_0).1) ((s_DrawFillOps p_0).2.1) ((s_RunInTurn (Y3_45 p_0) (Y0_45 p_0)).1) (RdS.up (RdS.ex gS (RdS.ex gS (RdS.ex gS (RdS.only gS (RdS.ex gS (RdS.ex gS q172 hE194) hE200) hO203 (by simp only [Iv]; omega)) hE209) hE216) hE236) gS) (RdS.up (OwnL.rd gI (OwnL.ex gI (OwnL.ex gI (OwnL.ex gI (OwnL.only gI (OwnL.ex gI (OwnL.ex gI q181 hE194) hE200) hO203 oM) hE209) hE216) hE236)) gI) (RdS.up (OwnL.rd gW h231) gW) ho9 ho10 ho233) ?_)))))))
       rintro v263 w260 ⟨A261, c261, lo261, hi261, rfl, h261, ho262, hrn265, hE264⟩
       have hE264z := Ex.size hE264
       refine sM rfl (sd rfl (yl_extract rfl rfl rfl (sd rfl (yl_extract rfl rfl rfl (sA rfl (sA rfl (dn (CW.seq (CW.seq ?_)))))))))
       refine CW.region (sM rfl (sd rfl (yl_not rfl rfl (sM rfl (bcase ((s_RowWrite ((s_DrawFillOps p_0).1) ((s_DrawFillOps p_0).2.2)).2) (fun hb266 => ?_) (fun hb266 => ?_))))))
       ·refine sy rfl rfl (not_t hb266) (yM rfl rfl (sy rfl rfl (not_t hb266) (yl_not rfl rfl (sd rfl (yl_pick_f rfl rfl (not_t hb266) rfl (sM rfl (bcase ((s_RunInTurn (Y3_45 p_0) (Y0_45 p_0)).2.2) (fun hb267 => ?_) (fun hb267 => ?_))))))))
        ·refine sy rfl rfl (not_t hb267) (yM rfl rfl (sy rfl rfl (not_t hb267) (yL un43 rfl rfl (sy rfl rfl (not_t hb267) (yl_neq rfl rfl rfl (sd rfl (yl_pick_f rfl rfl (not_t hb267) rfl (sM rfl (bcase (decide ((((s_RunInTurn (Y3_45 p_0) (Y0_45 p_0)).2.1).length : Int) = 1)) (fun hb268 => ?_) (fun hb268 => ?_))))))))))
         ·have hb268p := dec_t hb268
          refine sy rfl rfl (not_t hb268) (yM rfl rfl ?_)
          obtain ⟨eb271, eo271, _, eA271, _, ebl271, _, eR271, eC271⟩ := RdS.atD (OwnL.rd good_Bool (OwnL.ex good_Bool h232 hE264)) d_Bool (i := 0) (by first | omega | assumption)
          obtain rfl := eR271
          have eC271 : Cells w260 eb271 (eo271 + 0 * 1) [.bool ((((s_RunInTurn (Y3_45 p_0) (Y0_45 p_0)).2.1).getD 0 d_Bool))] := eC271
          refine sy rfl rfl (not_t hb268) (yl_ixN un43 ty4 rfl rfl rfl eA271 (sy rfl rfl (not_t hb268) (yl_load1 ty4 rfl rfl (eC271 0 _ rfl) (sy rfl rfl (not_t hb268) (yl_not rfl rfl (sd rfl (yl_pick_f rfl rfl (not_t hb268) rfl (sM rfl (bcase (((s_RunInTurn (Y3_45 p_0) (Y0_45 p_0)).2.1).getD 0 d_Bool) (fun hb272 => ?_) (fun hb272 => ?_))))))))))
          ·refine sy rfl rfl (not_t hb272) (yM rfl rfl (sy rfl rfl (not_t hb272) (yl_not rfl rfl (sd rfl (yl_pick_f rfl rfl (not_t hb272) rfl (sM rfl (bcase ((i_LacksIn ((s_DrawFillOps p_0).1) ((s_DrawFillOps p_0).2.1) ((s_RunInTurn (Y3_45 p_0) (Y0_45 p_0)).1)).2) (fun hb273 => ?_) (fun hb273 => ?_))))))))
           ·refine sy rfl rfl (not_t hb273) (yM rfl rfl (sy rfl rfl (not_t hb273) (yL un23 rfl rfl (sy rfl rfl (not_t hb273) (yl_neq rfl rfl rfl (sd rfl (yl_pick_f rfl rfl (not_t hb273) rfl (dn (bcase (decide ((((i_LacksIn ((s_DrawFillOps p_0).1) ((s_DrawFillOps p_0).2.1) ((s_RunInTurn (Y3_45 p_0) (Y0_45 p_0)).1)).1).length : Int) = 0)) (fun hb274 => ?_) (fun hb274 => ?_))))))))))
            ·have hb274p := dec_t hb274
             refine CW.cond_f rfl (not_t hb274) (CW.skip (tn (cR (sM rfl (sd rfl (yl_buildSlice (cs := [.slice A53 (((i_FillOps ((s_DrawFillOps p_0).1) ((s_DrawFillOps p_0).2.1) ((s_DrawFillOps p_0).2.2)).1).length) c53]) un46 ty31 (by decide) rfl (oc rfl oz) (by kernel_rfl) ?_))))))
             intro b275 w276 hs277 hz278 hB279 hE280
             have hO281 : OwnL w276 w34.heap.size (b275 + 1) 31 1 R_LOp (some ⟨b275, 0, none⟩) 1 1 (Y0_45 p_0) := OwnL.of_box (S := Iv w34.heap.size b275) hB279 oM (Nat.lt_succ_self _) (EncL.cons (c := [.slice A53 (((i_FillOps ((s_DrawFillOps p_0).1) ((s_DrawFillOps p_0).2.1) ((s_DrawFillOps p_0).2.2)).1).length) c53]) rfl ⟨A53, c53, rfl, (RdS.ex good_Op (RdS.wide good_Op (OwnL.rd good_Op (OwnL.ex good_Op (OwnL.ex good_Op (OwnL.ex good_Op y4 hE216) hE236) hE264)) (fun b hh hl => ⟨by first | exact Nat.zero_le _ | (have := hh.1; omega), by omega⟩)) hE280)⟩ EncL.nil) (nb rfl) (fun h => Nat.lt_irrefl _ h.2) (fun _ h => ⟨h.1, Nat.lt_succ_of_lt h.2⟩)
             have hle292 := OwnL.len hO281
             refine sd rfl (yC en12 rfl (oc rfl (oc rfl oz)) (Cal.mono (Cal.args (by rw [← hle292] <;> rfl) (c_s_RunInTurn ([] : List DWrite) (Y0_45 p_0) (RdS.nil _ _ _ _ _ _ (by decide)) (RdS.fix (RdS.up (OwnL.rd good_LOp hO281) good_LOp)) (okL.nil _) (okL.mk (nb rfl) (okE.cons (ok_FillOps _ _ _) okE.nil)) (by first | exact short_Fill _ _ _ | exact short_Clear _ _ _))) ?_))
             rintro v299 w294 ⟨A295, c295, lo295, hi295, A296, c296, lo296, hi296, rfl, h295, h296, ho297, ho298, hrn301, hrn302, hrn303, hE300⟩
             have hE300z := Ex.size hE300
             refine sM rfl (sd rfl (yl_extract rfl rfl rfl (sd rfl (yl_extract rfl rfl rfl (sd rfl (yl_extract rfl rfl rfl (sA rfl (sA rfl (sA rfl (dn ?_))))))))))
             refine cR (sM rfl (sd rfl (yl_not rfl rfl (sM rfl (bcase ((s_RunInTurn ([] : List DWrite) (Y0_45 p_0)).2.2) (fun hb304 => ?_) (fun hb304 => ?_))))))
             ·refine sy rfl rfl (not_t hb304) (yM rfl rfl (sy rfl rfl (not_t hb304) (yL un43 rfl rfl (sy rfl rfl (not_t hb304) (yl_neq rfl rfl rfl (sd rfl (yl_pick_f rfl rfl (not_t hb304) rfl (sM rfl (bcase (decide ((((s_RunInTurn ([] : List DWrite) (Y0_45 p_0)).2.1).length : Int) = 1)) (fun hb305 => ?_) (fun hb305 => ?_))))))))))
              ·have hb305p := dec_t hb305
               refine sy rfl rfl (not_t hb305) (yM rfl rfl ?_)
               obtain ⟨eb307, eo307, _, eA307, _, ebl307, _, eR307, eC307⟩ := RdS.aD (OwnL.rd good_Bool h296) d_Bool (i := 0)
               obtain rfl := eR307
               have eC307 : Cells w294 eb307 (eo307 + 0 * 1) [.bool ((((s_RunInTurn ([] : List DWrite) (Y0_45 p_0)).2.1).getD 0 d_Bool))] := eC307
               refine sy rfl rfl (not_t hb305) (yl_ixN un43 ty4 rfl rfl rfl eA307 (sy rfl rfl (not_t hb305) (yl_load1 ty4 rfl rfl (eC307 0 _ rfl) (sd rfl (yl_pick_f rfl rfl (not_t hb305) rfl (dn (bcase (((s_RunInTurn ([] : List DWrite) (Y0_45 p_0)).2.1).getD 0 d_Bool) (fun hb308 => ?_) (fun hb308 => ?_))))))))
               ·refine CW.cond_t rfl hb308 (cR (sA rfl (dn (CW.ret (tr (rr rfl (.cons rfl .nil) ?_))))))
                have hM309 : (l_FnFillOps p_0 p_1) = (false) := by first | (simp only [l_FnFillOps, hb3, hb120, hb137, hb138, hb147, hb148, hb266, hb267, hb268, hb272, hb273, hb274, hb304, hb305, hb308, cL]; done) | (simp only [l_FnFillOps, hb120, cL] <;> simp only [hb3, hb137, hb138, hb147, hb148, hb266, hb267, hb268, hb272, hb273, hb274, hb304, hb305, hb308, cL])
                rw [hM309]
                have q330 := Ex.trans y1 hE264
                exact ⟨rfl, (Ex.trans (Ex.trans q330 hE280) hE300)⟩
               ·refine CW.cond_f rfl hb308 (CW.skip (tn (CW.seq (cR (sM rfl (dn ?_))))))
                refine bcase ((i_ClearOps ((s_DrawClearOps p_1).1) ((s_DrawClearOps p_1).2.1) ((s_DrawClearOps p_1).2.2)).2) (fun hb333 => ?_) (fun hb333 => ?_)
                ·refine CW.cond_t rfl hb333 (cR (sM rfl (sd rfl (yl_build (cs := [.string (bs ((s_DrawClearOps p_1).2.2)), .string (bs (([] : Str))), .bool (false)]) rfl (oc rfl oz) (by kernel_rfl) (sd rfl (yl_buildSlice (cs := [.string (bs ((s_DrawClearOps p_1).2.2)), .string (bs (([] : Str))), .bool (false)]) un42 ty39 (by decide) rfl (oc rfl oz) (by kernel_rfl) ?_))))))
                 intro b334 w335 hs336 hz337 hB338 hE339
                 have hO340 : OwnL w335 b334 (b334 + 1) 39 3 (RF e_Write) (some ⟨b334, 0, none⟩) 1 1 (Y2_45 p_1) := OwnL.of_box (S := fun _ => False) hB338 (Nat.le_refl _) (Nat.lt_succ_self _) (EncL.cons (c := [.string (bs ((s_DrawClearOps p_1).2.2)), .string (bs (([] : Str))), .bool (false)]) rfl rfl EncL.nil) (nb rfl) (fun h => h) (fun _ h => False.elim h)
                 refine sM rfl (sd rfl (yl_buildSlice (cs := [.slice A104 (((i_ClearOps ((s_DrawClearOps p_1).1) ((s_DrawClearOps p_1).2.1) ((s_DrawClearOps p_1).2.2)).1).length) c104]) un46 ty31 (by decide) rfl (oc rfl oz) (by kernel_rfl) ?_))
                 intro b341 w342 hs343 hz344 hB345 hE346
                 have hO347 : OwnL w342 w94.heap.size (b341 + 1) 31 1 R_LOp (some ⟨b341, 0, none⟩) 1 1 (Y1_45 p_1) := OwnL.of_box (S := Iv w94.heap.size b341) hB345 oM (Nat.lt_succ_self _) (EncL.cons (c := [.slice A104 (((i_ClearOps ((s_DrawClearOps p_1).1) ((s_DrawClearOps p_1).2.1) ((s_DrawClearOps p_1).2.2)).1).length) c104]) rfl ⟨A104, c104, rfl, (RdS.ex good_Op (RdS.wide good_Op (OwnL.rd good_Op (OwnL.ex good_Op (OwnL.ex good_Op (OwnL.ex good_Op (OwnL.ex good_Op (OwnL.ex good_Op (OwnL.ex good_Op (OwnL.ex good_Op (OwnL.only good_Op (OwnL.ex good_Op (OwnL.ex good_Op (OwnL.ex good_Op q141 hE146) hE194) hE200) hO203 oM) hE209) hE216) hE236) hE264) hE280) hE300) hE339)) (fun b hh hl => ⟨by first | exact Nat.zero_le _ | (have := hh.1; omega), by omega⟩)) hE346)⟩ EncL.nil) (nb rfl) (fun h => Nat.lt_irrefl _ h.2) (fun _ h => ⟨h.1, Nat.lt_succ_of_lt h.2⟩)
                 have q361 := OwnL.ex gW hO340 hE346
                 have hle360 := OwnL.len q361
                 have hle363 := OwnL.len hO347
                 refine sd rfl (yC en12 rfl (oc rfl (oc rfl oz)) (Cal.mono (Cal.args (by rw [← hle360, ← hle363] <;> rfl) (c_s_RunInTurn (Y2_45 p_1) (Y1_45 p_1) (RdS.fix (RdS.up (OwnL.rd gW q361) gW)) (RdS.fix (RdS.up (OwnL.rd good_LOp hO347) good_LOp)) (okL.mk (nb rfl) (okE.cons ⟨ho82, (okS.lit rfl)⟩ okE.nil)) (okL.mk (nb rfl) (okE.cons ho105 okE.nil)) (by first | exact short_Fill _ _ _ | exact short_Clear _ _ _))) ?_))
                 rintro v370 w365 ⟨A366, c366, lo366, hi366, A367, c367, lo367, hi367, rfl, h366, h367, ho368, ho369, hrn372, hrn373, hrn374, hE371⟩
                 have hE371z := Ex.size hE371
                 refine sM rfl (sd rfl (yl_extract rfl rfl rfl (sd rfl (yl_extract rfl rfl rfl (sd rfl (yl_extract rfl rfl rfl (sA rfl (sA rfl (sA rfl (dn ?_))))))))))
                 refine cR (sM rfl (sM rfl (bcase ((s_RunInTurn (Y2_45 p_1) (Y1_45 p_1)).2.2) (fun hb375 => ?_) (fun hb375 => ?_))))
                 ·refine sy rfl rfl hb375 (yM rfl rfl (sy rfl rfl hb375 (yL un42 rfl rfl (sy rfl rfl hb375 (yl_eql rfl rfl rfl (sd rfl (yl_pick_t rfl rfl hb375 rfl (sM rfl (bcase (decide ((((s_RunInTurn (Y2_45 p_1) (Y1_45 p_1)).1).length : Int) = 0)) (fun hb376 => ?_) (fun hb376 => ?_))))))))))
                  ·have hb376p := dec_t hb376
                   refine sy rfl rfl hb376 (yM rfl rfl (sy rfl rfl hb376 (yL un43 rfl rfl (sy rfl rfl hb376 (yl_eql rfl rfl rfl (sd rfl (yl_pick_t rfl rfl hb376 rfl (sM rfl (bcase (decide ((((s_RunInTurn (Y2_45 p_1) (Y1_45 p_1)).2.1).length : Int) = 1)) (fun hb377 => ?_) (fun hb377 => ?_))))))))))
                   ·have hb377p := dec_t hb377
                    refine sy rfl rfl hb377 (yM rfl rfl ?_)
                    obtain ⟨eb379, eo379, _, eA379, _, ebl379, _, eR379, eC379⟩ := RdS.aD (OwnL.rd good_Bool h367) d_Bool (i := 0)
                    obtain rfl := eR379
                    have eC379 : Cells w365 eb379 (eo379 + 0 * 1) [.bool ((((s_RunInTurn (Y2_45 p_1) (Y1_45 p_1)).2.1).getD 0 d_Bool))] := eC379
                    refine sy rfl rfl hb377 (yl_ixN un43 ty4 rfl rfl rfl eA379 (sy rfl rfl hb377 (yl_load1 ty4 rfl rfl (eC379 0 _ rfl) (sd rfl (yl_pick_t rfl rfl hb377 rfl (sA rfl (dn (CW.ret (tr (rr rfl (.cons rfl .nil) ?_))))))))))
                    have hM380 : (l_FnFillOps p_0 p_1) = ((((s_RunInTurn (Y2_45 p_1) (Y1_45 p_1)).2.1).getD 0 d_Bool)) := by first | (simp only [l_FnFillOps, hb3, hb120, hb137, hb138, hb147, hb148, hb266, hb267, hb268, hb272, hb273, hb274, hb304, hb305, hb308, hb333, hb375, hb376, hb377, cL]; done) | (simp only [l_FnFillOps, hb120, hb138, cL] <;> simp only [hb3, hb137, hb147, hb148, hb266, hb267, hb268, hb272, hb273, hb274, hb304, hb305, hb308, hb333, hb375, hb376, hb377, cL])
                    rw [hM380]
                    have q401 := Ex.trans y1 hE264
                    exact ⟨rfl, (Ex.trans (Ex.trans (Ex.trans (Ex.trans (Ex.trans q401 hE280) hE300) hE339) hE346) hE371)⟩
                   ·have hb377p := dec_f hb377
                    refine sz rfl rfl hb377 (sz rfl rfl hb377 (sz rfl rfl hb377 (sd rfl (yl_pick_f rfl rfl hb377 rfl (sA rfl (dn (CW.ret (tr ?_))))))))
                    refine rr rfl (.cons rfl .nil) ?_
                    have hM407 : (l_FnFillOps p_0 p_1) = (false) := by first | (simp only [l_FnFillOps, hb3, hb120, hb137, hb138, hb147, hb148, hb266, hb267, hb268, hb272, hb273, hb274, hb304, hb305, hb308, hb333, hb375, hb376, hb377, cL]; done) | (simp only [l_FnFillOps, hb120, hb138, cL] <;> simp only [hb3, hb137, hb147, hb148, hb266, hb267, hb268, hb272, hb273, hb274, hb304, hb305, hb308, hb333, hb375, hb376, hb377, cL])
                    rw [hM407]
                    have q428 := Ex.trans y1 hE264
                    exact ⟨rfl, (Ex.trans (Ex.trans (Ex.trans (Ex.trans (Ex.trans q428 hE280) hE300) hE339) hE346) hE371)⟩
                  ·have hb376p := dec_f hb376
                   refine sz rfl rfl hb376 (sz rfl rfl hb376 (sz rfl rfl hb376 (sd rfl (yl_pick_f rfl rfl hb376 rfl (sM rfl (sz rfl rfl rfl (sz rfl rfl rfl (sz rfl rfl rfl (sd rfl (yl_pick_f rfl rfl rfl rfl ?_))))))))))
                   refine sA rfl (dn (CW.ret (tr (rr rfl (.cons rfl .nil) ?_))))
                   have hM434 : (l_FnFillOps p_0 p_1) = (false) := by first | (simp only [l_FnFillOps, hb3, hb120, hb137, hb138, hb147, hb148, hb266, hb267, hb268, hb272, hb273, hb274, hb304, hb305, hb308, hb333, hb375, hb376, cL]; done) | (simp only [l_FnFillOps, hb120, hb138, cL] <;> simp only [hb3, hb137, hb147, hb148, hb266, hb267, hb268, hb272, hb273, hb274, hb304, hb305, hb308, hb333, hb375, hb376, cL])
                   rw [hM434]
                   have q455 := Ex.trans y1 hE264
                   exact ⟨rfl, (Ex.trans (Ex.trans (Ex.trans (Ex.trans (Ex.trans q455 hE280) hE300) hE339) hE346) hE371)⟩
                 ·refine sz rfl rfl hb375 (sz rfl rfl hb375 (sz rfl rfl hb375 (sd rfl (yl_pick_f rfl rfl hb375 rfl (sM rfl (sz rfl rfl rfl (sz rfl rfl rfl (sz rfl rfl rfl (sd rfl (yl_pick_f rfl rfl rfl rfl ?_))))))))))
                  refine sM rfl (sz rfl rfl rfl (sz rfl rfl rfl (sz rfl rfl rfl (sd rfl (yl_pick_f rfl rfl rfl rfl (sA rfl (dn (CW.ret ?_))))))))
                  refine tr (rr rfl (.cons rfl .nil) ?_)
                  have hM461 : (l_FnFillOps p_0 p_1) = (false) := by first | (simp only [l_FnFillOps, hb3, hb120, hb137, hb138, hb147, hb148, hb266, hb267, hb268, hb272, hb273, hb274, hb304, hb305, hb308, hb333, hb375, cL]; done) | (simp only [l_FnFillOps, hb120, hb138, cL] <;> simp only [hb3, hb137, hb147, hb148, hb266, hb267, hb268, hb272, hb273, hb274, hb304, hb305, hb308, hb333, hb375, cL])
                  rw [hM461]
                  have q482 := Ex.trans y1 hE264
                  exact ⟨rfl, (Ex.trans (Ex.trans (Ex.trans (Ex.trans (Ex.trans q482 hE280) hE300) hE339) hE346) hE371)⟩
                ·refine CW.cond_f rfl hb333 (CW.skip (tn (cR (sA rfl (dn (CW.ret ?_))))))
                 refine rr rfl (.cons rfl .nil) ?_
                 have hM488 : (l_FnFillOps p_0 p_1) = (true) := by first | (simp only [l_FnFillOps, hb3, hb120, hb137, hb138, hb147, hb148, hb266, hb267, hb268, hb272, hb273, hb274, hb304, hb305, hb308, hb333, cL]; done) | (simp only [l_FnFillOps, hb120, hb138, cL] <;> simp only [hb3, hb137, hb147, hb148, hb266, hb267, hb268, hb272, hb273, hb274, hb304, hb305, hb308, hb333, cL])
                 rw [hM488]
                 have q509 := Ex.trans y1 hE264
                 exact ⟨rfl, (Ex.trans (Ex.trans q509 hE280) hE300)⟩
              ·have hb305p := dec_f hb305
               refine sz rfl rfl (not_f hb305) (sz rfl rfl (not_f hb305) (sz rfl rfl (not_f hb305) (sd rfl (yl_pick_t rfl rfl (not_f hb305) rfl (dn (CW.cond_t rfl rfl (cR ?_)))))))
               refine sA rfl (dn (CW.ret (tr (rr rfl (.cons rfl .nil) ?_))))
               have hM512 : (l_FnFillOps p_0 p_1) = (false) := by first | (simp only [l_FnFillOps, hb3, hb120, hb137, hb138, hb147, hb148, hb266, hb267, hb268, hb272, hb273, hb274, hb304, hb305, cL]; done) | (simp only [l_FnFillOps, hb120, cL] <;> simp only [hb3, hb137, hb138, hb147, hb148, hb266, hb267, hb268, hb272, hb273, hb274, hb304, hb305, cL])
               rw [hM512]
               have q533 := Ex.trans y1 hE264
               exact ⟨rfl, (Ex.trans (Ex.trans q533 hE280) hE300)⟩
             ·refine sz rfl rfl (not_f hb304) (sz rfl rfl (not_f hb304) (sz rfl rfl (not_f hb304) (sd rfl (yl_pick_t rfl rfl (not_f hb304) rfl (sM rfl (sz rfl rfl rfl (sz rfl rfl rfl (sz rfl rfl rfl (sd rfl (yl_pick_t rfl rfl rfl rfl ?_))))))))))
              refine dn (CW.cond_t rfl rfl (cR (sA rfl (dn (CW.ret ?_)))))
              refine tr (rr rfl (.cons rfl .nil) ?_)
              have hM536 : (l_FnFillOps p_0 p_1) = (false) := by first | (simp only [l_FnFillOps, hb3, hb120, hb137, hb138, hb147, hb148, hb266, hb267, hb268, hb272, hb273, hb274, hb304, cL]; done) | (simp only [l_FnFillOps, hb120, cL] <;> simp only [hb3, hb137, hb138, hb147, hb148, hb266, hb267, hb268, hb272, hb273, hb274, hb304, cL])
              rw [hM536]
              have q557 := Ex.trans y1 hE264
              exact ⟨rfl, (Ex.trans (Ex.trans q557 hE280) hE300)⟩
            ·have hb274p := dec_f hb274
             refine CW.cond_t rfl (not_f hb274) (cR (sA rfl (dn (CW.ret (tr (tr ?_))))))
             refine rr rfl (.cons rfl .nil) ?_
             have hM560 : (l_FnFillOps p_0 p_1) = (false) := by first | (simp only [l_FnFillOps, hb3, hb120, hb137, hb138, hb147, hb148, hb266, hb267, hb268, hb272, hb273, hb274, cL]; done) | (simp only [l_FnFillOps, hb120, cL] <;> simp only [hb3, hb137, hb138, hb147, hb148, hb266, hb267, hb268, hb272, hb273, hb274, cL])
             rw [hM560]
             have q581 := Ex.trans y1 hE264
             exact ⟨rfl, q581⟩
           ·refine sz rfl rfl (not_f hb273) (sz rfl rfl (not_f hb273) (sz rfl rfl (not_f hb273) (sd rfl (yl_pick_t rfl rfl (not_f hb273) rfl (dn (CW.cond_t rfl rfl (cR ?_)))))))
            refine sA rfl (dn (CW.ret (tr (tr (rr rfl (.cons rfl .nil) ?_)))))
            have hM582 : (l_FnFillOps p_0 p_1) = (false) := by first | (simp only [l_FnFillOps, hb3, hb120, hb137, hb138, hb147, hb148, hb266, hb267, hb268, hb272, hb273, cL]; done) | (simp only [l_FnFillOps, hb120, cL] <;> simp only [hb3, hb137, hb138, hb147, hb148, hb266, hb267, hb268, hb272, hb273, cL])
            rw [hM582]
            have q603 := Ex.trans y1 hE264
            exact ⟨rfl, q603⟩
          ·refine sz rfl rfl (not_f hb272) (sz rfl rfl (not_f hb272) (sd rfl (yl_pick_t rfl rfl (not_f hb272) rfl (sM rfl (sz rfl rfl rfl (sz rfl rfl rfl (sz rfl rfl rfl (sd rfl (yl_pick_t rfl rfl rfl rfl (SeqR.done ?_))))))))))
           refine tn (CW.cond_t rfl rfl (cR (sA rfl (dn (CW.ret (tr ?_))))))
           refine tr (rr rfl (.cons rfl .nil) ?_)
           have hM604 : (l_FnFillOps p_0 p_1) = (false) := by first | (simp only [l_FnFillOps, hb3, hb120, hb137, hb138, hb147, hb148, hb266, hb267, hb268, hb272, cL]; done) | (simp only [l_FnFillOps, hb120, cL] <;> simp only [hb3, hb137, hb138, hb147, hb148, hb266, hb267, hb268, hb272, cL])
           rw [hM604]
           have q625 := Ex.trans y1 hE264
           exact ⟨rfl, q625⟩
         ·have hb268p := dec_f hb268
          refine sz rfl rfl (not_f hb268) (sz rfl rfl (not_f hb268) (sz rfl rfl (not_f hb268) (sz rfl rfl (not_f hb268) (sd rfl (yl_pick_t rfl rfl (not_f hb268) rfl (sM rfl (sz rfl rfl rfl (sz rfl rfl rfl (sd rfl (yl_pick_t rfl rfl rfl rfl ?_))))))))))
          refine sM rfl (sz rfl rfl rfl (sz rfl rfl rfl (sz rfl rfl rfl (sd rfl (yl_pick_t rfl rfl rfl rfl (dn (CW.cond_t rfl rfl (CW.seq ?_))))))))
          refine CW.region (sA rfl (dn (CW.ret (tr (tr (rr rfl (.cons rfl .nil) ?_))))))
          have hM626 : (l_FnFillOps p_0 p_1) = (false) := by first | (simp only [l_FnFillOps, hb3, hb120, hb137, hb138, hb147, hb148, hb266, hb267, hb268, cL]; done) | (simp only [l_FnFillOps, hb120, cL] <;> simp only [hb3, hb137, hb138, hb147, hb148, hb266, hb267, hb268, cL])
          rw [hM626]
          have q647 := Ex.trans y1 hE264
          exact ⟨rfl, q647⟩
        ·refine sz rfl rfl (not_f hb267) (sz rfl rfl (not_f hb267) (sz rfl rfl (not_f hb267) (sd rfl (yl_pick_t rfl rfl (not_f hb267) rfl (sM rfl (sz rfl rfl rfl (sz rfl rfl rfl (sz rfl rfl rfl (sz rfl rfl rfl ?_)))))))))
         refine sd rfl (yl_pick_t rfl rfl rfl rfl (sM rfl (sz rfl rfl rfl (sz rfl rfl rfl (sd rfl (yl_pick_t rfl rfl rfl rfl (sM rfl (sz rfl rfl rfl (sz rfl rfl rfl (sz rfl rfl rfl ?_))))))))))
         refine sd rfl (yl_pick_t rfl rfl rfl rfl (dn (CW.cond_t rfl rfl (cR (sA rfl (dn ?_))))))
         refine CW.ret (tr (tr (rr rfl (.cons rfl .nil) ?_)))
         have hM648 : (l_FnFillOps p_0 p_1) = (false) := by first | (simp only [l_FnFillOps, hb3, hb120, hb137, hb138, hb147, hb148, hb266, hb267, cL]; done) | (simp only [l_FnFillOps, hb120, cL] <;> simp only [hb3, hb137, hb138, hb147, hb148, hb266, hb267, cL])
         rw [hM648]
         have q669 := Ex.trans y1 hE264
         exact ⟨rfl, q669⟩
       ·refine sz rfl rfl (not_f hb266) (sz rfl rfl (not_f hb266) (sd rfl (yl_pick_t rfl rfl (not_f hb266) rfl (sM rfl (sz rfl rfl rfl (sz rfl rfl rfl (sz rfl rfl rfl (sd rfl (yl_pick_t rfl rfl rfl rfl (sM rfl ?_))))))))))
        refine sz rfl rfl rfl (sz rfl rfl rfl (sz rfl rfl rfl (sz rfl rfl rfl (sd rfl (yl_pick_t rfl rfl rfl rfl (sM rfl (sz rfl rfl rfl (sz rfl rfl rfl (sd rfl (yl_pick_t rfl rfl rfl rfl ?_))))))))))
        refine sM rfl (sz rfl rfl rfl (sz rfl rfl rfl (sz rfl rfl rfl (sd rfl (yl_pick_t rfl rfl rfl rfl (dn (CW.cond_t rfl rfl (CW.seq ?_))))))))
        refine CW.region (sA rfl (dn (CW.ret (tr (tr (rr rfl (.cons rfl .nil) ?_))))))
        have hM670 : (l_FnFillOps p_0 p_1) = (false) := by first | (simp only [l_FnFillOps, hb3, hb120, hb137, hb138, hb147, hb148, hb266, cL]; done) | (simp only [l_FnFillOps, hb120, cL] <;> simp only [hb3, hb137, hb138, hb147, hb148, hb266, cL])
        rw [hM670]
        have q691 := Ex.trans y1 hE264
        exact ⟨rfl, q691⟩
      ·refine CW.cond_f rfl hb148 (CW.skip (tn (CW.seq (cR (sM rfl (dn ?_))))))
       refine bcase ((i_ClearOps ((s_DrawClearOps p_1).1) ((s_DrawClearOps p_1).2.1) ((s_DrawClearOps p_1).2.2)).2) (fun hb692 => ?_) (fun hb692 => ?_)
       ·refine CW.cond_t rfl hb692 (cR (sM rfl (sd rfl (yl_build (cs := [.string (bs ((s_DrawClearOps p_1).2.2)), .string (bs (([] : Str))), .bool (false)]) rfl (oc rfl oz) (by kernel_rfl) (sd rfl (yl_buildSlice (cs := [.string (bs ((s_DrawClearOps p_1).2.2)), .string (bs (([] : Str))), .bool (false)]) un42 ty39 (by decide) rfl (oc rfl oz) (by kernel_rfl) ?_))))))
        intro b693 w694 hs695 hz696 hB697 hE698
        have hO699 : OwnL w694 b693 (b693 + 1) 39 3 (RF e_Write) (some ⟨b693, 0, none⟩) 1 1 (Y2_45 p_1) := OwnL.of_box (S := fun _ => False) hB697 (Nat.le_refl _) (Nat.lt_succ_self _) (EncL.cons (c := [.string (bs ((s_DrawClearOps p_1).2.2)), .string (bs (([] : Str))), .bool (false)]) rfl rfl EncL.nil) (nb rfl) (fun h => h) (fun _ h => False.elim h)
        refine sM rfl (sd rfl (yl_buildSlice (cs := [.slice A104 (((i_ClearOps ((s_DrawClearOps p_1).1) ((s_DrawClearOps p_1).2.1) ((s_DrawClearOps p_1).2.2)).1).length) c104]) un46 ty31 (by decide) rfl (oc rfl oz) (by kernel_rfl) ?_))
        intro b700 w701 hs702 hz703 hB704 hE705
        have hO706 : OwnL w701 w94.heap.size (b700 + 1) 31 1 R_LOp (some ⟨b700, 0, none⟩) 1 1 (Y1_45 p_1) := OwnL.of_box (S := Iv w94.heap.size b700) hB704 oM (Nat.lt_succ_self _) (EncL.cons (c := [.slice A104 (((i_ClearOps ((s_DrawClearOps p_1).1) ((s_DrawClearOps p_1).2.1) ((s_DrawClearOps p_1).2.2)).1).length) c104]) rfl ⟨A104, c104, rfl, (RdS.ex good_Op (RdS.wide good_Op (OwnL.rd good_Op (OwnL.ex good_Op (OwnL.ex good_Op q141 hE146) hE698)) (fun b hh hl => ⟨by first | exact Nat.zero_le _ | (have := hh.1; omega), by omega⟩)) hE705)⟩ EncL.nil) (nb rfl) (fun h => Nat.lt_irrefl _ h.2) (fun _ h => ⟨h.1, Nat.lt_succ_of_lt h.2⟩)
        have q711 := OwnL.ex gW hO699 hE705
        have hle710 := OwnL.len q711
        have hle713 := OwnL.len hO706
        refine sd rfl (yC en12 rfl (oc rfl (oc rfl oz)) (Cal.mono (Cal.args (by rw [← hle710, ← hle713] <;> rfl) (c_s_RunInTurn (Y2_45 p_1) (Y1_45 p_1) (RdS.fix (RdS.up (OwnL.rd gW q711) gW)) (RdS.fix (RdS.up (OwnL.rd good_LOp hO706) good_LOp)) (okL.mk (nb rfl) (okE.cons ⟨ho82, (okS.lit rfl)⟩ okE.nil)) (okL.mk (nb rfl) (okE.cons ho105 okE.nil)) (by first | exact short_Fill _ _ _ | exact short_Clear _ _ _))) ?_))
        rintro v720 w715 ⟨A716, c716, lo716, hi716, A717, c717, lo717, hi717, rfl, h716, h717, ho718, ho719, hrn722, hrn723, hrn724, hE721⟩
        have hE721z := Ex.size hE721
        have y3 := Ex.trans (Ex.trans (Ex.trans (Ex.trans y0 hE146) hE698) hE705) hE721
        refine sM rfl (sd rfl (yl_extract rfl rfl rfl (sd rfl (yl_extract rfl rfl rfl (sd rfl (yl_extract rfl rfl rfl (sA rfl (sA rfl (sA rfl (dn ?_))))))))))
        refine cR (sM rfl (sM rfl (bcase ((s_RunInTurn (Y2_45 p_1) (Y1_45 p_1)).2.2) (fun hb725 => ?_) (fun hb725 => ?_))))
        ·refine sy rfl rfl hb725 (yM rfl rfl (sy rfl rfl hb725 (yL un42 rfl rfl (sy rfl rfl hb725 (yl_eql rfl rfl rfl (sd rfl (yl_pick_t rfl rfl hb725 rfl (sM rfl (bcase (decide ((((s_RunInTurn (Y2_45 p_1) (Y1_45 p_1)).1).length : Int) = 0)) (fun hb726 => ?_) (fun hb726 => ?_))))))))))
         ·have hb726p := dec_t hb726
          refine sy rfl rfl hb726 (yM rfl rfl (sy rfl rfl hb726 (yL un43 rfl rfl (sy rfl rfl hb726 (yl_eql rfl rfl rfl (sd rfl (yl_pick_t rfl rfl hb726 rfl (sM rfl (bcase (decide ((((s_RunInTurn (Y2_45 p_1) (Y1_45 p_1)).2.1).length : Int) = 1)) (fun hb727 => ?_) (fun hb727 => ?_))))))))))
          ·have hb727p := dec_t hb727
           refine sy rfl rfl hb727 (yM rfl rfl ?_)
           obtain ⟨eb729, eo729, _, eA729, _, ebl729, _, eR729, eC729⟩ := RdS.aD (OwnL.rd good_Bool h717) d_Bool (i := 0)
           obtain rfl := eR729
           have eC729 : Cells w715 eb729 (eo729 + 0 * 1) [.bool ((((s_RunInTurn (Y2_45 p_1) (Y1_45 p_1)).2.1).getD 0 d_Bool))] := eC729
           refine sy rfl rfl hb727 (yl_ixN un43 ty4 rfl rfl rfl eA729 (sy rfl rfl hb727 (yl_load1 ty4 rfl rfl (eC729 0 _ rfl) (sd rfl (yl_pick_t rfl rfl hb727 rfl (sA rfl (dn (CW.ret (tr (rr rfl (.cons rfl .nil) ?_))))))))))
           have hM730 : (l_FnFillOps p_0 p_1) = ((((s_RunInTurn (Y2_45 p_1) (Y1_45 p_1)).2.1).getD 0 d_Bool)) := by first | (simp only [l_FnFillOps, hb3, hb120, hb137, hb138, hb147, hb148, hb692, hb725, hb726, hb727, cL]; done) | (simp only [l_FnFillOps, hb120, hb138, cL] <;> simp only [hb3, hb137, hb147, hb148, hb692, hb725, hb726, hb727, cL])
           rw [hM730]
           exact ⟨rfl, y3⟩
          ·have hb727p := dec_f hb727
           refine sz rfl rfl hb727 (sz rfl rfl hb727 (sz rfl rfl hb727 (sd rfl (yl_pick_f rfl rfl hb727 rfl (sA rfl (dn (CW.ret (tr ?_))))))))
           refine rr rfl (.cons rfl .nil) ?_
           have hM748 : (l_FnFillOps p_0 p_1) = (false) := by first | (simp only [l_FnFillOps, hb3, hb120, hb137, hb138, hb147, hb148, hb692, hb725, hb726, hb727, cL]; done) | (simp only [l_FnFillOps, hb120, hb138, cL] <;> simp only [hb3, hb137, hb147, hb148, hb692, hb725, hb726, hb727, cL])
           rw [hM748]
           exact ⟨rfl, y3⟩
         ·have hb726p := dec_f hb726
          refine sz rfl rfl hb726 (sz rfl rfl hb726 (sz rfl rfl hb726 (sd rfl (yl_pick_f rfl rfl hb726 rfl (sM rfl (sz rfl rfl rfl (sz rfl rfl rfl (sz rfl rfl rfl (sd rfl (yl_pick_f rfl rfl rfl rfl ?_))))))))))
          refine sA rfl (dn (CW.ret (tr (rr rfl (.cons rfl .nil) ?_))))
          have hM766 : (l_FnFillOps p_0 p_1) = (false) := by first | (simp only [l_FnFillOps, hb3, hb120, hb137, hb138, hb147, hb148, hb692, hb725, hb726, cL]; done) | (simp only [l_FnFillOps, hb120, hb138, cL] <;> simp only [hb3, hb137, hb147, hb148, hb692, hb725, hb726, cL])
          rw [hM766]
          exact ⟨rfl, y3⟩
        ·refine sz rfl rfl hb725 (sz rfl rfl hb725 (sz rfl rfl hb725 (sd rfl (yl_pick_f rfl rfl hb725 rfl (sM rfl (sz rfl rfl rfl (sz rfl rfl rfl (sz rfl rfl rfl (sd rfl (yl_pick_f rfl rfl rfl rfl ?_))))))))))
         refine sM rfl (sz rfl rfl rfl (sz rfl rfl rfl (sz rfl rfl rfl (sd rfl (yl_pick_f rfl rfl rfl rfl (sA rfl (dn (CW.ret ?_))))))))
         refine tr (rr rfl (.cons rfl .nil) ?_)
         have hM784 : (l_FnFillOps p_0 p_1) = (false) := by first | (simp only [l_FnFillOps, hb3, hb120, hb137, hb138, hb147, hb148, hb692, hb725, cL]; done) | (simp only [l_FnFillOps, hb120, hb138, cL] <;> simp only [hb3, hb137, hb147, hb148, hb692, hb725, cL])
         rw [hM784]
         exact ⟨rfl, y3⟩
       ·refine CW.cond_f rfl hb692 (CW.skip (tn (cR (sA rfl (dn (CW.ret ?_))))))
        refine rr rfl (.cons rfl .nil) ?_
        have hM802 : (l_FnFillOps p_0 p_1) = (true) := by first | (simp only [l_FnFillOps, hb3, hb120, hb137, hb138, hb147, hb148, hb692, cL]; done) | (simp only [l_FnFillOps, hb120, hb138, cL] <;> simp only [hb3, hb137, hb147, hb148, hb692, cL])
        rw [hM802]
        exact ⟨rfl, (Ex.trans y0 hE146)⟩
     ·refine CW.cond_t rfl (not_f hb147) (cR (sA rfl (dn (CW.ret (tr (rr rfl (.cons rfl .nil) ?_))))))
      have hM817 : (l_FnFillOps p_0 p_1) = (false) := by simp only [l_FnFillOps, hb3, hb120, hb137, hb138, hb147, cL]
      rw [hM817]
      exact ⟨rfl, (Ex.trans y0 hE146)⟩
    ·refine sz rfl rfl (not_f hb138) (sz rfl rfl (not_f hb138) (sz rfl rfl (not_f hb138) (sz rfl rfl (not_f hb138) (sd rfl (yl_pick_t rfl rfl (not_f hb138) rfl (dn (CW.cond_t rfl rfl (CW.seq ?_))))))))
     refine CW.region (sA rfl (dn (CW.ret (tr (rr rfl (.cons rfl .nil) ?_)))))
     have hM832 : (l_FnFillOps p_0 p_1) = (false) := by simp only [l_FnFillOps, hb3, hb120, hb137, hb138, cL]
     rw [hM832]
     exact ⟨rfl, y0⟩
   ·refine sz rfl rfl (not_f hb137) (sz rfl rfl (not_f hb137) (sz rfl rfl (not_f hb137) (sd rfl (yl_pick_t rfl rfl (not_f hb137) rfl (sM rfl (sz rfl rfl rfl (sz rfl rfl rfl (sz rfl rfl rfl (sz rfl rfl rfl ?_)))))))))
    refine sd rfl (yl_pick_t rfl rfl rfl rfl (dn (CW.cond_t rfl rfl (cR (sA rfl (dn ?_))))))
    refine CW.ret (tr (rr rfl (.cons rfl .nil) ?_))
    have hM846 : (l_FnFillOps p_0 p_1) = (false) := by simp only [l_FnFillOps, hb3, hb120, hb137, cL]
    rw [hM846]
    exact ⟨rfl, y0⟩
  ·refine sz rfl rfl (not_f hb120) (sz rfl rfl (not_f hb120) (sz rfl rfl (not_f hb120) (sz rfl rfl (not_f hb120) (sd rfl (yl_pick_t rfl rfl (not_f hb120) rfl (sM rfl (sz rfl rfl rfl (sz rfl rfl rfl (sz rfl rfl rfl ?_)))))))))
   refine sd rfl (yl_pick_t rfl rfl rfl rfl (sM rfl (sz rfl rfl rfl (sz rfl rfl rfl (sz rfl rfl rfl (sz rfl rfl rfl (sd rfl (yl_pick_t rfl rfl rfl rfl (dn ?_)))))))))
   refine CW.cond_t rfl rfl (cR (sA rfl (dn (CW.ret (tr (rr rfl (.cons rfl .nil) ?_))))))
   have hM860 : (l_FnFillOps p_0 p_1) = (false) := by simp only [l_FnFillOps, hb3, hb120, cL]
   rw [hM860]
   exact ⟨rfl, y2⟩
end Go.Proofs.YtfcofekfcmidoaaGreatDoor
