/- Fn Entries: what each call returns, part 3. -/
import Derived.Test.YtlnjgkmpaebioaaGreatDoorFnEntriesC2
set_option maxRecDepth 100000
set_option maxHeartbeats 2000000
open Go.Proofs.Tryz Go.Proofs.YtlnjgkmpaebioaaGreatDoor.Tryz
set_option linter.unusedVariables false
set_option linter.unusedSimpArgs false
namespace Go.Proofs.YtlnjgkmpaebioaaGreatDoor
open Go.RowKit Go.X
theorem c_u_bentTable {A3 : Option Addr} {c3 : Nat} {slo3 shi3 : Nat} {b1 : Nat} {w : World} (pC : List Int) (p_c : Int × Int) (h2 : Box w b1 46 [.slice A3 pC.length c3, .int .i64 (p_c.1), .int .u64 (p_c.2)]) (h3 : RdS w (Iv slo3 shi3) (RF e_U8) 1 A3 pC.length c3 pC) (hrn4 : shi3 ≤ w.heap.size) (hrn5 : b1 < slo3 ∨ shi3 ≤ b1) (o6 : (okL okT) pC) (pre0 : (0 ≤ p_c.1 ∧ p_c.1 ≤ 4611686018427387776)) (pre1 : codeOk pC) : Cal Tryz.prog 21 #[.pointer (some ⟨b1, 0, none⟩)] w fun v w' => ∃ A_1 c_1 A_2 c_2 lo_2 hi_2, v = .agg #[.string (bs ((u_bentTable pC p_c).1.Name)), .slice A_1 (((u_bentTable pC p_c).1.Cols).length) c_1, .slice A_2 (((u_bentTable pC p_c).1.Idxs).length) c_2] ∧ RdS w' (Iv w.heap.size w'.heap.size) (RF e_Str) 1 A_1 ((u_bentTable pC p_c).1.Cols).length c_1 ((u_bentTable pC p_c).1.Cols) ∧ OwnL w' lo_2 hi_2 64 3 (RF e_Idx) A_2 (((u_bentTable pC p_c).1.Idxs).length) c_2 ((u_bentTable pC p_c).1.Idxs) ∧ ok_Table ((u_bentTable pC p_c).1) ∧ (p_c.1 ≤ ((u_bentTable pC p_c).2).1 ∧ ((u_bentTable pC p_c).2).1 ≤ p_c.1 + 128) ∧ Box w' b1 46 [.slice A3 pC.length c3, .int .i64 (((u_bentTable pC p_c).2).1), .int .u64 (((u_bentTable pC p_c).2).2)] ∧ (w.heap.size ≤ lo_2 ∧ lo_2 ≤ hi_2 ∧ hi_2 ≤ w'.heap.size) ∧ Chg (InR [(b1, b1 + 1)]) w w' := by
 have hol7 := o6.1
 have hbx8 := Box.lt h2
 refine Cal.of func21 rfl ntmps21 rfl (CW.seq (CW.region (sd rfl (yB ty26 (cs := [.string (bs (([] : Str))), .slice none 0 0, .slice none 0 0]) rfl rfl ?_))))
 intro b9 w10 hs11 hz12 hB13 hE14
 refine dn (CW.seq (CW.region (sd rfl (yM rfl rfl ?_))))
 have q16 := RdS.ex gU h3 hE14
 refine sd rfl (yC en18 rfl (oc rfl oz) (Cal.mono (c_u_table pC p_c (Box.ex h2 hE14) q16 (by omega) (by omega) o6 (by omega) (by assumption)) ?_))
 rintro v24 w17 ⟨A18, c18, lo18, hi18, A19, c19, lo19, hi19, rfl, h18, h19, ho20, hp21, hp22, hp23, hB26, hrn27, hrn28, hrn29, hc25⟩
 have hc25z := Chg.size hc25
 have hB26z := Box.lt hB26
 have hrf30 := rf_table (c := pC) (by assumption) p_c
 refine sd rfl (yB ty26 (cs := [.string (bs (([] : Str))), .slice none 0 0, .slice none 0 0]) rfl rfl ?_)
 intro b31 w32 hs33 hz34 hB35 hE36
 refine SeqR.u rfl rfl (yl_store (vs := [.string (bs ((u_table pC p_c).1.Name)), .slice A18 (((u_table pC p_c).1.Cols).length) c18, .slice A19 (((u_table pC p_c).1.Idxs).length) c19]) ty26 rfl rfl rfl rfl rfl rfl hB35 (Nat.le_of_ble_eq_true rfl) ?_)
 intro w37 hB38 hO39
 have hB38 : Box w37 b31 26 [.string (bs ((u_table pC p_c).1.Name)), .slice A18 (((u_table pC p_c).1.Cols).length) c18, .slice A19 (((u_table pC p_c).1.Idxs).length) c19] := hB38
 have hO39z := hO39.size
 refine dn (CW.seq (CW.seq (CW.region (sd rfl (yM rfl rfl ?_)))))
 have q44 := RdS.only gU (RdS.ex gU (RdS.chg gU q16 hc25 (fun k hl hk => by simp only [InR, or_false, Iv, Ge] at hk ⊢; omega)) hE36) hO39 (by simp only [Iv]; omega)
 refine sd rfl (yC en39 rfl (oc rfl (oc rfl oz)) (Cal.mono (c_u_pick pC ((u_table pC p_c).2) 14 (Box.only (Box.ex hB26 hE36) hO39 (by omega)) q44 (by omega) (by omega) o6 (by omega) (by assumption)) ?_))
 rintro v48 w45 ⟨rfl, hp46, hp47, hB50, hc49⟩
 have hc49z := Chg.size hc49
 have hB50z := Box.lt hB50
 refine dn (CW.block (CW.seq (CW.region (sd rfl (yl_eql rfl rfl rfl (sd rfl (yA rfl rfl (dn ?_))))))))
 refine bcase (decide (((u_pick pC ((u_table pC p_c).2) 14).1) = 0)) (fun hb51 => ?_) (fun hb51 => ?_)
 ·have hb51p := dec_t hb51
  refine CW.cond_t rfl hb51 (CW.region (sd rfl (yM rfl rfl (sd rfl (yl_buildSlice (cs := [.string (bs (([] : Str))), .string (bs (([116, 116] : Str))), .string (bs (([84] : Str)))]) un23 ty9 (by decide) rfl (oc rfl (oc rfl (oc rfl oz))) (by kernel_rfl) ?_)))))
  intro b52 w53 hs54 hz55 hB56 hE57
  have hO58 : OwnL w53 b52 (b52 + 1) 9 1 (RF e_Str) (some ⟨b52, 0, none⟩) 3 3 ([[], [116, 116], [84]] : List Str) := OwnL.of_box (S := fun _ => False) hB56 (Nat.le_refl _) (Nat.lt_succ_self _) (EncL.cons (c := [.string (bs (([] : Str)))]) rfl rfl (EncL.cons (c := [.string (bs (([116, 116] : Str)))]) rfl rfl (EncL.cons (c := [.string (bs (([84] : Str)))]) rfl rfl EncL.nil))) (Nat.le_of_ble_eq_true rfl) (fun h => h) (fun _ h => False.elim h)
  have hle62 := OwnL.len hO58
  refine sd rfl (yC en17 rfl (oc rfl (oc rfl oz)) (Cal.mono (Cal.args (by rw [← hle62] <;> rfl) (c_u_of pC ((u_pick pC ((u_table pC p_c).2) 14).2) ([[], [116, 116], [84]] : List Str) (Box.ex hB50 hE57) (RdS.ex gU (RdS.chg gU q44 hc49 (fun k hl hk => by simp only [InR, or_false, Iv, Ge] at hk ⊢; omega)) hE57) (by omega) (by omega) (RdS.fix (OwnL.rdI gS hO58)) (by omega) (by omega) o6 (okL.mk (Nat.le_of_ble_eq_true rfl) (okE.cons (okS.lit rfl) (okE.cons (okS.lit rfl) (okE.cons (okS.lit rfl) okE.nil)))) (by first | omega | assumption | (simp only [wI] at *; omega) | (simp only [lN]; omega)) (by omega) (by assumption))) ?_))
  rintro v66 w63 ⟨rfl, ho64, hp65, hB68, hc67⟩
  have hc67z := Chg.size hc67
  have hB68z := Box.lt hB68
  have hrf69 := of_len 2 pC ((u_pick pC ((u_table pC p_c).2) 14).2) ([[], [116, 116], [84]] : List Str) (by decide)
  refine sd rfl (yl_fieldAddr fd26_0 rfl rfl ?_)
  have q71 := Box.ex (Box.chg hB38 hc49 (by have := Box.lt hB38; simp only [InR, or_false]; omega)) hE57
  refine SeqR.u rfl rfl (yl_store (vs := [.string (bs ((u_of pC ((u_pick pC ((u_table pC p_c).2) 14).2) ([[], [116, 116], [84]] : List Str)).1))]) ty9 rfl rfl rfl rfl rfl rfl (Box.chg q71 hc67 (by have := Box.lt q71; simp only [InR, or_false]; omega)) (Nat.le_of_ble_eq_true rfl) ?_)
  intro w73 hB74 hO75
  have hB74 : Box w73 b31 26 [.string (bs ((u_of pC ((u_pick pC ((u_table pC p_c).2) 14).2) ([[], [116, 116], [84]] : List Str)).1)), .slice A18 (((u_table pC p_c).1.Cols).length) c18, .slice A19 (((u_table pC p_c).1.Idxs).length) c19] := hB74
  have hO75z := hO75.size
  refine SeqR.done (bn (tn (CW.seq (CW.region (sd rfl (yl_loadN ty26 rfl rfl (hB74.cells (n := 3) rfl) rfl ?_))))))
  have q78 := Box.only (Box.ex (Box.chg hB13 hc25 (by have := Box.lt hB13; simp only [InR, or_false]; omega)) hE36) hO39 (by omega)
  have q80 := Box.ex (Box.chg q78 hc49 (by have := Box.lt q78; simp only [InR, or_false]; omega)) hE57
  refine SeqR.u rfl rfl (yl_store (vs := [.string (bs ((u_of pC ((u_pick pC ((u_table pC p_c).2) 14).2) ([[], [116, 116], [84]] : List Str)).1)), .slice A18 (((u_table pC p_c).1.Cols).length) c18, .slice A19 (((u_table pC p_c).1.Idxs).length) c19]) ty26 rfl rfl rfl rfl rfl rfl (Box.only (Box.chg q80 hc67 (by have := Box.lt q80; simp only [InR, or_false]; omega)) hO75 (by omega)) (Nat.le_of_ble_eq_true rfl) ?_)
  intro w83 hB84 hO85
  have hB84 : Box w83 b9 26 [.string (bs ((u_of pC ((u_pick pC ((u_table pC p_c).2) 14).2) ([[], [116, 116], [84]] : List Str)).1)), .slice A18 (((u_table pC p_c).1.Cols).length) c18, .slice A19 (((u_table pC p_c).1.Idxs).length) c19] := hB84
  have hO85z := hO85.size
  refine dn (CW.ret (rr rfl (.cons ⟨_, rfl, run_loadN ty26 (cs := [.string (bs ((u_of pC ((u_pick pC ((u_table pC p_c).2) 14).2) ([[], [116, 116], [84]] : List Str)).1)), .slice A18 (((u_table pC p_c).1.Cols).length) c18, .slice A19 (((u_table pC p_c).1.Idxs).length) c19]) rfl (hB84.cells (n := 3) rfl)⟩ .nil) ?_))
  have hM86 : (u_bentTable pC p_c) = (((⟨(u_of pC ((u_pick pC ((u_table pC p_c).2) 14).2) ([[], [116, 116], [84]] : List Str)).1, (u_table pC p_c).1.Cols, (u_table pC p_c).1.Idxs⟩ : DTable), (((u_of pC ((u_pick pC ((u_table pC p_c).2) 14).2) ([[], [116, 116], [84]] : List Str)).2).1, ((u_of pC ((u_pick pC ((u_table pC p_c).2) 14).2) ([[], [116, 116], [84]] : List Str)).2).2))) := by first | (simp only [u_bentTable, hb51, cL]; done) | (simp only [u_bentTable, hb51, cond_true, cond_false, loopE_done, loopE_ret, pairE]; done) | exact (show (u_bentTable pC p_c) = (((⟨(u_of pC ((u_pick pC ((u_table pC p_c).2) 14).2) ([[], [116, 116], [84]] : List Str)).1, (u_table pC p_c).1.Cols, (u_table pC p_c).1.Idxs⟩ : DTable), ((u_of pC ((u_pick pC ((u_table pC p_c).2) 14).2) ([[], [116, 116], [84]] : List Str)).2))) from by simp only [u_bentTable, hb51, cond_true, cond_false, loopE_done, loopE_ret, pairE])
  rw [hM86]
  have q111 := Chg.tonly (Chg.tchg (Chg.tex (Chg.tchg (Chg.tonly (Chg.tex (Chg.tchg (Chg.tex (Chg.refl (InR [(b1, b1 + 1)]) w) hE14) hc25 (fun k hk => by simp only [InR, or_false] at hk ⊢; omega)) hE36) hO39 (by simp only [InR, or_false]; omega)) hc49 (fun k hk => by simp only [InR, or_false] at hk ⊢; omega)) hE57) hc67 (fun k hk => by simp only [InR, or_false] at hk ⊢; omega)) hO75 (by simp only [InR, or_false]; omega)
  exact ⟨A18, c18, A19, c19, lo19, hi19, rfl, (RdS.wideI gS (OwnL.rd gS (OwnL.only gS (OwnL.only gS (OwnL.chg gS (OwnL.ex gS (OwnL.chg gS (OwnL.only gS (OwnL.ex gS h18 hE36) hO39 (by omega)) hc49 (fun k hl hk => by simp only [InR, or_false] at hk; omega)) hE57) hc67 (fun k hl hk => by simp only [InR, or_false] at hk; omega)) hO75 (by omega)) hO85 (by omega))) (by omega)), (OwnL.only gI (OwnL.only gI (OwnL.chg gI (OwnL.ex gI (OwnL.chg gI (OwnL.only gI (OwnL.ex gI h19 hE36) hO39 (by omega)) hc49 (fun k hl hk => by simp only [InR, or_false] at hk; omega)) hE57) hc67 (fun k hl hk => by simp only [InR, or_false] at hk; omega)) hO75 (by omega)) hO85 (by omega)), ⟨ho64, ho20.2.1, ho20.2.2⟩, (by (try dsimp only); first | omega | assumption | (simp only [wI] at *; omega)), (Box.only (Box.only hB68 hO75 (by omega)) hO85 (by omega)), (by omega), (Chg.tonly q111 hO85 (by simp only [InR, or_false]; omega))⟩
 ·have hb51p := dec_f hb51
  refine CW.cond_f rfl hb51 (CW.seq (CW.region (sd rfl (yl_eql rfl rfl rfl (sd rfl (yA rfl rfl (dn (bcase (decide (((u_pick pC ((u_table pC p_c).2) 14).1) = 1)) (fun hb113 => ?_) (fun hb113 => ?_)))))))))
  ·have hb113p := dec_t hb113
   refine CW.cond_t rfl hb113 ?_
   have q114 := Box.chg hB38 hc49 (by have := Box.lt hB38; simp only [InR, or_false]; omega)
   have hrf126 := of_len 4 pC ((u_pick pC ((u_table pC p_c).2) 14).2) ([[97], [97, 98, 99, 100], [], [100]] : List Str) (by decide)
   refine CW.drawsG 6 (fun G b => G.dn 4 = true ∧ InR [(b1, b1 + 1)] b) (fun i G b => (i = 4 ∧ b1 ≤ b ∧ b < b1 + 1)) (vgetG [DetG (.pointer (some ⟨b31, 0 + 1, none⟩)), DetG (.slice A18 (((u_table pC p_c).1.Cols).length) c18), DetG (.pointer (some ⟨b1, 0, none⟩)), fun G v wq => ∃ A115, v = .slice A115 4 4 ∧ OwnL wq (G.fl 3) (G.fh 3) 9 1 (RF e_Str) A115 4 4 ([[97], [97, 98, 99, 100], [], [100]] : List Str), fun G v wq => v = .string (bs ((u_of pC ((u_pick pC ((u_table pC p_c).2) 14).2) ([[97], [97, 98, 99, 100], [], [100]] : List Str)).1)) ∧ okS ((u_of pC ((u_pick pC ((u_table pC p_c).2) 14).2) ([[97], [97, 98, 99, 100], [], [100]] : List Str)).1) ∧ (((u_pick pC ((u_table pC p_c).2) 14).2).1 ≤ ((u_of pC ((u_pick pC ((u_table pC p_c).2) 14).2) ([[97], [97, 98, 99, 100], [], [100]] : List Str)).2).1 ∧ ((u_of pC ((u_pick pC ((u_table pC p_c).2) 14).2) ([[97], [97, 98, 99, 100], [], [100]] : List Str)).2).1 ≤ ((u_pick pC ((u_table pC p_c).2) 14).2).1 + 2) ∧ Box wq b1 46 [.slice A3 pC.length c3, .int .i64 (((u_of pC ((u_pick pC ((u_table pC p_c).2) 14).2) ([[97], [97, 98, 99, 100], [], [100]] : List Str)).2).1), .int .u64 (((u_of pC ((u_pick pC ((u_table pC p_c).2) 14).2) ([[97], [97, 98, 99, 100], [], [100]] : List Str)).2).2)], fun G v wq => ∃ A123, v = .slice A123 1 1 ∧ OwnL wq (G.fl 5) (G.fh 5) 9 1 (RF e_Str) A123 1 1 ([(u_of pC ((u_pick pC ((u_table pC p_c).2) 14).2) ([[97], [97, 98, 99, 100], [], [100]] : List Str)).1] : List Str)]) Tryz.follows rfl rfl rfl rfl rfl rfl (fun _ _ _ _ _ h => ⟨Gh.udn h.1, h.2⟩) (fun i G w lo hi b K hn hh hp => by exact (match hp with | ⟨e, q1, q2⟩ => by subst e; exact .inl ⟨Gh.sdn, .inl ⟨q1, q2⟩⟩)) (vgetG_kept ⟨(KeptG.det _), (KeptG.det _), (KeptG.det _), (by rintro i G v w w' K hn hh hj ⟨A115, hv, h0⟩ e; have d3 : G.dn 3 = true := hj; have u3 := Gh.ufl (lo := w.heap.size) (hi := w'.heap.size) d3 hn; have t3 := Gh.ufh (lo := w.heap.size) (hi := w'.heap.size) d3 hn; exact ⟨A115, hv, (by simp only [u3, t3]; exact OwnL.chg gS h0 e (fun b hb hp => by obtain ⟨rfl, q1, q2⟩ := hp; have := K.rng 3 d3; skip; omega))⟩), (by rintro i G v w w' K hn hh hj ⟨hv, h0, h1, h2⟩ e; exact ⟨hv, h0, h1, (by exact Box.chg h2 e (fun hp => by obtain ⟨rfl, q1, q2⟩ := hp; rw [hj] at hn; cases hn))⟩), (by rintro i G v w w' K hn hh hj ⟨A123, hv, h0⟩ e; have d5 : G.dn 5 = true := hj; have u5 := Gh.ufl (lo := w.heap.size) (hi := w'.heap.size) d5 hn; have t5 := Gh.ufh (lo := w.heap.size) (hi := w'.heap.size) d5 hn; exact ⟨A123, hv, (by simp only [u5, t5]; exact OwnL.chg gS h0 e (fun b hb hp => by obtain ⟨rfl, q1, q2⟩ := hp; rw [K.cl 5 4 hj rfl] at hn; cases hn))⟩), trivial⟩) ⟨?_, ?_, ?_, ?_, ?_, ?_, trivial⟩ ?_
   ·intro L128 w129 G127 hgk130
    have hE131 : Chg (fun b => InR [(b1, b1 + 1)] b ∨ w45.heap.size ≤ b) w45 w129 := hgk130.st.ex.imp (fun b _ h => h.imp (fun h => h.2) (fun h => h))
    have hE131z := Chg.size hE131
    exact OpR.op' rfl (Yl.sameG (yl_fieldAddr fd26_1 rfl (hgk130.old 3 _ rfl rfl) kI))
   ·intro L134 w135 G133 hgk136
    have hE137 : Chg (fun b => InR [(b1, b1 + 1)] b ∨ w45.heap.size ≤ b) w45 w135 := hgk136.st.ex.imp (fun b _ h => h.imp (fun h => h.2) (fun h => h))
    have hE137z := Chg.size hE137
    obtain ⟨_, hx138, rfl⟩ := hgk136.val 0 16 rfl rfl
    exact OpR.op' rfl (Yl.sameG (yl_load1 ty23 rfl hx138 (((Box.chg q114 hE137 (by have := Box.lt q114; simp only [InR, or_false]; omega)).cell 1).trans rfl) kI))
   ·intro L141 w142 G140 hgk143
    have hE144 := hgk143.st.ex.ex (fun b h => h.elim (fun h => hgk143.no rfl h) (fun h => h))
    have hE144z := Ex.size hE144
    exact OpR.op' rfl (Yl.sameG (yM rfl (hgk143.old 0 _ rfl rfl) kI))
   ·intro L147 w148 G146 hgk149
    have hE150 := hgk149.st.ex.ex (fun b h => h.elim (fun h => hgk149.no rfl h) (fun h => h))
    have hE150z := Ex.size hE150
    refine OpR.op' rfl (yl_buildSlice (cs := [.string (bs (([97] : Str))), .string (bs (([97, 98, 99, 100] : Str))), .string (bs (([] : Str))), .string (bs (([100] : Str)))]) un23 ty9 (by decide) rfl (oc rfl (oc rfl (oc rfl (oc rfl oz)))) (by kernel_rfl) ?_)
    intro b151 w152 hs153 hz154 hB155 hE156
    have hO157 : OwnL w152 b151 (b151 + 1) 9 1 (RF e_Str) (some ⟨b151, 0, none⟩) 4 4 ([[97], [97, 98, 99, 100], [], [100]] : List Str) := OwnL.of_box (S := fun _ => False) hB155 (Nat.le_refl _) (Nat.lt_succ_self _) (EncL.cons (c := [.string (bs (([97] : Str)))]) rfl rfl (EncL.cons (c := [.string (bs (([97, 98, 99, 100] : Str)))]) rfl rfl (EncL.cons (c := [.string (bs (([] : Str)))]) rfl rfl (EncL.cons (c := [.string (bs (([100] : Str)))]) rfl rfl EncL.nil)))) (Nat.le_of_ble_eq_true rfl) (fun h => h) (fun _ h => False.elim h)
    exact ⟨Chg.of_ex hE156, (some ⟨b151, 0, none⟩), rfl, OwnL.more (lo' := w148.heap.size) (hi' := w152.heap.size) hO157 (by omega) (by omega)⟩
   ·intro L159 w160 G158 hgk161
    have hE162 := hgk161.st.ex.ex (fun b h => h.elim (fun h => hgk161.nw h) (fun h => h))
    have hE162z := Ex.size hE162
    obtain ⟨_, hx163, rfl⟩ := hgk161.val 2 18 rfl rfl
    obtain ⟨_, hx164, A115_165, rfl, h166⟩ := hgk161.val 3 19 rfl rfl
    have hr167 := hgk161.st.rng 3 (hgk161.has 3 rfl)
    have hle170 := OwnL.len h166
    refine OpR.op' rfl (yC en17 rfl (oc hx163 (oc hx164 oz)) (Cal.mono (Cal.args (by rw [← hle170] <;> rfl) (c_u_of pC ((u_pick pC ((u_table pC p_c).2) 14).2) ([[97], [97, 98, 99, 100], [], [100]] : List Str) (Box.ex hB50 hE162) (RdS.ex gU (RdS.chg gU q44 hc49 (fun k hl hk => by simp only [InR, or_false, Iv, Ge] at hk ⊢; omega)) hE162) (by omega) (by omega) (RdS.fix (OwnL.rdI gS h166)) (by omega) (by omega) o6 (okL.mk (Nat.le_of_ble_eq_true rfl) (okE.cons (okS.lit rfl) (okE.cons (okS.lit rfl) (okE.cons (okS.lit rfl) (okE.cons (okS.lit rfl) okE.nil))))) (by first | omega | assumption | (simp only [wI] at *; omega) | (simp only [lN]; omega)) (by omega) (by assumption))) ?_))
    rintro v174 w171 ⟨rfl, ho172, hp173, hB176, hE175⟩
    exact ⟨hE175.imp (fun k _ hk => hk.elim (fun hk => (⟨rfl, hk.1, hk.2⟩)) False.elim), rfl, ho172, hp173, hB176⟩
   ·intro L178 w179 G177 hgk180
    have hE181 : Chg (fun b => InR [(b1, b1 + 1)] b ∨ w45.heap.size ≤ b) w45 w179 := hgk180.st.ex.imp (fun b _ h => h.imp (fun h => h.2) (fun h => h))
    have hE181z := Chg.size hE181
    obtain ⟨_, hx182, rfl, h183, h184, h185⟩ := hgk180.val 4 20 rfl rfl
    have hr186 := hgk180.st.rng 4 (hgk180.has 4 rfl)
    refine OpR.op' rfl (yl_buildSlice (cs := [.string (bs ((u_of pC ((u_pick pC ((u_table pC p_c).2) 14).2) ([[97], [97, 98, 99, 100], [], [100]] : List Str)).1))]) un23 ty9 (by decide) rfl (oc hx182 oz) (by kernel_rfl) ?_)
    intro b187 w188 hs189 hz190 hB191 hE192
    have hO193 : OwnL w188 b187 (b187 + 1) 9 1 (RF e_Str) (some ⟨b187, 0, none⟩) 1 1 ([(u_of pC ((u_pick pC ((u_table pC p_c).2) 14).2) ([[97], [97, 98, 99, 100], [], [100]] : List Str)).1] : List Str) := OwnL.of_box (S := fun _ => False) hB191 (Nat.le_refl _) (Nat.lt_succ_self _) (EncL.cons (c := [.string (bs ((u_of pC ((u_pick pC ((u_table pC p_c).2) 14).2) ([[97], [97, 98, 99, 100], [], [100]] : List Str)).1))]) rfl rfl EncL.nil) (Nat.le_of_ble_eq_true rfl) (fun h => h) (fun _ h => False.elim h)
    exact ⟨Chg.of_ex hE192, (some ⟨b187, 0, none⟩), rfl, OwnL.more (lo' := w179.heap.size) (hi' := w188.heap.size) hO193 (by omega) (by omega)⟩
   ·intro G194 L195 w196 hgp197
    have hE198 : Chg (fun b => InR [(b1, b1 + 1)] b ∨ w45.heap.size ≤ b) w45 w196 := hgp197.st.ex.imp (fun b _ h => h.imp (fun h => h.2) (fun h => h))
    have hE198z := Chg.size hE198
    have hx200 := hgp197.old 3 _ rfl rfl
    obtain ⟨_, hx201, rfl⟩ := hgp197.val 1 17 rfl rfl
    obtain ⟨_, hx202, A115_203, rfl, h204⟩ := hgp197.val 3 19 rfl rfl
    obtain ⟨_, hx205, rfl, h206, h207, h208⟩ := hgp197.val 4 20 rfl rfl
    obtain ⟨_, hx209, A123_210, rfl, h211⟩ := hgp197.val 5 21 rfl rfl
    have hbz212 := Box.lt h208
    have hr213 := hgp197.st.rng 3 (hgp197.has 3 rfl)
    have hr214 := hgp197.st.rng 4 (hgp197.has 4 rfl)
    have hr215 := hgp197.st.rng 5 (hgp197.has 5 rfl)
    have hsp216 := hgp197.st.ord 4 3 (hgp197.has 4 rfl) rfl
    have hsp217 := hgp197.st.ord 5 3 (hgp197.has 5 rfl) rfl
    have hsp218 := hgp197.st.ord 5 4 (hgp197.has 5 rfl) rfl
    have q223 := OwnL.rd gS h211
    obtain ⟨nw224, he225, hs226⟩ := RdS.src q223
    have hol227 : ((u_table pC p_c).1.Cols).length ≤ 2147483648 := ho20.2.1.1
    refine sd rfl (yl_appendP (S := fun _ => False) (lo := lo18) (hi := hi18) (xs := (u_table pC p_c).1.Cols) (ys := ([(u_of pC ((u_pick pC ((u_table pC p_c).2) 14).2) ([[97], [97, 98, 99, 100], [], [100]] : List Str)).1] : List Str)) un23 ty9 rfl (Nat.le_of_ble_eq_true rfl) (fun _ => rfl) rfl hx201 hx209 (OwnL.chg gS (OwnL.chg gS (OwnL.only gS (OwnL.ex gS h18 hE36) hO39 (by omega)) hc49 (fun k hl hk => by simp only [InR, or_false] at hk; omega)) hE198 (fun k hl hk => by simp only [InR, or_false] at hk; omega)) he225 hs226 (RdS.len q223) (by first | omega | (simp only [lN, toS_length]; omega)) (by first | omega | (simp only [lN, toS_length]; omega)) (by omega) (by omega) (by omega) ?_)
    intro A228 c229 w230 row231 lp232 hp233 hO234 hG235 hrg236 hdj237
    have hG235z := hG235.size
    refine sd rfl (yl_fieldAddr fd26_1 rfl hx200 (SeqR.u rfl rfl (yl_store (vs := [.slice A228 (((u_table pC p_c).1.Cols ++ ([(u_of pC ((u_pick pC ((u_table pC p_c).2) 14).2) ([[97], [97, 98, 99, 100], [], [100]] : List Str)).1] : List Str)).length) c229]) ty23 rfl rfl rfl rfl rfl rfl (Box.grown (Box.chg q114 hE198 (by have := Box.lt q114; simp only [InR, or_false]; omega)) hG235 (fun k hk => by have := hrg236 k hk; omega)) (Nat.le_of_ble_eq_true rfl) ?_)))
    intro w240 hB241 hO242
    have hB241 : Box w240 b31 26 [.string (bs ((u_table pC p_c).1.Name)), .slice A228 (((u_table pC p_c).1.Cols ++ ([(u_of pC ((u_pick pC ((u_table pC p_c).2) 14).2) ([[97], [97, 98, 99, 100], [], [100]] : List Str)).1] : List Str)).length) c229, .slice A19 (((u_table pC p_c).1.Idxs).length) c19] := hB241
    have hO242z := hO242.size
    refine SeqR.done (bn (tn (CW.sub (Sub.cons (d := 2) (hgp197.old 2 _ rfl rfl) (Sub.cons (d := 3) hx200 (Sub.nil _))) (CW.seq (CW.region (sd rfl (yl_loadN ty26 rfl rfl (hB241.cells (n := 3) rfl) rfl ?_)))))))
    have q245 := Box.only (Box.ex (Box.chg hB13 hc25 (by have := Box.lt hB13; simp only [InR, or_false]; omega)) hE36) hO39 (by omega)
    have q246 := Box.chg q245 hc49 (by have := Box.lt q245; simp only [InR, or_false]; omega)
    refine SeqR.u rfl rfl (yl_store (vs := [.string (bs ((u_table pC p_c).1.Name)), .slice A228 (((u_table pC p_c).1.Cols ++ ([(u_of pC ((u_pick pC ((u_table pC p_c).2) 14).2) ([[97], [97, 98, 99, 100], [], [100]] : List Str)).1] : List Str)).length) c229, .slice A19 (((u_table pC p_c).1.Idxs).length) c19]) ty26 rfl rfl rfl rfl rfl rfl (Box.only (Box.grown (Box.chg q246 hE198 (by have := Box.lt q246; simp only [InR, or_false]; omega)) hG235 (fun k hk => by have := hrg236 k hk; omega)) hO242 (by omega)) (Nat.le_of_ble_eq_true rfl) ?_)
    intro w250 hB251 hO252
    have hB251 : Box w250 b9 26 [.string (bs ((u_table pC p_c).1.Name)), .slice A228 (((u_table pC p_c).1.Cols ++ ([(u_of pC ((u_pick pC ((u_table pC p_c).2) 14).2) ([[97], [97, 98, 99, 100], [], [100]] : List Str)).1] : List Str)).length) c229, .slice A19 (((u_table pC p_c).1.Idxs).length) c19] := hB251
    have hO252z := hO252.size
    refine dn (CW.ret (rr rfl (.cons ⟨_, rfl, run_loadN ty26 (cs := [.string (bs ((u_table pC p_c).1.Name)), .slice A228 (((u_table pC p_c).1.Cols ++ ([(u_of pC ((u_pick pC ((u_table pC p_c).2) 14).2) ([[97], [97, 98, 99, 100], [], [100]] : List Str)).1] : List Str)).length) c229, .slice A19 (((u_table pC p_c).1.Idxs).length) c19]) rfl (hB251.cells (n := 3) rfl)⟩ .nil) ?_))
    have hM253 : (u_bentTable pC p_c) = (((⟨(u_table pC p_c).1.Name, ((u_table pC p_c).1.Cols ++ ([(u_of pC ((u_pick pC ((u_table pC p_c).2) 14).2) ([[97], [97, 98, 99, 100], [], [100]] : List Str)).1] : List Str)), (u_table pC p_c).1.Idxs⟩ : DTable), (((u_of pC ((u_pick pC ((u_table pC p_c).2) 14).2) ([[97], [97, 98, 99, 100], [], [100]] : List Str)).2).1, ((u_of pC ((u_pick pC ((u_table pC p_c).2) 14).2) ([[97], [97, 98, 99, 100], [], [100]] : List Str)).2).2))) := by first | (simp only [u_bentTable, hb51, hb113, cL]; done) | (simp only [u_bentTable, hb51, hb113, cond_true, cond_false, loopE_done, loopE_ret, pairE]; done) | exact (show (u_bentTable pC p_c) = (((⟨(u_table pC p_c).1.Name, ((u_table pC p_c).1.Cols ++ ([(u_of pC ((u_pick pC ((u_table pC p_c).2) 14).2) ([[97], [97, 98, 99, 100], [], [100]] : List Str)).1] : List Str)), (u_table pC p_c).1.Idxs⟩ : DTable), ((u_of pC ((u_pick pC ((u_table pC p_c).2) 14).2) ([[97], [97, 98, 99, 100], [], [100]] : List Str)).2))) from by simp only [u_bentTable, hb51, hb113, cond_true, cond_false, loopE_done, loopE_ret, pairE])
    have hol264 : ((u_table pC p_c).1.Cols).length ≤ 2147483648 := ho20.2.1.1
    rw [hM253]
    have q274 := Chg.tgrown (Chg.tchg (Chg.tchg (Chg.tonly (Chg.tex (Chg.tchg (Chg.tex (Chg.refl (InR [(b1, b1 + 1)]) w) hE14) hc25 (fun k hk => by simp only [InR, or_false] at hk ⊢; omega)) hE36) hO39 (by simp only [InR, or_false]; omega)) hc49 (fun k hk => by simp only [InR, or_false] at hk ⊢; omega)) hE198 (fun k hk => by simp only [InR, or_false] at hk ⊢; omega)) hG235 (fun k hk => by have := hrg236 k hk; simp only [InR, or_false]; omega)
    exact ⟨A228, c229, A19, c19, lo19, hi19, rfl, (RdS.wideI gS (OwnL.rd gS (OwnL.only gS (OwnL.only gS hO234 hO242 (by omega)) hO252 (by omega))) (by omega)), (OwnL.only gI (OwnL.only gI (OwnL.grown gI (OwnL.chg gI (OwnL.chg gI (OwnL.only gI (OwnL.ex gI h19 hE36) hO39 (by omega)) hc49 (fun k hl hk => by simp only [InR, or_false] at hk; omega)) hE198 (fun k hl hk => by simp only [InR, or_false] at hk; omega)) hG235 (fun k hk => by have := hrg236 k hk; omega)) hO242 (by omega)) hO252 (by omega)), ⟨ho20.1, (okL.mk (xs := ((u_table pC p_c).1.Cols ++ ([(u_of pC ((u_pick pC ((u_table pC p_c).2) 14).2) ([[97], [97, 98, 99, 100], [], [100]] : List Str)).1] : List Str))) (by first | omega | (simp only [lN, toS_length]; omega)) (okE.append (ho20.2.1).2 ((okL.mk (Nat.le_of_ble_eq_true rfl) (okE.cons h206 okE.nil))).2)), ho20.2.2⟩, (by (try dsimp only); first | omega | assumption | (simp only [wI] at *; omega)), (Box.only (Box.only (Box.grown h208 hG235 (fun k hk => by have := hrg236 k hk; omega)) hO242 (by omega)) hO252 (by omega)), (by omega), (Chg.tonly (Chg.tonly q274 hO242 (by simp only [InR, or_false]; omega)) hO252 (by simp only [InR, or_false]; omega))⟩
  ·have hb113p := dec_f hb113
   refine CW.cond_f rfl hb113 (CW.seq (CW.region (sd rfl (yl_eql rfl rfl rfl (sd rfl (yA rfl rfl (dn (bcase (decide (((u_pick pC ((u_table pC p_c).2) 14).1) = 2)) (fun hb277 => ?_) (fun hb277 => ?_)))))))))
   ·have hb277p := dec_t hb277
    refine CW.cond_t rfl hb277 (CW.region (sd rfl (yl_fieldAddr fd26_1 rfl rfl ?_)))
    have q278 := Box.chg hB38 hc49 (by have := Box.lt hB38; simp only [InR, or_false]; omega)
    refine sd rfl (yl_load1 ty23 rfl rfl ((q278.cell 1).trans rfl) ?_)
    have q283 := OwnL.rdI gS (OwnL.chg gS (OwnL.only gS (OwnL.ex gS h18 hE36) hO39 (by omega)) hc49 (fun k hl hk => by simp only [InR, or_false] at hk; omega))
    obtain ⟨A284, c285, he288, h287⟩ := RdS.sl (RdS.drop (RdS.take q283 (k := 1) (by first | omega | assumption | (simp only [wI] at *; omega))) (k := 0) (by first | omega | assumption | (simp only [wI] at *; omega)))
    have hrc289 := (q283).2.1
    refine sd rfl (yl_sliceR (kl := .i64) (l := 0) (h := 1) un23 ty9 rfl rfl (.inl ⟨rfl, rfl⟩) (.inr ⟨_, rfl, rfl⟩) (by first | omega | assumption | (simp only [wI] at *; omega)) (by first | omega | assumption | (simp only [wI] at *; omega)) he288 (sd rfl (yl_fieldAddr fd26_1 rfl rfl (SeqR.u rfl rfl (yl_store (vs := [.slice A284 ((((u_table pC p_c).1.Cols).take 1).length) c285]) ty23 rfl rfl rfl rfl rfl rfl q278 (Nat.le_of_ble_eq_true rfl) ?_)))))
    intro w290 hB291 hO292
    have hB291 : Box w290 b31 26 [.string (bs ((u_table pC p_c).1.Name)), .slice A284 ((((u_table pC p_c).1.Cols).take 1).length) c285, .slice A19 (((u_table pC p_c).1.Idxs).length) c19] := hB291
    have hO292z := hO292.size
    refine SeqR.done (bn (tn (CW.seq (CW.region (sd rfl (yl_loadN ty26 rfl rfl (hB291.cells (n := 3) rfl) rfl ?_))))))
    have q295 := Box.only (Box.ex (Box.chg hB13 hc25 (by have := Box.lt hB13; simp only [InR, or_false]; omega)) hE36) hO39 (by omega)
    refine SeqR.u rfl rfl (yl_store (vs := [.string (bs ((u_table pC p_c).1.Name)), .slice A284 ((((u_table pC p_c).1.Cols).take 1).length) c285, .slice A19 (((u_table pC p_c).1.Idxs).length) c19]) ty26 rfl rfl rfl rfl rfl rfl (Box.only (Box.chg q295 hc49 (by have := Box.lt q295; simp only [InR, or_false]; omega)) hO292 (by omega)) (Nat.le_of_ble_eq_true rfl) ?_)
    intro w298 hB299 hO300
    have hB299 : Box w298 b9 26 [.string (bs ((u_table pC p_c).1.Name)), .slice A284 ((((u_table pC p_c).1.Cols).take 1).length) c285, .slice A19 (((u_table pC p_c).1.Idxs).length) c19] := hB299
    have hO300z := hO300.size
    refine dn (CW.ret (rr rfl (.cons ⟨_, rfl, run_loadN ty26 (cs := [.string (bs ((u_table pC p_c).1.Name)), .slice A284 ((((u_table pC p_c).1.Cols).take 1).length) c285, .slice A19 (((u_table pC p_c).1.Idxs).length) c19]) rfl (hB299.cells (n := 3) rfl)⟩ .nil) ?_))
    have hM301 : (u_bentTable pC p_c) = (((⟨(u_table pC p_c).1.Name, (((u_table pC p_c).1.Cols).take 1), (u_table pC p_c).1.Idxs⟩ : DTable), (((u_pick pC ((u_table pC p_c).2) 14).2).1, ((u_pick pC ((u_table pC p_c).2) 14).2).2))) := by first | (simp only [u_bentTable, hb51, hb113, hb277, cL]; done) | (simp only [u_bentTable, hb51, hb113, hb277, cond_true, cond_false, loopE_done, loopE_ret, pairE]; done) | exact (show (u_bentTable pC p_c) = (((⟨(u_table pC p_c).1.Name, (((u_table pC p_c).1.Cols).take 1), (u_table pC p_c).1.Idxs⟩ : DTable), ((u_pick pC ((u_table pC p_c).2) 14).2))) from by simp only [u_bentTable, hb51, hb113, hb277, cond_true, cond_false, loopE_done, loopE_ret, pairE])
    rw [hM301]
    exact ⟨A284, c285, A19, c19, lo19, hi19, rfl, (RdS.wideI gS (RdS.only gS (RdS.only gS h287 hO292 (by simp only [Iv]; omega)) hO300 (by simp only [Iv]; omega)) (by omega)), (OwnL.only gI (OwnL.only gI (OwnL.chg gI (OwnL.only gI (OwnL.ex gI h19 hE36) hO39 (by omega)) hc49 (fun k hl hk => by simp only [InR, or_false] at hk; omega)) hO292 (by omega)) hO300 (by omega)), ⟨ho20.1, (okL.take ho20.2.1 _), ho20.2.2⟩, (by (try dsimp only); first | omega | assumption | (simp only [wI] at *; omega)), (Box.only (Box.only hB50 hO292 (by omega)) hO300 (by omega)), (by omega), (Chg.tonly (Chg.tonly (Chg.tchg (Chg.tonly (Chg.tex (Chg.tchg (Chg.tex (Chg.refl (InR [(b1, b1 + 1)]) w) hE14) hc25 (fun k hk => by simp only [InR, or_false] at hk ⊢; omega)) hE36) hO39 (by simp only [InR, or_false]; omega)) hc49 (fun k hk => by simp only [InR, or_false] at hk ⊢; omega)) hO292 (by simp only [InR, or_false]; omega)) hO300 (by simp only [InR, or_false]; omega))⟩
   ·have hb277p := dec_f hb277
    refine CW.cond_f rfl hb277 (CW.seq (CW.region (sd rfl (yl_eql rfl rfl rfl (sd rfl (yA rfl rfl (dn (bcase (decide (((u_pick pC ((u_table pC p_c).2) 14).1) = 3)) (fun hb318 => ?_) (fun hb318 => ?_)))))))))
    ·have hb318p := dec_t hb318
     refine CW.cond_t rfl hb318 ?_
     have q319 := Box.chg hB38 hc49 (by have := Box.lt hB38; simp only [InR, or_false]; omega)
     have q323 := RdS.chg gU q44 hc49 (fun k hl hk => by simp only [InR, or_false, Iv, Ge] at hk ⊢; omega)
     have hrf339 := of_len 2 pC ((u_pick pC ((u_table pC p_c).2) 14).2) ([[97], [122], [122, 122]] : List Str) (by decide)
     refine CW.drawsG 12 (fun G b => (G.dn 4 = true ∧ InR [(b1, b1 + 1)] b) ∨ (G.dn 6 = true ∧ InR [(b1, b1 + 1)] b) ∨ (G.dn 8 = true ∧ InR [(b1, b1 + 1)] b)) (fun i G b => (i = 4 ∧ b1 ≤ b ∧ b < b1 + 1) ∨ (i = 6 ∧ b1 ≤ b ∧ b < b1 + 1) ∨ (i = 8 ∧ b1 ≤ b ∧ b < b1 + 1)) (vgetG [DetG (.pointer (some ⟨b31, 0 + 2, none⟩)), DetG (.slice A19 (((u_table pC p_c).1.Idxs).length) c19), DetG (.pointer (some ⟨b1, 0, none⟩)), fun G v wq => ∃ A320, v = .slice A320 3 3 ∧ OwnL wq (G.fl 3) (G.fh 3) 9 1 (RF e_Str) A320 3 3 ([[97], [122], [122, 122]] : List Str), fun G v wq => v = .string (bs ((u_of pC ((u_pick pC ((u_table pC p_c).2) 14).2) ([[97], [122], [122, 122]] : List Str)).1)) ∧ okS ((u_of pC ((u_pick pC ((u_table pC p_c).2) 14).2) ([[97], [122], [122, 122]] : List Str)).1) ∧ (((u_pick pC ((u_table pC p_c).2) 14).2).1 ≤ ((u_of pC ((u_pick pC ((u_table pC p_c).2) 14).2) ([[97], [122], [122, 122]] : List Str)).2).1 ∧ ((u_of pC ((u_pick pC ((u_table pC p_c).2) 14).2) ([[97], [122], [122, 122]] : List Str)).2).1 ≤ ((u_pick pC ((u_table pC p_c).2) 14).2).1 + 2) ∧ (G.dn 6 = false → Box wq b1 46 [.slice A3 pC.length c3, .int .i64 (((u_of pC ((u_pick pC ((u_table pC p_c).2) 14).2) ([[97], [122], [122, 122]] : List Str)).2).1), .int .u64 (((u_of pC ((u_pick pC ((u_table pC p_c).2) 14).2) ([[97], [122], [122, 122]] : List Str)).2).2)]), DetG (.pointer (some ⟨b1, 0, none⟩)), fun G v wq => v = .int .i64 ((u_pick pC ((u_of pC ((u_pick pC ((u_table pC p_c).2) 14).2) ([[97], [122], [122, 122]] : List Str)).2) 5).1) ∧ (0 ≤ (u_pick pC ((u_of pC ((u_pick pC ((u_table pC p_c).2) 14).2) ([[97], [122], [122, 122]] : List Str)).2) 5).1 ∧ (u_pick pC ((u_of pC ((u_pick pC ((u_table pC p_c).2) 14).2) ([[97], [122], [122, 122]] : List Str)).2) 5).1 ≤ 65535 ∧ ((u_pick pC ((u_of pC ((u_pick pC ((u_table pC p_c).2) 14).2) ([[97], [122], [122, 122]] : List Str)).2) 5).1 < 5 ∨ ((5 : Int) ≤ 0 ∧ (u_pick pC ((u_of pC ((u_pick pC ((u_table pC p_c).2) 14).2) ([[97], [122], [122, 122]] : List Str)).2) 5).1 = 0))) ∧ (((u_of pC ((u_pick pC ((u_table pC p_c).2) 14).2) ([[97], [122], [122, 122]] : List Str)).2).1 ≤ ((u_pick pC ((u_of pC ((u_pick pC ((u_table pC p_c).2) 14).2) ([[97], [122], [122, 122]] : List Str)).2) 5).2).1 ∧ ((u_pick pC ((u_of pC ((u_pick pC ((u_table pC p_c).2) 14).2) ([[97], [122], [122, 122]] : List Str)).2) 5).2).1 ≤ ((u_of pC ((u_pick pC ((u_table pC p_c).2) 14).2) ([[97], [122], [122, 122]] : List Str)).2).1 + 2) ∧ (G.dn 8 = false → Box wq b1 46 [.slice A3 pC.length c3, .int .i64 (((u_pick pC ((u_of pC ((u_pick pC ((u_table pC p_c).2) 14).2) ([[97], [122], [122, 122]] : List Str)).2) 5).2).1), .int .u64 (((u_pick pC ((u_of pC ((u_pick pC ((u_table pC p_c).2) 14).2) ([[97], [122], [122, 122]] : List Str)).2) 5).2).2)]), DetG (.pointer (some ⟨b1, 0, none⟩)), fun G v wq => v = .int .i64 ((u_pick pC ((u_pick pC ((u_of pC ((u_pick pC ((u_table pC p_c).2) 14).2) ([[97], [122], [122, 122]] : List Str)).2) 5).2) 5).1) ∧ (0 ≤ (u_pick pC ((u_pick pC ((u_of pC ((u_pick pC ((u_table pC p_c).2) 14).2) ([[97], [122], [122, 122]] : List Str)).2) 5).2) 5).1 ∧ (u_pick pC ((u_pick pC ((u_of pC ((u_pick pC ((u_table pC p_c).2) 14).2) ([[97], [122], [122, 122]] : List Str)).2) 5).2) 5).1 ≤ 65535 ∧ ((u_pick pC ((u_pick pC ((u_of pC ((u_pick pC ((u_table pC p_c).2) 14).2) ([[97], [122], [122, 122]] : List Str)).2) 5).2) 5).1 < 5 ∨ ((5 : Int) ≤ 0 ∧ (u_pick pC ((u_pick pC ((u_of pC ((u_pick pC ((u_table pC p_c).2) 14).2) ([[97], [122], [122, 122]] : List Str)).2) 5).2) 5).1 = 0))) ∧ (((u_pick pC ((u_of pC ((u_pick pC ((u_table pC p_c).2) 14).2) ([[97], [122], [122, 122]] : List Str)).2) 5).2).1 ≤ ((u_pick pC ((u_pick pC ((u_of pC ((u_pick pC ((u_table pC p_c).2) 14).2) ([[97], [122], [122, 122]] : List Str)).2) 5).2) 5).2).1 ∧ ((u_pick pC ((u_pick pC ((u_of pC ((u_pick pC ((u_table pC p_c).2) 14).2) ([[97], [122], [122, 122]] : List Str)).2) 5).2) 5).2).1 ≤ ((u_pick pC ((u_of pC ((u_pick pC ((u_table pC p_c).2) 14).2) ([[97], [122], [122, 122]] : List Str)).2) 5).2).1 + 2) ∧ Box wq b1 46 [.slice A3 pC.length c3, .int .i64 (((u_pick pC ((u_pick pC ((u_of pC ((u_pick pC ((u_table pC p_c).2) 14).2) ([[97], [122], [122, 122]] : List Str)).2) 5).2) 5).2).1), .int .u64 (((u_pick pC ((u_pick pC ((u_of pC ((u_pick pC ((u_table pC p_c).2) 14).2) ([[97], [122], [122, 122]] : List Str)).2) 5).2) 5).2).2)], DetG (.int .i64 (IntKind.wrap .i64 (((u_pick pC ((u_pick pC ((u_of pC ((u_pick pC ((u_table pC p_c).2) 14).2) ([[97], [122], [122, 122]] : List Str)).2) 5).2) 5).1) - 1))), DetG (.agg #[.string (bs ((u_of pC ((u_pick pC ((u_table pC p_c).2) 14).2) ([[97], [122], [122, 122]] : List Str)).1)), .int .i64 ((u_pick pC ((u_of pC ((u_pick pC ((u_table pC p_c).2) 14).2) ([[97], [122], [122, 122]] : List Str)).2) 5).1), .int .i64 (IntKind.wrap .i64 (((u_pick pC ((u_pick pC ((u_of pC ((u_pick pC ((u_table pC p_c).2) 14).2) ([[97], [122], [122, 122]] : List Str)).2) 5).2) 5).1) - 1))]), fun G v wq => ∃ A336, v = .slice A336 1 1 ∧ OwnL wq (G.fl 11) (G.fh 11) 64 3 (RF e_Idx) A336 1 1 ([(⟨(u_of pC ((u_pick pC ((u_table pC p_c).2) 14).2) ([[97], [122], [122, 122]] : List Str)).1, (u_pick pC ((u_of pC ((u_pick pC ((u_table pC p_c).2) 14).2) ([[97], [122], [122, 122]] : List Str)).2) 5).1, IntKind.wrap .i64 (((u_pick pC ((u_pick pC ((u_of pC ((u_pick pC ((u_table pC p_c).2) 14).2) ([[97], [122], [122, 122]] : List Str)).2) 5).2) 5).1) - 1)⟩ : DIdx)] : List DIdx)]) Tryz.follows rfl rfl rfl rfl rfl rfl (fun _ _ _ _ _ h => (fun h => h.imp (fun h => ⟨Gh.udn h.1, h.2⟩) (fun h => h.imp (fun h => ⟨Gh.udn h.1, h.2⟩) (fun h => ⟨Gh.udn h.1, h.2⟩))) h) (fun i G w lo hi b K hn hh hp => by exact (hp.elim (fun ⟨e, q1, q2⟩ => by subst e; exact .inl (.inl ⟨Gh.sdn, .inl ⟨q1, q2⟩⟩)) (fun hp => (hp.elim (fun ⟨e, q1, q2⟩ => by subst e; exact .inl (.inr (.inl ⟨Gh.sdn, .inl ⟨q1, q2⟩⟩))) (fun hp => (match hp with | ⟨e, q1, q2⟩ => by subst e; exact .inl (.inr (.inr (⟨Gh.sdn, .inl ⟨q1, q2⟩⟩))))))))) (vgetG_kept ⟨(KeptG.det _), (KeptG.det _), (KeptG.det _), (by rintro i G v w w' K hn hh hj ⟨A320, hv, h0⟩ e; have d3 : G.dn 3 = true := hj; have u3 := Gh.ufl (lo := w.heap.size) (hi := w'.heap.size) d3 hn; have t3 := Gh.ufh (lo := w.heap.size) (hi := w'.heap.size) d3 hn; exact ⟨A320, hv, (by simp only [u3, t3]; exact OwnL.chg gS h0 e (fun b hb hp => by exact (hp.elim (fun ⟨e, q1, q2⟩ => by subst e; have := K.rng 3 d3; skip; omega) (fun hp => (hp.elim (fun ⟨e, q1, q2⟩ => by subst e; have := K.rng 3 d3; skip; omega) (fun hp => (match hp with | ⟨e, q1, q2⟩ => by subst e; have := K.rng 3 d3; skip; omega)))))))⟩), (by rintro i G v w w' K hn hh hj ⟨hv, h0, h1, h2⟩ e; exact ⟨hv, h0, h1, (by intro hd; exact Box.chg (h2 (Gh.off hd).2) e (fun hp => by exact (hp.elim (fun ⟨e, q1, q2⟩ => by subst e; rw [hj] at hn; cases hn) (fun hp => (hp.elim (fun ⟨e, q1, q2⟩ => by subst e; exact absurd rfl (Gh.off hd).1) (fun hp => (match hp with | ⟨e, q1, q2⟩ => by subst e; exact absurd ((Gh.off hd).2.symm.trans (hh 6 rfl)) Bool.false_ne_true)))))))⟩), (KeptG.det _), (by rintro i G v w w' K hn hh hj ⟨hv, h0, h1, h2⟩ e; exact ⟨hv, h0, h1, (by intro hd; exact Box.chg (h2 (Gh.off hd).2) e (fun hp => by exact (hp.elim (fun ⟨e, q1, q2⟩ => by subst e; rw [K.cl 6 4 hj rfl] at hn; cases hn) (fun hp => (hp.elim (fun ⟨e, q1, q2⟩ => by subst e; rw [hj] at hn; cases hn) (fun hp => (match hp with | ⟨e, q1, q2⟩ => by subst e; exact absurd rfl (Gh.off hd).1)))))))⟩), (KeptG.det _), (by rintro i G v w w' K hn hh hj ⟨hv, h0, h1, h2⟩ e; exact ⟨hv, h0, h1, (by exact Box.chg h2 e (fun hp => by exact (hp.elim (fun ⟨e, q1, q2⟩ => by subst e; rw [K.cl 8 4 hj rfl] at hn; cases hn) (fun hp => (hp.elim (fun ⟨e, q1, q2⟩ => by subst e; rw [K.cl 8 6 hj rfl] at hn; cases hn) (fun hp => (match hp with | ⟨e, q1, q2⟩ => by subst e; rw [hj] at hn; cases hn)))))))⟩), (KeptG.det _), (KeptG.det _), (by rintro i G v w w' K hn hh hj ⟨A336, hv, h0⟩ e; have d11 : G.dn 11 = true := hj; have u11 := Gh.ufl (lo := w.heap.size) (hi := w'.heap.size) d11 hn; have t11 := Gh.ufh (lo := w.heap.size) (hi := w'.heap.size) d11 hn; exact ⟨A336, hv, (by simp only [u11, t11]; exact OwnL.chg gI h0 e (fun b hb hp => by exact (hp.elim (fun ⟨e, q1, q2⟩ => by subst e; rw [K.cl 11 4 hj rfl] at hn; cases hn) (fun hp => (hp.elim (fun ⟨e, q1, q2⟩ => by subst e; rw [K.cl 11 6 hj rfl] at hn; cases hn) (fun hp => (match hp with | ⟨e, q1, q2⟩ => by subst e; rw [K.cl 11 8 hj rfl] at hn; cases hn)))))))⟩), trivial⟩) ⟨?_, ?_, ?_, ?_, ?_, ?_, ?_, ?_, ?_, ?_, ?_, ?_, trivial⟩ ?_
     ·intro L341 w342 G340 hgk343
      have hE344 : Chg (fun b => InR [(b1, b1 + 1)] b ∨ w45.heap.size ≤ b) w45 w342 := hgk343.st.ex.imp (fun b _ h => h.imp (fun h => h.elim (fun h => h.2) (fun h => h.elim (fun h => h.2) (fun h => h.2))) (fun h => h))
      have hE344z := Chg.size hE344
      exact OpR.op' rfl (Yl.sameG (yl_fieldAddr fd26_2 rfl (hgk343.old 3 _ rfl rfl) kI))
     ·intro L347 w348 G346 hgk349
      have hE350 : Chg (fun b => InR [(b1, b1 + 1)] b ∨ w45.heap.size ≤ b) w45 w348 := hgk349.st.ex.imp (fun b _ h => h.imp (fun h => h.elim (fun h => h.2) (fun h => h.elim (fun h => h.2) (fun h => h.2))) (fun h => h))
      have hE350z := Chg.size hE350
      obtain ⟨_, hx351, rfl⟩ := hgk349.val 0 32 rfl rfl
      exact OpR.op' rfl (Yl.sameG (yl_load1 ty24 rfl hx351 (((Box.chg q319 hE350 (by have := Box.lt q319; simp only [InR, or_false]; omega)).cell 2).trans rfl) kI))
     ·intro L354 w355 G353 hgk356
      have hE357 := hgk356.st.ex.ex (fun b h => h.elim (fun h => h.elim (fun h => hgk356.no rfl h) (fun h => h.elim (fun h => hgk356.no rfl h) (fun h => hgk356.no rfl h))) (fun h => h))
      have hE357z := Ex.size hE357
      exact OpR.op' rfl (Yl.sameG (yM rfl (hgk356.old 0 _ rfl rfl) kI))
     ·intro L360 w361 G359 hgk362
      have hE363 := hgk362.st.ex.ex (fun b h => h.elim (fun h => h.elim (fun h => hgk362.no rfl h) (fun h => h.elim (fun h => hgk362.no rfl h) (fun h => hgk362.no rfl h))) (fun h => h))
      have hE363z := Ex.size hE363
      refine OpR.op' rfl (yl_buildSlice (cs := [.string (bs (([97] : Str))), .string (bs (([122] : Str))), .string (bs (([122, 122] : Str)))]) un23 ty9 (by decide) rfl (oc rfl (oc rfl (oc rfl oz))) (by kernel_rfl) ?_)
      intro b364 w365 hs366 hz367 hB368 hE369
      have hO370 : OwnL w365 b364 (b364 + 1) 9 1 (RF e_Str) (some ⟨b364, 0, none⟩) 3 3 ([[97], [122], [122, 122]] : List Str) := OwnL.of_box (S := fun _ => False) hB368 (Nat.le_refl _) (Nat.lt_succ_self _) (EncL.cons (c := [.string (bs (([97] : Str)))]) rfl rfl (EncL.cons (c := [.string (bs (([122] : Str)))]) rfl rfl (EncL.cons (c := [.string (bs (([122, 122] : Str)))]) rfl rfl EncL.nil))) (Nat.le_of_ble_eq_true rfl) (fun h => h) (fun _ h => False.elim h)
      exact ⟨Chg.of_ex hE369, (some ⟨b364, 0, none⟩), rfl, OwnL.more (lo' := w361.heap.size) (hi' := w365.heap.size) hO370 (by omega) (by omega)⟩
     ·intro L372 w373 G371 hgk374
      have hE375 := hgk374.st.ex.ex (fun b h => h.elim (fun h => h.elim (fun h => hgk374.nw h) (fun h => h.elim (fun h => hgk374.no rfl h) (fun h => hgk374.no rfl h))) (fun h => h))
      have hE375z := Ex.size hE375
      obtain ⟨_, hx376, rfl⟩ := hgk374.val 2 34 rfl rfl
      obtain ⟨_, hx377, A320_378, rfl, h379⟩ := hgk374.val 3 35 rfl rfl
      have hr380 := hgk374.st.rng 3 (hgk374.has 3 rfl)
      have hle383 := OwnL.len h379
      refine OpR.op' rfl (yC en17 rfl (oc hx376 (oc hx377 oz)) (Cal.mono (Cal.args (by rw [← hle383] <;> rfl) (c_u_of pC ((u_pick pC ((u_table pC p_c).2) 14).2) ([[97], [122], [122, 122]] : List Str) (Box.ex hB50 hE375) (RdS.ex gU q323 hE375) (by omega) (by omega) (RdS.fix (OwnL.rdI gS h379)) (by omega) (by omega) o6 (okL.mk (Nat.le_of_ble_eq_true rfl) (okE.cons (okS.lit rfl) (okE.cons (okS.lit rfl) (okE.cons (okS.lit rfl) okE.nil)))) (by first | omega | assumption | (simp only [wI] at *; omega) | (simp only [lN]; omega)) (by omega) (by assumption))) ?_))
      rintro v387 w384 ⟨rfl, ho385, hp386, hB389, hE388⟩
      exact ⟨hE388.imp (fun k _ hk => hk.elim (fun hk => (.inl ⟨rfl, hk.1, hk.2⟩)) False.elim), rfl, ho385, hp386, fun _ => hB389⟩
     ·intro L391 w392 G390 hgk393
      have hE394 : Chg (fun b => InR [(b1, b1 + 1)] b ∨ w45.heap.size ≤ b) w45 w392 := hgk393.st.ex.imp (fun b _ h => h.imp (fun h => h.elim (fun h => h.2) (fun h => h.elim (fun h => hgk393.no rfl h) (fun h => hgk393.no rfl h))) (fun h => h))
      have hE394z := Chg.size hE394
      exact OpR.op' rfl (Yl.sameG (yM rfl (hgk393.old 0 _ rfl rfl) kI))
     ·intro L397 w398 G396 hgk399
      have hE400 : Chg (fun b => InR [(b1, b1 + 1)] b ∨ w45.heap.size ≤ b) w45 w398 := hgk399.st.ex.imp (fun b _ h => h.imp (fun h => h.elim (fun h => h.2) (fun h => h.elim (fun h => hgk399.nw h) (fun h => hgk399.no rfl h))) (fun h => h))
      have hE400z := Chg.size hE400
      obtain ⟨_, hx401, rfl⟩ := hgk399.val 5 37 rfl rfl
      obtain ⟨_, rfl, h402, h403, h404⟩ := hgk399.fact 4 rfl
      have h404 := h404 hgk399.new
      have hr405 := hgk399.st.rng 4 (hgk399.has 4 rfl)
      refine OpR.op' rfl (yC en39 rfl (oc hx401 (oc rfl oz)) (Cal.mono (c_u_pick pC ((u_of pC ((u_pick pC ((u_table pC p_c).2) 14).2) ([[97], [122], [122, 122]] : List Str)).2) 5 h404 (RdS.chg gU q323 hE400 (fun k hl hk => by simp only [InR, or_false, Iv, Ge] at hk ⊢; omega)) (by omega) (by omega) o6 (by omega) (by assumption)) ?_))
      rintro v410 w407 ⟨rfl, hp408, hp409, hB412, hE411⟩
      exact ⟨hE411.imp (fun k _ hk => hk.elim (fun hk => (.inr (.inl ⟨rfl, hk.1, hk.2⟩))) False.elim), rfl, hp408, hp409, fun _ => hB412⟩
     ·intro L414 w415 G413 hgk416
      have hE417 : Chg (fun b => InR [(b1, b1 + 1)] b ∨ w45.heap.size ≤ b) w45 w415 := hgk416.st.ex.imp (fun b _ h => h.imp (fun h => h.elim (fun h => h.2) (fun h => h.elim (fun h => h.2) (fun h => hgk416.no rfl h))) (fun h => h))
      have hE417z := Chg.size hE417
      exact OpR.op' rfl (Yl.sameG (yM rfl (hgk416.old 0 _ rfl rfl) kI))
     ·intro L420 w421 G419 hgk422
      have hE423 : Chg (fun b => InR [(b1, b1 + 1)] b ∨ w45.heap.size ≤ b) w45 w421 := hgk422.st.ex.imp (fun b _ h => h.imp (fun h => h.elim (fun h => h.2) (fun h => h.elim (fun h => h.2) (fun h => hgk422.nw h))) (fun h => h))
      have hE423z := Chg.size hE423
      obtain ⟨_, hx424, rfl⟩ := hgk422.val 7 39 rfl rfl
      obtain ⟨_, rfl, h425, h426, h427⟩ := hgk422.fact 6 rfl
      have h427 := h427 hgk422.new
      obtain ⟨_, rfl, h428, h429, -⟩ := hgk422.fact 4 rfl
      have hr430 := hgk422.st.rng 4 (hgk422.has 4 rfl)
      have hr431 := hgk422.st.rng 6 (hgk422.has 6 rfl)
      have hsp432 := hgk422.st.ord 6 4 (hgk422.has 6 rfl) rfl
      refine OpR.op' rfl (yC en39 rfl (oc hx424 (oc rfl oz)) (Cal.mono (c_u_pick pC ((u_pick pC ((u_of pC ((u_pick pC ((u_table pC p_c).2) 14).2) ([[97], [122], [122, 122]] : List Str)).2) 5).2) 5 h427 (RdS.chg gU q323 hE423 (fun k hl hk => by simp only [InR, or_false, Iv, Ge] at hk ⊢; omega)) (by omega) (by omega) o6 (by omega) (by assumption)) ?_))
      rintro v437 w434 ⟨rfl, hp435, hp436, hB439, hE438⟩
      exact ⟨hE438.imp (fun k _ hk => hk.elim (fun hk => (.inr (.inr (⟨rfl, hk.1, hk.2⟩)))) False.elim), rfl, hp435, hp436, hB439⟩
     ·intro L441 w442 G440 hgk443
      have hE444 : Chg (fun b => InR [(b1, b1 + 1)] b ∨ w45.heap.size ≤ b) w45 w442 := hgk443.st.ex.imp (fun b _ h => h.imp (fun h => h.elim (fun h => h.2) (fun h => h.elim (fun h => h.2) (fun h => h.2))) (fun h => h))
      have hE444z := Chg.size hE444
      obtain ⟨_, hx445, rfl, h446, h447, h448⟩ := hgk443.val 8 40 rfl rfl
      have hr449 := hgk443.st.rng 8 (hgk443.has 8 rfl)
      exact OpR.op' rfl (Yl.sameG (yl_sub rfl hx445 rfl kI))
     ·intro L451 w452 G450 hgk453
      have hE454 : Chg (fun b => InR [(b1, b1 + 1)] b ∨ w45.heap.size ≤ b) w45 w452 := hgk453.st.ex.imp (fun b _ h => h.imp (fun h => h.elim (fun h => h.2) (fun h => h.elim (fun h => h.2) (fun h => h.2))) (fun h => h))
      have hE454z := Chg.size hE454
      obtain ⟨_, hx455, rfl, h456, h457, -⟩ := hgk453.val 4 36 rfl rfl
      obtain ⟨_, hx458, rfl, h459, h460, -⟩ := hgk453.val 6 38 rfl rfl
      obtain ⟨_, hx461, rfl⟩ := hgk453.val 9 41 rfl rfl
      have hr462 := hgk453.st.rng 4 (hgk453.has 4 rfl)
      have hr463 := hgk453.st.rng 6 (hgk453.has 6 rfl)
      have hsp464 := hgk453.st.ord 6 4 (hgk453.has 6 rfl) rfl
      exact OpR.op' rfl (Yl.sameG (yl_build (cs := [.string (bs ((u_of pC ((u_pick pC ((u_table pC p_c).2) 14).2) ([[97], [122], [122, 122]] : List Str)).1)), .int .i64 ((u_pick pC ((u_of pC ((u_pick pC ((u_table pC p_c).2) 14).2) ([[97], [122], [122, 122]] : List Str)).2) 5).1), .int .i64 (IntKind.wrap .i64 (((u_pick pC ((u_pick pC ((u_of pC ((u_pick pC ((u_table pC p_c).2) 14).2) ([[97], [122], [122, 122]] : List Str)).2) 5).2) 5).1) - 1))]) rfl (oc hx455 (oc hx458 (oc hx461 oz))) (by kernel_rfl) kI))
     ·intro L466 w467 G465 hgk468
      have hE469 : Chg (fun b => InR [(b1, b1 + 1)] b ∨ w45.heap.size ≤ b) w45 w467 := hgk468.st.ex.imp (fun b _ h => h.imp (fun h => h.elim (fun h => h.2) (fun h => h.elim (fun h => h.2) (fun h => h.2))) (fun h => h))
      have hE469z := Chg.size hE469
      obtain ⟨_, hx470, rfl⟩ := hgk468.val 10 42 rfl rfl
      refine OpR.op' rfl (yl_buildSlice (cs := [.string (bs ((u_of pC ((u_pick pC ((u_table pC p_c).2) 14).2) ([[97], [122], [122, 122]] : List Str)).1)), .int .i64 ((u_pick pC ((u_of pC ((u_pick pC ((u_table pC p_c).2) 14).2) ([[97], [122], [122, 122]] : List Str)).2) 5).1), .int .i64 (IntKind.wrap .i64 (((u_pick pC ((u_pick pC ((u_of pC ((u_pick pC ((u_table pC p_c).2) 14).2) ([[97], [122], [122, 122]] : List Str)).2) 5).2) 5).1) - 1))]) un24 ty64 (by decide) rfl (oc hx470 oz) (by kernel_rfl) ?_)
      intro b471 w472 hs473 hz474 hB475 hE476
      have hO477 : OwnL w472 b471 (b471 + 1) 64 3 (RF e_Idx) (some ⟨b471, 0, none⟩) 1 1 ([(⟨(u_of pC ((u_pick pC ((u_table pC p_c).2) 14).2) ([[97], [122], [122, 122]] : List Str)).1, (u_pick pC ((u_of pC ((u_pick pC ((u_table pC p_c).2) 14).2) ([[97], [122], [122, 122]] : List Str)).2) 5).1, IntKind.wrap .i64 (((u_pick pC ((u_pick pC ((u_of pC ((u_pick pC ((u_table pC p_c).2) 14).2) ([[97], [122], [122, 122]] : List Str)).2) 5).2) 5).1) - 1)⟩ : DIdx)] : List DIdx) := OwnL.of_box (S := fun _ => False) hB475 (Nat.le_refl _) (Nat.lt_succ_self _) (EncL.cons (c := [.string (bs ((u_of pC ((u_pick pC ((u_table pC p_c).2) 14).2) ([[97], [122], [122, 122]] : List Str)).1)), .int .i64 ((u_pick pC ((u_of pC ((u_pick pC ((u_table pC p_c).2) 14).2) ([[97], [122], [122, 122]] : List Str)).2) 5).1), .int .i64 (IntKind.wrap .i64 (((u_pick pC ((u_pick pC ((u_of pC ((u_pick pC ((u_table pC p_c).2) 14).2) ([[97], [122], [122, 122]] : List Str)).2) 5).2) 5).1) - 1))]) rfl rfl EncL.nil) (Nat.le_of_ble_eq_true rfl) (fun h => h) (fun _ h => False.elim h)
      exact ⟨Chg.of_ex hE476, (some ⟨b471, 0, none⟩), rfl, OwnL.more (lo' := w467.heap.size) (hi' := w472.heap.size) hO477 (by omega) (by omega)⟩
     ·intro G478 L479 w480 hgp481
      have hE482 : Chg (fun b => InR [(b1, b1 + 1)] b ∨ w45.heap.size ≤ b) w45 w480 := hgp481.st.ex.imp (fun b _ h => h.imp (fun h => h.elim (fun h => h.2) (fun h => h.elim (fun h => h.2) (fun h => h.2))) (fun h => h))
      have hE482z := Chg.size hE482
      have hx484 := hgp481.old 3 _ rfl rfl
      obtain ⟨_, hx485, rfl⟩ := hgp481.val 1 33 rfl rfl
      obtain ⟨_, hx486, A320_487, rfl, h488⟩ := hgp481.val 3 35 rfl rfl
      obtain ⟨_, hx489, rfl, h490, h491, -⟩ := hgp481.val 4 36 rfl rfl
      obtain ⟨_, hx492, rfl, h493, h494, -⟩ := hgp481.val 6 38 rfl rfl
      obtain ⟨_, hx495, rfl, h496, h497, h498⟩ := hgp481.val 8 40 rfl rfl
      obtain ⟨_, hx499, A336_500, rfl, h501⟩ := hgp481.val 11 43 rfl rfl
      have hbz502 := Box.lt h498
      have hr503 := hgp481.st.rng 3 (hgp481.has 3 rfl)
      have hr504 := hgp481.st.rng 4 (hgp481.has 4 rfl)
      have hr505 := hgp481.st.rng 6 (hgp481.has 6 rfl)
      have hr506 := hgp481.st.rng 8 (hgp481.has 8 rfl)
      have hr507 := hgp481.st.rng 11 (hgp481.has 11 rfl)
      have hsp508 := hgp481.st.ord 4 3 (hgp481.has 4 rfl) rfl
      have hsp509 := hgp481.st.ord 6 3 (hgp481.has 6 rfl) rfl
      have hsp510 := hgp481.st.ord 8 3 (hgp481.has 8 rfl) rfl
      have hsp511 := hgp481.st.ord 11 3 (hgp481.has 11 rfl) rfl
      have hsp512 := hgp481.st.ord 6 4 (hgp481.has 6 rfl) rfl
      have hsp513 := hgp481.st.ord 8 4 (hgp481.has 8 rfl) rfl
      have hsp514 := hgp481.st.ord 11 4 (hgp481.has 11 rfl) rfl
      have hsp515 := hgp481.st.ord 8 6 (hgp481.has 8 rfl) rfl
      have hsp516 := hgp481.st.ord 11 6 (hgp481.has 11 rfl) rfl
      have hsp517 := hgp481.st.ord 11 8 (hgp481.has 11 rfl) rfl
      have q522 := OwnL.rd gI h501
      obtain ⟨nw523, he524, hs525⟩ := RdS.src q522
      have hol526 : ((u_table pC p_c).1.Idxs).length ≤ 2147483648 := ho20.2.2.1
      refine sd rfl (yl_appendP (S := fun _ => False) (lo := lo19) (hi := hi19) (xs := (u_table pC p_c).1.Idxs) (ys := ([(⟨(u_of pC ((u_pick pC ((u_table pC p_c).2) 14).2) ([[97], [122], [122, 122]] : List Str)).1, (u_pick pC ((u_of pC ((u_pick pC ((u_table pC p_c).2) 14).2) ([[97], [122], [122, 122]] : List Str)).2) 5).1, IntKind.wrap .i64 (((u_pick pC ((u_pick pC ((u_of pC ((u_pick pC ((u_table pC p_c).2) 14).2) ([[97], [122], [122, 122]] : List Str)).2) 5).2) 5).1) - 1)⟩ : DIdx)] : List DIdx)) un24 ty64 rfl (Nat.le_of_ble_eq_true rfl) (fun _ => rfl) rfl hx485 hx499 (OwnL.chg gI (OwnL.chg gI (OwnL.only gI (OwnL.ex gI h19 hE36) hO39 (by omega)) hc49 (fun k hl hk => by simp only [InR, or_false] at hk; omega)) hE482 (fun k hl hk => by simp only [InR, or_false] at hk; omega)) he524 hs525 (RdS.len q522) (by first | omega | (simp only [lN, toS_length]; omega)) (by first | omega | (simp only [lN, toS_length]; omega)) (by omega) (by omega) (by omega) ?_)
      intro A527 c528 w529 row530 lp531 hp532 hO533 hG534 hrg535 hdj536
      have hG534z := hG534.size
      refine sd rfl (yl_fieldAddr fd26_2 rfl hx484 (SeqR.u rfl rfl (yl_store (vs := [.slice A527 (((u_table pC p_c).1.Idxs ++ ([(⟨(u_of pC ((u_pick pC ((u_table pC p_c).2) 14).2) ([[97], [122], [122, 122]] : List Str)).1, (u_pick pC ((u_of pC ((u_pick pC ((u_table pC p_c).2) 14).2) ([[97], [122], [122, 122]] : List Str)).2) 5).1, IntKind.wrap .i64 (((u_pick pC ((u_pick pC ((u_of pC ((u_pick pC ((u_table pC p_c).2) 14).2) ([[97], [122], [122, 122]] : List Str)).2) 5).2) 5).1) - 1)⟩ : DIdx)] : List DIdx)).length) c528]) ty24 rfl rfl rfl rfl rfl rfl (Box.grown (Box.chg q319 hE482 (by have := Box.lt q319; simp only [InR, or_false]; omega)) hG534 (fun k hk => by have := hrg535 k hk; omega)) (Nat.le_of_ble_eq_true rfl) ?_)))
      intro w539 hB540 hO541
      have hB540 : Box w539 b31 26 [.string (bs ((u_table pC p_c).1.Name)), .slice A18 (((u_table pC p_c).1.Cols).length) c18, .slice A527 (((u_table pC p_c).1.Idxs ++ ([(⟨(u_of pC ((u_pick pC ((u_table pC p_c).2) 14).2) ([[97], [122], [122, 122]] : List Str)).1, (u_pick pC ((u_of pC ((u_pick pC ((u_table pC p_c).2) 14).2) ([[97], [122], [122, 122]] : List Str)).2) 5).1, IntKind.wrap .i64 (((u_pick pC ((u_pick pC ((u_of pC ((u_pick pC ((u_table pC p_c).2) 14).2) ([[97], [122], [122, 122]] : List Str)).2) 5).2) 5).1) - 1)⟩ : DIdx)] : List DIdx)).length) c528] := hB540
      have hO541z := hO541.size
      refine SeqR.done (bn (tn (CW.sub (Sub.cons (d := 2) (hgp481.old 2 _ rfl rfl) (Sub.cons (d := 3) hx484 (Sub.nil _))) (CW.seq (CW.region (sd rfl (yl_loadN ty26 rfl rfl (hB540.cells (n := 3) rfl) rfl ?_)))))))
      have q544 := Box.only (Box.ex (Box.chg hB13 hc25 (by have := Box.lt hB13; simp only [InR, or_false]; omega)) hE36) hO39 (by omega)
      have q545 := Box.chg q544 hc49 (by have := Box.lt q544; simp only [InR, or_false]; omega)
      refine SeqR.u rfl rfl (yl_store (vs := [.string (bs ((u_table pC p_c).1.Name)), .slice A18 (((u_table pC p_c).1.Cols).length) c18, .slice A527 (((u_table pC p_c).1.Idxs ++ ([(⟨(u_of pC ((u_pick pC ((u_table pC p_c).2) 14).2) ([[97], [122], [122, 122]] : List Str)).1, (u_pick pC ((u_of pC ((u_pick pC ((u_table pC p_c).2) 14).2) ([[97], [122], [122, 122]] : List Str)).2) 5).1, IntKind.wrap .i64 (((u_pick pC ((u_pick pC ((u_of pC ((u_pick pC ((u_table pC p_c).2) 14).2) ([[97], [122], [122, 122]] : List Str)).2) 5).2) 5).1) - 1)⟩ : DIdx)] : List DIdx)).length) c528]) ty26 rfl rfl rfl rfl rfl rfl (Box.only (Box.grown (Box.chg q545 hE482 (by have := Box.lt q545; simp only [InR, or_false]; omega)) hG534 (fun k hk => by have := hrg535 k hk; omega)) hO541 (by omega)) (Nat.le_of_ble_eq_true rfl) ?_)
      intro w549 hB550 hO551
      have hB550 : Box w549 b9 26 [.string (bs ((u_table pC p_c).1.Name)), .slice A18 (((u_table pC p_c).1.Cols).length) c18, .slice A527 (((u_table pC p_c).1.Idxs ++ ([(⟨(u_of pC ((u_pick pC ((u_table pC p_c).2) 14).2) ([[97], [122], [122, 122]] : List Str)).1, (u_pick pC ((u_of pC ((u_pick pC ((u_table pC p_c).2) 14).2) ([[97], [122], [122, 122]] : List Str)).2) 5).1, IntKind.wrap .i64 (((u_pick pC ((u_pick pC ((u_of pC ((u_pick pC ((u_table pC p_c).2) 14).2) ([[97], [122], [122, 122]] : List Str)).2) 5).2) 5).1) - 1)⟩ : DIdx)] : List DIdx)).length) c528] := hB550
      have hO551z := hO551.size
      refine dn (CW.ret (rr rfl (.cons ⟨_, rfl, run_loadN ty26 (cs := [.string (bs ((u_table pC p_c).1.Name)), .slice A18 (((u_table pC p_c).1.Cols).length) c18, .slice A527 (((u_table pC p_c).1.Idxs ++ ([(⟨(u_of pC ((u_pick pC ((u_table pC p_c).2) 14).2) ([[97], [122], [122, 122]] : List Str)).1, (u_pick pC ((u_of pC ((u_pick pC ((u_table pC p_c).2) 14).2) ([[97], [122], [122, 122]] : List Str)).2) 5).1, IntKind.wrap .i64 (((u_pick pC ((u_pick pC ((u_of pC ((u_pick pC ((u_table pC p_c).2) 14).2) ([[97], [122], [122, 122]] : List Str)).2) 5).2) 5).1) - 1)⟩ : DIdx)] : List DIdx)).length) c528]) rfl (hB550.cells (n := 3) rfl)⟩ .nil) ?_))
      have hM552 : (u_bentTable pC p_c) = (((⟨(u_table pC p_c).1.Name, (u_table pC p_c).1.Cols, ((u_table pC p_c).1.Idxs ++ ([(⟨(u_of pC ((u_pick pC ((u_table pC p_c).2) 14).2) ([[97], [122], [122, 122]] : List Str)).1, (u_pick pC ((u_of pC ((u_pick pC ((u_table pC p_c).2) 14).2) ([[97], [122], [122, 122]] : List Str)).2) 5).1, IntKind.wrap .i64 (((u_pick pC ((u_pick pC ((u_of pC ((u_pick pC ((u_table pC p_c).2) 14).2) ([[97], [122], [122, 122]] : List Str)).2) 5).2) 5).1) - 1)⟩ : DIdx)] : List DIdx))⟩ : DTable), (((u_pick pC ((u_pick pC ((u_of pC ((u_pick pC ((u_table pC p_c).2) 14).2) ([[97], [122], [122, 122]] : List Str)).2) 5).2) 5).2).1, ((u_pick pC ((u_pick pC ((u_of pC ((u_pick pC ((u_table pC p_c).2) 14).2) ([[97], [122], [122, 122]] : List Str)).2) 5).2) 5).2).2))) := by first | (simp only [u_bentTable, hb51, hb113, hb277, hb318, cL]; done) | (simp only [u_bentTable, hb51, hb113, hb277, hb318, cond_true, cond_false, loopE_done, loopE_ret, pairE]; done) | exact (show (u_bentTable pC p_c) = (((⟨(u_table pC p_c).1.Name, (u_table pC p_c).1.Cols, ((u_table pC p_c).1.Idxs ++ ([(⟨(u_of pC ((u_pick pC ((u_table pC p_c).2) 14).2) ([[97], [122], [122, 122]] : List Str)).1, (u_pick pC ((u_of pC ((u_pick pC ((u_table pC p_c).2) 14).2) ([[97], [122], [122, 122]] : List Str)).2) 5).1, IntKind.wrap .i64 (((u_pick pC ((u_pick pC ((u_of pC ((u_pick pC ((u_table pC p_c).2) 14).2) ([[97], [122], [122, 122]] : List Str)).2) 5).2) 5).1) - 1)⟩ : DIdx)] : List DIdx))⟩ : DTable), ((u_pick pC ((u_pick pC ((u_of pC ((u_pick pC ((u_table pC p_c).2) 14).2) ([[97], [122], [122, 122]] : List Str)).2) 5).2) 5).2))) from by simp only [u_bentTable, hb51, hb113, hb277, hb318, cond_true, cond_false, loopE_done, loopE_ret, pairE])
      have hol563 : ((u_table pC p_c).1.Idxs).length ≤ 2147483648 := ho20.2.2.1
      rw [hM552]
      have q573 := Chg.tgrown (Chg.tchg (Chg.tchg (Chg.tonly (Chg.tex (Chg.tchg (Chg.tex (Chg.refl (InR [(b1, b1 + 1)]) w) hE14) hc25 (fun k hk => by simp only [InR, or_false] at hk ⊢; omega)) hE36) hO39 (by simp only [InR, or_false]; omega)) hc49 (fun k hk => by simp only [InR, or_false] at hk ⊢; omega)) hE482 (fun k hk => by simp only [InR, or_false] at hk ⊢; omega)) hG534 (fun k hk => by have := hrg535 k hk; simp only [InR, or_false]; omega)
      exact ⟨A18, c18, A527, c528, lp531, hp532, rfl, (RdS.wideI gS (OwnL.rd gS (OwnL.only gS (OwnL.only gS (OwnL.grown gS (OwnL.chg gS (OwnL.chg gS (OwnL.only gS (OwnL.ex gS h18 hE36) hO39 (by omega)) hc49 (fun k hl hk => by simp only [InR, or_false] at hk; omega)) hE482 (fun k hl hk => by simp only [InR, or_false] at hk; omega)) hG534 (fun k hk => by have := hrg535 k hk; omega)) hO541 (by omega)) hO551 (by omega))) (by omega)), (OwnL.only gI (OwnL.only gI hO533 hO541 (by omega)) hO551 (by omega)), ⟨ho20.1, ho20.2.1, (okL.mk (xs := ((u_table pC p_c).1.Idxs ++ ([(⟨(u_of pC ((u_pick pC ((u_table pC p_c).2) 14).2) ([[97], [122], [122, 122]] : List Str)).1, (u_pick pC ((u_of pC ((u_pick pC ((u_table pC p_c).2) 14).2) ([[97], [122], [122, 122]] : List Str)).2) 5).1, IntKind.wrap .i64 (((u_pick pC ((u_pick pC ((u_of pC ((u_pick pC ((u_table pC p_c).2) 14).2) ([[97], [122], [122, 122]] : List Str)).2) 5).2) 5).1) - 1)⟩ : DIdx)] : List DIdx))) (by first | omega | (simp only [lN, toS_length]; omega)) (okE.append (ho20.2.2).2 ((okL.mk (Nat.le_of_ble_eq_true rfl) (okE.cons (show ok_Idx (⟨(u_of pC ((u_pick pC ((u_table pC p_c).2) 14).2) ([[97], [122], [122, 122]] : List Str)).1, (u_pick pC ((u_of pC ((u_pick pC ((u_table pC p_c).2) 14).2) ([[97], [122], [122, 122]] : List Str)).2) 5).1, IntKind.wrap .i64 (((u_pick pC ((u_pick pC ((u_of pC ((u_pick pC ((u_table pC p_c).2) 14).2) ([[97], [122], [122, 122]] : List Str)).2) 5).2) 5).1) - 1)⟩ : DIdx) from h490) okE.nil))).2))⟩, (by (try dsimp only); first | omega | assumption | (simp only [wI] at *; omega)), (Box.only (Box.only (Box.grown h498 hG534 (fun k hk => by have := hrg535 k hk; omega)) hO541 (by omega)) hO551 (by omega)), (by omega), (Chg.tonly (Chg.tonly q573 hO541 (by simp only [InR, or_false]; omega)) hO551 (by simp only [InR, or_false]; omega))⟩
    ·have hb318p := dec_f hb318
     refine CW.cond_f rfl hb318 (CW.skip (bn (tn (CW.seq (CW.region (sd rfl (yl_loadN ty26 rfl rfl ((Box.chg hB38 hc49 (by have := Box.lt hB38; simp only [InR, or_false]; omega)).cells (n := 3) rfl) rfl ?_)))))))
     have q579 := Box.only (Box.ex (Box.chg hB13 hc25 (by have := Box.lt hB13; simp only [InR, or_false]; omega)) hE36) hO39 (by omega)
     refine SeqR.u rfl rfl (yl_store (vs := [.string (bs ((u_table pC p_c).1.Name)), .slice A18 (((u_table pC p_c).1.Cols).length) c18, .slice A19 (((u_table pC p_c).1.Idxs).length) c19]) ty26 rfl rfl rfl rfl rfl rfl (Box.chg q579 hc49 (by have := Box.lt q579; simp only [InR, or_false]; omega)) (Nat.le_of_ble_eq_true rfl) ?_)
     intro w581 hB582 hO583
     have hB582 : Box w581 b9 26 [.string (bs ((u_table pC p_c).1.Name)), .slice A18 (((u_table pC p_c).1.Cols).length) c18, .slice A19 (((u_table pC p_c).1.Idxs).length) c19] := hB582
     have hO583z := hO583.size
     refine dn (CW.ret (rr rfl (.cons ⟨_, rfl, run_loadN ty26 (cs := [.string (bs ((u_table pC p_c).1.Name)), .slice A18 (((u_table pC p_c).1.Cols).length) c18, .slice A19 (((u_table pC p_c).1.Idxs).length) c19]) rfl (hB582.cells (n := 3) rfl)⟩ .nil) ?_))
     have hM584 : (u_bentTable pC p_c) = (((u_table pC p_c).1, (((u_pick pC ((u_table pC p_c).2) 14).2).1, ((u_pick pC ((u_table pC p_c).2) 14).2).2))) := by first | (simp only [u_bentTable, hb51, hb113, hb277, hb318, cL]; done) | (simp only [u_bentTable, hb51, hb113, hb277, hb318, cond_true, cond_false, loopE_done, loopE_ret, pairE]; done) | exact (show (u_bentTable pC p_c) = (((u_table pC p_c).1, ((u_pick pC ((u_table pC p_c).2) 14).2))) from by simp only [u_bentTable, hb51, hb113, hb277, hb318, cond_true, cond_false, loopE_done, loopE_ret, pairE])
     rw [hM584]
     exact ⟨A18, c18, A19, c19, lo19, hi19, rfl, (RdS.wideI gS (OwnL.rd gS (OwnL.only gS (OwnL.chg gS (OwnL.only gS (OwnL.ex gS h18 hE36) hO39 (by omega)) hc49 (fun k hl hk => by simp only [InR, or_false] at hk; omega)) hO583 (by omega))) (by omega)), (OwnL.only gI (OwnL.chg gI (OwnL.only gI (OwnL.ex gI h19 hE36) hO39 (by omega)) hc49 (fun k hl hk => by simp only [InR, or_false] at hk; omega)) hO583 (by omega)), ho20, (by (try dsimp only); first | omega | assumption | (simp only [wI] at *; omega)), (Box.only hB50 hO583 (by omega)), (by omega), (Chg.tonly (Chg.tchg (Chg.tonly (Chg.tex (Chg.tchg (Chg.tex (Chg.refl (InR [(b1, b1 + 1)]) w) hE14) hc25 (fun k hk => by simp only [InR, or_false] at hk ⊢; omega)) hE36) hO39 (by simp only [InR, or_false]; omega)) hc49 (fun k hk => by simp only [InR, or_false] at hk ⊢; omega)) hO583 (by simp only [InR, or_false]; omega))⟩
theorem c_sDE {A1 : Option Addr} {c1 : Nat} {w : World} (p_code : List Int) (h1 : RdS w (Iv 0 w.heap.size) (RF e_U8) 1 A1 p_code.length c1 p_code) (o2 : (okL okT) p_code) (pre0 : codeOk p_code) : Cal Tryz.prog 4 #[.slice A1 p_code.length c1] w fun v w' => ∃ A_1 c_1 A_2 c_2 lo_2 hi_2 A_3 c_3 lo_3 hi_3, v = .tuple #[.agg #[.string (bs ((sDE p_code).1.Name)), .slice A_1 (((sDE p_code).1.Cols).length) c_1, .slice A_2 (((sDE p_code).1.Idxs).length) c_2], .string (bs ((sDE p_code).2.1)), .slice A_3 (((sDE p_code).2.2).length) c_3] ∧ RdS w' (Iv w.heap.size w'.heap.size) (RF e_Str) 1 A_1 ((sDE p_code).1.Cols).length c_1 ((sDE p_code).1.Cols) ∧ OwnL w' lo_2 hi_2 64 3 (RF e_Idx) A_2 (((sDE p_code).1.Idxs).length) c_2 ((sDE p_code).1.Idxs) ∧ OwnL w' lo_3 hi_3 66 3 (RF e_Write) A_3 (((sDE p_code).2.2).length) c_3 ((sDE p_code).2.2) ∧ ok_Table ((sDE p_code).1) ∧ okS ((sDE p_code).2.1) ∧ (okL ok_Write) ((sDE p_code).2.2) ∧ (w.heap.size ≤ lo_2 ∧ lo_2 ≤ hi_2 ∧ hi_2 ≤ w'.heap.size) ∧ (w.heap.size ≤ lo_3 ∧ lo_3 ≤ hi_3 ∧ hi_3 ≤ w'.heap.size) ∧ (hi_2 ≤ lo_3 ∨ hi_3 ≤ lo_2) ∧ Ex w w' := by
 have hol3 := o2.1
 refine Cal.of func4 rfl ntmps4 rfl (CW.seq (CW.region (sd rfl (yB ty26 (cs := [.string (bs (([] : Str))), .slice none 0 0, .slice none 0 0]) rfl rfl ?_))))
 intro b4 w5 hs6 hz7 hB8 hE9
 refine sd rfl (yA rfl rfl (sd rfl (yA rfl rfl (dn (CW.seq (CW.region (sd rfl (yM rfl rfl (sd rfl (yl_build (cs := [.slice A1 p_code.length c1, .int .i64 (0), .int .u64 (0)]) rfl (oc rfl oz) (by kernel_rfl) (sd rfl (yl_box rfl rfl rfl ?_))))))))))))
 intro b10 w11 hs12 hz13 hB14 hE15
 refine sd rfl (yA rfl rfl (dn (CW.seq (CW.region (sd rfl (yM rfl rfl (sd rfl (yl_buildSlice (cs := [.string (bs (([105] : Str))), .string (bs (([105] : Str))), .string (bs (([105] : Str))), .string (bs (([105] : Str))), .string (bs (([106] : Str))), .string (bs (([122] : Str)))]) un23 ty9 (by decide) rfl (oc rfl (oc rfl (oc rfl (oc rfl (oc rfl (oc rfl oz)))))) (by kernel_rfl) ?_))))))))
 intro b16 w17 hs18 hz19 hB20 hE21
 have hO22 : OwnL w17 b16 (b16 + 1) 9 1 (RF e_Str) (some ⟨b16, 0, none⟩) 6 6 ([[105], [105], [105], [105], [106], [122]] : List Str) := OwnL.of_box (S := fun _ => False) hB20 (Nat.le_refl _) (Nat.lt_succ_self _) (EncL.cons (c := [.string (bs (([105] : Str)))]) rfl rfl (EncL.cons (c := [.string (bs (([105] : Str)))]) rfl rfl (EncL.cons (c := [.string (bs (([105] : Str)))]) rfl rfl (EncL.cons (c := [.string (bs (([105] : Str)))]) rfl rfl (EncL.cons (c := [.string (bs (([106] : Str)))]) rfl rfl (EncL.cons (c := [.string (bs (([122] : Str)))]) rfl rfl EncL.nil)))))) (Nat.le_of_ble_eq_true rfl) (fun h => h) (fun _ h => False.elim h)
 have q26 := RdS.ex gU (RdS.ex gU (RdS.ex gU h1 hE9) hE15) hE21
 have hle27 := OwnL.len hO22
 refine sd rfl (yC en17 rfl (oc rfl (oc rfl oz)) (Cal.mono (Cal.args (by rw [← hle27] <;> rfl) (c_u_of p_code (0, 0) ([[105], [105], [105], [105], [106], [122]] : List Str) (Box.ex hB14 hE21) q26 (by omega) (by omega) (RdS.fix (OwnL.rdI gS hO22)) (by omega) (by omega) o2 (okL.mk (Nat.le_of_ble_eq_true rfl) (okE.cons (okS.lit rfl) (okE.cons (okS.lit rfl) (okE.cons (okS.lit rfl) (okE.cons (okS.lit rfl) (okE.cons (okS.lit rfl) (okE.cons (okS.lit rfl) okE.nil))))))) (by first | omega | assumption | (simp only [wI] at *; omega) | (simp only [lN]; omega)) (by omega) (by assumption))) ?_))
 rintro v31 w28 ⟨rfl, ho29, hp30, hB33, hc32⟩
 have hc32z := Chg.size hc32
 have hB33z := Box.lt hB33
 have hrf34 := of_len 1 p_code (0, 0) ([[105], [105], [105], [105], [106], [122]] : List Str) (by decide)
 refine sd rfl (yA rfl rfl (dn (CW.seq (CW.region (sd rfl (yM rfl rfl ?_))))))
 have q35 := RdS.chg gU q26 hc32 (fun k hl hk => by simp only [InR, or_false, Iv, Ge] at hk ⊢; omega)
 refine sd rfl (yC en18 rfl (oc rfl oz) (Cal.mono (c_u_table p_code ((u_of p_code (0, 0) ([[105], [105], [105], [105], [106], [122]] : List Str)).2) hB33 q35 (by omega) (by omega) o2 (by omega) (by assumption)) ?_))
 rintro v43 w36 ⟨A37, c37, lo37, hi37, A38, c38, lo38, hi38, rfl, h37, h38, ho39, hp40, hp41, hp42, hB45, hrn46, hrn47, hrn48, hc44⟩
 have hc44z := Chg.size hc44
 have hB45z := Box.lt hB45
 have hrf49 := rf_table (c := p_code) (by assumption) ((u_of p_code (0, 0) ([[105], [105], [105], [105], [106], [122]] : List Str)).2)
 refine sd rfl (yB ty26 (cs := [.string (bs (([] : Str))), .slice none 0 0, .slice none 0 0]) rfl rfl ?_)
 intro b50 w51 hs52 hz53 hB54 hE55
 refine SeqR.u rfl rfl (yl_store (vs := [.string (bs ((u_table p_code ((u_of p_code (0, 0) ([[105], [105], [105], [105], [106], [122]] : List Str)).2)).1.Name)), .slice A37 (((u_table p_code ((u_of p_code (0, 0) ([[105], [105], [105], [105], [106], [122]] : List Str)).2)).1.Cols).length) c37, .slice A38 (((u_table p_code ((u_of p_code (0, 0) ([[105], [105], [105], [105], [106], [122]] : List Str)).2)).1.Idxs).length) c38]) ty26 rfl rfl rfl rfl rfl rfl hB54 (Nat.le_of_ble_eq_true rfl) ?_)
 intro w56 hB57 hO58
 have hB57 : Box w56 b50 26 [.string (bs ((u_table p_code ((u_of p_code (0, 0) ([[105], [105], [105], [105], [106], [122]] : List Str)).2)).1.Name)), .slice A37 (((u_table p_code ((u_of p_code (0, 0) ([[105], [105], [105], [105], [106], [122]] : List Str)).2)).1.Cols).length) c37, .slice A38 (((u_table p_code ((u_of p_code (0, 0) ([[105], [105], [105], [105], [106], [122]] : List Str)).2)).1.Idxs).length) c38] := hB57
 have hO58z := hO58.size
 refine dn (CW.seq (CW.region (sd rfl (yM rfl rfl (sd rfl (yl_loadN ty26 rfl rfl (hB57.cells (n := 3) rfl) rfl ?_))))))
 have q63 := RdS.only gU (RdS.ex gU (RdS.chg gU q35 hc44 (fun k hl hk => by simp only [InR, or_false, Iv, Ge] at hk ⊢; omega)) hE55) hO58 (by simp only [Iv]; omega)
 have q65 := OwnL.only gS (OwnL.ex gS h37 hE55) hO58 (by omega)
 have q67 := OwnL.only gI (OwnL.ex gI h38 hE55) hO58 (by omega)
 refine sd rfl (yC en19 rfl (oc rfl (oc rfl oz)) (Cal.mono (c_u_bentStore p_code ((u_table p_code ((u_of p_code (0, 0) ([[105], [105], [105], [105], [106], [122]] : List Str)).2)).2) ((u_table p_code ((u_of p_code (0, 0) ([[105], [105], [105], [105], [106], [122]] : List Str)).2)).1) (Box.only (Box.ex hB45 hE55) hO58 (by omega)) q63 (by omega) (by omega) (OwnL.rdI gS q65) (by omega) (by omega) (OwnL.rdI gI q67) (by omega) (by omega) o2 ho39 (by first | omega | assumption | (simp only [wI] at *; omega) | (simp only [lN]; omega)) (by omega) (by assumption)) ?_))
 rintro v72 w68 ⟨A69, c69, lo69, hi69, rfl, h69, ho70, hp71, hB74, hrn75, hc73⟩
 have hc73z := Chg.size hc73
 have hB74z := Box.lt hB74
 refine sd rfl (yA rfl rfl (dn (CW.seq (CW.seq (CW.region (sd rfl (yM rfl rfl ?_)))))))
 have q76 := RdS.chg gU q63 hc73 (fun k hl hk => by simp only [InR, or_false, Iv, Ge] at hk ⊢; omega)
 refine sd rfl (yC en20 rfl (oc rfl (oc rfl oz)) (Cal.mono (c_u_one p_code ((u_bentStore p_code ((u_table p_code ((u_of p_code (0, 0) ([[105], [105], [105], [105], [106], [122]] : List Str)).2)).2) ((u_table p_code ((u_of p_code (0, 0) ([[105], [105], [105], [105], [106], [122]] : List Str)).2)).1)).2) 12 hB74 q76 (by omega) (by omega) o2 (by omega) (by assumption)) ?_))
 rintro v79 w77 ⟨rfl, hp78, hB81, hc80⟩
 have hc80z := Chg.size hc80
 have hB81z := Box.lt hB81
 refine dn (bcase ((u_one p_code ((u_bentStore p_code ((u_table p_code ((u_of p_code (0, 0) ([[105], [105], [105], [105], [106], [122]] : List Str)).2)).2) ((u_table p_code ((u_of p_code (0, 0) ([[105], [105], [105], [105], [106], [122]] : List Str)).2)).1)).2) 12).1) (fun hb82 => ?_) (fun hb82 => ?_))
 ·refine CW.cond_t rfl hb82 (CW.region (sd rfl (yM rfl rfl (sd rfl (yC en21 rfl (oc rfl oz) (Cal.mono (c_u_bentTable p_code ((u_one p_code ((u_bentStore p_code ((u_table p_code ((u_of p_code (0, 0) ([[105], [105], [105], [105], [106], [122]] : List Str)).2)).2) ((u_table p_code ((u_of p_code (0, 0) ([[105], [105], [105], [105], [106], [122]] : List Str)).2)).1)).2) 12).2) hB81 (RdS.chg gU q76 hc80 (fun k hl hk => by simp only [InR, or_false, Iv, Ge] at hk ⊢; omega)) (by omega) (by omega) o2 (by omega) (by assumption)) ?_))))))
  rintro v89 w84 ⟨A85, c85, A86, c86, lo86, hi86, rfl, h85, h86, ho87, hp88, hB91, hrn92, hc90⟩
  have hc90z := Chg.size hc90
  have hB91z := Box.lt hB91
  have q93 := Box.chg hB57 hc73 (by have := Box.lt hB57; simp only [InR, or_false]; omega)
  have q94 := Box.chg q93 hc80 (by have := Box.lt q93; simp only [InR, or_false]; omega)
  refine SeqR.u rfl rfl (yl_store (vs := [.string (bs ((u_bentTable p_code ((u_one p_code ((u_bentStore p_code ((u_table p_code ((u_of p_code (0, 0) ([[105], [105], [105], [105], [106], [122]] : List Str)).2)).2) ((u_table p_code ((u_of p_code (0, 0) ([[105], [105], [105], [105], [106], [122]] : List Str)).2)).1)).2) 12).2)).1.Name)), .slice A85 (((u_bentTable p_code ((u_one p_code ((u_bentStore p_code ((u_table p_code ((u_of p_code (0, 0) ([[105], [105], [105], [105], [106], [122]] : List Str)).2)).2) ((u_table p_code ((u_of p_code (0, 0) ([[105], [105], [105], [105], [106], [122]] : List Str)).2)).1)).2) 12).2)).1.Cols).length) c85, .slice A86 (((u_bentTable p_code ((u_one p_code ((u_bentStore p_code ((u_table p_code ((u_of p_code (0, 0) ([[105], [105], [105], [105], [106], [122]] : List Str)).2)).2) ((u_table p_code ((u_of p_code (0, 0) ([[105], [105], [105], [105], [106], [122]] : List Str)).2)).1)).2) 12).2)).1.Idxs).length) c86]) ty26 rfl rfl rfl rfl rfl rfl (Box.chg q94 hc90 (by have := Box.lt q94; simp only [InR, or_false]; omega)) (Nat.le_of_ble_eq_true rfl) ?_)
  intro w96 hB97 hO98
  have hB97 : Box w96 b50 26 [.string (bs ((u_bentTable p_code ((u_one p_code ((u_bentStore p_code ((u_table p_code ((u_of p_code (0, 0) ([[105], [105], [105], [105], [106], [122]] : List Str)).2)).2) ((u_table p_code ((u_of p_code (0, 0) ([[105], [105], [105], [105], [106], [122]] : List Str)).2)).1)).2) 12).2)).1.Name)), .slice A85 (((u_bentTable p_code ((u_one p_code ((u_bentStore p_code ((u_table p_code ((u_of p_code (0, 0) ([[105], [105], [105], [105], [106], [122]] : List Str)).2)).2) ((u_table p_code ((u_of p_code (0, 0) ([[105], [105], [105], [105], [106], [122]] : List Str)).2)).1)).2) 12).2)).1.Cols).length) c85, .slice A86 (((u_bentTable p_code ((u_one p_code ((u_bentStore p_code ((u_table p_code ((u_of p_code (0, 0) ([[105], [105], [105], [105], [106], [122]] : List Str)).2)).2) ((u_table p_code ((u_of p_code (0, 0) ([[105], [105], [105], [105], [106], [122]] : List Str)).2)).1)).2) 12).2)).1.Idxs).length) c86] := hB97
  have hO98z := hO98.size
  refine dn (CW.seq (CW.region (sd rfl (yl_loadN ty26 rfl rfl (hB97.cells (n := 3) rfl) rfl (sd rfl (yM rfl rfl (sd rfl (yM rfl rfl ?_))))))))
  have q100 := Box.ex (Box.ex hB8 hE15) hE21
  have q101 := Box.chg q100 hc32 (by have := Box.lt q100; simp only [InR, or_false]; omega)
  have q104 := Box.only (Box.ex (Box.chg q101 hc44 (by have := Box.lt q101; simp only [InR, or_false]; omega)) hE55) hO58 (by omega)
  have q105 := Box.chg q104 hc73 (by have := Box.lt q104; simp only [InR, or_false]; omega)
  have q106 := Box.chg q105 hc80 (by have := Box.lt q105; simp only [InR, or_false]; omega)
  refine SeqR.u rfl rfl (yl_store (vs := [.string (bs ((u_bentTable p_code ((u_one p_code ((u_bentStore p_code ((u_table p_code ((u_of p_code (0, 0) ([[105], [105], [105], [105], [106], [122]] : List Str)).2)).2) ((u_table p_code ((u_of p_code (0, 0) ([[105], [105], [105], [105], [106], [122]] : List Str)).2)).1)).2) 12).2)).1.Name)), .slice A85 (((u_bentTable p_code ((u_one p_code ((u_bentStore p_code ((u_table p_code ((u_of p_code (0, 0) ([[105], [105], [105], [105], [106], [122]] : List Str)).2)).2) ((u_table p_code ((u_of p_code (0, 0) ([[105], [105], [105], [105], [106], [122]] : List Str)).2)).1)).2) 12).2)).1.Cols).length) c85, .slice A86 (((u_bentTable p_code ((u_one p_code ((u_bentStore p_code ((u_table p_code ((u_of p_code (0, 0) ([[105], [105], [105], [105], [106], [122]] : List Str)).2)).2) ((u_table p_code ((u_of p_code (0, 0) ([[105], [105], [105], [105], [106], [122]] : List Str)).2)).1)).2) 12).2)).1.Idxs).length) c86]) ty26 rfl rfl rfl rfl rfl rfl (Box.only (Box.chg q106 hc90 (by have := Box.lt q106; simp only [InR, or_false]; omega)) hO98 (by omega)) (Nat.le_of_ble_eq_true rfl) ?_)
  intro w109 hB110 hO111
  have hB110 : Box w109 b4 26 [.string (bs ((u_bentTable p_code ((u_one p_code ((u_bentStore p_code ((u_table p_code ((u_of p_code (0, 0) ([[105], [105], [105], [105], [106], [122]] : List Str)).2)).2) ((u_table p_code ((u_of p_code (0, 0) ([[105], [105], [105], [105], [106], [122]] : List Str)).2)).1)).2) 12).2)).1.Name)), .slice A85 (((u_bentTable p_code ((u_one p_code ((u_bentStore p_code ((u_table p_code ((u_of p_code (0, 0) ([[105], [105], [105], [105], [106], [122]] : List Str)).2)).2) ((u_table p_code ((u_of p_code (0, 0) ([[105], [105], [105], [105], [106], [122]] : List Str)).2)).1)).2) 12).2)).1.Cols).length) c85, .slice A86 (((u_bentTable p_code ((u_one p_code ((u_bentStore p_code ((u_table p_code ((u_of p_code (0, 0) ([[105], [105], [105], [105], [106], [122]] : List Str)).2)).2) ((u_table p_code ((u_of p_code (0, 0) ([[105], [105], [105], [105], [106], [122]] : List Str)).2)).1)).2) 12).2)).1.Idxs).length) c86] := hB110
  have hO111z := hO111.size
  refine sd rfl (yA rfl rfl (sd rfl (yA rfl rfl (dn (CW.ret (rr rfl (.cons ⟨_, rfl, run_loadN ty26 (cs := [.string (bs ((u_bentTable p_code ((u_one p_code ((u_bentStore p_code ((u_table p_code ((u_of p_code (0, 0) ([[105], [105], [105], [105], [106], [122]] : List Str)).2)).2) ((u_table p_code ((u_of p_code (0, 0) ([[105], [105], [105], [105], [106], [122]] : List Str)).2)).1)).2) 12).2)).1.Name)), .slice A85 (((u_bentTable p_code ((u_one p_code ((u_bentStore p_code ((u_table p_code ((u_of p_code (0, 0) ([[105], [105], [105], [105], [106], [122]] : List Str)).2)).2) ((u_table p_code ((u_of p_code (0, 0) ([[105], [105], [105], [105], [106], [122]] : List Str)).2)).1)).2) 12).2)).1.Cols).length) c85, .slice A86 (((u_bentTable p_code ((u_one p_code ((u_bentStore p_code ((u_table p_code ((u_of p_code (0, 0) ([[105], [105], [105], [105], [106], [122]] : List Str)).2)).2) ((u_table p_code ((u_of p_code (0, 0) ([[105], [105], [105], [105], [106], [122]] : List Str)).2)).1)).2) 12).2)).1.Idxs).length) c86]) rfl (hB110.cells (n := 3) rfl)⟩ (.cons rfl (.cons rfl .nil))) ?_))))))
  have hM112 : (sDE p_code) = (((u_bentTable p_code ((u_one p_code ((u_bentStore p_code ((u_table p_code ((u_of p_code (0, 0) ([[105], [105], [105], [105], [106], [122]] : List Str)).2)).2) ((u_table p_code ((u_of p_code (0, 0) ([[105], [105], [105], [105], [106], [122]] : List Str)).2)).1)).2) 12).2)).1, (u_of p_code (0, 0) ([[105], [105], [105], [105], [106], [122]] : List Str)).1, (u_bentStore p_code ((u_table p_code ((u_of p_code (0, 0) ([[105], [105], [105], [105], [106], [122]] : List Str)).2)).2) ((u_table p_code ((u_of p_code (0, 0) ([[105], [105], [105], [105], [106], [122]] : List Str)).2)).1)).1)) := by simp only [sDE, hb82, cL]
  rw [hM112]
  have q130 := Ex.chg (Ex.chg (Ex.chg (Below.only (Ex.trans (Ex.chg (Ex.chg (Ex.trans (Ex.trans (Ex.trans (Ex.refl w) hE9) hE15) hE21) hc32 (fun k hk => by simp only [InR, or_false] at hk; omega)) hc44 (fun k hk => by simp only [InR, or_false] at hk; omega)) hE55) hO58 (by omega)) hc73 (fun k hk => by simp only [InR, or_false] at hk; omega)) hc80 (fun k hk => by simp only [InR, or_false] at hk; omega)) hc90 (fun k hk => by simp only [InR, or_false] at hk; omega)
  exact ⟨A85, c85, A86, c86, lo86, hi86, A69, c69, lo69, hi69, rfl, (RdS.wideI gS (RdS.only gS (RdS.only gS h85 hO98 (by simp only [Iv]; omega)) hO111 (by simp only [Iv]; omega)) (by omega)), (OwnL.only gI (OwnL.only gI h86 hO98 (by omega)) hO111 (by omega)), (OwnL.only gW (OwnL.only gW (OwnL.chg gW (OwnL.chg gW h69 hc80 (fun k hl hk => by simp only [InR, or_false] at hk; omega)) hc90 (fun k hl hk => by simp only [InR, or_false] at hk; omega)) hO98 (by omega)) hO111 (by omega)), ho87, ho29, ho70, (by omega), (by omega), (by omega), (Below.only (Below.only q130 hO98 (by omega)) hO111 (by omega))⟩
 ·refine CW.cond_f rfl hb82 (CW.skip (tn (CW.seq (CW.region ?_))))
  have q133 := Box.chg hB57 hc73 (by have := Box.lt hB57; simp only [InR, or_false]; omega)
  refine sd rfl (yl_loadN ty26 rfl rfl ((Box.chg q133 hc80 (by have := Box.lt q133; simp only [InR, or_false]; omega)).cells (n := 3) rfl) rfl (sd rfl (yM rfl rfl (sd rfl (yM rfl rfl ?_)))))
  have q136 := Box.ex (Box.ex hB8 hE15) hE21
  have q137 := Box.chg q136 hc32 (by have := Box.lt q136; simp only [InR, or_false]; omega)
  have q140 := Box.only (Box.ex (Box.chg q137 hc44 (by have := Box.lt q137; simp only [InR, or_false]; omega)) hE55) hO58 (by omega)
  have q141 := Box.chg q140 hc73 (by have := Box.lt q140; simp only [InR, or_false]; omega)
  refine SeqR.u rfl rfl (yl_store (vs := [.string (bs ((u_table p_code ((u_of p_code (0, 0) ([[105], [105], [105], [105], [106], [122]] : List Str)).2)).1.Name)), .slice A37 (((u_table p_code ((u_of p_code (0, 0) ([[105], [105], [105], [105], [106], [122]] : List Str)).2)).1.Cols).length) c37, .slice A38 (((u_table p_code ((u_of p_code (0, 0) ([[105], [105], [105], [105], [106], [122]] : List Str)).2)).1.Idxs).length) c38]) ty26 rfl rfl rfl rfl rfl rfl (Box.chg q141 hc80 (by have := Box.lt q141; simp only [InR, or_false]; omega)) (Nat.le_of_ble_eq_true rfl) ?_)
  intro w143 hB144 hO145
  have hB144 : Box w143 b4 26 [.string (bs ((u_table p_code ((u_of p_code (0, 0) ([[105], [105], [105], [105], [106], [122]] : List Str)).2)).1.Name)), .slice A37 (((u_table p_code ((u_of p_code (0, 0) ([[105], [105], [105], [105], [106], [122]] : List Str)).2)).1.Cols).length) c37, .slice A38 (((u_table p_code ((u_of p_code (0, 0) ([[105], [105], [105], [105], [106], [122]] : List Str)).2)).1.Idxs).length) c38] := hB144
  have hO145z := hO145.size
  refine sd rfl (yA rfl rfl (sd rfl (yA rfl rfl (dn (CW.ret (rr rfl (.cons ⟨_, rfl, run_loadN ty26 (cs := [.string (bs ((u_table p_code ((u_of p_code (0, 0) ([[105], [105], [105], [105], [106], [122]] : List Str)).2)).1.Name)), .slice A37 (((u_table p_code ((u_of p_code (0, 0) ([[105], [105], [105], [105], [106], [122]] : List Str)).2)).1.Cols).length) c37, .slice A38 (((u_table p_code ((u_of p_code (0, 0) ([[105], [105], [105], [105], [106], [122]] : List Str)).2)).1.Idxs).length) c38]) rfl (hB144.cells (n := 3) rfl)⟩ (.cons rfl (.cons rfl .nil))) ?_))))))
  have hM146 : (sDE p_code) = (((u_table p_code ((u_of p_code (0, 0) ([[105], [105], [105], [105], [106], [122]] : List Str)).2)).1, (u_of p_code (0, 0) ([[105], [105], [105], [105], [106], [122]] : List Str)).1, (u_bentStore p_code ((u_table p_code ((u_of p_code (0, 0) ([[105], [105], [105], [105], [106], [122]] : List Str)).2)).2) ((u_table p_code ((u_of p_code (0, 0) ([[105], [105], [105], [105], [106], [122]] : List Str)).2)).1)).1)) := by simp only [sDE, hb82, cL]
  rw [hM146]
  have q165 := Below.only (Ex.chg (Ex.chg (Below.only (Ex.trans (Ex.chg (Ex.chg (Ex.trans (Ex.trans (Ex.trans (Ex.refl w) hE9) hE15) hE21) hc32 (fun k hk => by simp only [InR, or_false] at hk; omega)) hc44 (fun k hk => by simp only [InR, or_false] at hk; omega)) hE55) hO58 (by omega)) hc73 (fun k hk => by simp only [InR, or_false] at hk; omega)) hc80 (fun k hk => by simp only [InR, or_false] at hk; omega)) hO145 (by omega)
  exact ⟨A37, c37, A38, c38, lo38, hi38, A69, c69, lo69, hi69, rfl, (RdS.wideI gS (OwnL.rd gS (OwnL.only gS (OwnL.chg gS (OwnL.chg gS q65 hc73 (fun k hl hk => by simp only [InR, or_false] at hk; omega)) hc80 (fun k hl hk => by simp only [InR, or_false] at hk; omega)) hO145 (by omega))) (by omega)), (OwnL.only gI (OwnL.chg gI (OwnL.chg gI q67 hc73 (fun k hl hk => by simp only [InR, or_false] at hk; omega)) hc80 (fun k hl hk => by simp only [InR, or_false] at hk; omega)) hO145 (by omega)), (OwnL.only gW (OwnL.chg gW h69 hc80 (fun k hl hk => by simp only [InR, or_false] at hk; omega)) hO145 (by omega)), ho39, ho29, ho70, (by omega), (by omega), (by omega), q165⟩
theorem c_g_slices_IndexFunc_Write {A1 : Option Addr} {c1 : Nat} {g3 : Nat} {cp4 : List Value} {w : World} (p_s : List DWrite) (p_f : DWrite → Bool) (h1 : RdS w (Iv 0 w.heap.size) (RF e_Write) 3 A1 p_s.length c1 p_s) (hen5 : Go.X.Enters Tryz.prog g3) (hfn6 : ∀ (w1 : World) (y0 : DWrite), Ex w w1 → y0 ∈ p_s → ok_Write y0 → Cal Tryz.prog g3 (([.agg #[.string (bs (y0.Key)), .string (bs (y0.Val)), .bool (y0.Gone)]] : List Value) ++ cp4).toArray w1 fun v w2 => v = .bool (p_f y0) ∧ Ex w1 w2) (o2 : (okL ok_Write) p_s) : Cal Tryz.prog 84 #[.slice A1 p_s.length c1, .func (.func g3) #[] cp4.toArray] w fun v w' => v = .int .i64 ((g_slices_IndexFunc_Write p_s p_f)) ∧ Ex w w' := by
 have hol7 := o2.1
 refine Cal.of func84 rfl ntmps84 rfl (CW.seq (CW.region (sd rfl (yA rfl rfl (dn (CW.seq (CW.seq (CW.region ?_))))))))
 refine sd rfl (yM rfl rfl (sd rfl (yL un27 rfl rfl (sd rfl (yM rfl rfl (dn (CW.block (CW.loop (fun m9 L10 w11 => ∃ (k8 : Nat), m9 = p_s.length - k8 ∧ k8 ≤ p_s.length ∧ w.heap.size ≤ w11.heap.size ∧ lkp L10 0 = some (.slice A1 p_s.length c1) ∧ lkp L10 1 = some (.func (.func g3) #[] cp4.toArray) ∧ lkp L10 7 = some (.int .i64 ((p_s.length : Int))) ∧ lkp L10 8 = some (.int .i64 ((k8 : Int))) ∧ RdS w11 (Iv 0 w.heap.size) (RF e_Write) 3 A1 p_s.length c1 p_s ∧ Ex w w11 ∧ loopM (B_g_slices_IndexFunc_Write_0 p_s p_f) (p_s.length - k8) k8 () = loopM (B_g_slices_IndexFunc_Write_0 p_s p_f) (p_s.length - 0) 0 ()) (p_s.length - 0) ?_ ?_))))))))
 ·exact ⟨0, rfl, (by omega), Nat.le_refl _, rfl, rfl, rfl, rfl, h1, (Ex.refl w), rfl⟩
 ·rintro m12 L13 w14 ⟨k8, rfl, hk15, hsz17, hl18, hl19, hl20, hl21, hf22, hf23, hI16⟩
  refine CW.sub (Sub.cons hl18 (Sub.cons hl19 (Sub.cons hl20 (Sub.cons hl21 (Sub.nil _))))) ?_
  have hf23z := Ex.size hf23
  have hbg24 := RdS.big hf22
  rcases Nat.lt_or_ge k8 p_s.length with hlt25 | hlt25
  ·refine CW.seq (CW.region (sd rfl (yl_lss rfl rfl rfl (dn (CW.seq (CW.cond_t rfl (lt_t hlt25) (CW.skip (tn ?_))))))))
   refine CW.seq (CW.block (CW.seq (CW.region (sd rfl (yM rfl rfl (sd rfl (yA rfl rfl (dn (CW.seq ?_)))))))))
   refine CW.region (sd rfl (yM rfl rfl (sd rfl (yM rfl rfl (sd rfl (yM rfl rfl ?_))))))
   obtain ⟨eb26, eo26, _, eA26, _, ebl26, _, eR26, eC26⟩ := RdS.aD hf22 d_Write (i := k8)
   obtain rfl := eR26
   have eC26 : Cells w14 eb26 (eo26 + k8 * 3) [.string (bs ((p_s.getD k8 d_Write).Key)), .string (bs ((p_s.getD k8 d_Write).Val)), .bool ((p_s.getD k8 d_Write).Gone)] := eC26
   refine sd rfl (yl_ixN un27 ty66 rfl rfl rfl eA26 (sd rfl (yl_loadN ty66 rfl rfl eC26 rfl (sd rfl (yl_callv hen5 rfl rfl (oc rfl oz) (Cal.mono (hfn6 w14 (p_s.getD k8 d_Write) hf23 (getD_mem (by omega)) (okL.getD o2 ok_d_Write _)) ?_))))))
   rintro v28 w27 ⟨rfl, hE29⟩
   have hE29z := Ex.size hE29
   refine dn (bcase (p_f (p_s.getD k8 d_Write)) (fun hb30 => ?_) (fun hb30 => ?_))
   ·refine CW.cond_t rfl hb30 (CW.seq (CW.region (sd rfl (yM rfl rfl (sd rfl (yA rfl rfl (dn (CW.ret (br ?_)))))))))
    refine tr (tr ?_)
    have hB32 : B_g_slices_IndexFunc_Write_0 p_s p_f k8 () = .ret (k8 : Int) := by simp only [B_g_slices_IndexFunc_Write_0, hb30, cL]
    have hL31 : loopM (B_g_slices_IndexFunc_Write_0 p_s p_f) (p_s.length - 0) 0 () = .ret (k8 : Int) := hI16.symm.trans (loopM.ret hlt25 hB32)
    refine br (tr (rr rfl (.cons rfl .nil) ?_))
    have hM33 : (g_slices_IndexFunc_Write p_s p_f) = ((k8 : Int)) := by simp only [g_slices_IndexFunc_Write, hb30, hL31, cL]
    rw [hM33]
    exact ⟨rfl, (Ex.trans hf23 hE29)⟩
   ·refine CW.cond_f rfl hb30 (CW.skip (bn (tn (CW.region (sd rfl (yl_inc rfl rfl rfl (by omega) (sd rfl (yM rfl rfl (dn ?_)))))))))
    have hB35 : B_g_slices_IndexFunc_Write_0 p_s p_f k8 () = .cont () := by simp only [B_g_slices_IndexFunc_Write_0, hb30, cL]
    exact ⟨p_s.length - (k8 + 1), by omega, k8 + 1, rfl, hlt25, (by omega), rfl, rfl, rfl, rfl, (RdS.ex gW hf22 hE29), (Ex.trans hf23 hE29), (loopM.cont hlt25 hB35).symm.trans hI16⟩
  ·refine CW.seq (CW.region (sd rfl (yl_lss rfl rfl rfl (dn (CW.seq (CW.cond_f rfl (lt_f hlt25) (CW.exit (tx ?_))))))))
   refine tx ?_
   have hL38 : loopM (B_g_slices_IndexFunc_Write_0 p_s p_f) (p_s.length - 0) 0 () = .done () := hI16.symm.trans (loopM.stop hlt25)
   refine bx (tn (CW.seq (CW.region (sd rfl (yA rfl rfl (dn (CW.ret (rr rfl (.cons rfl .nil) ?_))))))))
   have hM39 : (g_slices_IndexFunc_Write p_s p_f) = (-1) := by simp only [g_slices_IndexFunc_Write, hL38, cL]
   rw [hM39]
   exact ⟨rfl, hf23⟩
theorem c_g_slices_ContainsFunc_Write {A1 : Option Addr} {c1 : Nat} {g3 : Nat} {cp4 : List Value} {w : World} (p_s : List DWrite) (p_f : DWrite → Bool) (h1 : RdS w (Iv 0 w.heap.size) (RF e_Write) 3 A1 p_s.length c1 p_s) (hen5 : Go.X.Enters Tryz.prog g3) (hfn6 : ∀ (w1 : World) (y0 : DWrite), Ex w w1 → y0 ∈ p_s → ok_Write y0 → Cal Tryz.prog g3 (([.agg #[.string (bs (y0.Key)), .string (bs (y0.Val)), .bool (y0.Gone)]] : List Value) ++ cp4).toArray w1 fun v w2 => v = .bool (p_f y0) ∧ Ex w1 w2) (o2 : (okL ok_Write) p_s) : Cal Tryz.prog 54 #[.slice A1 p_s.length c1, .func (.func g3) #[] cp4.toArray] w fun v w' => v = .bool ((g_slices_ContainsFunc_Write p_s p_f)) ∧ Ex w w' := by
 refine Cal.of func54 rfl ntmps54 rfl (CW.seq (CW.region (sd rfl (yA rfl rfl (dn (CW.seq (CW.region (sd rfl (yM rfl rfl ?_)))))))))
 refine sd rfl (yM rfl rfl (sd rfl (yC en84 rfl (oc rfl (oc rfl oz)) (Cal.mono (c_g_slices_IndexFunc_Write p_s p_f (RdS.up h1 gW) hen5 (fun w1 y0 => fun hE => hfn6 w1 y0 (Ex.trans (Ex.refl w) hE)) o2) ?_))))
 rintro v9 w8 ⟨rfl, hE10⟩
 refine sd rfl (yl_geq rfl rfl rfl (sd rfl (yA rfl rfl (dn (CW.ret (rr rfl (.cons rfl .nil) ?_))))))
 have hM11 : (g_slices_ContainsFunc_Write p_s p_f) = (decide (0 ≤ (g_slices_IndexFunc_Write p_s p_f))) := by simp only [g_slices_ContainsFunc_Write, cL]
 rw [hM11]
 exact ⟨rfl, (Ex.trans (Ex.refl w) hE10)⟩
theorem c_i_within {w : World} (p_n : Int) (p_low : Int) (p_high : Int) : Cal Tryz.prog 50 #[.int .i64 (p_n), .int .i64 (p_low), .int .i64 (p_high)] w fun v w' => v = .bool ((i_within p_n p_low p_high)) ∧ Ex w w' := by
 refine Cal.of func50 rfl ntmps50 rfl (CW.seq (CW.region (sd rfl (yA rfl rfl (dn (CW.seq (CW.region (sd rfl (yM rfl rfl ?_)))))))))
 refine sd rfl (yM rfl rfl (sd rfl (yl_geq rfl rfl rfl (sd rfl (yM rfl rfl (bcase (decide (p_low ≤ p_n)) (fun hb1 => ?_) (fun hb1 => ?_)))))))
 ·have hb1p := dec_t hb1
  refine sy rfl rfl hb1 (yM rfl rfl (sy rfl rfl hb1 (yM rfl rfl (sy rfl rfl hb1 (yl_leq rfl rfl rfl (sd rfl (yl_pick_t rfl rfl hb1 rfl (sd rfl (yA rfl rfl (dn (CW.ret (rr rfl (.cons rfl .nil) ?_))))))))))))
  have hM2 : (i_within p_n p_low p_high) = (decide (p_n ≤ p_high)) := by simp only [i_within, hb1, cL]
  rw [hM2]
  exact ⟨rfl, (Ex.refl w)⟩
 ·have hb1p := dec_f hb1
  refine sz rfl rfl hb1 (sz rfl rfl hb1 (sz rfl rfl hb1 (sd rfl (yl_pick_f rfl rfl hb1 rfl (sd rfl (yA rfl rfl (dn (CW.ret (rr rfl (.cons rfl .nil) ?_)))))))))
  have hM3 : (i_within p_n p_low p_high) = (false) := by simp only [i_within, hb1, cL]
  rw [hM3]
  exact ⟨rfl, (Ex.refl w)⟩
theorem c_i_isLowerOrDigit {w : World} (p_b : Int) : Cal Tryz.prog 107 #[.int .u8 (p_b)] w fun v w' => v = .bool ((i_isLowerOrDigit p_b)) ∧ Ex w w' := by
 refine Cal.of func107 rfl ntmps107 rfl (CW.seq (CW.region (sd rfl (yA rfl rfl (dn (CW.seq (CW.region (sd rfl (yM rfl rfl ?_)))))))))
 refine sd rfl (yl_geq rfl rfl rfl (sd rfl (yM rfl rfl (bcase (decide (97 ≤ p_b)) (fun hb1 => ?_) (fun hb1 => ?_)))))
 ·have hb1p := dec_t hb1
  refine sy rfl rfl hb1 (yM rfl rfl (sy rfl rfl hb1 (yl_leq rfl rfl rfl (sd rfl (yl_pick_t rfl rfl hb1 rfl (sd rfl (yM rfl rfl (bcase (decide (p_b ≤ 122)) (fun hb2 => ?_) (fun hb2 => ?_)))))))))
  ·have hb2p := dec_t hb2
   refine sz rfl rfl hb2 (sz rfl rfl hb2 (sz rfl rfl hb2 (sq rfl rfl (sq rfl rfl (sz rfl rfl hb2 (sd rfl (yl_pick_t rfl rfl hb2 rfl (sd rfl (yA rfl rfl (SeqR.done ?_))))))))))
   refine tn (CW.ret (rr rfl (.cons rfl .nil) ?_))
   have hM3 : (i_isLowerOrDigit p_b) = (true) := by simp only [i_isLowerOrDigit, hb1, hb2, cL]
   rw [hM3]
   exact ⟨rfl, (Ex.refl w)⟩
  ·have hb2p := dec_f hb2
   refine sy rfl rfl hb2 (yM rfl rfl (sy rfl rfl hb2 (yl_geq rfl rfl rfl (sy rfl rfl hb2 (yM rfl rfl (bcase (decide (48 ≤ p_b)) (fun hb4 => ?_) (fun hb4 => ?_)))))))
   ·have hb4p := dec_t hb4
    refine sy rfl rfl hb4 (yM rfl rfl (sy rfl rfl hb4 (yl_leq rfl rfl rfl (sy rfl rfl hb2 (yl_pick_t rfl rfl hb4 rfl (sd rfl (yl_pick_f rfl rfl hb2 rfl (sd rfl (yA rfl rfl (dn (CW.ret (rr rfl (.cons rfl .nil) ?_))))))))))))
    have hM5 : (i_isLowerOrDigit p_b) = (decide (p_b ≤ 57)) := by simp only [i_isLowerOrDigit, hb1, hb2, hb4, cL]
    rw [hM5]
    exact ⟨rfl, (Ex.refl w)⟩
   ·have hb4p := dec_f hb4
    refine sz rfl rfl hb4 (sz rfl rfl hb4 (sy rfl rfl hb2 (yl_pick_f rfl rfl hb4 rfl (sd rfl (yl_pick_f rfl rfl hb2 rfl (sd rfl (yA rfl rfl (dn (CW.ret (rr rfl (.cons rfl .nil) ?_))))))))))
    have hM6 : (i_isLowerOrDigit p_b) = (false) := by simp only [i_isLowerOrDigit, hb1, hb2, hb4, cL]
    rw [hM6]
    exact ⟨rfl, (Ex.refl w)⟩
 ·have hb1p := dec_f hb1
  refine sz rfl rfl hb1 (sz rfl rfl hb1 (sd rfl (yl_pick_f rfl rfl hb1 rfl (sd rfl (yM rfl rfl (sy rfl rfl rfl (yM rfl rfl (sy rfl rfl rfl (yl_geq rfl rfl rfl (sy rfl rfl rfl (yM rfl rfl (bcase (decide (48 ≤ p_b)) (fun hb7 => ?_) (fun hb7 => ?_)))))))))))))
  ·have hb7p := dec_t hb7
   refine sy rfl rfl hb7 (yM rfl rfl (sy rfl rfl hb7 (yl_leq rfl rfl rfl (sy rfl rfl rfl (yl_pick_t rfl rfl hb7 rfl (sd rfl (yl_pick_f rfl rfl rfl rfl (sd rfl (yA rfl rfl (dn (CW.ret (rr rfl (.cons rfl .nil) ?_))))))))))))
   have hM8 : (i_isLowerOrDigit p_b) = (decide (p_b ≤ 57)) := by simp only [i_isLowerOrDigit, hb1, hb7, cL]
   rw [hM8]
   exact ⟨rfl, (Ex.refl w)⟩
  ·have hb7p := dec_f hb7
   refine sz rfl rfl hb7 (sz rfl rfl hb7 (sy rfl rfl rfl (yl_pick_f rfl rfl hb7 rfl (sd rfl (yl_pick_f rfl rfl rfl rfl (sd rfl (yA rfl rfl (dn (CW.ret (rr rfl (.cons rfl .nil) ?_))))))))))
   have hM9 : (i_isLowerOrDigit p_b) = (false) := by simp only [i_isLowerOrDigit, hb1, hb7, cL]
   rw [hM9]
   exact ⟨rfl, (Ex.refl w)⟩
theorem c_g_internal_stringslite_IndexByte {w : World} (p_s : Str) (p_c : Int) (o1 : okS p_s) : Cal Tryz.prog 115 #[.string (bs (p_s)), .int .u8 (p_c)] w fun v w' => v = .int .i64 ((g_internal_stringslite_IndexByte p_s p_c)) ∧ Ex w w' := by
 refine Cal.of func115 rfl ntmps115 rfl (CW.seq (CW.region (sd rfl (yA rfl rfl (dn (CW.seq (CW.region (sd rfl (yM rfl rfl ?_)))))))))
 refine sd rfl (yM rfl rfl (sd rfl (yl_idxB (s := p_s) (c := p_c) Tryz.ex124 rfl (oc rfl (oc rfl oz)) (sd rfl (yA rfl rfl (dn (CW.ret (rr rfl (.cons rfl .nil) ?_))))))))
 have hM3 : (g_internal_stringslite_IndexByte p_s p_c) = (idxB p_s p_c) := by simp only [g_internal_stringslite_IndexByte, cL]
 rw [hM3]
 exact ⟨rfl, (Ex.refl w)⟩
theorem c_g_strings_IndexByte {w : World} (p_s : Str) (p_c : Int) (o1 : okS p_s) : Cal Tryz.prog 108 #[.string (bs (p_s)), .int .u8 (p_c)] w fun v w' => v = .int .i64 ((g_strings_IndexByte p_s p_c)) ∧ Ex w w' := by
 refine Cal.of func108 rfl ntmps108 rfl (CW.seq (CW.region (sd rfl (yA rfl rfl (dn (CW.seq (CW.region (sd rfl (yM rfl rfl ?_)))))))))
 refine sd rfl (yM rfl rfl (sd rfl (yC en115 rfl (oc rfl (oc rfl oz)) (Cal.mono (c_g_internal_stringslite_IndexByte p_s p_c o1) ?_))))
 rintro v4 w3 ⟨rfl, hE5⟩
 refine sd rfl (yA rfl rfl (dn (CW.ret (rr rfl (.cons rfl .nil) ?_))))
 have hM6 : (g_strings_IndexByte p_s p_c) = ((g_internal_stringslite_IndexByte p_s p_c)) := by simp only [g_strings_IndexByte, cL]
 rw [hM6]
 exact ⟨rfl, (Ex.trans (Ex.refl w) hE5)⟩
theorem c_i_hasBytes {w : World} (p_s : Str) (p_others : Str) (o1 : okS p_s) (o2 : okS p_others) : Cal Tryz.prog 96 #[.string (bs (p_s)), .string (bs (p_others))] w fun v w' => v = .bool ((i_hasBytes p_s p_others)) ∧ Ex w w' := by
 have hol3 : p_s.length ≤ 1073741824 := o1
 have hol4 : p_others.length ≤ 1073741824 := o2
 refine Cal.of func96 rfl ntmps96 rfl (CW.seq (CW.region (sd rfl (yA rfl rfl (dn (CW.seq (CW.seq (CW.region ?_))))))))
 refine sd rfl (yM rfl rfl (sd rfl (yl_slen un9 (a := p_s) rfl rfl (sd rfl (yM rfl rfl (dn (CW.block (CW.loop (fun m6 L7 w8 => ∃ (k5 : Nat), m6 = p_s.length - k5 ∧ k5 ≤ p_s.length ∧ w.heap.size ≤ w8.heap.size ∧ lkp L7 0 = some (.string (bs (p_s))) ∧ lkp L7 1 = some (.string (bs (p_others))) ∧ lkp L7 7 = some (.int .i64 ((p_s.length : Int))) ∧ lkp L7 8 = some (.int .i64 ((k5 : Int))) ∧ Ex w w8 ∧ loopM (B_i_hasBytes_0 p_s p_others) (p_s.length - k5) k5 () = loopM (B_i_hasBytes_0 p_s p_others) (p_s.length - 0) 0 ()) (p_s.length - 0) ?_ ?_))))))))
 ·exact ⟨0, rfl, (by omega), Nat.le_refl _, rfl, rfl, rfl, rfl, (Ex.refl w), rfl⟩
 ·rintro m9 L10 w11 ⟨k5, rfl, hk12, hsz14, hl15, hl16, hl17, hl18, hf19, hI13⟩
  refine CW.sub (Sub.cons hl15 (Sub.cons hl16 (Sub.cons hl17 (Sub.cons hl18 (Sub.nil _))))) ?_
  have hf19z := Ex.size hf19
  have hbg20 : p_s.length ≤ 1073741824 := o1
  rcases Nat.lt_or_ge k5 p_s.length with hlt21 | hlt21
  ·refine CW.seq (CW.region (sd rfl (yl_lss rfl rfl rfl (dn (CW.seq (CW.cond_t rfl (lt_t hlt21) (CW.skip (tn ?_))))))))
   refine CW.seq (CW.block (CW.seq (CW.region (sd rfl (yM rfl rfl (sd rfl (yA rfl rfl (dn (CW.seq ?_)))))))))
   refine CW.region (sd rfl (yM rfl rfl (sd rfl (yM rfl rfl (sd rfl (yl_sindexN un9 (a := p_s) rfl rfl rfl (by first | omega | assumption | (simp only [wI] at *; omega)) (sd rfl (yC en107 rfl (oc rfl oz) (Cal.mono (c_i_isLowerOrDigit ((p_s.getD k5 0).toNat : Int)) ?_)))))))))
   rintro v23 w22 ⟨rfl, hE24⟩
   have hE24z := Ex.size hE24
   refine sd rfl (yl_not rfl rfl (sd rfl (yM rfl rfl (bcase (i_isLowerOrDigit ((p_s.getD k5 0).toNat : Int)) (fun hb25 => ?_) (fun hb25 => ?_)))))
   ·refine sz rfl rfl (not_t hb25) (sz rfl rfl (not_t hb25) (sz rfl rfl (not_t hb25) (sz rfl rfl (not_t hb25) (sz rfl rfl (not_t hb25) (sz rfl rfl (not_t hb25) (sd rfl (yl_pick_f rfl rfl (not_t hb25) rfl (dn ?_))))))))
    refine CW.cond_f rfl rfl (CW.skip (bn (tn (CW.region (sd rfl (yl_inc rfl rfl rfl (by omega) (sd rfl (yM rfl rfl (dn ?_)))))))))
    have hB26 : B_i_hasBytes_0 p_s p_others k5 () = .cont () := by simp only [B_i_hasBytes_0, hb25, cL]
    exact ⟨p_s.length - (k5 + 1), by omega, k5 + 1, rfl, hlt21, (by omega), rfl, rfl, rfl, rfl, (Ex.trans hf19 hE24), (loopM.cont hlt21 hB26).symm.trans hI13⟩
   ·refine sy rfl rfl (not_f hb25) (yM rfl rfl (sy rfl rfl (not_f hb25) (yM rfl rfl (sy rfl rfl (not_f hb25) (yM rfl rfl (sy rfl rfl (not_f hb25) (yl_sindexN un9 (a := p_s) rfl rfl rfl (by first | omega | assumption | (simp only [wI] at *; omega)) (sy rfl rfl (not_f hb25) (yC en108 rfl (oc rfl (oc rfl oz)) (Cal.mono (c_g_strings_IndexByte p_others ((p_s.getD k5 0).toNat : Int) o2) ?_))))))))))
    rintro v29 w28 ⟨rfl, hE30⟩
    have hE30z := Ex.size hE30
    refine sy rfl rfl (not_f hb25) (yl_lss rfl rfl rfl (sd rfl (yl_pick_t rfl rfl (not_f hb25) rfl (dn (bcase (decide ((g_strings_IndexByte p_others ((p_s.getD k5 0).toNat : Int)) < 0)) (fun hb31 => ?_) (fun hb31 => ?_))))))
    ·have hb31p := dec_t hb31
     refine CW.cond_t rfl hb31 (CW.seq (CW.region (sd rfl (yA rfl rfl (dn (CW.ret (br (tr ?_))))))))
     refine tr ?_
     have hB33 : B_i_hasBytes_0 p_s p_others k5 () = .ret false := by simp only [B_i_hasBytes_0, hb25, hb31, cL]
     have hL32 : loopM (B_i_hasBytes_0 p_s p_others) (p_s.length - 0) 0 () = .ret false := hI13.symm.trans (loopM.ret hlt21 hB33)
     refine br (tr (rr rfl (.cons rfl .nil) ?_))
     have hM34 : (i_hasBytes p_s p_others) = (false) := by simp only [i_hasBytes, hb25, hb31, hL32, cL]
     rw [hM34]
     exact ⟨rfl, (Ex.trans (Ex.trans hf19 hE24) hE30)⟩
    ·have hb31p := dec_f hb31
     refine CW.cond_f rfl hb31 (CW.skip (bn (tn (CW.region (sd rfl (yl_inc rfl rfl rfl (by omega) (sd rfl (yM rfl rfl (dn ?_)))))))))
     have hB37 : B_i_hasBytes_0 p_s p_others k5 () = .cont () := by simp only [B_i_hasBytes_0, hb25, hb31, cL]
     exact ⟨p_s.length - (k5 + 1), by omega, k5 + 1, rfl, hlt21, (by omega), rfl, rfl, rfl, rfl, (Ex.trans (Ex.trans hf19 hE24) hE30), (loopM.cont hlt21 hB37).symm.trans hI13⟩
  ·refine CW.seq (CW.region (sd rfl (yl_lss rfl rfl rfl (dn (CW.seq (CW.cond_f rfl (lt_f hlt21) (CW.exit (tx ?_))))))))
   refine tx ?_
   have hL40 : loopM (B_i_hasBytes_0 p_s p_others) (p_s.length - 0) 0 () = .done () := hI13.symm.trans (loopM.stop hlt21)
   refine bx (tn (CW.seq (CW.region (sd rfl (yA rfl rfl (dn (CW.ret (rr rfl (.cons rfl .nil) ?_))))))))
   have hM41 : (i_hasBytes p_s p_others) = (true) := by simp only [i_hasBytes, hL40, cL]
   rw [hM41]
   exact ⟨rfl, hf19⟩
theorem c_i_GoodKey {w : World} (p_s : Str) (o1 : okS p_s) : Cal Tryz.prog 99 #[.string (bs (p_s))] w fun v w' => v = .bool ((i_GoodKey p_s)) ∧ Ex w w' := by
 refine Cal.of func99 rfl ntmps99 rfl (CW.seq (CW.region (sd rfl (yA rfl rfl (dn (CW.seq (CW.region (sd rfl (yM rfl rfl ?_)))))))))
 refine sd rfl (yl_slen un9 (a := p_s) rfl rfl (sd rfl (yC en50 rfl (oc rfl (oc rfl (oc rfl oz))) (Cal.mono (c_i_within (p_s.length : Int) 1 12) ?_))))
 rintro v4 w3 ⟨rfl, hE5⟩
 refine sd rfl (yM rfl rfl (bcase (i_within (p_s.length : Int) 1 12) (fun hb6 => ?_) (fun hb6 => ?_)))
 ·have hb6p := f_within hb6
  refine sy rfl rfl hb6 (yM rfl rfl (sy rfl rfl hb6 (yC en96 rfl (oc rfl (oc rfl oz)) (Cal.mono (c_i_hasBytes p_s ([46, 47] : Str) o1 (okS.lit rfl)) ?_))))
  rintro v8 w7 ⟨rfl, hE9⟩
  refine sd rfl (yl_pick_t rfl rfl hb6 rfl (sd rfl (yA rfl rfl (dn (CW.ret (rr rfl (.cons rfl .nil) ?_))))))
  have hM10 : (i_GoodKey p_s) = ((i_hasBytes p_s ([46, 47] : Str))) := by simp only [i_GoodKey, hb6, cL]
  rw [hM10]
  exact ⟨rfl, (Ex.trans (Ex.trans (Ex.refl w) hE5) hE9)⟩
 ·refine sz rfl rfl hb6 (sz rfl rfl hb6 (sd rfl (yl_pick_f rfl rfl hb6 rfl (sd rfl (yA rfl rfl (dn (CW.ret (rr rfl (.cons rfl .nil) ?_))))))))
  have hM13 : (i_GoodKey p_s) = (false) := by simp only [i_GoodKey, hb6, cL]
  rw [hM13]
  exact ⟨rfl, (Ex.trans (Ex.refl w) hE5)⟩
theorem c_i_areRising {A1 : Option Addr} {c1 : Nat} {w : World} (p_keys : List Str) (h1 : RdS w (Iv 0 w.heap.size) (RF e_Str) 1 A1 p_keys.length c1 p_keys) (o2 : (okL okS) p_keys) : Cal Tryz.prog 80 #[.slice A1 p_keys.length c1] w fun v w' => v = .bool ((i_areRising p_keys)) ∧ Ex w w' := by
 have hol3 := o2.1
 refine Cal.of func80 rfl ntmps80 rfl (CW.seq (CW.region (sd rfl (yA rfl rfl (dn (CW.seq (CW.seq (CW.region ?_))))))))
 refine sd rfl (yM rfl rfl (sd rfl (yL un23 rfl rfl (sd rfl (yM rfl rfl (dn (CW.block (CW.loop (fun m5 L6 w7 => ∃ (k4 : Nat), m5 = p_keys.length - k4 ∧ k4 ≤ p_keys.length ∧ w.heap.size ≤ w7.heap.size ∧ lkp L6 0 = some (.slice A1 p_keys.length c1) ∧ lkp L6 5 = some (.slice A1 p_keys.length c1) ∧ lkp L6 6 = some (.int .i64 ((p_keys.length : Int))) ∧ lkp L6 7 = some (.int .i64 ((k4 : Int))) ∧ RdS w7 (Iv 0 w.heap.size) (RF e_Str) 1 A1 p_keys.length c1 p_keys ∧ Ex w w7 ∧ loopM (B_i_areRising_0 p_keys) (p_keys.length - k4) k4 () = loopM (B_i_areRising_0 p_keys) (p_keys.length - 0) 0 ()) (p_keys.length - 0) ?_ ?_))))))))
 ·exact ⟨0, rfl, (by omega), Nat.le_refl _, rfl, rfl, rfl, rfl, h1, (Ex.refl w), rfl⟩
 ·rintro m8 L9 w10 ⟨k4, rfl, hk11, hsz13, hl14, hl15, hl16, hl17, hf18, hf19, hI12⟩
  refine CW.sub (Sub.cons hl14 (Sub.cons hl15 (Sub.cons hl16 (Sub.cons hl17 (Sub.nil _))))) ?_
  have hf19z := Ex.size hf19
  have hbg20 := RdS.big hf18
  rcases Nat.lt_or_ge k4 p_keys.length with hlt21 | hlt21
  ·refine CW.seq (CW.region (sd rfl (yl_lss rfl rfl rfl (dn (CW.seq (CW.cond_t rfl (lt_t hlt21) (CW.skip (tn ?_))))))))
   refine CW.seq (CW.block (CW.seq (CW.region (sd rfl (yM rfl rfl ?_)))))
   obtain ⟨eb22, eo22, _, eA22, _, ebl22, _, eR22, eC22⟩ := RdS.aD hf18 d_Str (i := k4)
   obtain rfl := eR22
   have eC22 : Cells w10 eb22 (eo22 + k4 * 1) [.string (bs ((p_keys.getD k4 d_Str)))] := eC22
   refine sd rfl (yl_ixN un23 ty9 rfl rfl rfl eA22 (sd rfl (yl_load1 ty9 rfl rfl (eC22 0 _ rfl) (sd rfl (yA rfl rfl (sd rfl (yA rfl rfl (dn (CW.seq (CW.region (sd rfl (yM rfl rfl ?_))))))))))))
   refine sd rfl (yC en99 rfl (oc rfl oz) (Cal.mono (c_i_GoodKey (p_keys.getD k4 d_Str) (okL.getD o2 ok_d_Str _)) ?_))
   rintro v24 w23 ⟨rfl, hE25⟩
   have hE25z := Ex.size hE25
   refine sd rfl (yl_not rfl rfl (sd rfl (yM rfl rfl (bcase (i_GoodKey (p_keys.getD k4 d_Str)) (fun hb26 => ?_) (fun hb26 => ?_)))))
   ·refine sy rfl rfl (not_t hb26) (yM rfl rfl (sy rfl rfl (not_t hb26) (yl_gtr rfl rfl rfl (sy rfl rfl (not_t hb26) (yM rfl rfl (bcase (decide (0 < (k4 : Int))) (fun hb27 => ?_) (fun hb27 => ?_)))))))
    ·have hb27p := dec_t hb27
     refine sy rfl rfl hb27 (yM rfl rfl (sy rfl rfl hb27 (yM rfl rfl (sy rfl rfl hb27 (yM rfl rfl (sy rfl rfl hb27 (yl_sub rfl rfl rfl ?_)))))))
     have q28 := RdS.ex gS hf18 hE25
     obtain ⟨eb29, eo29, _, eA29, _, ebl29, _, eR29, eC29⟩ := RdS.atD q28 d_Str (i := (IntKind.wrap .i64 ((k4 : Int) - 1)).toNat) (by first | omega | assumption | (simp only [wI] at *; omega))
     obtain rfl := eR29
     have eC29 : Cells w23 eb29 (eo29 + ((IntKind.wrap .i64 ((k4 : Int) - 1)).toNat) * 1) [.string (bs ((p_keys.getD ((IntKind.wrap .i64 ((k4 : Int) - 1)).toNat) d_Str)))] := eC29
     refine sy rfl rfl hb27 (yl_indexAddr un23 ty9 rfl rfl rfl eA29 (by first | omega | assumption | (simp only [wI] at *; omega)) (by first | omega | assumption | (simp only [wI] at *; omega)) (sy rfl rfl hb27 (yl_load1 ty9 rfl rfl (eC29 0 _ rfl) (sy rfl rfl hb27 (yl_sleq (a := (p_keys.getD k4 d_Str)) (b := (p_keys.getD ((IntKind.wrap .i64 ((k4 : Int) - 1)).toNat) d_Str)) rfl rfl rfl (sy rfl rfl (not_t hb26) (yl_pick_t rfl rfl hb27 rfl (sd rfl (yl_pick_f rfl rfl (not_t hb26) rfl (dn (bcase (sLe (p_keys.getD k4 d_Str) (p_keys.getD ((IntKind.wrap .i64 ((k4 : Int) - 1)).toNat) d_Str)) (fun hb30 => ?_) (fun hb30 => ?_))))))))))))
     ·refine CW.cond_t rfl hb30 (CW.seq (CW.region (sd rfl (yA rfl rfl (dn (CW.ret (br (tr ?_))))))))
      refine tr ?_
      have hB32 : B_i_areRising_0 p_keys k4 () = .ret false := by simp only [B_i_areRising_0, hb26, hb27, hb30, cL]
      have hL31 : loopM (B_i_areRising_0 p_keys) (p_keys.length - 0) 0 () = .ret false := hI12.symm.trans (loopM.ret hlt21 hB32)
      refine br (tr (rr rfl (.cons rfl .nil) ?_))
      have hM33 : (i_areRising p_keys) = (false) := by simp only [i_areRising, hb26, hb27, hb30, hL31, cL]
      rw [hM33]
      exact ⟨rfl, (Ex.trans hf19 hE25)⟩
     ·refine CW.cond_f rfl hb30 (CW.skip (bn (tn (CW.region (sd rfl (yl_inc rfl rfl rfl (by omega) (sd rfl (yM rfl rfl (dn ?_)))))))))
      have hB35 : B_i_areRising_0 p_keys k4 () = .cont () := by simp only [B_i_areRising_0, hb26, hb27, hb30, cL]
      exact ⟨p_keys.length - (k4 + 1), by omega, k4 + 1, rfl, hlt21, (by omega), rfl, rfl, rfl, rfl, q28, (Ex.trans hf19 hE25), (loopM.cont hlt21 hB35).symm.trans hI12⟩
    ·have hb27p := dec_f hb27
     refine sz rfl rfl hb27 (sz rfl rfl hb27 (sz rfl rfl hb27 (sz rfl rfl hb27 (sz rfl rfl hb27 (sz rfl rfl hb27 (sz rfl rfl hb27 (sy rfl rfl (not_t hb26) (yl_pick_f rfl rfl hb27 rfl (sd rfl (yl_pick_f rfl rfl (not_t hb26) rfl ?_))))))))))
     refine dn (CW.cond_f rfl rfl (CW.skip (bn (tn (CW.region (sd rfl (yl_inc rfl rfl rfl (by omega) (sd rfl (yM rfl rfl ?_)))))))))
     refine dn ?_
     have hB37 : B_i_areRising_0 p_keys k4 () = .cont () := by simp only [B_i_areRising_0, hb26, hb27, cL]
     exact ⟨p_keys.length - (k4 + 1), by omega, k4 + 1, rfl, hlt21, (by omega), rfl, rfl, rfl, rfl, (RdS.ex gS hf18 hE25), (Ex.trans hf19 hE25), (loopM.cont hlt21 hB37).symm.trans hI12⟩
   ·refine sz rfl rfl (not_f hb26) (sz rfl rfl (not_f hb26) (sz rfl rfl (not_f hb26) (sq rfl rfl (sq rfl rfl (sq rfl rfl (sq rfl rfl (sq rfl rfl (sq rfl rfl ?_))))))))
    refine sq rfl rfl (sz rfl rfl (not_f hb26) (sd rfl (yl_pick_t rfl rfl (not_f hb26) rfl (dn (CW.cond_t rfl rfl (CW.seq (CW.region (sd rfl (yA rfl rfl ?_)))))))))
    refine dn (CW.ret (br (tr (tr ?_))))
    have hB41 : B_i_areRising_0 p_keys k4 () = .ret false := by simp only [B_i_areRising_0, hb26, cL]
    have hL40 : loopM (B_i_areRising_0 p_keys) (p_keys.length - 0) 0 () = .ret false := hI12.symm.trans (loopM.ret hlt21 hB41)
    refine br (tr (rr rfl (.cons rfl .nil) ?_))
    have hM42 : (i_areRising p_keys) = (false) := by simp only [i_areRising, hb26, hL40, cL]
    rw [hM42]
    exact ⟨rfl, (Ex.trans hf19 hE25)⟩
  ·refine CW.seq (CW.region (sd rfl (yl_lss rfl rfl rfl (dn (CW.seq (CW.cond_f rfl (lt_f hlt21) (CW.exit (tx ?_))))))))
   refine tx ?_
   have hL44 : loopM (B_i_areRising_0 p_keys) (p_keys.length - 0) 0 () = .done () := hI12.symm.trans (loopM.stop hlt21)
   refine bx (tn (CW.seq (CW.region (sd rfl (yA rfl rfl (dn (CW.ret (rr rfl (.cons rfl .nil) ?_))))))))
   have hM45 : (i_areRising p_keys) = (true) := by simp only [i_areRising, hL44, cL]
   rw [hM45]
   exact ⟨rfl, hf19⟩
theorem c_i_writeKeys {A1 : Option Addr} {c1 : Nat} {w : World} (p_l : List DWrite) (h1 : RdS w (Iv 0 w.heap.size) (RF e_Write) 3 A1 p_l.length c1 p_l) (o2 : (okL ok_Write) p_l) : Cal Tryz.prog 81 #[.slice A1 p_l.length c1] w fun v w' => ∃ A_1 c_1 lo_1 hi_1, v = .slice A_1 ((i_writeKeys p_l).length) c_1 ∧ OwnL w' lo_1 hi_1 9 1 (RF e_Str) A_1 ((i_writeKeys p_l).length) c_1 (i_writeKeys p_l) ∧ (okL okS) (i_writeKeys p_l) ∧ (w.heap.size ≤ lo_1 ∧ lo_1 ≤ hi_1 ∧ hi_1 ≤ w'.heap.size) ∧ Ex w w' := by
 have hol3 := o2.1
 refine Cal.of func81 rfl ntmps81 rfl (CW.seq (CW.region (sd rfl (yA rfl rfl (dn (CW.seq (CW.region (sd rfl (yl_buildSlice (cs := []) un23 ty9 (by decide) rfl opvs_nil (by kernel_rfl) ?_)))))))))
 intro b4 w5 hs6 hz7 hB8 hE9
 have hO10 : OwnL w5 b4 (b4 + 1) 9 1 (RF e_Str) (some ⟨b4, 0, none⟩) 0 0 ([] : List Str) := OwnL.of_box (S := fun _ => False) hB8 (Nat.le_refl _) (Nat.lt_succ_self _) EncL.nil (Nat.le_of_ble_eq_true rfl) (fun h => h) (fun _ h => False.elim h)
 refine sd rfl (yA rfl rfl (dn (CW.seq (CW.seq (CW.region (sd rfl (yM rfl rfl (sd rfl (yL un27 rfl rfl (sd rfl (yM rfl rfl ?_)))))))))))
 refine dn (CW.block (CW.loop (fun m65 L66 w67 => ∃ (k11 : Nat) (x61 : List Str) (A62 : Option Addr) (c63 : Nat) (u64 : Nat), m65 = p_l.length - k11 ∧ k11 ≤ p_l.length ∧ w5.heap.size ≤ w67.heap.size ∧ lkp L66 3 = some (.slice A62 x61.length c63) ∧ lkp L66 7 = some (.slice A1 p_l.length c1) ∧ lkp L66 8 = some (.int .i64 ((p_l.length : Int))) ∧ lkp L66 9 = some (.int .i64 ((k11 : Int))) ∧ OwnL w67 b4 u64 9 1 (RF e_Str) A62 x61.length c63 x61 ∧ RdS w67 (Iv 0 w.heap.size) (RF e_Write) 3 A1 p_l.length c1 p_l ∧ Ex w w67 ∧ (b4 ≤ u64 ∧ u64 ≤ w67.heap.size) ∧ x61.length ≤ 0 + 1 * (k11 - 0) ∧ (∀ y ∈ x61, okS y) ∧ loopM (B_i_writeKeys_0 p_l) (p_l.length - k11) k11 (x61) = loopM (B_i_writeKeys_0 p_l) (p_l.length - 0) 0 (([] : List Str))) (p_l.length - 0) ?_ ?_))
 ·exact ⟨0, ([] : List Str), (some ⟨b4, 0, none⟩), 0, (b4 + 1), rfl, (by omega), Nat.le_refl _, rfl, rfl, rfl, rfl, hO10, (RdS.ex gW h1 hE9), (Ex.trans (Ex.refl w) hE9), (by omega), (by first | (simp; done) | (first | omega | (simp only [lN, toS_length]; omega))), okE.nil, rfl⟩
 ·rintro m70 L71 w72 ⟨k11, x61, A62, c63, u64, rfl, hk73, hsz75, hl76, hl77, hl78, hl79, hf80, hf81, hf82, hu83, hln84, hok85, hI74⟩
  refine CW.sub (Sub.cons hl76 (Sub.cons hl77 (Sub.cons hl78 (Sub.cons hl79 (Sub.nil _))))) ?_
  have hf82z := Ex.size hf82
  have hbg86 := RdS.big hf81
  rcases Nat.lt_or_ge k11 p_l.length with hlt87 | hlt87
  ·refine CW.seq (CW.region (sd rfl (yl_lss rfl rfl rfl (dn (CW.seq (CW.cond_t rfl (lt_t hlt87) (CW.skip (tn ?_))))))))
   refine CW.seq (CW.block (CW.seq (CW.region ?_)))
   obtain ⟨eb88, eo88, _, eA88, _, ebl88, _, eR88, eC88⟩ := RdS.aD hf81 d_Write (i := k11)
   obtain rfl := eR88
   have eC88 : Cells w72 eb88 (eo88 + k11 * 3) [.string (bs ((p_l.getD k11 d_Write).Key)), .string (bs ((p_l.getD k11 d_Write).Val)), .bool ((p_l.getD k11 d_Write).Gone)] := eC88
   refine sd rfl (yl_ixN un27 ty66 rfl rfl rfl eA88 (sd rfl (yl_loadN ty66 rfl rfl eC88 rfl (sd rfl (yB ty66 (cs := [.string (bs (([] : Str))), .string (bs (([] : Str))), .bool (false)]) rfl rfl ?_)))))
   intro b89 w90 hs91 hz92 hB93 hE94
   refine SeqR.u rfl rfl (yl_store (vs := [.string (bs ((p_l.getD k11 d_Write).Key)), .string (bs ((p_l.getD k11 d_Write).Val)), .bool ((p_l.getD k11 d_Write).Gone)]) ty66 rfl rfl rfl rfl rfl rfl hB93 (Nat.le_of_ble_eq_true rfl) ?_)
   intro w95 hB96 hO97
   have hB96 : Box w95 b89 66 [.string (bs ((p_l.getD k11 d_Write).Key)), .string (bs ((p_l.getD k11 d_Write).Val)), .bool ((p_l.getD k11 d_Write).Gone)] := hB96
   have hO97z := hO97.size
   refine dn (CW.region (sd rfl (yM rfl rfl (sd rfl (yl_fieldAddr fd66_0 rfl rfl (sd rfl (yl_load1 ty9 rfl rfl ((hB96.cell 0).trans rfl) (sd rfl (yl_buildSlice (cs := [.string (bs ((p_l.getD k11 d_Write).Key))]) un23 ty9 (by decide) rfl (oc rfl oz) (by kernel_rfl) ?_)))))))))
   intro b98 w99 hs100 hz101 hB102 hE103
   have hO104 : OwnL w99 b98 (b98 + 1) 9 1 (RF e_Str) (some ⟨b98, 0, none⟩) 1 1 ([(p_l.getD k11 d_Write).Key] : List Str) := OwnL.of_box (S := fun _ => False) hB102 (Nat.le_refl _) (Nat.lt_succ_self _) (EncL.cons (c := [.string (bs ((p_l.getD k11 d_Write).Key))]) rfl rfl EncL.nil) (Nat.le_of_ble_eq_true rfl) (fun h => h) (fun _ h => False.elim h)
   refine sd rfl (yl_appendL (S := (fun _ => False)) (lo := b4) (hi := u64) (xs := x61) (ys := ([(p_l.getD k11 d_Write).Key] : List Str)) gS un23 ty9 rfl (Nat.le_of_ble_eq_true rfl) rfl rfl rfl (OwnL.ex gS (OwnL.only gS (OwnL.ex gS hf80 hE94) hO97 (by omega)) hE103) (EncL.cons (c := [.string (bs ((p_l.getD k11 d_Write).Key))]) rfl rfl EncL.nil) (Or.inr ⟨_, _, rfl, rfl, hB102.cells (o := 0) (n := 1) rfl⟩) rfl (by first | omega | (simp only [lN, toS_length]; omega)) (by first | omega | (simp only [lN, toS_length]; omega)) (by omega) (by omega) (fun _ h _ => False.elim h) (by omega) ?_)
   intro A108 c109 w110 row111 hO112 hG113 hrg114
   have hG113z := hG113.size
   refine sd rfl (yA rfl rfl (SeqR.done (bn (tn (CW.region (sd rfl (yl_inc rfl rfl rfl (by omega) (sd rfl (yM rfl rfl (dn ?_))))))))))
   have hB115 : B_i_writeKeys_0 p_l k11 (x61) = .cont ((x61 ++ ([(p_l.getD k11 d_Write).Key] : List Str))) := by simp only [B_i_writeKeys_0, cL]
   exact ⟨p_l.length - (k11 + 1), by omega, k11 + 1, (x61 ++ ([(p_l.getD k11 d_Write).Key] : List Str)), A108, c109, w110.heap.size, rfl, hlt87, (by omega), rfl, rfl, rfl, rfl, hO112, (RdS.grown gW (RdS.ex gW (RdS.only gW (RdS.ex gW hf81 hE94) hO97 (by simp only [Iv]; omega)) hE103) hG113 (fun k hk => by have := hrg114 k hk; simp only [Iv]; omega)), (Below.grown (Ex.trans (Below.only (Ex.trans hf82 hE94) hO97 (by omega)) hE103) hG113 (by omega) (fun k hk => by have := hrg114 k hk; omega)), (by omega), (by first | omega | (simp only [lN, toS_length]; omega)), (okE.append hok85 ((okL.mk (Nat.le_of_ble_eq_true rfl) (okE.cons (okL.getD o2 ok_d_Write _).1 okE.nil))).2), (loopM.cont hlt87 hB115).symm.trans hI74⟩
  ·refine CW.seq (CW.region (sd rfl (yl_lss rfl rfl rfl (dn (CW.seq (CW.cond_f rfl (lt_f hlt87) (CW.exit (tx ?_))))))))
   refine tx ?_
   have hL124 : loopM (B_i_writeKeys_0 p_l) (p_l.length - 0) 0 (([] : List Str)) = .done (x61) := hI74.symm.trans (loopM.stop hlt87)
   refine bx (tn (CW.seq (CW.region (sd rfl (yM rfl rfl (sd rfl (yA rfl rfl (dn (CW.ret ?_)))))))))
   refine rr rfl (.cons rfl .nil) ?_
   have hM125 : (i_writeKeys p_l) = (x61) := by simp only [i_writeKeys, hL124, cL]
   rw [hM125]
   exact ⟨A62, c63, b4, u64, rfl, hf80, (okL.mk (xs := x61) (by first | omega | (simp only [lN, toS_length]; omega)) hok85), (by omega), hf82⟩
theorem c_i_GoodVal {w : World} (p_s : Str) (o1 : okS p_s) : Cal Tryz.prog 100 #[.string (bs (p_s))] w fun v w' => v = .bool ((i_GoodVal p_s)) ∧ Ex w w' := by
 refine Cal.of func100 rfl ntmps100 rfl (CW.seq (CW.region (sd rfl (yA rfl rfl (dn (CW.seq (CW.region (sd rfl (yM rfl rfl ?_)))))))))
 refine sd rfl (yl_slen un9 (a := p_s) rfl rfl (sd rfl (yl_leq rfl rfl rfl (sd rfl (yM rfl rfl (bcase (decide ((p_s.length : Int) ≤ 24)) (fun hb3 => ?_) (fun hb3 => ?_)))))))
 ·have hb3p := dec_t hb3
  refine sy rfl rfl hb3 (yM rfl rfl (sy rfl rfl hb3 (yC en96 rfl (oc rfl (oc rfl oz)) (Cal.mono (c_i_hasBytes p_s ([46, 45, 44, 95] : Str) o1 (okS.lit rfl)) ?_))))
  rintro v5 w4 ⟨rfl, hE6⟩
  refine sd rfl (yl_pick_t rfl rfl hb3 rfl (sd rfl (yA rfl rfl (dn (CW.ret (rr rfl (.cons rfl .nil) ?_))))))
  have hM7 : (i_GoodVal p_s) = ((i_hasBytes p_s ([46, 45, 44, 95] : Str))) := by simp only [i_GoodVal, hb3, cL]
  rw [hM7]
  exact ⟨rfl, (Ex.trans (Ex.refl w) hE6)⟩
 ·have hb3p := dec_f hb3
  refine sz rfl rfl hb3 (sz rfl rfl hb3 (sd rfl (yl_pick_f rfl rfl hb3 rfl (sd rfl (yA rfl rfl (dn (CW.ret (rr rfl (.cons rfl .nil) ?_))))))))
  have hM9 : (i_GoodVal p_s) = (false) := by simp only [i_GoodVal, hb3, cL]
  rw [hM9]
  exact ⟨rfl, (Ex.refl w)⟩
theorem c_i_isStored {w : World} (p_val : Str) (p_gone : Bool) (o1 : okS p_val) : Cal Tryz.prog 83 #[.string (bs (p_val)), .bool (p_gone)] w fun v w' => v = .bool ((i_isStored p_val p_gone)) ∧ Ex w w' := by
 refine Cal.of func83 rfl ntmps83 rfl (CW.seq (CW.region (sd rfl (yA rfl rfl (dn (CW.seq (CW.region (sd rfl (yM rfl rfl ?_)))))))))
 refine sd rfl (yC en100 rfl (oc rfl oz) (Cal.mono (c_i_GoodVal p_val o1) ?_))
 rintro v4 w3 ⟨rfl, hE5⟩
 refine sd rfl (yM rfl rfl (bcase (i_GoodVal p_val) (fun hb6 => ?_) (fun hb6 => ?_)))
 ·refine sy rfl rfl hb6 (yM rfl rfl (sy rfl rfl hb6 (yM rfl rfl (bcase (p_gone) (fun hb7 => ?_) (fun hb7 => ?_)))))
  ·refine sy rfl rfl hb7 (yM rfl rfl (sy rfl rfl hb7 (yl_sneq (a := p_val) (b := ([] : Str)) rfl rfl rfl (sy rfl rfl hb6 (yl_pick_t rfl rfl hb7 rfl (sy rfl rfl hb6 (yl_not rfl rfl (sd rfl (yl_pick_t rfl rfl hb6 rfl (sd rfl (yA rfl rfl (dn (CW.ret ?_)))))))))))))
   refine rr rfl (.cons rfl .nil) ?_
   have hM8 : (i_isStored p_val p_gone) = (!(!(p_val == ([] : Str)))) := by simp only [i_isStored, hb6, hb7, cL]
   rw [hM8]
   exact ⟨rfl, (Ex.trans (Ex.refl w) hE5)⟩
  ·refine sz rfl rfl hb7 (sz rfl rfl hb7 (sy rfl rfl hb6 (yl_pick_f rfl rfl hb7 rfl (sy rfl rfl hb6 (yl_not rfl rfl (sd rfl (yl_pick_t rfl rfl hb6 rfl (sd rfl (yA rfl rfl (dn (CW.ret ?_)))))))))))
   refine rr rfl (.cons rfl .nil) ?_
   have hM10 : (i_isStored p_val p_gone) = (!false) := by simp only [i_isStored, hb6, hb7, cL]
   rw [hM10]
   exact ⟨rfl, (Ex.trans (Ex.refl w) hE5)⟩
 ·refine sz rfl rfl hb6 (sz rfl rfl hb6 (sq rfl rfl (sq rfl rfl (sz rfl rfl hb6 (sz rfl rfl hb6 (sd rfl (yl_pick_f rfl rfl hb6 rfl (sd rfl (yA rfl rfl (SeqR.done ?_))))))))))
  refine tn (CW.ret (rr rfl (.cons rfl .nil) ?_))
  have hM12 : (i_isStored p_val p_gone) = (false) := by simp only [i_isStored, hb6, cL]
  rw [hM12]
  exact ⟨rfl, (Ex.trans (Ex.refl w) hE5)⟩
theorem c_i_GoodWrites_c1 {w : World} (p_w : DWrite) (o1 : ok_Write p_w) : Cal Tryz.prog 82 #[.agg #[.string (bs (p_w.Key)), .string (bs (p_w.Val)), .bool (p_w.Gone)]] w fun v w' => v = .bool ((i_GoodWrites_c1 p_w)) ∧ Ex w w' := by
 refine Cal.of func82 rfl ntmps82 rfl (CW.seq (CW.region (sd rfl (yl_box rfl rfl rfl ?_))))
 intro b4 w5 hs6 hz7 hB8 hE9
 refine sd rfl (yA rfl rfl (dn (CW.seq (CW.region (sd rfl (yl_fieldAddr fd66_1 rfl rfl (sd rfl (yl_load1 ty9 rfl rfl ((hB8.cell 1).trans rfl) (sd rfl (yl_fieldAddr fd66_2 rfl rfl (sd rfl (yl_load1 ty4 rfl rfl ((hB8.cell 2).trans rfl) ?_))))))))))))
 refine sd rfl (yC en83 rfl (oc rfl (oc rfl oz)) (Cal.mono (c_i_isStored p_w.Val p_w.Gone o1.2) ?_))
 rintro v11 w10 ⟨rfl, hE12⟩
 refine sd rfl (yl_not rfl rfl (sd rfl (yA rfl rfl (dn (CW.ret (rr rfl (.cons rfl .nil) ?_))))))
 have hM13 : (i_GoodWrites_c1 p_w) = (!(i_isStored p_w.Val p_w.Gone)) := by simp only [i_GoodWrites_c1, cL]
 rw [hM13]
 exact ⟨rfl, (Ex.trans (Ex.trans (Ex.refl w) hE9) hE12)⟩
theorem c_i_GoodWrites {A1 : Option Addr} {c1 : Nat} {w : World} (p_l : List DWrite) (h1 : RdS w (Iv 0 w.heap.size) (RF e_Write) 3 A1 p_l.length c1 p_l) (o2 : (okL ok_Write) p_l) : Cal Tryz.prog 53 #[.slice A1 p_l.length c1] w fun v w' => v = .bool ((i_GoodWrites p_l)) ∧ Ex w w' := by
 refine Cal.of func53 rfl ntmps53 rfl (CW.seq (CW.region (sd rfl (yA rfl rfl (dn (CW.seq (CW.region (sd rfl (yM rfl rfl ?_)))))))))
 refine sd rfl (yL un27 rfl rfl (sd rfl (yl_leq rfl rfl rfl (sd rfl (yM rfl rfl (bcase (decide ((p_l.length : Int) ≤ 24)) (fun hb4 => ?_) (fun hb4 => ?_)))))))
 ·have hb4p := dec_t hb4
  refine sy rfl rfl hb4 (yM rfl rfl (sy rfl rfl hb4 (yC en81 rfl (oc rfl oz) (Cal.mono (c_i_writeKeys p_l (RdS.up h1 gW) o2) ?_))))
  rintro v8 w5 ⟨A6, c6, lo6, hi6, rfl, h6, ho7, hrn10, hE9⟩
  refine sy rfl rfl hb4 (yC en80 rfl (oc rfl oz) (Cal.mono (c_i_areRising (i_writeKeys p_l) (RdS.up (OwnL.rd gS h6) gS) ho7) ?_))
  rintro v13 w12 ⟨rfl, hE14⟩
  refine sd rfl (yl_pick_t rfl rfl hb4 rfl (sd rfl (yM rfl rfl (bcase (i_areRising (i_writeKeys p_l)) (fun hb15 => ?_) (fun hb15 => ?_)))))
  ·refine sy rfl rfl hb15 (yM rfl rfl (sy rfl rfl hb15 (yC en54 rfl (oc rfl (oc rfl oz)) (Cal.mono (c_g_slices_ContainsFunc_Write p_l (fun y0 => i_GoodWrites_c1 y0) (RdS.up (RdS.ex gW (RdS.ex gW h1 hE9) hE14) gW) en82 (fun _ y0 => fun hE hm0 ov0 => c_i_GoodWrites_c1 y0 ov0) o2) ?_))))
   rintro v19 w18 ⟨rfl, hE20⟩
   refine sy rfl rfl hb15 (yl_not rfl rfl (sd rfl (yl_pick_t rfl rfl hb15 rfl (sd rfl (yA rfl rfl (dn (CW.ret (rr rfl (.cons rfl .nil) ?_))))))))
   have hM21 : (i_GoodWrites p_l) = (!(g_slices_ContainsFunc_Write p_l (fun y0 => i_GoodWrites_c1 y0))) := by simp only [i_GoodWrites, hb4, hb15, cL]
   rw [hM21]
   exact ⟨rfl, (Ex.trans (Ex.trans (Ex.trans (Ex.refl w) hE9) hE14) hE20)⟩
  ·refine sz rfl rfl hb15 (sz rfl rfl hb15 (sz rfl rfl hb15 (sd rfl (yl_pick_f rfl rfl hb15 rfl (sd rfl (yA rfl rfl (dn (CW.ret (rr rfl (.cons rfl .nil) ?_)))))))))
   have hM25 : (i_GoodWrites p_l) = (false) := by simp only [i_GoodWrites, hb4, hb15, cL]
   rw [hM25]
   exact ⟨rfl, (Ex.trans (Ex.trans (Ex.refl w) hE9) hE14)⟩
 ·have hb4p := dec_f hb4
  refine sz rfl rfl hb4 (sz rfl rfl hb4 (sz rfl rfl hb4 (sd rfl (yl_pick_f rfl rfl hb4 rfl (sd rfl (yM rfl rfl (sz rfl rfl rfl (sz rfl rfl rfl (sz rfl rfl rfl (sd rfl (yl_pick_f rfl rfl rfl rfl ?_)))))))))))
  refine sd rfl (yA rfl rfl (dn (CW.ret (rr rfl (.cons rfl .nil) ?_))))
  have hM28 : (i_GoodWrites p_l) = (false) := by simp only [i_GoodWrites, hb4, cL]
  rw [hM28]
  exact ⟨rfl, (Ex.refl w)⟩
theorem c_i_isRows_c1 {w : World} (p_w : DWrite) (o1 : ok_Write p_w) : Cal Tryz.prog 55 #[.agg #[.string (bs (p_w.Key)), .string (bs (p_w.Val)), .bool (p_w.Gone)]] w fun v w' => v = .bool ((i_isRows_c1 p_w)) ∧ Ex w w' := by
 refine Cal.of func55 rfl ntmps55 rfl (CW.seq (CW.region (sd rfl (yl_box rfl rfl rfl ?_))))
 intro b4 w5 hs6 hz7 hB8 hE9
 refine sd rfl (yA rfl rfl (dn (CW.seq (CW.region (sd rfl (yl_fieldAddr fd66_2 rfl rfl (sd rfl (yl_load1 ty4 rfl rfl ((hB8.cell 2).trans rfl) (sd rfl (yA rfl rfl (SeqR.done ?_)))))))))))
 refine tn (CW.ret (rr rfl (.cons rfl .nil) ?_))
 have hM10 : (i_isRows_c1 p_w) = (p_w.Gone) := by simp only [i_isRows_c1, cL]
 rw [hM10]
 exact ⟨rfl, (Ex.trans (Ex.refl w) hE9)⟩
theorem c_i_isRows {A1 : Option Addr} {c1 : Nat} {w : World} (p_rows : List DWrite) (h1 : RdS w (Iv 0 w.heap.size) (RF e_Write) 3 A1 p_rows.length c1 p_rows) (o2 : (okL ok_Write) p_rows) : Cal Tryz.prog 31 #[.slice A1 p_rows.length c1] w fun v w' => v = .bool ((i_isRows p_rows)) ∧ Ex w w' := by
 refine Cal.of func31 rfl ntmps31 rfl (CW.seq (CW.region (sd rfl (yA rfl rfl (dn (CW.seq (CW.region (sd rfl (yM rfl rfl ?_)))))))))
 refine sd rfl (yC en53 rfl (oc rfl oz) (Cal.mono (c_i_GoodWrites p_rows (RdS.up h1 gW) o2) ?_))
 rintro v5 w4 ⟨rfl, hE6⟩
 refine sd rfl (yM rfl rfl (bcase (i_GoodWrites p_rows) (fun hb7 => ?_) (fun hb7 => ?_)))
 ·refine sy rfl rfl hb7 (yM rfl rfl (sy rfl rfl hb7 (yC en54 rfl (oc rfl (oc rfl oz)) (Cal.mono (c_g_slices_ContainsFunc_Write p_rows (fun y0 => i_isRows_c1 y0) (RdS.up (RdS.ex gW h1 hE6) gW) en55 (fun _ y0 => fun hE hm0 ov0 => c_i_isRows_c1 y0 ov0) o2) ?_))))
  rintro v10 w9 ⟨rfl, hE11⟩
  refine sy rfl rfl hb7 (yl_not rfl rfl (sd rfl (yl_pick_t rfl rfl hb7 rfl (sd rfl (yA rfl rfl (dn (CW.ret (rr rfl (.cons rfl .nil) ?_))))))))
  have hM12 : (i_isRows p_rows) = (!(g_slices_ContainsFunc_Write p_rows (fun y0 => i_isRows_c1 y0))) := by simp only [i_isRows, hb7, cL]
  rw [hM12]
  exact ⟨rfl, (Ex.trans (Ex.trans (Ex.refl w) hE6) hE11)⟩
 ·refine sz rfl rfl hb7 (sz rfl rfl hb7 (sz rfl rfl hb7 (sd rfl (yl_pick_f rfl rfl hb7 rfl (sd rfl (yA rfl rfl (dn (CW.ret (rr rfl (.cons rfl .nil) ?_)))))))))
  have hM15 : (i_isRows p_rows) = (false) := by simp only [i_isRows, hb7, cL]
  rw [hM15]
  exact ⟨rfl, (Ex.trans (Ex.refl w) hE6)⟩
theorem c_i_areLetters {w : World} (p_s : Str) (p_most : Int) (o1 : okS p_s) : Cal Tryz.prog 49 #[.string (bs (p_s)), .int .i64 (p_most)] w fun v w' => v = .bool ((i_areLetters p_s p_most)) ∧ Ex w w' := by
 have hol2 : p_s.length ≤ 1073741824 := o1
 refine Cal.of func49 rfl ntmps49 rfl (CW.seq (CW.region (sd rfl (yA rfl rfl (dn (CW.seq (CW.seq (CW.region ?_))))))))
 refine sd rfl (yM rfl rfl (sd rfl (yl_slen un9 (a := p_s) rfl rfl (sd rfl (yM rfl rfl (dn (CW.block (CW.loop (fun m4 L5 w6 => ∃ (k3 : Nat), m4 = p_s.length - k3 ∧ k3 ≤ p_s.length ∧ w.heap.size ≤ w6.heap.size ∧ lkp L5 0 = some (.string (bs (p_s))) ∧ lkp L5 1 = some (.int .i64 (p_most)) ∧ lkp L5 7 = some (.int .i64 ((p_s.length : Int))) ∧ lkp L5 8 = some (.int .i64 ((k3 : Int))) ∧ Ex w w6 ∧ loopM (B_i_areLetters_0 p_s p_most) (p_s.length - k3) k3 () = loopM (B_i_areLetters_0 p_s p_most) (p_s.length - 0) 0 ()) (p_s.length - 0) ?_ ?_))))))))
 ·exact ⟨0, rfl, (by omega), Nat.le_refl _, rfl, rfl, rfl, rfl, (Ex.refl w), rfl⟩
 ·rintro m7 L8 w9 ⟨k3, rfl, hk10, hsz12, hl13, hl14, hl15, hl16, hf17, hI11⟩
  refine CW.sub (Sub.cons hl13 (Sub.cons hl14 (Sub.cons hl15 (Sub.cons hl16 (Sub.nil _))))) ?_
  have hf17z := Ex.size hf17
  have hbg18 : p_s.length ≤ 1073741824 := o1
  rcases Nat.lt_or_ge k3 p_s.length with hlt19 | hlt19
  ·refine CW.seq (CW.region (sd rfl (yl_lss rfl rfl rfl (dn (CW.seq (CW.cond_t rfl (lt_t hlt19) (CW.skip (tn ?_))))))))
   refine CW.seq (CW.block (CW.seq (CW.region (sd rfl (yM rfl rfl (sd rfl (yA rfl rfl (dn (CW.seq ?_)))))))))
   refine CW.region (sd rfl (yM rfl rfl (sd rfl (yM rfl rfl (sd rfl (yl_sindexN un9 (a := p_s) rfl rfl rfl (by first | omega | assumption | (simp only [wI] at *; omega)) (sd rfl (yl_lss rfl rfl rfl (sd rfl (yM rfl rfl (bcase (decide (((p_s.getD k3 0).toNat : Int) < 97)) (fun hb20 => ?_) (fun hb20 => ?_))))))))))))
   ·have hb20p := dec_t hb20
    refine sz rfl rfl hb20 (sz rfl rfl hb20 (sz rfl rfl hb20 (sz rfl rfl hb20 (sd rfl (yl_pick_t rfl rfl hb20 rfl (dn (CW.cond_t rfl rfl (CW.seq ?_))))))))
    refine CW.region (sd rfl (yA rfl rfl (dn (CW.ret (br (tr (tr ?_)))))))
    have hB22 : B_i_areLetters_0 p_s p_most k3 () = .ret false := by simp only [B_i_areLetters_0, hb20, cL]
    have hL21 : loopM (B_i_areLetters_0 p_s p_most) (p_s.length - 0) 0 () = .ret false := hI11.symm.trans (loopM.ret hlt19 hB22)
    refine br (tr (rr rfl (.cons rfl .nil) ?_))
    have hM23 : (i_areLetters p_s p_most) = (false) := by simp only [i_areLetters, hb20, hL21, cL]
    rw [hM23]
    exact ⟨rfl, hf17⟩
   ·have hb20p := dec_f hb20
    refine sy rfl rfl hb20 (yM rfl rfl (sy rfl rfl hb20 (yM rfl rfl (sy rfl rfl hb20 (yl_sindexN un9 (a := p_s) rfl rfl rfl (by first | omega | assumption | (simp only [wI] at *; omega)) (sy rfl rfl hb20 (yl_gtr rfl rfl rfl (sd rfl (yl_pick_f rfl rfl hb20 rfl (dn (bcase (decide (122 < ((p_s.getD k3 0).toNat : Int))) (fun hb24 => ?_) (fun hb24 => ?_))))))))))))
    ·have hb24p := dec_t hb24
     refine CW.cond_t rfl hb24 (CW.seq (CW.region (sd rfl (yA rfl rfl (dn (CW.ret (br (tr ?_))))))))
     refine tr ?_
     have hB26 : B_i_areLetters_0 p_s p_most k3 () = .ret false := by simp only [B_i_areLetters_0, hb20, hb24, cL]
     have hL25 : loopM (B_i_areLetters_0 p_s p_most) (p_s.length - 0) 0 () = .ret false := hI11.symm.trans (loopM.ret hlt19 hB26)
     refine br (tr (rr rfl (.cons rfl .nil) ?_))
     have hM27 : (i_areLetters p_s p_most) = (false) := by simp only [i_areLetters, hb20, hb24, hL25, cL]
     rw [hM27]
     exact ⟨rfl, hf17⟩
    ·have hb24p := dec_f hb24
     refine CW.cond_f rfl hb24 (CW.skip (bn (tn (CW.region (sd rfl (yl_inc rfl rfl rfl (by omega) (sd rfl (yM rfl rfl (dn ?_)))))))))
     have hB28 : B_i_areLetters_0 p_s p_most k3 () = .cont () := by simp only [B_i_areLetters_0, hb20, hb24, cL]
     exact ⟨p_s.length - (k3 + 1), by omega, k3 + 1, rfl, hlt19, (by omega), rfl, rfl, rfl, rfl, hf17, (loopM.cont hlt19 hB28).symm.trans hI11⟩
  ·refine CW.seq (CW.region (sd rfl (yl_lss rfl rfl rfl (dn (CW.seq (CW.cond_f rfl (lt_f hlt19) (CW.exit (tx ?_))))))))
   refine tx ?_
   have hL29 : loopM (B_i_areLetters_0 p_s p_most) (p_s.length - 0) 0 () = .done () := hI11.symm.trans (loopM.stop hlt19)
   refine bx (tn (CW.seq (CW.region (sd rfl (yM rfl rfl (sd rfl (yl_slen un9 (a := p_s) rfl rfl (sd rfl (yM rfl rfl (sd rfl (yC en50 rfl (oc rfl (oc rfl (oc rfl oz))) (Cal.mono (c_i_within (p_s.length : Int) 1 p_most) ?_))))))))))))
   rintro v31 w30 ⟨rfl, hE32⟩
   have hE32z := Ex.size hE32
   refine sd rfl (yA rfl rfl (dn (CW.ret (rr rfl (.cons rfl .nil) ?_))))
   have hM33 : (i_areLetters p_s p_most) = ((i_within (p_s.length : Int) 1 p_most)) := by simp only [i_areLetters, hL29, cL]
   rw [hM33]
   exact ⟨rfl, (Ex.trans hf17 hE32)⟩
theorem c_g_slices_Index_string {A1 : Option Addr} {c1 : Nat} {w : World} (p_s : List Str) (p_v : Str) (h1 : RdS w (Iv 0 w.heap.size) (RF e_Str) 1 A1 p_s.length c1 p_s) (o2 : (okL okS) p_s) (o3 : okS p_v) : Cal Tryz.prog 79 #[.slice A1 p_s.length c1, .string (bs (p_v))] w fun v w' => v = .int .i64 ((g_slices_Index_string p_s p_v)) ∧ Ex w w' := by
 have hol4 := o2.1
 have hol5 : p_v.length ≤ 1073741824 := o3
 refine Cal.of func79 rfl ntmps79 rfl (CW.seq (CW.region (sd rfl (yA rfl rfl (dn (CW.seq (CW.seq (CW.region ?_))))))))
 refine sd rfl (yM rfl rfl (sd rfl (yL un23 rfl rfl (sd rfl (yM rfl rfl (dn (CW.block (CW.loop (fun m7 L8 w9 => ∃ (k6 : Nat), m7 = p_s.length - k6 ∧ k6 ≤ p_s.length ∧ w.heap.size ≤ w9.heap.size ∧ lkp L8 0 = some (.slice A1 p_s.length c1) ∧ lkp L8 1 = some (.string (bs (p_v))) ∧ lkp L8 7 = some (.int .i64 ((p_s.length : Int))) ∧ lkp L8 8 = some (.int .i64 ((k6 : Int))) ∧ RdS w9 (Iv 0 w.heap.size) (RF e_Str) 1 A1 p_s.length c1 p_s ∧ Ex w w9 ∧ loopM (B_g_slices_Index_string_0 p_s p_v) (p_s.length - k6) k6 () = loopM (B_g_slices_Index_string_0 p_s p_v) (p_s.length - 0) 0 ()) (p_s.length - 0) ?_ ?_))))))))
 ·exact ⟨0, rfl, (by omega), Nat.le_refl _, rfl, rfl, rfl, rfl, h1, (Ex.refl w), rfl⟩
 ·rintro m10 L11 w12 ⟨k6, rfl, hk13, hsz15, hl16, hl17, hl18, hl19, hf20, hf21, hI14⟩
  refine CW.sub (Sub.cons hl16 (Sub.cons hl17 (Sub.cons hl18 (Sub.cons hl19 (Sub.nil _))))) ?_
  have hf21z := Ex.size hf21
  have hbg22 := RdS.big hf20
  rcases Nat.lt_or_ge k6 p_s.length with hlt23 | hlt23
  ·refine CW.seq (CW.region (sd rfl (yl_lss rfl rfl rfl (dn (CW.seq (CW.cond_t rfl (lt_t hlt23) (CW.skip (tn ?_))))))))
   refine CW.seq (CW.block (CW.seq (CW.region (sd rfl (yM rfl rfl (sd rfl (yA rfl rfl (dn (CW.seq ?_)))))))))
   refine CW.region (sd rfl (yM rfl rfl (sd rfl (yM rfl rfl (sd rfl (yM rfl rfl ?_))))))
   obtain ⟨eb24, eo24, _, eA24, _, ebl24, _, eR24, eC24⟩ := RdS.aD hf20 d_Str (i := k6)
   obtain rfl := eR24
   have eC24 : Cells w12 eb24 (eo24 + k6 * 1) [.string (bs ((p_s.getD k6 d_Str)))] := eC24
   refine sd rfl (yl_ixN un23 ty9 rfl rfl rfl eA24 (sd rfl (yl_load1 ty9 rfl rfl (eC24 0 _ rfl) (sd rfl (yl_seql (a := p_v) (b := (p_s.getD k6 d_Str)) rfl rfl rfl (dn (bcase (p_v == (p_s.getD k6 d_Str)) (fun hb25 => ?_) (fun hb25 => ?_))))))))
   ·refine CW.cond_t rfl hb25 (CW.seq (CW.region (sd rfl (yM rfl rfl (sd rfl (yA rfl rfl (dn (CW.ret (br ?_)))))))))
    refine tr (tr ?_)
    have hB27 : B_g_slices_Index_string_0 p_s p_v k6 () = .ret (k6 : Int) := by simp only [B_g_slices_Index_string_0, hb25, cL]
    have hL26 : loopM (B_g_slices_Index_string_0 p_s p_v) (p_s.length - 0) 0 () = .ret (k6 : Int) := hI14.symm.trans (loopM.ret hlt23 hB27)
    refine br (tr (rr rfl (.cons rfl .nil) ?_))
    have hM28 : (g_slices_Index_string p_s p_v) = ((k6 : Int)) := by simp only [g_slices_Index_string, hb25, hL26, cL]
    rw [hM28]
    exact ⟨rfl, hf21⟩
   ·refine CW.cond_f rfl hb25 (CW.skip (bn (tn (CW.region (sd rfl (yl_inc rfl rfl rfl (by omega) (sd rfl (yM rfl rfl (dn ?_)))))))))
    have hB29 : B_g_slices_Index_string_0 p_s p_v k6 () = .cont () := by simp only [B_g_slices_Index_string_0, hb25, cL]
    exact ⟨p_s.length - (k6 + 1), by omega, k6 + 1, rfl, hlt23, (by omega), rfl, rfl, rfl, rfl, hf20, hf21, (loopM.cont hlt23 hB29).symm.trans hI14⟩
  ·refine CW.seq (CW.region (sd rfl (yl_lss rfl rfl rfl (dn (CW.seq (CW.cond_f rfl (lt_f hlt23) (CW.exit (tx ?_))))))))
   refine tx ?_
   have hL30 : loopM (B_g_slices_Index_string_0 p_s p_v) (p_s.length - 0) 0 () = .done () := hI14.symm.trans (loopM.stop hlt23)
   refine bx (tn (CW.seq (CW.region (sd rfl (yA rfl rfl (dn (CW.ret (rr rfl (.cons rfl .nil) ?_))))))))
   have hM31 : (g_slices_Index_string p_s p_v) = (-1) := by simp only [g_slices_Index_string, hL30, cL]
   rw [hM31]
   exact ⟨rfl, hf21⟩
theorem c_g_slices_Contains_string {A1 : Option Addr} {c1 : Nat} {w : World} (p_s : List Str) (p_v : Str) (h1 : RdS w (Iv 0 w.heap.size) (RF e_Str) 1 A1 p_s.length c1 p_s) (o2 : (okL okS) p_s) (o3 : okS p_v) : Cal Tryz.prog 51 #[.slice A1 p_s.length c1, .string (bs (p_v))] w fun v w' => v = .bool ((g_slices_Contains_string p_s p_v)) ∧ Ex w w' := by
 refine Cal.of func51 rfl ntmps51 rfl (CW.seq (CW.region (sd rfl (yA rfl rfl (dn (CW.seq (CW.region (sd rfl (yM rfl rfl ?_)))))))))
 refine sd rfl (yM rfl rfl (sd rfl (yC en79 rfl (oc rfl (oc rfl oz)) (Cal.mono (c_g_slices_Index_string p_s p_v (RdS.up h1 gS) o2 o3) ?_))))
 rintro v7 w6 ⟨rfl, hE8⟩
 refine sd rfl (yl_geq rfl rfl rfl (sd rfl (yA rfl rfl (dn (CW.ret (rr rfl (.cons rfl .nil) ?_))))))
 have hM9 : (g_slices_Contains_string p_s p_v) = (decide (0 ≤ (g_slices_Index_string p_s p_v))) := by simp only [g_slices_Contains_string, cL]
 rw [hM9]
 exact ⟨rfl, (Ex.trans (Ex.refl w) hE8)⟩
theorem c_i_isStage {w : World} (p_stage : Int) : Cal Tryz.prog 52 #[.int .i64 (p_stage)] w fun v w' => v = .bool ((i_isStage p_stage)) ∧ Ex w w' := by
 refine Cal.of func52 rfl ntmps52 rfl (CW.seq (CW.region (sd rfl (yA rfl rfl (dn (CW.seq (CW.region (sd rfl (yM rfl rfl ?_)))))))))
 refine sd rfl (yC en50 rfl (oc rfl (oc rfl (oc rfl oz))) (Cal.mono (c_i_within p_stage 0 3) ?_))
 rintro v2 w1 ⟨rfl, hE3⟩
 refine sd rfl (yA rfl rfl (dn (CW.ret (rr rfl (.cons rfl .nil) ?_))))
 have hM4 : (i_isStage p_stage) = ((i_within p_stage 0 3)) := by simp only [i_isStage, cL]
 rw [hM4]
 exact ⟨rfl, (Ex.trans (Ex.refl w) hE3)⟩
theorem c_i_GoodTable {A1 : Option Addr} {c1 : Nat} {A2 : Option Addr} {c2 : Nat} {w : World} (p_0 : DTable) (h1 : RdS w (Iv 0 w.heap.size) (RF e_Str) 1 A1 p_0.Cols.length c1 p_0.Cols) (h2 : RdS w (Iv 0 w.heap.size) (RF e_Idx) 3 A2 p_0.Idxs.length c2 p_0.Idxs) (o3 : ok_Table p_0) : Cal Tryz.prog 30 #[.agg #[.string (bs (p_0.Name)), .slice A1 p_0.Cols.length c1, .slice A2 p_0.Idxs.length c2]] w fun v w' => v = .bool ((i_GoodTable p_0)) ∧ Ex w w' := by
 have hol4 : p_0.Name.length ≤ 1073741824 := o3.1
 have hol5 := o3.2.1.1
 have hol6 := o3.2.2.1
 refine Cal.of func30 rfl ntmps30 rfl (CW.seq (CW.region (sd rfl (yl_box rfl rfl rfl ?_))))
 intro b7 w8 hs9 hz10 hB11 hE12
 refine sd rfl (yA rfl rfl (dn (CW.seq (CW.seq (CW.region (sd rfl (yl_fieldAddr fd26_0 rfl rfl (sd rfl (yl_load1 ty9 rfl rfl ((hB11.cell 0).trans rfl) (sd rfl (yC en49 rfl (oc rfl (oc rfl oz)) (Cal.mono (c_i_areLetters p_0.Name 1 o3.1) ?_))))))))))))
 rintro v14 w13 ⟨rfl, hE15⟩
 have hE15z := Ex.size hE15
 refine sd rfl (yl_not rfl rfl (sd rfl (yM rfl rfl (bcase (i_areLetters p_0.Name 1) (fun hb16 => ?_) (fun hb16 => ?_)))))
 ·refine sy rfl rfl (not_t hb16) (yl_fieldAddr fd26_1 rfl rfl ?_)
  have q17 := Box.ex hB11 hE15
  refine sy rfl rfl (not_t hb16) (yl_load1 ty23 rfl rfl ((q17.cell 1).trans rfl) (sy rfl rfl (not_t hb16) (yL un23 rfl rfl (sy rfl rfl (not_t hb16) (yC en50 rfl (oc rfl (oc rfl (oc rfl oz))) (Cal.mono (c_i_within (p_0.Cols.length : Int) 2 4) ?_))))))
  rintro v19 w18 ⟨rfl, hE20⟩
  have hE20z := Ex.size hE20
  refine sy rfl rfl (not_t hb16) (yl_not rfl rfl (sd rfl (yl_pick_f rfl rfl (not_t hb16) rfl (sd rfl (yM rfl rfl (bcase (i_within (p_0.Cols.length : Int) 2 4) (fun hb21 => ?_) (fun hb21 => ?_)))))))
  ·have hb21p := f_within hb21
   refine sy rfl rfl (not_t hb21) (yl_fieldAddr fd26_2 rfl rfl ?_)
   have q22 := Box.ex q17 hE20
   refine sy rfl rfl (not_t hb21) (yl_load1 ty24 rfl rfl ((q22.cell 2).trans rfl) (sy rfl rfl (not_t hb21) (yL un24 rfl rfl (sy rfl rfl (not_t hb21) (yl_gtr rfl rfl rfl (sd rfl (yl_pick_f rfl rfl (not_t hb21) rfl (dn (bcase (decide (3 < (p_0.Idxs.length : Int))) (fun hb23 => ?_) (fun hb23 => ?_))))))))))
   ·have hb23p := dec_t hb23
    refine CW.cond_t rfl hb23 (CW.seq (CW.region (sd rfl (yA rfl rfl (dn (CW.ret (tr (rr rfl (.cons rfl .nil) ?_))))))))
    have hM24 : (i_GoodTable p_0) = (false) := by simp only [i_GoodTable, hb16, hb21, hb23, cL]
    rw [hM24]
    exact ⟨rfl, (Ex.trans (Ex.trans (Ex.trans (Ex.refl w) hE12) hE15) hE20)⟩
   ·have hb23p := dec_f hb23
    refine CW.cond_f rfl hb23 (CW.skip (tn (CW.seq (CW.seq (CW.region (sd rfl (yl_fieldAddr fd26_1 rfl rfl (sd rfl (yl_load1 ty23 rfl rfl ((q22.cell 1).trans rfl) (sd rfl (yL un23 rfl rfl ?_)))))))))))
    refine sd rfl (yM rfl rfl (dn (CW.block (CW.loop (fun m29 L30 w31 => ∃ (k28 : Nat), m29 = p_0.Cols.length - k28 ∧ k28 ≤ p_0.Cols.length ∧ w18.heap.size ≤ w31.heap.size ∧ lkp L30 1 = some (.pointer (some ⟨b7, 0, none⟩)) ∧ lkp L30 25 = some (.slice A1 p_0.Cols.length c1) ∧ lkp L30 26 = some (.int .i64 ((p_0.Cols.length : Int))) ∧ lkp L30 27 = some (.int .i64 ((k28 : Int))) ∧ Box w31 b7 26 [.string (bs (p_0.Name)), .slice A1 p_0.Cols.length c1, .slice A2 p_0.Idxs.length c2] ∧ RdS w31 (Iv 0 w.heap.size) (RF e_Str) 1 A1 p_0.Cols.length c1 p_0.Cols ∧ RdS w31 (Iv 0 w.heap.size) (RF e_Idx) 3 A2 p_0.Idxs.length c2 p_0.Idxs ∧ Ex w w31 ∧ loopM (B_i_GoodTable_0 p_0) (p_0.Cols.length - k28) k28 () = loopM (B_i_GoodTable_0 p_0) (p_0.Cols.length - 0) 0 ()) (p_0.Cols.length - 0) ?_ ?_))))
    ·exact ⟨0, rfl, (by omega), Nat.le_refl _, rfl, rfl, rfl, rfl, q22, (RdS.ex gS (RdS.ex gS (RdS.ex gS h1 hE12) hE15) hE20), (RdS.ex gI (RdS.ex gI (RdS.ex gI h2 hE12) hE15) hE20), (Ex.trans (Ex.trans (Ex.trans (Ex.refl w) hE12) hE15) hE20), rfl⟩
    ·rintro m41 L42 w43 ⟨k28, rfl, hk44, hsz46, hl47, hl48, hl49, hl50, hf51, hf52, hf53, hf54, hI45⟩
     refine CW.sub (Sub.cons hl47 (Sub.cons hl48 (Sub.cons hl49 (Sub.cons hl50 (Sub.nil _))))) ?_
     have hf51z := Box.lt hf51
     have hf54z := Ex.size hf54
     have hbg55 := RdS.big hf52
     rcases Nat.lt_or_ge k28 p_0.Cols.length with hlt56 | hlt56
     ·refine CW.seq (CW.region (sd rfl (yl_lss rfl rfl rfl (dn (CW.seq (CW.cond_t rfl (lt_t hlt56) (CW.skip (tn ?_))))))))
      refine CW.seq (CW.block (CW.seq (CW.region (sd rfl (yM rfl rfl ?_)))))
      obtain ⟨eb57, eo57, _, eA57, _, ebl57, _, eR57, eC57⟩ := RdS.aD hf52 d_Str (i := k28)
      obtain rfl := eR57
      have eC57 : Cells w43 eb57 (eo57 + k28 * 1) [.string (bs ((p_0.Cols.getD k28 d_Str)))] := eC57
      refine sd rfl (yl_ixN un23 ty9 rfl rfl rfl eA57 (sd rfl (yl_load1 ty9 rfl rfl (eC57 0 _ rfl) (sd rfl (yA rfl rfl (sd rfl (yA rfl rfl (dn (CW.seq (CW.region (sd rfl (yM rfl rfl ?_))))))))))))
      refine sd rfl (yC en49 rfl (oc rfl (oc rfl oz)) (Cal.mono (c_i_areLetters (p_0.Cols.getD k28 d_Str) 3 (okL.getD o3.2.1 ok_d_Str _)) ?_))
      rintro v59 w58 ⟨rfl, hE60⟩
      have hE60z := Ex.size hE60
      refine sd rfl (yl_not rfl rfl (sd rfl (yM rfl rfl (bcase (i_areLetters (p_0.Cols.getD k28 d_Str) 3) (fun hb61 => ?_) (fun hb61 => ?_)))))
      ·refine sy rfl rfl (not_t hb61) (yl_fieldAddr fd26_1 rfl rfl ?_)
       have q62 := Box.ex hf51 hE60
       refine sy rfl rfl (not_t hb61) (yl_load1 ty23 rfl rfl ((q62.cell 1).trans rfl) (sy rfl rfl (not_t hb61) (yM rfl rfl ?_)))
       have q63 := RdS.ex gS hf52 hE60
       obtain ⟨A64, c65, he68, h67⟩ := RdS.sl (RdS.drop (RdS.take q63 (k := k28) (by omega)) (k := 0) (by omega))
       have hrc69 := (q63).2.1
       refine sy rfl rfl (not_t hb61) (yl_sliceR (kl := .i64) (l := 0) (h := k28) un23 ty9 rfl rfl (.inl ⟨rfl, rfl⟩) (.inr ⟨_, rfl, rfl⟩) (by omega) (by omega) he68 (sy rfl rfl (not_t hb61) (yM rfl rfl (sy rfl rfl (not_t hb61) (yC en51 rfl (oc rfl (oc rfl oz)) (Cal.mono (c_g_slices_Contains_string (p_0.Cols.take k28) (p_0.Cols.getD k28 d_Str) (RdS.up h67 gS) (okL.take o3.2.1 _) (okL.getD o3.2.1 ok_d_Str _)) ?_))))))
       rintro v71 w70 ⟨rfl, hE72⟩
       have hE72z := Ex.size hE72
       refine sd rfl (yl_pick_f rfl rfl (not_t hb61) rfl (dn (bcase (g_slices_Contains_string (p_0.Cols.take k28) (p_0.Cols.getD k28 d_Str)) (fun hb73 => ?_) (fun hb73 => ?_))))
       ·refine CW.cond_t rfl hb73 (CW.seq (CW.region (sd rfl (yA rfl rfl (dn (CW.ret (br (tr ?_))))))))
        refine tr ?_
        have hB75 : B_i_GoodTable_0 p_0 k28 () = .ret false := by simp only [B_i_GoodTable_0, hb16, hb21, hb23, hb61, hb73, cL]
        have hL74 : loopM (B_i_GoodTable_0 p_0) (p_0.Cols.length - 0) 0 () = .ret false := hI45.symm.trans (loopM.ret hlt56 hB75)
        refine br (tr (rr rfl (.cons rfl .nil) ?_))
        have hM76 : (i_GoodTable p_0) = (false) := by simp only [i_GoodTable, hb16, hb21, hb23, hb61, hb73, hL74, cL]
        rw [hM76]
        exact ⟨rfl, (Ex.trans (Ex.trans hf54 hE60) hE72)⟩
       ·refine CW.cond_f rfl hb73 (CW.skip (bn (tn (CW.region (sd rfl (yl_inc rfl rfl rfl (by omega) (sd rfl (yM rfl rfl (dn ?_)))))))))
        have hB79 : B_i_GoodTable_0 p_0 k28 () = .cont () := by simp only [B_i_GoodTable_0, hb16, hb21, hb23, hb61, hb73, cL]
        exact ⟨p_0.Cols.length - (k28 + 1), by omega, k28 + 1, rfl, hlt56, (by omega), rfl, rfl, rfl, rfl, (Box.ex q62 hE72), (RdS.ex gS q63 hE72), (RdS.ex gI (RdS.ex gI hf53 hE60) hE72), (Ex.trans (Ex.trans hf54 hE60) hE72), (loopM.cont hlt56 hB79).symm.trans hI45⟩
      ·refine sz rfl rfl (not_f hb61) (sz rfl rfl (not_f hb61) (sz rfl rfl (not_f hb61) (sz rfl rfl (not_f hb61) (sz rfl rfl (not_f hb61) (sz rfl rfl (not_f hb61) (sd rfl (yl_pick_t rfl rfl (not_f hb61) rfl (dn ?_))))))))
       refine CW.cond_t rfl rfl (CW.seq (CW.region (sd rfl (yA rfl rfl (dn (CW.ret (br (tr ?_))))))))
       refine tr ?_
       have hB87 : B_i_GoodTable_0 p_0 k28 () = .ret false := by simp only [B_i_GoodTable_0, hb16, hb21, hb23, hb61, cL]
       have hL86 : loopM (B_i_GoodTable_0 p_0) (p_0.Cols.length - 0) 0 () = .ret false := hI45.symm.trans (loopM.ret hlt56 hB87)
       refine br (tr (rr rfl (.cons rfl .nil) ?_))
       have hM88 : (i_GoodTable p_0) = (false) := by simp only [i_GoodTable, hb16, hb21, hb23, hb61, hL86, cL]
       rw [hM88]
       exact ⟨rfl, (Ex.trans hf54 hE60)⟩
     ·refine CW.seq (CW.region (sd rfl (yl_lss rfl rfl rfl (dn (CW.seq (CW.cond_f rfl (lt_f hlt56) (CW.exit (tx ?_))))))))
      refine tx ?_
      have hL90 : loopM (B_i_GoodTable_0 p_0) (p_0.Cols.length - 0) 0 () = .done () := hI45.symm.trans (loopM.stop hlt56)
      refine bx (tn (CW.seq (CW.seq (CW.region (sd rfl (yl_fieldAddr fd26_2 rfl rfl (sd rfl (yl_load1 ty24 rfl rfl ((hf51.cell 2).trans rfl) (sd rfl (yL un24 rfl rfl (sd rfl (yM rfl rfl ?_))))))))))))
      refine dn (CW.block (CW.loop (fun m129 L130 w131 => ∃ (k91 : Nat), m129 = p_0.Idxs.length - k91 ∧ k91 ≤ p_0.Idxs.length ∧ w43.heap.size ≤ w131.heap.size ∧ lkp L130 1 = some (.pointer (some ⟨b7, 0, none⟩)) ∧ lkp L130 45 = some (.slice A2 p_0.Idxs.length c2) ∧ lkp L130 46 = some (.int .i64 ((p_0.Idxs.length : Int))) ∧ lkp L130 47 = some (.int .i64 ((k91 : Int))) ∧ Box w131 b7 26 [.string (bs (p_0.Name)), .slice A1 p_0.Cols.length c1, .slice A2 p_0.Idxs.length c2] ∧ RdS w131 (Iv 0 w.heap.size) (RF e_Str) 1 A1 p_0.Cols.length c1 p_0.Cols ∧ RdS w131 (Iv 0 w.heap.size) (RF e_Idx) 3 A2 p_0.Idxs.length c2 p_0.Idxs ∧ Ex w w131 ∧ loopM (B_i_GoodTable_1 p_0) (p_0.Idxs.length - k91) k91 () = loopM (B_i_GoodTable_1 p_0) (p_0.Idxs.length - 0) 0 ()) (p_0.Idxs.length - 0) ?_ ?_))
      ·exact ⟨0, rfl, (by omega), Nat.le_refl _, rfl, rfl, rfl, rfl, hf51, hf52, hf53, hf54, rfl⟩
      ·rintro m132 L133 w134 ⟨k91, rfl, hk135, hsz137, hl138, hl139, hl140, hl141, hf142, hf143, hf144, hf145, hI136⟩
       refine CW.sub (Sub.cons hl138 (Sub.cons hl139 (Sub.cons hl140 (Sub.cons hl141 (Sub.nil _))))) ?_
       have hf142z := Box.lt hf142
       have hf145z := Ex.size hf145
       have hbg146 := RdS.big hf144
       rcases Nat.lt_or_ge k91 p_0.Idxs.length with hlt147 | hlt147
       ·refine CW.seq (CW.region (sd rfl (yl_lss rfl rfl rfl (dn (CW.seq (CW.cond_t rfl (lt_t hlt147) (CW.skip (tn ?_))))))))
        refine CW.seq (CW.block (CW.seq (CW.region (sd rfl (yM rfl rfl ?_)))))
        obtain ⟨eb148, eo148, _, eA148, _, ebl148, _, eR148, eC148⟩ := RdS.aD hf144 d_Idx (i := k91)
        obtain rfl := eR148
        have eC148 : Cells w134 eb148 (eo148 + k91 * 3) [.string (bs ((p_0.Idxs.getD k91 d_Idx).Name)), .int .i64 ((p_0.Idxs.getD k91 d_Idx).Col), .int .i64 ((p_0.Idxs.getD k91 d_Idx).Stage)] := eC148
        refine sd rfl (yl_ixN un24 ty64 rfl rfl rfl eA148 (sd rfl (yl_loadN ty64 rfl rfl eC148 rfl (sd rfl (yB ty64 (cs := [.string (bs (([] : Str))), .int .i64 (0), .int .i64 (0)]) rfl rfl ?_)))))
        intro b149 w150 hs151 hz152 hB153 hE154
        refine sd rfl (yA rfl rfl (SeqR.u rfl rfl (yl_store (vs := [.string (bs ((p_0.Idxs.getD k91 d_Idx).Name)), .int .i64 ((p_0.Idxs.getD k91 d_Idx).Col), .int .i64 ((p_0.Idxs.getD k91 d_Idx).Stage)]) ty64 rfl rfl rfl rfl rfl rfl hB153 (Nat.le_of_ble_eq_true rfl) ?_)))
        intro w155 hB156 hO157
        have hB156 : Box w155 b149 64 [.string (bs ((p_0.Idxs.getD k91 d_Idx).Name)), .int .i64 ((p_0.Idxs.getD k91 d_Idx).Col), .int .i64 ((p_0.Idxs.getD k91 d_Idx).Stage)] := hB156
        have hO157z := hO157.size
        refine dn (CW.seq (bcase (i_areLetters ((p_0.Idxs.getD k91 d_Idx).Name) 1) (fun hb159 => ?_) (fun hb159 => ?_)))
        ·refine bcase (i_within ((p_0.Idxs.getD k91 d_Idx).Col) 1 (IntKind.wrap .i64 ((p_0.Cols.length : Int) - 1))) (fun hb164 => ?_) (fun hb164 => ?_)
         ·have hb164p := f_within hb164
          refine bcase (i_isStage ((p_0.Idxs.getD k91 d_Idx).Stage)) (fun hb170 => ?_) (fun hb170 => ?_)
          ·have hb170p := f_i_isStage hb170
           refine bcase (decide (0 < (k91 : Int))) (fun hb176 => ?_) (fun hb176 => ?_)
           ·have hb176p := dec_t hb176
            have q179 := Box.only (Box.ex hf142 hE154) hO157 (by omega)
            have q183 := RdS.only gI (RdS.ex gI hf144 hE154) hO157 (by simp only [Iv]; omega)
            obtain ⟨eb184, eo184, _, eA184, _, ebl184, _, eR184, eC184⟩ := RdS.atD q183 d_Idx (i := (IntKind.wrap .i64 ((k91 : Int) - 1)).toNat) (by first | omega | assumption | (simp only [wI] at *; omega))
            obtain rfl := eR184
            have eC184 : Cells w155 eb184 (eo184 + ((IntKind.wrap .i64 ((k91 : Int) - 1)).toNat) * 3) [.string (bs ((p_0.Idxs.getD ((IntKind.wrap .i64 ((k91 : Int) - 1)).toNat) d_Idx).Name)), .int .i64 ((p_0.Idxs.getD ((IntKind.wrap .i64 ((k91 : Int) - 1)).toNat) d_Idx).Col), .int .i64 ((p_0.Idxs.getD ((IntKind.wrap .i64 ((k91 : Int) - 1)).toNat) d_Idx).Stage)] := eC184
            refine CW.drawsI 36 (vgetI ([.pointer (some ⟨b149, 0 + 0, none⟩), .string (bs ((p_0.Idxs.getD k91 d_Idx).Name)), .bool ((i_areLetters ((p_0.Idxs.getD k91 d_Idx).Name) 1)), .bool (!(i_areLetters ((p_0.Idxs.getD k91 d_Idx).Name) 1)), .bool (!(i_areLetters ((p_0.Idxs.getD k91 d_Idx).Name) 1)), .pointer (some ⟨b149, 0 + 1, none⟩), .int .i64 ((p_0.Idxs.getD k91 d_Idx).Col), .pointer (some ⟨b7, 0 + 1, none⟩), .slice A1 p_0.Cols.length c1, .int .i64 ((p_0.Cols.length : Int)), .int .i64 (IntKind.wrap .i64 ((p_0.Cols.length : Int) - 1)), .bool ((i_within ((p_0.Idxs.getD k91 d_Idx).Col) 1 (IntKind.wrap .i64 ((p_0.Cols.length : Int) - 1)))), .bool (!(i_within ((p_0.Idxs.getD k91 d_Idx).Col) 1 (IntKind.wrap .i64 ((p_0.Cols.length : Int) - 1)))), .bool (!(i_within ((p_0.Idxs.getD k91 d_Idx).Col) 1 (IntKind.wrap .i64 ((p_0.Cols.length : Int) - 1)))), .bool (!(i_within ((p_0.Idxs.getD k91 d_Idx).Col) 1 (IntKind.wrap .i64 ((p_0.Cols.length : Int) - 1)))), .pointer (some ⟨b149, 0 + 2, none⟩), .int .i64 ((p_0.Idxs.getD k91 d_Idx).Stage), .bool ((i_isStage ((p_0.Idxs.getD k91 d_Idx).Stage))), .bool (!(i_isStage ((p_0.Idxs.getD k91 d_Idx).Stage))), .bool (!(i_isStage ((p_0.Idxs.getD k91 d_Idx).Stage))), .bool (!(i_isStage ((p_0.Idxs.getD k91 d_Idx).Stage))), .int .i64 ((k91 : Int)), .bool (decide (0 < (k91 : Int))), .bool (decide (0 < (k91 : Int))), .pointer (some ⟨b149, 0 + 0, none⟩), .string (bs ((p_0.Idxs.getD k91 d_Idx).Name)), .pointer (some ⟨b7, 0 + 2, none⟩), .slice A2 p_0.Idxs.length c2, .int .i64 ((k91 : Int)), .int .i64 (IntKind.wrap .i64 ((k91 : Int) - 1)), .pointer (some ⟨eb184, eo184 + ((IntKind.wrap .i64 ((k91 : Int) - 1)).toNat) * 3, none⟩), .pointer (some ⟨eb184, eo184 + ((IntKind.wrap .i64 ((k91 : Int) - 1)).toNat) * 3 + 0, none⟩), .string (bs ((p_0.Idxs.getD ((IntKind.wrap .i64 ((k91 : Int) - 1)).toNat) d_Idx).Name)), .bool (sLe ((p_0.Idxs.getD k91 d_Idx).Name) ((p_0.Idxs.getD ((IntKind.wrap .i64 ((k91 : Int) - 1)).toNat) d_Idx).Name)), .bool (sLe ((p_0.Idxs.getD k91 d_Idx).Name) ((p_0.Idxs.getD ((IntKind.wrap .i64 ((k91 : Int) - 1)).toNat) d_Idx).Name)), .bool (sLe ((p_0.Idxs.getD k91 d_Idx).Name) ((p_0.Idxs.getD ((IntKind.wrap .i64 ((k91 : Int) - 1)).toNat) d_Idx).Name))].map DetI)) Tryz.follows rfl rfl rfl rfl rfl rfl (vgetI_stable (stD _)) ⟨?_, ?_, ?_, ?_, ?_, ?_, ?_, ?_, ?_, ?_, ?_, ?_, ?_, ?_, ?_, ?_, ?_, ?_, ?_, ?_, ?_, ?_, ?_, ?_, ?_, ?_, ?_, ?_, ?_, ?_, ?_, ?_, ?_, ?_, ?_, ?_, trivial⟩ ?_
            ·exact oI rfl fun h => yl_fieldAddr fd64_0 rfl (h.old 6 _ rfl rfl) kI
            ·exact oI rfl fun h => yl_load1 ty9 rfl (h.dt 0 52 rfl rfl rfl) (((Box.ex hB156 h.ex).cell 0).trans rfl) kI
            ·intro L196 w197 hi198
             exact OpR.op' rfl (yC en49 rfl (oc (hi198.dt 1 53 rfl rfl rfl) (oc rfl oz)) (Cal.mono (c_i_areLetters ((p_0.Idxs.getD k91 d_Idx).Name) 1 (okL.getD o3.2.2 ok_d_Idx _)) fun _ _ h => h))
            ·exact oI rfl fun h => yl_not rfl (h.dt 2 54 rfl rfl rfl) kI
            ·exact oI rfl fun h => yM rfl (h.dt 3 55 rfl rfl rfl) kI
            ·exact oW rfl rfl rfl rfl (not_t hb159) fun h => yl_fieldAddr fd64_1 rfl (h.old 6 _ rfl rfl) kI
            ·exact oW rfl rfl rfl rfl (not_t hb159) fun h => yl_load1 ty3 rfl (h.dt 5 57 rfl rfl rfl) (((Box.ex hB156 h.ex).cell 1).trans rfl) kI
            ·exact oW rfl rfl rfl rfl (not_t hb159) fun h => yl_fieldAddr fd26_1 rfl (h.old 1 _ rfl rfl) kI
            ·exact oW rfl rfl rfl rfl (not_t hb159) fun h => yl_load1 ty23 rfl (h.dt 7 59 rfl rfl rfl) (((Box.ex q179 h.ex).cell 1).trans rfl) kI
            ·exact oW rfl rfl rfl rfl (not_t hb159) fun h => yL un23 rfl (h.dt 8 60 rfl rfl rfl) kI
            ·exact oW rfl rfl rfl rfl (not_t hb159) fun h => yl_sub rfl (h.dt 9 61 rfl rfl rfl) rfl kI
            ·intro L252 w253 hi254
             exact OpR.want rfl rfl (hi254.dt 4 56 rfl rfl rfl) (not_t hb159) (yC en50 rfl (oc (hi254.dt 6 58 rfl rfl rfl) (oc rfl (oc (hi254.dt 10 62 rfl rfl rfl) oz))) (Cal.mono (c_i_within ((p_0.Idxs.getD k91 d_Idx).Col) 1 (IntKind.wrap .i64 ((p_0.Cols.length : Int) - 1))) fun _ _ h => h))
            ·exact oW rfl rfl rfl rfl (not_t hb159) fun h => yl_not rfl (h.dt 11 63 rfl rfl rfl) kI
            ·exact oI rfl fun h => yl_pick_f rfl (h.dt 4 56 rfl rfl rfl) (not_t hb159) (h.dt 12 64 rfl rfl rfl) kI
            ·exact oI rfl fun h => yM rfl (h.dt 13 65 rfl rfl rfl) kI
            ·exact oW rfl rfl rfl rfl (not_t hb164) fun h => yl_fieldAddr fd64_2 rfl (h.old 6 _ rfl rfl) kI
            ·exact oW rfl rfl rfl rfl (not_t hb164) fun h => yl_load1 ty3 rfl (h.dt 15 67 rfl rfl rfl) (((Box.ex hB156 h.ex).cell 2).trans rfl) kI
            ·intro L292 w293 hi294
             exact OpR.want rfl rfl (hi294.dt 14 66 rfl rfl rfl) (not_t hb164) (yC en52 rfl (oc (hi294.dt 16 68 rfl rfl rfl) oz) (Cal.mono (c_i_isStage ((p_0.Idxs.getD k91 d_Idx).Stage)) fun _ _ h => h))
            ·exact oW rfl rfl rfl rfl (not_t hb164) fun h => yl_not rfl (h.dt 17 69 rfl rfl rfl) kI
            ·exact oI rfl fun h => yl_pick_f rfl (h.dt 14 66 rfl rfl rfl) (not_t hb164) (h.dt 18 70 rfl rfl rfl) kI
            ·exact oI rfl fun h => yM rfl (h.dt 19 71 rfl rfl rfl) kI
            ·exact oW rfl rfl rfl rfl (not_t hb170) fun h => yM rfl (h.old 5 _ rfl rfl) kI
            ·exact oW rfl rfl rfl rfl (not_t hb170) fun h => yl_gtr rfl (h.dt 21 73 rfl rfl rfl) rfl kI
            ·exact oW rfl rfl rfl rfl (not_t hb170) fun h => yM rfl (h.dt 22 74 rfl rfl rfl) kI
            ·exact oW rfl rfl rfl rfl hb176 fun h => yl_fieldAddr fd64_0 rfl (h.old 6 _ rfl rfl) kI
            ·exact oW rfl rfl rfl rfl hb176 fun h => yl_load1 ty9 rfl (h.dt 24 76 rfl rfl rfl) (((Box.ex hB156 h.ex).cell 0).trans rfl) kI
            ·exact oW rfl rfl rfl rfl hb176 fun h => yl_fieldAddr fd26_2 rfl (h.old 1 _ rfl rfl) kI
            ·exact oW rfl rfl rfl rfl hb176 fun h => yl_load1 ty24 rfl (h.dt 26 78 rfl rfl rfl) (((Box.ex q179 h.ex).cell 2).trans rfl) kI
            ·exact oW rfl rfl rfl rfl hb176 fun h => yM rfl (h.old 5 _ rfl rfl) kI
            ·exact oW rfl rfl rfl rfl hb176 fun h => yl_sub rfl (h.dt 28 80 rfl rfl rfl) rfl kI
            ·intro L374 w375 hi376
             have hE377 := hi376.ex
             have hE377z := Ex.size hE377
             exact OpR.want rfl rfl (hi376.dt 23 75 rfl rfl rfl) hb176 (Yl.sameI (yl_indexAddr un24 ty64 rfl (hi376.dt 27 79 rfl rfl rfl) (hi376.dt 29 81 rfl rfl rfl) eA184 (by first | omega | assumption | (simp only [wI] at *; omega)) (by first | omega | assumption | (simp only [wI] at *; omega)) kI))
            ·exact oW rfl rfl rfl rfl hb176 fun h => yl_fieldAddr fd64_0 rfl (h.dt 30 82 rfl rfl rfl) kI
            ·exact oW rfl rfl rfl rfl hb176 fun h => yl_load1 ty9 rfl (h.dt 31 83 rfl rfl rfl) ((Cells.ex eC184 h.ex) 0 _ rfl) kI
            ·exact oW rfl rfl rfl rfl hb176 fun h => yl_sleq (a := ((p_0.Idxs.getD k91 d_Idx).Name)) (b := ((p_0.Idxs.getD ((IntKind.wrap .i64 ((k91 : Int) - 1)).toNat) d_Idx).Name)) rfl (h.dt 25 77 rfl rfl rfl) (h.dt 32 84 rfl rfl rfl) kI
            ·exact oW rfl rfl rfl rfl (not_t hb170) fun h => yl_pick_t rfl (h.dt 23 75 rfl rfl rfl) hb176 (h.dt 33 85 rfl rfl rfl) kI
            ·exact oI rfl fun h => yl_pick_f rfl (h.dt 20 72 rfl rfl rfl) (not_t hb170) (h.dt 34 86 rfl rfl rfl) kI
            ·intro fl417 fh418 L414 w415 hp416
             have hE419 := hp416.ex
             have hE419z := Ex.size hE419
             refine dn (CW.sub (Sub.cons (d := 1) (hp416.old 1 _ rfl rfl) (Sub.cons (d := 45) (hp416.old 45 _ rfl rfl) (Sub.cons (d := 46) (hp416.old 46 _ rfl rfl) (Sub.cons (d := 47) (hp416.old 47 _ rfl rfl) (Sub.cons (d := 57) (hp416.nt 5 57 rfl rfl rfl) (Sub.cons (d := 58) (hp416.nt 6 58 rfl rfl rfl) (Sub.cons (d := 59) (hp416.nt 7 59 rfl rfl rfl) (Sub.cons (d := 60) (hp416.nt 8 60 rfl rfl rfl) (Sub.cons (d := 61) (hp416.nt 9 61 rfl rfl rfl) (Sub.cons (d := 62) (hp416.nt 10 62 rfl rfl rfl) (Sub.cons (d := 63) (hp416.nt 11 63 rfl rfl rfl) (Sub.cons (d := 64) (hp416.nt 12 64 rfl rfl rfl) (Sub.cons (d := 67) (hp416.nt 15 67 rfl rfl rfl) (Sub.cons (d := 68) (hp416.nt 16 68 rfl rfl rfl) (Sub.cons (d := 69) (hp416.nt 17 69 rfl rfl rfl) (Sub.cons (d := 70) (hp416.nt 18 70 rfl rfl rfl) (Sub.cons (d := 73) (hp416.nt 21 73 rfl rfl rfl) (Sub.cons (d := 74) (hp416.nt 22 74 rfl rfl rfl) (Sub.cons (d := 75) (hp416.nt 23 75 rfl rfl rfl) (Sub.cons (d := 76) (hp416.nt 24 76 rfl rfl rfl) (Sub.cons (d := 77) (hp416.nt 25 77 rfl rfl rfl) (Sub.cons (d := 78) (hp416.nt 26 78 rfl rfl rfl) (Sub.cons (d := 79) (hp416.nt 27 79 rfl rfl rfl) (Sub.cons (d := 80) (hp416.nt 28 80 rfl rfl rfl) (Sub.cons (d := 81) (hp416.nt 29 81 rfl rfl rfl) (Sub.cons (d := 82) (hp416.nt 30 82 rfl rfl rfl) (Sub.cons (d := 83) (hp416.nt 31 83 rfl rfl rfl) (Sub.cons (d := 84) (hp416.nt 32 84 rfl rfl rfl) (Sub.cons (d := 85) (hp416.nt 33 85 rfl rfl rfl) (Sub.cons (d := 86) (hp416.nt 34 86 rfl rfl rfl) (Sub.cons (d := 87) (hp416.nt 35 87 rfl rfl rfl) (Sub.nil _)))))))))))))))))))))))))))))))) ?_)
             refine bcase (sLe ((p_0.Idxs.getD k91 d_Idx).Name) ((p_0.Idxs.getD ((IntKind.wrap .i64 ((k91 : Int) - 1)).toNat) d_Idx).Name)) (fun hb451 => ?_) (fun hb451 => ?_)
             ·refine CW.cond_t rfl hb451 (CW.seq (CW.region (sd rfl (yA rfl rfl (dn (CW.ret (br (tr ?_))))))))
              refine tr ?_
              have hB453 : B_i_GoodTable_1 p_0 k91 () = .ret false := by simp only [B_i_GoodTable_1, hb16, hb21, hb23, hb159, hb164, hb170, hb176, hb451, hL90, cL]
              have hL452 : loopM (B_i_GoodTable_1 p_0) (p_0.Idxs.length - 0) 0 () = .ret false := hI136.symm.trans (loopM.ret hlt147 hB453)
              refine br (tr (rr rfl (.cons rfl .nil) ?_))
              have hM454 : (i_GoodTable p_0) = (false) := by simp only [i_GoodTable, hb16, hb21, hb23, hb159, hb164, hb170, hb176, hb451, hL90, hL452, cL]
              rw [hM454]
              exact ⟨rfl, (Ex.trans (Below.only (Ex.trans hf145 hE154) hO157 (by omega)) hE419)⟩
             ·refine CW.cond_f rfl hb451 (CW.skip (bn (tn (CW.region (sd rfl (yl_inc rfl rfl rfl (by omega) (sd rfl (yM rfl rfl (dn ?_)))))))))
              have hB458 : B_i_GoodTable_1 p_0 k91 () = .cont () := by simp only [B_i_GoodTable_1, hb16, hb21, hb23, hb159, hb164, hb170, hb176, hb451, hL90, cL]
              exact ⟨p_0.Idxs.length - (k91 + 1), by omega, k91 + 1, rfl, hlt147, (by omega), rfl, rfl, rfl, rfl, (Box.ex q179 hE419), (RdS.ex gS (RdS.only gS (RdS.ex gS hf143 hE154) hO157 (by simp only [Iv]; omega)) hE419), (RdS.ex gI q183 hE419), (Ex.trans (Below.only (Ex.trans hf145 hE154) hO157 (by omega)) hE419), (loopM.cont hlt147 hB458).symm.trans hI136⟩
           ·have hb176p := dec_f hb176
            have q469 := Box.only (Box.ex hf142 hE154) hO157 (by omega)
            refine CW.drawsI 36 (vgetI ([.pointer (some ⟨b149, 0 + 0, none⟩), .string (bs ((p_0.Idxs.getD k91 d_Idx).Name)), .bool ((i_areLetters ((p_0.Idxs.getD k91 d_Idx).Name) 1)), .bool (!(i_areLetters ((p_0.Idxs.getD k91 d_Idx).Name) 1)), .bool (!(i_areLetters ((p_0.Idxs.getD k91 d_Idx).Name) 1)), .pointer (some ⟨b149, 0 + 1, none⟩), .int .i64 ((p_0.Idxs.getD k91 d_Idx).Col), .pointer (some ⟨b7, 0 + 1, none⟩), .slice A1 p_0.Cols.length c1, .int .i64 ((p_0.Cols.length : Int)), .int .i64 (IntKind.wrap .i64 ((p_0.Cols.length : Int) - 1)), .bool ((i_within ((p_0.Idxs.getD k91 d_Idx).Col) 1 (IntKind.wrap .i64 ((p_0.Cols.length : Int) - 1)))), .bool (!(i_within ((p_0.Idxs.getD k91 d_Idx).Col) 1 (IntKind.wrap .i64 ((p_0.Cols.length : Int) - 1)))), .bool (!(i_within ((p_0.Idxs.getD k91 d_Idx).Col) 1 (IntKind.wrap .i64 ((p_0.Cols.length : Int) - 1)))), .bool (!(i_within ((p_0.Idxs.getD k91 d_Idx).Col) 1 (IntKind.wrap .i64 ((p_0.Cols.length : Int) - 1)))), .pointer (some ⟨b149, 0 + 2, none⟩), .int .i64 ((p_0.Idxs.getD k91 d_Idx).Stage), .bool ((i_isStage ((p_0.Idxs.getD k91 d_Idx).Stage))), .bool (!(i_isStage ((p_0.Idxs.getD k91 d_Idx).Stage))), .bool (!(i_isStage ((p_0.Idxs.getD k91 d_Idx).Stage))), .bool (!(i_isStage ((p_0.Idxs.getD k91 d_Idx).Stage))), .int .i64 ((k91 : Int)), .bool (decide (0 < (k91 : Int))), .bool (decide (0 < (k91 : Int))), undef, undef, undef, undef, undef, undef, undef, undef, undef, undef, .bool (false), .bool (false)].map DetI)) Tryz.follows rfl rfl rfl rfl rfl rfl (vgetI_stable (stD _)) ⟨?_, ?_, ?_, ?_, ?_, ?_, ?_, ?_, ?_, ?_, ?_, ?_, ?_, ?_, ?_, ?_, ?_, ?_, ?_, ?_, ?_, ?_, ?_, ?_, ?_, ?_, ?_, ?_, ?_, ?_, ?_, ?_, ?_, ?_, ?_, ?_, trivial⟩ ?_
            ·exact oI rfl fun h => yl_fieldAddr fd64_0 rfl (h.old 6 _ rfl rfl) kI
            ·exact oI rfl fun h => yl_load1 ty9 rfl (h.dt 0 52 rfl rfl rfl) (((Box.ex hB156 h.ex).cell 0).trans rfl) kI
            ·intro L483 w484 hi485
             exact OpR.op' rfl (yC en49 rfl (oc (hi485.dt 1 53 rfl rfl rfl) (oc rfl oz)) (Cal.mono (c_i_areLetters ((p_0.Idxs.getD k91 d_Idx).Name) 1 (okL.getD o3.2.2 ok_d_Idx _)) fun _ _ h => h))
            ·exact oI rfl fun h => yl_not rfl (h.dt 2 54 rfl rfl rfl) kI
            ·exact oI rfl fun h => yM rfl (h.dt 3 55 rfl rfl rfl) kI
            ·exact oW rfl rfl rfl rfl (not_t hb159) fun h => yl_fieldAddr fd64_1 rfl (h.old 6 _ rfl rfl) kI
            ·exact oW rfl rfl rfl rfl (not_t hb159) fun h => yl_load1 ty3 rfl (h.dt 5 57 rfl rfl rfl) (((Box.ex hB156 h.ex).cell 1).trans rfl) kI
            ·exact oW rfl rfl rfl rfl (not_t hb159) fun h => yl_fieldAddr fd26_1 rfl (h.old 1 _ rfl rfl) kI
            ·exact oW rfl rfl rfl rfl (not_t hb159) fun h => yl_load1 ty23 rfl (h.dt 7 59 rfl rfl rfl) (((Box.ex q469 h.ex).cell 1).trans rfl) kI
            ·exact oW rfl rfl rfl rfl (not_t hb159) fun h => yL un23 rfl (h.dt 8 60 rfl rfl rfl) kI
            ·exact oW rfl rfl rfl rfl (not_t hb159) fun h => yl_sub rfl (h.dt 9 61 rfl rfl rfl) rfl kI
            ·intro L539 w540 hi541
             exact OpR.want rfl rfl (hi541.dt 4 56 rfl rfl rfl) (not_t hb159) (yC en50 rfl (oc (hi541.dt 6 58 rfl rfl rfl) (oc rfl (oc (hi541.dt 10 62 rfl rfl rfl) oz))) (Cal.mono (c_i_within ((p_0.Idxs.getD k91 d_Idx).Col) 1 (IntKind.wrap .i64 ((p_0.Cols.length : Int) - 1))) fun _ _ h => h))
            ·exact oW rfl rfl rfl rfl (not_t hb159) fun h => yl_not rfl (h.dt 11 63 rfl rfl rfl) kI
            ·exact oI rfl fun h => yl_pick_f rfl (h.dt 4 56 rfl rfl rfl) (not_t hb159) (h.dt 12 64 rfl rfl rfl) kI
            ·exact oI rfl fun h => yM rfl (h.dt 13 65 rfl rfl rfl) kI
            ·exact oW rfl rfl rfl rfl (not_t hb164) fun h => yl_fieldAddr fd64_2 rfl (h.old 6 _ rfl rfl) kI
            ·exact oW rfl rfl rfl rfl (not_t hb164) fun h => yl_load1 ty3 rfl (h.dt 15 67 rfl rfl rfl) (((Box.ex hB156 h.ex).cell 2).trans rfl) kI
            ·intro L579 w580 hi581
             exact OpR.want rfl rfl (hi581.dt 14 66 rfl rfl rfl) (not_t hb164) (yC en52 rfl (oc (hi581.dt 16 68 rfl rfl rfl) oz) (Cal.mono (c_i_isStage ((p_0.Idxs.getD k91 d_Idx).Stage)) fun _ _ h => h))
            ·exact oW rfl rfl rfl rfl (not_t hb164) fun h => yl_not rfl (h.dt 17 69 rfl rfl rfl) kI
            ·exact oI rfl fun h => yl_pick_f rfl (h.dt 14 66 rfl rfl rfl) (not_t hb164) (h.dt 18 70 rfl rfl rfl) kI
            ·exact oI rfl fun h => yM rfl (h.dt 19 71 rfl rfl rfl) kI
            ·exact oW rfl rfl rfl rfl (not_t hb170) fun h => yM rfl (h.old 5 _ rfl rfl) kI
            ·exact oW rfl rfl rfl rfl (not_t hb170) fun h => yl_gtr rfl (h.dt 21 73 rfl rfl rfl) rfl kI
            ·exact oW rfl rfl rfl rfl (not_t hb170) fun h => yM rfl (h.dt 22 74 rfl rfl rfl) kI
            ·exact oS rfl rfl rfl rfl rfl hb176
            ·exact oS rfl rfl rfl rfl rfl hb176
            ·exact oS rfl rfl rfl rfl rfl hb176
            ·exact oS rfl rfl rfl rfl rfl hb176
            ·exact oS rfl rfl rfl rfl rfl hb176
            ·exact oS rfl rfl rfl rfl rfl hb176
            ·exact oS rfl rfl rfl rfl rfl hb176
            ·exact oS rfl rfl rfl rfl rfl hb176
            ·exact oS rfl rfl rfl rfl rfl hb176
            ·exact oS rfl rfl rfl rfl rfl hb176
            ·exact oW rfl rfl rfl rfl (not_t hb170) fun h => yl_pick_f rfl (h.dt 23 75 rfl rfl rfl) hb176 rfl kI
            ·exact oI rfl fun h => yl_pick_f rfl (h.dt 20 72 rfl rfl rfl) (not_t hb170) (h.dt 34 86 rfl rfl rfl) kI
            ·intro fl689 fh690 L686 w687 hp688
             have hE691 := hp688.ex
             have hE691z := Ex.size hE691
             refine dn (CW.sub (Sub.cons (d := 1) (hp688.old 1 _ rfl rfl) (Sub.cons (d := 45) (hp688.old 45 _ rfl rfl) (Sub.cons (d := 46) (hp688.old 46 _ rfl rfl) (Sub.cons (d := 47) (hp688.old 47 _ rfl rfl) (Sub.cons (d := 57) (hp688.nt 5 57 rfl rfl rfl) (Sub.cons (d := 58) (hp688.nt 6 58 rfl rfl rfl) (Sub.cons (d := 59) (hp688.nt 7 59 rfl rfl rfl) (Sub.cons (d := 60) (hp688.nt 8 60 rfl rfl rfl) (Sub.cons (d := 61) (hp688.nt 9 61 rfl rfl rfl) (Sub.cons (d := 62) (hp688.nt 10 62 rfl rfl rfl) (Sub.cons (d := 63) (hp688.nt 11 63 rfl rfl rfl) (Sub.cons (d := 64) (hp688.nt 12 64 rfl rfl rfl) (Sub.cons (d := 67) (hp688.nt 15 67 rfl rfl rfl) (Sub.cons (d := 68) (hp688.nt 16 68 rfl rfl rfl) (Sub.cons (d := 69) (hp688.nt 17 69 rfl rfl rfl) (Sub.cons (d := 70) (hp688.nt 18 70 rfl rfl rfl) (Sub.cons (d := 73) (hp688.nt 21 73 rfl rfl rfl) (Sub.cons (d := 74) (hp688.nt 22 74 rfl rfl rfl) (Sub.cons (d := 75) (hp688.nt 23 75 rfl rfl rfl) (Sub.cons (d := 76) (hp688.nt 24 76 rfl rfl rfl) (Sub.cons (d := 77) (hp688.nt 25 77 rfl rfl rfl) (Sub.cons (d := 78) (hp688.nt 26 78 rfl rfl rfl) (Sub.cons (d := 79) (hp688.nt 27 79 rfl rfl rfl) (Sub.cons (d := 80) (hp688.nt 28 80 rfl rfl rfl) (Sub.cons (d := 81) (hp688.nt 29 81 rfl rfl rfl) (Sub.cons (d := 82) (hp688.nt 30 82 rfl rfl rfl) (Sub.cons (d := 83) (hp688.nt 31 83 rfl rfl rfl) (Sub.cons (d := 84) (hp688.nt 32 84 rfl rfl rfl) (Sub.cons (d := 85) (hp688.nt 33 85 rfl rfl rfl) (Sub.cons (d := 86) (hp688.nt 34 86 rfl rfl rfl) (Sub.cons (d := 87) (hp688.nt 35 87 rfl rfl rfl) (Sub.nil _)))))))))))))))))))))))))))))))) ?_)
             refine CW.cond_f rfl rfl (CW.skip (bn (tn (CW.region (sd rfl (yl_inc rfl rfl rfl (by omega) (sd rfl (yM rfl rfl (dn ?_)))))))))
             have hB723 : B_i_GoodTable_1 p_0 k91 () = .cont () := by simp only [B_i_GoodTable_1, hb16, hb21, hb23, hb159, hb164, hb170, hb176, hL90, cL]
             exact ⟨p_0.Idxs.length - (k91 + 1), by omega, k91 + 1, rfl, hlt147, (by omega), rfl, rfl, rfl, rfl, (Box.ex q469 hE691), (RdS.ex gS (RdS.only gS (RdS.ex gS hf143 hE154) hO157 (by simp only [Iv]; omega)) hE691), (RdS.ex gI (RdS.only gI (RdS.ex gI hf144 hE154) hO157 (by simp only [Iv]; omega)) hE691), (Ex.trans (Below.only (Ex.trans hf145 hE154) hO157 (by omega)) hE691), (loopM.cont hlt147 hB723).symm.trans hI136⟩
          ·refine CW.drawsI 36 (vgetI ([.pointer (some ⟨b149, 0 + 0, none⟩), .string (bs ((p_0.Idxs.getD k91 d_Idx).Name)), .bool ((i_areLetters ((p_0.Idxs.getD k91 d_Idx).Name) 1)), .bool (!(i_areLetters ((p_0.Idxs.getD k91 d_Idx).Name) 1)), .bool (!(i_areLetters ((p_0.Idxs.getD k91 d_Idx).Name) 1)), .pointer (some ⟨b149, 0 + 1, none⟩), .int .i64 ((p_0.Idxs.getD k91 d_Idx).Col), .pointer (some ⟨b7, 0 + 1, none⟩), .slice A1 p_0.Cols.length c1, .int .i64 ((p_0.Cols.length : Int)), .int .i64 (IntKind.wrap .i64 ((p_0.Cols.length : Int) - 1)), .bool ((i_within ((p_0.Idxs.getD k91 d_Idx).Col) 1 (IntKind.wrap .i64 ((p_0.Cols.length : Int) - 1)))), .bool (!(i_within ((p_0.Idxs.getD k91 d_Idx).Col) 1 (IntKind.wrap .i64 ((p_0.Cols.length : Int) - 1)))), .bool (!(i_within ((p_0.Idxs.getD k91 d_Idx).Col) 1 (IntKind.wrap .i64 ((p_0.Cols.length : Int) - 1)))), .bool (!(i_within ((p_0.Idxs.getD k91 d_Idx).Col) 1 (IntKind.wrap .i64 ((p_0.Cols.length : Int) - 1)))), .pointer (some ⟨b149, 0 + 2, none⟩), .int .i64 ((p_0.Idxs.getD k91 d_Idx).Stage), .bool ((i_isStage ((p_0.Idxs.getD k91 d_Idx).Stage))), .bool (!(i_isStage ((p_0.Idxs.getD k91 d_Idx).Stage))), .bool (!(i_isStage ((p_0.Idxs.getD k91 d_Idx).Stage))), .bool (!(i_isStage ((p_0.Idxs.getD k91 d_Idx).Stage))), undef, undef, undef, undef, undef, undef, undef, undef, undef, undef, undef, undef, undef, undef, .bool (true)].map DetI)) Tryz.follows rfl rfl rfl rfl rfl rfl (vgetI_stable (stD _)) ⟨?_, ?_, ?_, ?_, ?_, ?_, ?_, ?_, ?_, ?_, ?_, ?_, ?_, ?_, ?_, ?_, ?_, ?_, ?_, ?_, ?_, ?_, ?_, ?_, ?_, ?_, ?_, ?_, ?_, ?_, ?_, ?_, ?_, ?_, ?_, ?_, trivial⟩ ?_
           ·exact oI rfl fun h => yl_fieldAddr fd64_0 rfl (h.old 6 _ rfl rfl) kI
           ·exact oI rfl fun h => yl_load1 ty9 rfl (h.dt 0 52 rfl rfl rfl) (((Box.ex hB156 h.ex).cell 0).trans rfl) kI
           ·intro L750 w751 hi752
            exact OpR.op' rfl (yC en49 rfl (oc (hi752.dt 1 53 rfl rfl rfl) (oc rfl oz)) (Cal.mono (c_i_areLetters ((p_0.Idxs.getD k91 d_Idx).Name) 1 (okL.getD o3.2.2 ok_d_Idx _)) fun _ _ h => h))
           ·exact oI rfl fun h => yl_not rfl (h.dt 2 54 rfl rfl rfl) kI
           ·exact oI rfl fun h => yM rfl (h.dt 3 55 rfl rfl rfl) kI
           ·exact oW rfl rfl rfl rfl (not_t hb159) fun h => yl_fieldAddr fd64_1 rfl (h.old 6 _ rfl rfl) kI
           ·exact oW rfl rfl rfl rfl (not_t hb159) fun h => yl_load1 ty3 rfl (h.dt 5 57 rfl rfl rfl) (((Box.ex hB156 h.ex).cell 1).trans rfl) kI
           ·exact oW rfl rfl rfl rfl (not_t hb159) fun h => yl_fieldAddr fd26_1 rfl (h.old 1 _ rfl rfl) kI
           ·intro L787 w788 hi789
            have hE790 := hi789.ex
            have hE790z := Ex.size hE790
            exact OpR.want rfl rfl (hi789.dt 4 56 rfl rfl rfl) (not_t hb159) (Yl.sameI (yl_load1 ty23 rfl (hi789.dt 7 59 rfl rfl rfl) (((Box.ex (Box.only (Box.ex hf142 hE154) hO157 (by omega)) hE790).cell 1).trans rfl) kI))
           ·exact oW rfl rfl rfl rfl (not_t hb159) fun h => yL un23 rfl (h.dt 8 60 rfl rfl rfl) kI
           ·exact oW rfl rfl rfl rfl (not_t hb159) fun h => yl_sub rfl (h.dt 9 61 rfl rfl rfl) rfl kI
           ·intro L806 w807 hi808
            exact OpR.want rfl rfl (hi808.dt 4 56 rfl rfl rfl) (not_t hb159) (yC en50 rfl (oc (hi808.dt 6 58 rfl rfl rfl) (oc rfl (oc (hi808.dt 10 62 rfl rfl rfl) oz))) (Cal.mono (c_i_within ((p_0.Idxs.getD k91 d_Idx).Col) 1 (IntKind.wrap .i64 ((p_0.Cols.length : Int) - 1))) fun _ _ h => h))
           ·exact oW rfl rfl rfl rfl (not_t hb159) fun h => yl_not rfl (h.dt 11 63 rfl rfl rfl) kI
           ·exact oI rfl fun h => yl_pick_f rfl (h.dt 4 56 rfl rfl rfl) (not_t hb159) (h.dt 12 64 rfl rfl rfl) kI
           ·exact oI rfl fun h => yM rfl (h.dt 13 65 rfl rfl rfl) kI
           ·exact oW rfl rfl rfl rfl (not_t hb164) fun h => yl_fieldAddr fd64_2 rfl (h.old 6 _ rfl rfl) kI
           ·exact oW rfl rfl rfl rfl (not_t hb164) fun h => yl_load1 ty3 rfl (h.dt 15 67 rfl rfl rfl) (((Box.ex hB156 h.ex).cell 2).trans rfl) kI
           ·intro L846 w847 hi848
            exact OpR.want rfl rfl (hi848.dt 14 66 rfl rfl rfl) (not_t hb164) (yC en52 rfl (oc (hi848.dt 16 68 rfl rfl rfl) oz) (Cal.mono (c_i_isStage ((p_0.Idxs.getD k91 d_Idx).Stage)) fun _ _ h => h))
           ·exact oW rfl rfl rfl rfl (not_t hb164) fun h => yl_not rfl (h.dt 17 69 rfl rfl rfl) kI
           ·exact oI rfl fun h => yl_pick_f rfl (h.dt 14 66 rfl rfl rfl) (not_t hb164) (h.dt 18 70 rfl rfl rfl) kI
           ·exact oI rfl fun h => yM rfl (h.dt 19 71 rfl rfl rfl) kI
           ·exact oS rfl rfl rfl rfl rfl (not_f hb170)
           ·exact oS rfl rfl rfl rfl rfl (not_f hb170)
           ·exact oS rfl rfl rfl rfl rfl (not_f hb170)
           ·exact oU rfl rfl rfl rfl rfl
           ·exact oU rfl rfl rfl rfl rfl
           ·exact oU rfl rfl rfl rfl rfl
           ·exact oU rfl rfl rfl rfl rfl
           ·exact oU rfl rfl rfl rfl rfl
           ·exact oU rfl rfl rfl rfl rfl
           ·exact oU rfl rfl rfl rfl rfl
           ·exact oU rfl rfl rfl rfl rfl
           ·exact oU rfl rfl rfl rfl rfl
           ·exact oU rfl rfl rfl rfl rfl
           ·exact oS rfl rfl rfl rfl rfl (not_f hb170)
           ·exact oI rfl fun h => yl_pick_t rfl (h.dt 20 72 rfl rfl rfl) (not_f hb170) rfl kI
           ·intro fl951 fh952 L948 w949 hp950
            have hE953 := hp950.ex
            have hE953z := Ex.size hE953
            refine dn (CW.sub (Sub.cons (d := 1) (hp950.old 1 _ rfl rfl) (Sub.cons (d := 45) (hp950.old 45 _ rfl rfl) (Sub.cons (d := 46) (hp950.old 46 _ rfl rfl) (Sub.cons (d := 47) (hp950.old 47 _ rfl rfl) (Sub.cons (d := 57) (hp950.nt 5 57 rfl rfl rfl) (Sub.cons (d := 58) (hp950.nt 6 58 rfl rfl rfl) (Sub.cons (d := 59) (hp950.nt 7 59 rfl rfl rfl) (Sub.cons (d := 60) (hp950.nt 8 60 rfl rfl rfl) (Sub.cons (d := 61) (hp950.nt 9 61 rfl rfl rfl) (Sub.cons (d := 62) (hp950.nt 10 62 rfl rfl rfl) (Sub.cons (d := 63) (hp950.nt 11 63 rfl rfl rfl) (Sub.cons (d := 64) (hp950.nt 12 64 rfl rfl rfl) (Sub.cons (d := 67) (hp950.nt 15 67 rfl rfl rfl) (Sub.cons (d := 68) (hp950.nt 16 68 rfl rfl rfl) (Sub.cons (d := 69) (hp950.nt 17 69 rfl rfl rfl) (Sub.cons (d := 70) (hp950.nt 18 70 rfl rfl rfl) (Sub.cons (d := 73) (hp950.nt 21 73 rfl rfl rfl) (Sub.cons (d := 74) (hp950.nt 22 74 rfl rfl rfl) (Sub.cons (d := 75) (hp950.nt 23 75 rfl rfl rfl) (Sub.cons (d := 76) (hp950.nt 24 76 rfl rfl rfl) (Sub.cons (d := 77) (hp950.nt 25 77 rfl rfl rfl) (Sub.cons (d := 78) (hp950.nt 26 78 rfl rfl rfl) (Sub.cons (d := 79) (hp950.nt 27 79 rfl rfl rfl) (Sub.cons (d := 80) (hp950.nt 28 80 rfl rfl rfl) (Sub.cons (d := 81) (hp950.nt 29 81 rfl rfl rfl) (Sub.cons (d := 82) (hp950.nt 30 82 rfl rfl rfl) (Sub.cons (d := 83) (hp950.nt 31 83 rfl rfl rfl) (Sub.cons (d := 84) (hp950.nt 32 84 rfl rfl rfl) (Sub.cons (d := 85) (hp950.nt 33 85 rfl rfl rfl) (Sub.cons (d := 86) (hp950.nt 34 86 rfl rfl rfl) (Sub.cons (d := 87) (hp950.nt 35 87 rfl rfl rfl) (Sub.nil _)))))))))))))))))))))))))))))))) ?_)
            refine CW.cond_t rfl rfl (CW.seq (CW.region (sd rfl (yA rfl rfl (dn (CW.ret (br (tr ?_))))))))
            refine tr ?_
            have hB986 : B_i_GoodTable_1 p_0 k91 () = .ret false := by simp only [B_i_GoodTable_1, hb16, hb21, hb23, hb159, hb164, hb170, hL90, cL]
            have hL985 : loopM (B_i_GoodTable_1 p_0) (p_0.Idxs.length - 0) 0 () = .ret false := hI136.symm.trans (loopM.ret hlt147 hB986)
            refine br (tr (rr rfl (.cons rfl .nil) ?_))
            have hM987 : (i_GoodTable p_0) = (false) := by simp only [i_GoodTable, hb16, hb21, hb23, hb159, hb164, hb170, hL90, hL985, cL]
            rw [hM987]
            exact ⟨rfl, (Ex.trans (Below.only (Ex.trans hf145 hE154) hO157 (by omega)) hE953)⟩
         ·refine CW.drawsI 36 (vgetI ([.pointer (some ⟨b149, 0 + 0, none⟩), .string (bs ((p_0.Idxs.getD k91 d_Idx).Name)), .bool ((i_areLetters ((p_0.Idxs.getD k91 d_Idx).Name) 1)), .bool (!(i_areLetters ((p_0.Idxs.getD k91 d_Idx).Name) 1)), .bool (!(i_areLetters ((p_0.Idxs.getD k91 d_Idx).Name) 1)), .pointer (some ⟨b149, 0 + 1, none⟩), .int .i64 ((p_0.Idxs.getD k91 d_Idx).Col), .pointer (some ⟨b7, 0 + 1, none⟩), .slice A1 p_0.Cols.length c1, .int .i64 ((p_0.Cols.length : Int)), .int .i64 (IntKind.wrap .i64 ((p_0.Cols.length : Int) - 1)), .bool ((i_within ((p_0.Idxs.getD k91 d_Idx).Col) 1 (IntKind.wrap .i64 ((p_0.Cols.length : Int) - 1)))), .bool (!(i_within ((p_0.Idxs.getD k91 d_Idx).Col) 1 (IntKind.wrap .i64 ((p_0.Cols.length : Int) - 1)))), .bool (!(i_within ((p_0.Idxs.getD k91 d_Idx).Col) 1 (IntKind.wrap .i64 ((p_0.Cols.length : Int) - 1)))), .bool (!(i_within ((p_0.Idxs.getD k91 d_Idx).Col) 1 (IntKind.wrap .i64 ((p_0.Cols.length : Int) - 1)))), undef, undef, undef, undef, .bool (true), .bool (true), undef, undef, undef, undef, undef, undef, undef, undef, undef, undef, undef, undef, undef, undef, .bool (true)].map DetI)) Tryz.follows rfl rfl rfl rfl rfl rfl (vgetI_stable (stD _)) ⟨?_, ?_, ?_, ?_, ?_, ?_, ?_, ?_, ?_, ?_, ?_, ?_, ?_, ?_, ?_, ?_, ?_, ?_, ?_, ?_, ?_, ?_, ?_, ?_, ?_, ?_, ?_, ?_, ?_, ?_, ?_, ?_, ?_, ?_, ?_, ?_, trivial⟩ ?_
          ·exact oI rfl fun h => yl_fieldAddr fd64_0 rfl (h.old 6 _ rfl rfl) kI
          ·exact oI rfl fun h => yl_load1 ty9 rfl (h.dt 0 52 rfl rfl rfl) (((Box.ex hB156 h.ex).cell 0).trans rfl) kI
          ·intro L1006 w1007 hi1008
           exact OpR.op' rfl (yC en49 rfl (oc (hi1008.dt 1 53 rfl rfl rfl) (oc rfl oz)) (Cal.mono (c_i_areLetters ((p_0.Idxs.getD k91 d_Idx).Name) 1 (okL.getD o3.2.2 ok_d_Idx _)) fun _ _ h => h))
          ·exact oI rfl fun h => yl_not rfl (h.dt 2 54 rfl rfl rfl) kI
          ·exact oI rfl fun h => yM rfl (h.dt 3 55 rfl rfl rfl) kI
          ·exact oW rfl rfl rfl rfl (not_t hb159) fun h => yl_fieldAddr fd64_1 rfl (h.old 6 _ rfl rfl) kI
          ·exact oW rfl rfl rfl rfl (not_t hb159) fun h => yl_load1 ty3 rfl (h.dt 5 57 rfl rfl rfl) (((Box.ex hB156 h.ex).cell 1).trans rfl) kI
          ·exact oW rfl rfl rfl rfl (not_t hb159) fun h => yl_fieldAddr fd26_1 rfl (h.old 1 _ rfl rfl) kI
          ·intro L1043 w1044 hi1045
           have hE1046 := hi1045.ex
           have hE1046z := Ex.size hE1046
           exact OpR.want rfl rfl (hi1045.dt 4 56 rfl rfl rfl) (not_t hb159) (Yl.sameI (yl_load1 ty23 rfl (hi1045.dt 7 59 rfl rfl rfl) (((Box.ex (Box.only (Box.ex hf142 hE154) hO157 (by omega)) hE1046).cell 1).trans rfl) kI))
          ·exact oW rfl rfl rfl rfl (not_t hb159) fun h => yL un23 rfl (h.dt 8 60 rfl rfl rfl) kI
          ·exact oW rfl rfl rfl rfl (not_t hb159) fun h => yl_sub rfl (h.dt 9 61 rfl rfl rfl) rfl kI
          ·intro L1062 w1063 hi1064
           exact OpR.want rfl rfl (hi1064.dt 4 56 rfl rfl rfl) (not_t hb159) (yC en50 rfl (oc (hi1064.dt 6 58 rfl rfl rfl) (oc rfl (oc (hi1064.dt 10 62 rfl rfl rfl) oz))) (Cal.mono (c_i_within ((p_0.Idxs.getD k91 d_Idx).Col) 1 (IntKind.wrap .i64 ((p_0.Cols.length : Int) - 1))) fun _ _ h => h))
          ·exact oW rfl rfl rfl rfl (not_t hb159) fun h => yl_not rfl (h.dt 11 63 rfl rfl rfl) kI
          ·exact oI rfl fun h => yl_pick_f rfl (h.dt 4 56 rfl rfl rfl) (not_t hb159) (h.dt 12 64 rfl rfl rfl) kI
          ·exact oI rfl fun h => yM rfl (h.dt 13 65 rfl rfl rfl) kI
          ·exact oS rfl rfl rfl rfl rfl (not_f hb164)
          ·exact oS rfl rfl rfl rfl rfl (not_f hb164)
          ·exact oS rfl rfl rfl rfl rfl (not_f hb164)
          ·exact oS rfl rfl rfl rfl rfl (not_f hb164)
          ·exact oI rfl fun h => yl_pick_t rfl (h.dt 14 66 rfl rfl rfl) (not_f hb164) rfl kI
          ·exact oI rfl fun h => yM rfl (h.dt 19 71 rfl rfl rfl) kI
          ·exact oS rfl rfl rfl rfl rfl rfl
          ·exact oS rfl rfl rfl rfl rfl rfl
          ·exact oS rfl rfl rfl rfl rfl rfl
          ·exact oU rfl rfl rfl rfl rfl
          ·exact oU rfl rfl rfl rfl rfl
          ·exact oU rfl rfl rfl rfl rfl
          ·exact oU rfl rfl rfl rfl rfl
          ·exact oU rfl rfl rfl rfl rfl
          ·exact oU rfl rfl rfl rfl rfl
          ·exact oU rfl rfl rfl rfl rfl
          ·exact oU rfl rfl rfl rfl rfl
          ·exact oU rfl rfl rfl rfl rfl
          ·exact oU rfl rfl rfl rfl rfl
          ·exact oS rfl rfl rfl rfl rfl rfl
          ·exact oI rfl fun h => yl_pick_t rfl (h.dt 20 72 rfl rfl rfl) rfl rfl kI
          ·intro fl1199 fh1200 L1196 w1197 hp1198
           have hE1201 := hp1198.ex
           have hE1201z := Ex.size hE1201
           refine dn (CW.sub (Sub.cons (d := 1) (hp1198.old 1 _ rfl rfl) (Sub.cons (d := 45) (hp1198.old 45 _ rfl rfl) (Sub.cons (d := 46) (hp1198.old 46 _ rfl rfl) (Sub.cons (d := 47) (hp1198.old 47 _ rfl rfl) (Sub.cons (d := 57) (hp1198.nt 5 57 rfl rfl rfl) (Sub.cons (d := 58) (hp1198.nt 6 58 rfl rfl rfl) (Sub.cons (d := 59) (hp1198.nt 7 59 rfl rfl rfl) (Sub.cons (d := 60) (hp1198.nt 8 60 rfl rfl rfl) (Sub.cons (d := 61) (hp1198.nt 9 61 rfl rfl rfl) (Sub.cons (d := 62) (hp1198.nt 10 62 rfl rfl rfl) (Sub.cons (d := 63) (hp1198.nt 11 63 rfl rfl rfl) (Sub.cons (d := 64) (hp1198.nt 12 64 rfl rfl rfl) (Sub.cons (d := 67) (hp1198.nt 15 67 rfl rfl rfl) (Sub.cons (d := 68) (hp1198.nt 16 68 rfl rfl rfl) (Sub.cons (d := 69) (hp1198.nt 17 69 rfl rfl rfl) (Sub.cons (d := 70) (hp1198.nt 18 70 rfl rfl rfl) (Sub.cons (d := 73) (hp1198.nt 21 73 rfl rfl rfl) (Sub.cons (d := 74) (hp1198.nt 22 74 rfl rfl rfl) (Sub.cons (d := 75) (hp1198.nt 23 75 rfl rfl rfl) (Sub.cons (d := 76) (hp1198.nt 24 76 rfl rfl rfl) (Sub.cons (d := 77) (hp1198.nt 25 77 rfl rfl rfl) (Sub.cons (d := 78) (hp1198.nt 26 78 rfl rfl rfl) (Sub.cons (d := 79) (hp1198.nt 27 79 rfl rfl rfl) (Sub.cons (d := 80) (hp1198.nt 28 80 rfl rfl rfl) (Sub.cons (d := 81) (hp1198.nt 29 81 rfl rfl rfl) (Sub.cons (d := 82) (hp1198.nt 30 82 rfl rfl rfl) (Sub.cons (d := 83) (hp1198.nt 31 83 rfl rfl rfl) (Sub.cons (d := 84) (hp1198.nt 32 84 rfl rfl rfl) (Sub.cons (d := 85) (hp1198.nt 33 85 rfl rfl rfl) (Sub.cons (d := 86) (hp1198.nt 34 86 rfl rfl rfl) (Sub.cons (d := 87) (hp1198.nt 35 87 rfl rfl rfl) (Sub.nil _)))))))))))))))))))))))))))))))) ?_)
           refine CW.cond_t rfl rfl (CW.seq (CW.region (sd rfl (yA rfl rfl (dn (CW.ret (br (tr ?_))))))))
           refine tr ?_
           have hB1234 : B_i_GoodTable_1 p_0 k91 () = .ret false := by simp only [B_i_GoodTable_1, hb16, hb21, hb23, hb159, hb164, hL90, cL]
           have hL1233 : loopM (B_i_GoodTable_1 p_0) (p_0.Idxs.length - 0) 0 () = .ret false := hI136.symm.trans (loopM.ret hlt147 hB1234)
           refine br (tr (rr rfl (.cons rfl .nil) ?_))
           have hM1235 : (i_GoodTable p_0) = (false) := by simp only [i_GoodTable, hb16, hb21, hb23, hb159, hb164, hL90, hL1233, cL]
           rw [hM1235]
           exact ⟨rfl, (Ex.trans (Below.only (Ex.trans hf145 hE154) hO157 (by omega)) hE1201)⟩
        ·refine CW.drawsI 36 (vgetI ([.pointer (some ⟨b149, 0 + 0, none⟩), .string (bs ((p_0.Idxs.getD k91 d_Idx).Name)), .bool ((i_areLetters ((p_0.Idxs.getD k91 d_Idx).Name) 1)), .bool (!(i_areLetters ((p_0.Idxs.getD k91 d_Idx).Name) 1)), .bool (!(i_areLetters ((p_0.Idxs.getD k91 d_Idx).Name) 1)), undef, undef, undef, undef, undef, undef, undef, undef, .bool (true), .bool (true), undef, undef, undef, undef, .bool (true), .bool (true), undef, undef, undef, undef, undef, undef, undef, undef, undef, undef, undef, undef, undef, undef, .bool (true)].map DetI)) Tryz.follows rfl rfl rfl rfl rfl rfl (vgetI_stable (stD _)) ⟨?_, ?_, ?_, ?_, ?_, ?_, ?_, ?_, ?_, ?_, ?_, ?_, ?_, ?_, ?_, ?_, ?_, ?_, ?_, ?_, ?_, ?_, ?_, ?_, ?_, ?_, ?_, ?_, ?_, ?_, ?_, ?_, ?_, ?_, ?_, ?_, trivial⟩ ?_
         ·exact oI rfl fun h => yl_fieldAddr fd64_0 rfl (h.old 6 _ rfl rfl) kI
         ·exact oI rfl fun h => yl_load1 ty9 rfl (h.dt 0 52 rfl rfl rfl) (((Box.ex hB156 h.ex).cell 0).trans rfl) kI
         ·intro L1251 w1252 hi1253
          exact OpR.op' rfl (yC en49 rfl (oc (hi1253.dt 1 53 rfl rfl rfl) (oc rfl oz)) (Cal.mono (c_i_areLetters ((p_0.Idxs.getD k91 d_Idx).Name) 1 (okL.getD o3.2.2 ok_d_Idx _)) fun _ _ h => h))
         ·exact oI rfl fun h => yl_not rfl (h.dt 2 54 rfl rfl rfl) kI
         ·exact oI rfl fun h => yM rfl (h.dt 3 55 rfl rfl rfl) kI
         ·exact oS rfl rfl rfl rfl rfl (not_f hb159)
         ·exact oS rfl rfl rfl rfl rfl (not_f hb159)
         ·exact oS rfl rfl rfl rfl rfl (not_f hb159)
         ·exact oS rfl rfl rfl rfl rfl (not_f hb159)
         ·exact oS rfl rfl rfl rfl rfl (not_f hb159)
         ·exact oS rfl rfl rfl rfl rfl (not_f hb159)
         ·exact oS rfl rfl rfl rfl rfl (not_f hb159)
         ·exact oS rfl rfl rfl rfl rfl (not_f hb159)
         ·exact oI rfl fun h => yl_pick_t rfl (h.dt 4 56 rfl rfl rfl) (not_f hb159) rfl kI
         ·exact oI rfl fun h => yM rfl (h.dt 13 65 rfl rfl rfl) kI
         ·exact oS rfl rfl rfl rfl rfl rfl
         ·exact oS rfl rfl rfl rfl rfl rfl
         ·exact oS rfl rfl rfl rfl rfl rfl
         ·exact oS rfl rfl rfl rfl rfl rfl
         ·exact oI rfl fun h => yl_pick_t rfl (h.dt 14 66 rfl rfl rfl) rfl rfl kI
         ·exact oI rfl fun h => yM rfl (h.dt 19 71 rfl rfl rfl) kI
         ·exact oS rfl rfl rfl rfl rfl rfl
         ·exact oS rfl rfl rfl rfl rfl rfl
         ·exact oS rfl rfl rfl rfl rfl rfl
         ·exact oU rfl rfl rfl rfl rfl
         ·exact oU rfl rfl rfl rfl rfl
         ·exact oU rfl rfl rfl rfl rfl
         ·exact oU rfl rfl rfl rfl rfl
         ·exact oU rfl rfl rfl rfl rfl
         ·exact oU rfl rfl rfl rfl rfl
         ·exact oU rfl rfl rfl rfl rfl
         ·exact oU rfl rfl rfl rfl rfl
         ·exact oU rfl rfl rfl rfl rfl
         ·exact oU rfl rfl rfl rfl rfl
         ·exact oS rfl rfl rfl rfl rfl rfl
         ·exact oI rfl fun h => yl_pick_t rfl (h.dt 20 72 rfl rfl rfl) rfl rfl kI
         ·intro fl1430 fh1431 L1427 w1428 hp1429
          have hE1432 := hp1429.ex
          have hE1432z := Ex.size hE1432
          refine dn (CW.sub (Sub.cons (d := 1) (hp1429.old 1 _ rfl rfl) (Sub.cons (d := 45) (hp1429.old 45 _ rfl rfl) (Sub.cons (d := 46) (hp1429.old 46 _ rfl rfl) (Sub.cons (d := 47) (hp1429.old 47 _ rfl rfl) (Sub.cons (d := 57) (hp1429.nt 5 57 rfl rfl rfl) (Sub.cons (d := 58) (hp1429.nt 6 58 rfl rfl rfl) (Sub.cons (d := 59) (hp1429.nt 7 59 rfl rfl rfl) (Sub.cons (d := 60) (hp1429.nt 8 60 rfl rfl rfl) (Sub.cons (d := 61) (hp1429.nt 9 61 rfl rfl rfl) (Sub.cons (d := 62) (hp1429.nt 10 62 rfl rfl rfl) (Sub.cons (d := 63) (hp1429.nt 11 63 rfl rfl rfl) (Sub.cons (d := 64) (hp1429.nt 12 64 rfl rfl rfl) (Sub.cons (d := 67) (hp1429.nt 15 67 rfl rfl rfl) (Sub.cons (d := 68) (hp1429.nt 16 68 rfl rfl rfl) (Sub.cons (d := 69) (hp1429.nt 17 69 rfl rfl rfl) (Sub.cons (d := 70) (hp1429.nt 18 70 rfl rfl rfl) (Sub.cons (d := 73) (hp1429.nt 21 73 rfl rfl rfl) (Sub.cons (d := 74) (hp1429.nt 22 74 rfl rfl rfl) (Sub.cons (d := 75) (hp1429.nt 23 75 rfl rfl rfl) (Sub.cons (d := 76) (hp1429.nt 24 76 rfl rfl rfl) (Sub.cons (d := 77) (hp1429.nt 25 77 rfl rfl rfl) (Sub.cons (d := 78) (hp1429.nt 26 78 rfl rfl rfl) (Sub.cons (d := 79) (hp1429.nt 27 79 rfl rfl rfl) (Sub.cons (d := 80) (hp1429.nt 28 80 rfl rfl rfl) (Sub.cons (d := 81) (hp1429.nt 29 81 rfl rfl rfl) (Sub.cons (d := 82) (hp1429.nt 30 82 rfl rfl rfl) (Sub.cons (d := 83) (hp1429.nt 31 83 rfl rfl rfl) (Sub.cons (d := 84) (hp1429.nt 32 84 rfl rfl rfl) (Sub.cons (d := 85) (hp1429.nt 33 85 rfl rfl rfl) (Sub.cons (d := 86) (hp1429.nt 34 86 rfl rfl rfl) (Sub.cons (d := 87) (hp1429.nt 35 87 rfl rfl rfl) (Sub.nil _)))))))))))))))))))))))))))))))) ?_)
          refine CW.cond_t rfl rfl (CW.seq (CW.region (sd rfl (yA rfl rfl (dn (CW.ret (br (tr ?_))))))))
          refine tr ?_
          have hB1465 : B_i_GoodTable_1 p_0 k91 () = .ret false := by simp only [B_i_GoodTable_1, hb16, hb21, hb23, hb159, hL90, cL]
          have hL1464 : loopM (B_i_GoodTable_1 p_0) (p_0.Idxs.length - 0) 0 () = .ret false := hI136.symm.trans (loopM.ret hlt147 hB1465)
          refine br (tr (rr rfl (.cons rfl .nil) ?_))
          have hM1466 : (i_GoodTable p_0) = (false) := by simp only [i_GoodTable, hb16, hb21, hb23, hb159, hL90, hL1464, cL]
          rw [hM1466]
          exact ⟨rfl, (Ex.trans (Below.only (Ex.trans hf145 hE154) hO157 (by omega)) hE1432)⟩
       ·refine CW.seq (CW.region (sd rfl (yl_lss rfl rfl rfl (dn (CW.seq (CW.cond_f rfl (lt_f hlt147) (CW.exit (tx ?_))))))))
        refine tx ?_
        have hL1470 : loopM (B_i_GoodTable_1 p_0) (p_0.Idxs.length - 0) 0 () = .done () := hI136.symm.trans (loopM.stop hlt147)
        refine bx (tn (CW.seq (CW.region (sd rfl (yA rfl rfl (dn (CW.ret (rr rfl (.cons rfl .nil) ?_))))))))
        have hM1471 : (i_GoodTable p_0) = (true) := by simp only [i_GoodTable, hb16, hb21, hb23, hL90, hL1470, cL]
        rw [hM1471]
        exact ⟨rfl, hf145⟩
  ·refine sz rfl rfl (not_f hb21) (sz rfl rfl (not_f hb21) (sz rfl rfl (not_f hb21) (sz rfl rfl (not_f hb21) (sd rfl (yl_pick_t rfl rfl (not_f hb21) rfl (dn (CW.cond_t rfl rfl (CW.seq ?_))))))))
   refine CW.region (sd rfl (yA rfl rfl (dn (CW.ret (tr (rr rfl (.cons rfl .nil) ?_))))))
   have hM1472 : (i_GoodTable p_0) = (false) := by simp only [i_GoodTable, hb16, hb21, cL]
   rw [hM1472]
   exact ⟨rfl, (Ex.trans (Ex.trans (Ex.trans (Ex.refl w) hE12) hE15) hE20)⟩
 ·refine sz rfl rfl (not_f hb16) (sz rfl rfl (not_f hb16) (sz rfl rfl (not_f hb16) (sz rfl rfl (not_f hb16) (sz rfl rfl (not_f hb16) (sd rfl (yl_pick_t rfl rfl (not_f hb16) rfl (sd rfl (yM rfl rfl (sz rfl rfl rfl (sz rfl rfl rfl ?_))))))))))
  refine sz rfl rfl rfl (sz rfl rfl rfl (sd rfl (yl_pick_t rfl rfl rfl rfl (dn (CW.cond_t rfl rfl (CW.seq (CW.region (sd rfl (yA rfl rfl ?_)))))))))
  refine dn (CW.ret (tr (rr rfl (.cons rfl .nil) ?_)))
  have hM1476 : (i_GoodTable p_0) = (false) := by simp only [i_GoodTable, hb16, cL]
  rw [hM1476]
  exact ⟨rfl, (Ex.trans (Ex.trans (Ex.refl w) hE12) hE15)⟩
theorem c_g_slices_IndexFunc_Idx {A1 : Option Addr} {c1 : Nat} {g3 : Nat} {cp4 : List Value} {w : World} (p_s : List DIdx) (p_f : DIdx → Bool) (h1 : RdS w (Iv 0 w.heap.size) (RF e_Idx) 3 A1 p_s.length c1 p_s) (hen5 : Go.X.Enters Tryz.prog g3) (hfn6 : ∀ (w1 : World) (y0 : DIdx), Ex w w1 → y0 ∈ p_s → ok_Idx y0 → Cal Tryz.prog g3 (([.agg #[.string (bs (y0.Name)), .int .i64 (y0.Col), .int .i64 (y0.Stage)]] : List Value) ++ cp4).toArray w1 fun v w2 => v = .bool (p_f y0) ∧ Ex w1 w2) (o2 : (okL ok_Idx) p_s) : Cal Tryz.prog 91 #[.slice A1 p_s.length c1, .func (.func g3) #[] cp4.toArray] w fun v w' => v = .int .i64 ((g_slices_IndexFunc_Idx p_s p_f)) ∧ Ex w w' := by
 have hol7 := o2.1
 refine Cal.of func91 rfl ntmps91 rfl (CW.seq (CW.region (sd rfl (yA rfl rfl (dn (CW.seq (CW.seq (CW.region ?_))))))))
 refine sd rfl (yM rfl rfl (sd rfl (yL un24 rfl rfl (sd rfl (yM rfl rfl (dn (CW.block (CW.loop (fun m9 L10 w11 => ∃ (k8 : Nat), m9 = p_s.length - k8 ∧ k8 ≤ p_s.length ∧ w.heap.size ≤ w11.heap.size ∧ lkp L10 0 = some (.slice A1 p_s.length c1) ∧ lkp L10 1 = some (.func (.func g3) #[] cp4.toArray) ∧ lkp L10 7 = some (.int .i64 ((p_s.length : Int))) ∧ lkp L10 8 = some (.int .i64 ((k8 : Int))) ∧ RdS w11 (Iv 0 w.heap.size) (RF e_Idx) 3 A1 p_s.length c1 p_s ∧ Ex w w11 ∧ loopM (B_g_slices_IndexFunc_Idx_0 p_s p_f) (p_s.length - k8) k8 () = loopM (B_g_slices_IndexFunc_Idx_0 p_s p_f) (p_s.length - 0) 0 ()) (p_s.length - 0) ?_ ?_))))))))
 ·exact ⟨0, rfl, (by omega), Nat.le_refl _, rfl, rfl, rfl, rfl, h1, (Ex.refl w), rfl⟩
 ·rintro m12 L13 w14 ⟨k8, rfl, hk15, hsz17, hl18, hl19, hl20, hl21, hf22, hf23, hI16⟩
  refine CW.sub (Sub.cons hl18 (Sub.cons hl19 (Sub.cons hl20 (Sub.cons hl21 (Sub.nil _))))) ?_
  have hf23z := Ex.size hf23
  have hbg24 := RdS.big hf22
  rcases Nat.lt_or_ge k8 p_s.length with hlt25 | hlt25
  ·refine CW.seq (CW.region (sd rfl (yl_lss rfl rfl rfl (dn (CW.seq (CW.cond_t rfl (lt_t hlt25) (CW.skip (tn ?_))))))))
   refine CW.seq (CW.block (CW.seq (CW.region (sd rfl (yM rfl rfl (sd rfl (yA rfl rfl (dn (CW.seq ?_)))))))))
   refine CW.region (sd rfl (yM rfl rfl (sd rfl (yM rfl rfl (sd rfl (yM rfl rfl ?_))))))
   obtain ⟨eb26, eo26, _, eA26, _, ebl26, _, eR26, eC26⟩ := RdS.aD hf22 d_Idx (i := k8)
   obtain rfl := eR26
   have eC26 : Cells w14 eb26 (eo26 + k8 * 3) [.string (bs ((p_s.getD k8 d_Idx).Name)), .int .i64 ((p_s.getD k8 d_Idx).Col), .int .i64 ((p_s.getD k8 d_Idx).Stage)] := eC26
   refine sd rfl (yl_ixN un24 ty64 rfl rfl rfl eA26 (sd rfl (yl_loadN ty64 rfl rfl eC26 rfl (sd rfl (yl_callv hen5 rfl rfl (oc rfl oz) (Cal.mono (hfn6 w14 (p_s.getD k8 d_Idx) hf23 (getD_mem (by omega)) (okL.getD o2 ok_d_Idx _)) ?_))))))
   rintro v28 w27 ⟨rfl, hE29⟩
   have hE29z := Ex.size hE29
   refine dn (bcase (p_f (p_s.getD k8 d_Idx)) (fun hb30 => ?_) (fun hb30 => ?_))
   ·refine CW.cond_t rfl hb30 (CW.seq (CW.region (sd rfl (yM rfl rfl (sd rfl (yA rfl rfl (dn (CW.ret (br ?_)))))))))
    refine tr (tr ?_)
    have hB32 : B_g_slices_IndexFunc_Idx_0 p_s p_f k8 () = .ret (k8 : Int) := by simp only [B_g_slices_IndexFunc_Idx_0, hb30, cL]
    have hL31 : loopM (B_g_slices_IndexFunc_Idx_0 p_s p_f) (p_s.length - 0) 0 () = .ret (k8 : Int) := hI16.symm.trans (loopM.ret hlt25 hB32)
    refine br (tr (rr rfl (.cons rfl .nil) ?_))
    have hM33 : (g_slices_IndexFunc_Idx p_s p_f) = ((k8 : Int)) := by simp only [g_slices_IndexFunc_Idx, hb30, hL31, cL]
    rw [hM33]
    exact ⟨rfl, (Ex.trans hf23 hE29)⟩
   ·refine CW.cond_f rfl hb30 (CW.skip (bn (tn (CW.region (sd rfl (yl_inc rfl rfl rfl (by omega) (sd rfl (yM rfl rfl (dn ?_)))))))))
    have hB35 : B_g_slices_IndexFunc_Idx_0 p_s p_f k8 () = .cont () := by simp only [B_g_slices_IndexFunc_Idx_0, hb30, cL]
    exact ⟨p_s.length - (k8 + 1), by omega, k8 + 1, rfl, hlt25, (by omega), rfl, rfl, rfl, rfl, (RdS.ex gI hf22 hE29), (Ex.trans hf23 hE29), (loopM.cont hlt25 hB35).symm.trans hI16⟩
  ·refine CW.seq (CW.region (sd rfl (yl_lss rfl rfl rfl (dn (CW.seq (CW.cond_f rfl (lt_f hlt25) (CW.exit (tx ?_))))))))
   refine tx ?_
   have hL38 : loopM (B_g_slices_IndexFunc_Idx_0 p_s p_f) (p_s.length - 0) 0 () = .done () := hI16.symm.trans (loopM.stop hlt25)
   refine bx (tn (CW.seq (CW.region (sd rfl (yA rfl rfl (dn (CW.ret (rr rfl (.cons rfl .nil) ?_))))))))
   have hM39 : (g_slices_IndexFunc_Idx p_s p_f) = (-1) := by simp only [g_slices_IndexFunc_Idx, hL38, cL]
   rw [hM39]
   exact ⟨rfl, hf23⟩
theorem c_i_Table_findIdx_c1 {b2 : Nat} {w : World} (p_x : DIdx) (p_cap0 : Str) (h3 : Box w b2 9 [.string (bs (p_cap0))]) (o1 : ok_Idx p_x) (o4 : okS p_cap0) : Cal Tryz.prog 92 #[.agg #[.string (bs (p_x.Name)), .int .i64 (p_x.Col), .int .i64 (p_x.Stage)], .pointer (some ⟨b2, 0, none⟩)] w fun v w' => v = .bool ((i_Table_findIdx_c1 p_x p_cap0)) ∧ Ex w w' := by
 refine Cal.of func92 rfl ntmps92 rfl (CW.seq (CW.region (sd rfl (yl_box rfl rfl rfl ?_))))
 intro b7 w8 hs9 hz10 hB11 hE12
 refine sd rfl (yA rfl rfl (dn (CW.seq (CW.region (sd rfl (yl_fieldAddr fd64_0 rfl rfl (sd rfl (yl_load1 ty9 rfl rfl ((hB11.cell 0).trans rfl) (sd rfl (yl_load1 ty9 rfl rfl (((Box.ex h3 hE12).cell 0).trans rfl) (sd rfl (yl_seql (a := p_x.Name) (b := p_cap0) rfl rfl rfl ?_))))))))))))
 refine sd rfl (yA rfl rfl (dn (CW.ret (rr rfl (.cons rfl .nil) ?_))))
 have hM14 : (i_Table_findIdx_c1 p_x p_cap0) = (p_x.Name == p_cap0) := by simp only [i_Table_findIdx_c1, cL]
 rw [hM14]
 exact ⟨rfl, (Ex.trans (Ex.refl w) hE12)⟩
theorem c_i_Table_findIdx {A1 : Option Addr} {c1 : Nat} {A2 : Option Addr} {c2 : Nat} {w : World} (p_t : DTable) (pn : Str) (h1 : RdS w (Iv 0 w.heap.size) (RF e_Str) 1 A1 p_t.Cols.length c1 p_t.Cols) (h2 : RdS w (Iv 0 w.heap.size) (RF e_Idx) 3 A2 p_t.Idxs.length c2 p_t.Idxs) (o3 : ok_Table p_t) (o4 : okS pn) : Cal Tryz.prog 63 #[.agg #[.string (bs (p_t.Name)), .slice A1 p_t.Cols.length c1, .slice A2 p_t.Idxs.length c2], .string (bs (pn))] w fun v w' => v = .int .i64 ((i_Table_findIdx p_t pn)) ∧ Ex w w' := by
 refine Cal.of func63 rfl ntmps63 rfl (CW.seq (CW.region (sd rfl (yl_box rfl rfl rfl ?_))))
 intro b9 w10 hs11 hz12 hB13 hE14
 refine sd rfl (yl_box rfl rfl rfl ?_)
 intro b15 w16 hs17 hz18 hB19 hE20
 refine sd rfl (yA rfl rfl (dn (CW.seq (CW.region (sd rfl (yl_fieldAddr fd26_2 rfl rfl (sd rfl (yl_load1 ty24 rfl rfl (((Box.ex hB13 hE20).cell 2).trans rfl) (sd rfl (yl_makeFunc rfl (oc rfl oz) (sd rfl (yC en91 rfl (oc rfl (oc rfl oz)) (Cal.mono (c_g_slices_IndexFunc_Idx p_t.Idxs (fun y0 => i_Table_findIdx_c1 y0 pn) (RdS.up (RdS.ex gI (RdS.ex gI h2 hE14) hE20) gI) en92 (fun _ y0 => fun hE hm0 ov0 => c_i_Table_findIdx_c1 y0 pn (Box.ex hB19 hE) ov0 o4) o3.2.2) ?_)))))))))))))
 rintro v25 w24 ⟨rfl, hE26⟩
 refine sd rfl (yA rfl rfl (dn (CW.ret (rr rfl (.cons rfl .nil) ?_))))
 have hM27 : (i_Table_findIdx p_t pn) = ((g_slices_IndexFunc_Idx p_t.Idxs (fun y0 => i_Table_findIdx_c1 y0 pn))) := by simp only [i_Table_findIdx, cL]
 rw [hM27]
 exact ⟨rfl, (Ex.trans (Ex.trans (Ex.trans (Ex.refl w) hE14) hE20) hE26)⟩
theorem c_i_hasIdx {A1 : Option Addr} {c1 : Nat} {A2 : Option Addr} {c2 : Nat} {w : World} (p_t : DTable) (pn : Str) (h1 : RdS w (Iv 0 w.heap.size) (RF e_Str) 1 A1 p_t.Cols.length c1 p_t.Cols) (h2 : RdS w (Iv 0 w.heap.size) (RF e_Idx) 3 A2 p_t.Idxs.length c2 p_t.Idxs) (o3 : ok_Table p_t) (o4 : okS pn) : Cal Tryz.prog 37 #[.agg #[.string (bs (p_t.Name)), .slice A1 p_t.Cols.length c1, .slice A2 p_t.Idxs.length c2], .string (bs (pn))] w fun v w' => v = .bool ((i_hasIdx p_t pn)) ∧ Ex w w' := by
 refine Cal.of func37 rfl ntmps37 rfl (CW.seq (CW.region (sd rfl (yl_box rfl rfl rfl ?_))))
 intro b9 w10 hs11 hz12 hB13 hE14
 refine sd rfl (yA rfl rfl (dn (CW.seq (CW.region (sd rfl (yl_loadN ty26 rfl rfl (hB13.cells (n := 3) rfl) rfl ?_))))))
 have q15 := RdS.ex gS h1 hE14
 have q16 := RdS.ex gI h2 hE14
 refine sd rfl (yC en30 rfl (oc rfl oz) (Cal.mono (c_i_GoodTable p_t (RdS.up q15 gS) (RdS.up q16 gI) o3) ?_))
 rintro v18 w17 ⟨rfl, hE19⟩
 refine sd rfl (yM rfl rfl (bcase (i_GoodTable p_t) (fun hb20 => ?_) (fun hb20 => ?_)))
 ·have hb20p := f_i_GoodTable hb20
  refine sy rfl rfl hb20 (yl_loadN ty26 rfl rfl ((Box.ex hB13 hE19).cells (n := 3) rfl) rfl (sy rfl rfl hb20 (yM rfl rfl (sy rfl rfl hb20 (yC en63 rfl (oc rfl (oc rfl oz)) (Cal.mono (c_i_Table_findIdx p_t pn (RdS.up (RdS.ex gS q15 hE19) gS) (RdS.up (RdS.ex gI q16 hE19) gI) o3 o4) ?_))))))
  rintro v25 w24 ⟨rfl, hE26⟩
  have hrf27 := rf_i_findIdx p_t pn
  refine sy rfl rfl hb20 (yl_geq rfl rfl rfl (sd rfl (yl_pick_t rfl rfl hb20 rfl (sd rfl (yA rfl rfl (dn (CW.ret (rr rfl (.cons rfl .nil) ?_))))))))
  have hM28 : (i_hasIdx p_t pn) = (decide (0 ≤ (i_Table_findIdx p_t pn))) := by simp only [i_hasIdx, hb20, cL]
  rw [hM28]
  exact ⟨rfl, (Ex.trans (Ex.trans (Ex.trans (Ex.refl w) hE14) hE19) hE26)⟩
 ·refine sz rfl rfl hb20 (sz rfl rfl hb20 (sz rfl rfl hb20 (sz rfl rfl hb20 (sd rfl (yl_pick_f rfl rfl hb20 rfl (sd rfl (yA rfl rfl (dn (CW.ret ?_)))))))))
  refine rr rfl (.cons rfl .nil) ?_
  have hM32 : (i_hasIdx p_t pn) = (false) := by simp only [i_hasIdx, hb20, cL]
  rw [hM32]
  exact ⟨rfl, (Ex.trans (Ex.trans (Ex.refl w) hE14) hE19)⟩
theorem c_i_isIdxStore {A1 : Option Addr} {c1 : Nat} {A2 : Option Addr} {c2 : Nat} {A5 : Option Addr} {c5 : Nat} {w : World} (p_t : DTable) (pn : Str) (ps : List DWrite) (h1 : RdS w (Iv 0 w.heap.size) (RF e_Str) 1 A1 p_t.Cols.length c1 p_t.Cols) (h2 : RdS w (Iv 0 w.heap.size) (RF e_Idx) 3 A2 p_t.Idxs.length c2 p_t.Idxs) (h5 : RdS w (Iv 0 w.heap.size) (RF e_Write) 3 A5 ps.length c5 ps) (o3 : ok_Table p_t) (o4 : okS pn) (o6 : (okL ok_Write) ps) : Cal Tryz.prog 22 #[.agg #[.string (bs (p_t.Name)), .slice A1 p_t.Cols.length c1, .slice A2 p_t.Idxs.length c2], .string (bs (pn)), .slice A5 ps.length c5] w fun v w' => v = .bool ((i_isIdxStore p_t pn ps)) ∧ Ex w w' := by
 refine Cal.of func22 rfl ntmps22 rfl (CW.seq (CW.region (sd rfl (yl_box rfl rfl rfl ?_))))
 intro b12 w13 hs14 hz15 hB16 hE17
 refine sd rfl (yA rfl rfl (dn (CW.seq (CW.region (sd rfl (yl_loadN ty26 rfl rfl (hB16.cells (n := 3) rfl) rfl (sd rfl (yM rfl rfl (sd rfl (yC en37 rfl (oc rfl (oc rfl oz)) (Cal.mono (c_i_hasIdx p_t pn (RdS.up (RdS.ex gS h1 hE17) gS) (RdS.up (RdS.ex gI h2 hE17) gI) o3 o4) ?_)))))))))))
 rintro v21 w20 ⟨rfl, hE22⟩
 refine sd rfl (yM rfl rfl (bcase (i_hasIdx p_t pn) (fun hb23 => ?_) (fun hb23 => ?_)))
 ·obtain ⟨hb23p0, hb23p1, hb23p2⟩ := f_i_hasIdx hb23
  refine sy rfl rfl hb23 (yM rfl rfl (sy rfl rfl hb23 (yC en31 rfl (oc rfl oz) (Cal.mono (c_i_isRows ps (RdS.up (RdS.ex gW (RdS.ex gW h5 hE17) hE22) gW) o6) ?_))))
  rintro v27 w26 ⟨rfl, hE28⟩
  refine sd rfl (yl_pick_t rfl rfl hb23 rfl (sd rfl (yA rfl rfl (dn (CW.ret (rr rfl (.cons rfl .nil) ?_))))))
  have hM29 : (i_isIdxStore p_t pn ps) = ((i_isRows ps)) := by simp only [i_isIdxStore, hb23, cL]
  rw [hM29]
  exact ⟨rfl, (Ex.trans (Ex.trans (Ex.trans (Ex.refl w) hE17) hE22) hE28)⟩
 ·refine sz rfl rfl hb23 (sz rfl rfl hb23 (sd rfl (yl_pick_f rfl rfl hb23 rfl (sd rfl (yA rfl rfl (dn (CW.ret (rr rfl (.cons rfl .nil) ?_))))))))
  have hM33 : (i_isIdxStore p_t pn ps) = (false) := by simp only [i_isIdxStore, hb23, cL]
  rw [hM33]
  exact ⟨rfl, (Ex.trans (Ex.trans (Ex.refl w) hE17) hE22)⟩
theorem c_i_Table_idxHead {A1 : Option Addr} {c1 : Nat} {A2 : Option Addr} {c2 : Nat} {w : World} (p_t : DTable) (pn : Str) (h1 : RdS w (Iv 0 w.heap.size) (RF e_Str) 1 A1 p_t.Cols.length c1 p_t.Cols) (h2 : RdS w (Iv 0 w.heap.size) (RF e_Idx) 3 A2 p_t.Idxs.length c2 p_t.Idxs) (o3 : ok_Table p_t) (o4 : okS pn) : Cal Tryz.prog 64 #[.agg #[.string (bs (p_t.Name)), .slice A1 p_t.Cols.length c1, .slice A2 p_t.Idxs.length c2], .string (bs (pn))] w fun v w' => v = .string (bs ((i_Table_idxHead p_t pn))) ∧ Ex w w' := by
 have hol5 : p_t.Name.length ≤ 1073741824 := o3.1
 have hol6 := o3.2.1.1
 have hol7 := o3.2.2.1
 have hol8 : pn.length ≤ 1073741824 := o4
 refine Cal.of func64 rfl ntmps64 rfl (CW.seq (CW.region (sd rfl (yl_box rfl rfl rfl ?_))))
 intro b9 w10 hs11 hz12 hB13 hE14
 refine sd rfl (yA rfl rfl (dn (CW.seq (CW.region (sd rfl (yl_fieldAddr fd26_0 rfl rfl (sd rfl (yl_load1 ty9 rfl rfl ((hB13.cell 0).trans rfl) ?_))))))))
 have hol15 : p_t.Name.length ≤ 1073741824 := o3.1
 refine sd rfl (yl_sadd (a := p_t.Name) (b := ([46] : Str)) rfl rfl rfl (by first | omega | (simp only [lN, toS_length]; omega)) (sd rfl (yM rfl rfl ?_)))
 have hol16 : p_t.Name.length ≤ 1073741824 := o3.1
 have hol17 : pn.length ≤ 1073741824 := o4
 refine sd rfl (yl_sadd (a := (p_t.Name ++ ([46] : Str))) (b := pn) rfl rfl rfl (by first | omega | (simp only [lN, toS_length]; omega)) ?_)
 have hol18 : p_t.Name.length ≤ 1073741824 := o3.1
 have hol19 : pn.length ≤ 1073741824 := o4
 refine sd rfl (yl_sadd (a := ((p_t.Name ++ ([46] : Str)) ++ pn)) (b := ([47] : Str)) rfl rfl rfl (by first | omega | (simp only [lN, toS_length]; omega)) (sd rfl (yA rfl rfl (dn (CW.ret (rr rfl (.cons rfl .nil) ?_))))))
 have hM20 : (i_Table_idxHead p_t pn) = (((p_t.Name ++ ([46] : Str)) ++ pn) ++ ([47] : Str)) := by simp only [i_Table_idxHead, cL]
 rw [hM20]
 exact ⟨rfl, (Ex.trans (Ex.refl w) hE14)⟩
theorem c_g_internal_stringslite_HasPrefix {w : World} (p_s : Str) (p_prefix : Str) (o1 : okS p_s) (o2 : okS p_prefix) : Cal Tryz.prog 105 #[.string (bs (p_s)), .string (bs (p_prefix))] w fun v w' => v = .bool ((g_internal_stringslite_HasPrefix p_s p_prefix)) ∧ Ex w w' := by
 have hol3 : p_s.length ≤ 1073741824 := o1
 have hol4 : p_prefix.length ≤ 1073741824 := o2
 refine Cal.of func105 rfl ntmps105 rfl (CW.seq (CW.region (sd rfl (yA rfl rfl (dn (CW.seq (CW.region (sd rfl (yM rfl rfl ?_)))))))))
 refine sd rfl (yl_slen un9 (a := p_s) rfl rfl (sd rfl (yM rfl rfl (sd rfl (yl_slen un9 (a := p_prefix) rfl rfl (sd rfl (yl_geq rfl rfl rfl (sd rfl (yM rfl rfl (bcase (decide ((p_prefix.length : Int) ≤ (p_s.length : Int))) (fun hb5 => ?_) (fun hb5 => ?_)))))))))))
 ·have hb5p := dec_t hb5
  refine sy rfl rfl hb5 (yM rfl rfl (sy rfl rfl hb5 (yM rfl rfl (sy rfl rfl hb5 (yl_slen un9 (a := p_prefix) rfl rfl (sy rfl rfl hb5 (yl_sslice_hi un9 (a := p_s) (h := p_prefix.length) rfl rfl rfl (by omega) (sy rfl rfl hb5 (yM rfl rfl (sy rfl rfl hb5 (yl_seql (a := (p_s.take p_prefix.length)) (b := p_prefix) rfl rfl rfl (sd rfl (yl_pick_t rfl rfl hb5 rfl (sd rfl (yA rfl rfl (SeqR.done ?_))))))))))))))))
  refine tn (CW.ret (rr rfl (.cons rfl .nil) ?_))
  have hM6 : (g_internal_stringslite_HasPrefix p_s p_prefix) = ((p_s.take p_prefix.length) == p_prefix) := by simp only [g_internal_stringslite_HasPrefix, hb5, cL]
  rw [hM6]
  exact ⟨rfl, (Ex.refl w)⟩
 ·have hb5p := dec_f hb5
  refine sz rfl rfl hb5 (sz rfl rfl hb5 (sz rfl rfl hb5 (sz rfl rfl hb5 (sz rfl rfl hb5 (sz rfl rfl hb5 (sd rfl (yl_pick_f rfl rfl hb5 rfl (sd rfl (yA rfl rfl (SeqR.done ?_))))))))))
  refine tn (CW.ret (rr rfl (.cons rfl .nil) ?_))
  have hM7 : (g_internal_stringslite_HasPrefix p_s p_prefix) = (false) := by simp only [g_internal_stringslite_HasPrefix, hb5, cL]
  rw [hM7]
  exact ⟨rfl, (Ex.refl w)⟩
theorem c_g_internal_stringslite_CutPrefix {w : World} (p_s : Str) (p_prefix : Str) (o1 : okS p_s) (o2 : okS p_prefix) : Cal Tryz.prog 94 #[.string (bs (p_s)), .string (bs (p_prefix))] w fun v w' => v = .tuple #[.string (bs ((g_internal_stringslite_CutPrefix p_s p_prefix).1)), .bool ((g_internal_stringslite_CutPrefix p_s p_prefix).2)] ∧ okS ((g_internal_stringslite_CutPrefix p_s p_prefix).1) ∧ Ex w w' := by
 have hol3 : p_s.length ≤ 1073741824 := o1
 have hol4 : p_prefix.length ≤ 1073741824 := o2
 refine Cal.of func94 rfl ntmps94 rfl (CW.seq (CW.region (sd rfl (yA rfl rfl (sd rfl (yA rfl rfl (dn (CW.seq (CW.seq ?_)))))))))
 refine CW.region (sd rfl (yM rfl rfl (sd rfl (yM rfl rfl (sd rfl (yC en105 rfl (oc rfl (oc rfl oz)) (Cal.mono (c_g_internal_stringslite_HasPrefix p_s p_prefix o1 o2) ?_)))))))
 rintro v6 w5 ⟨rfl, hE7⟩
 have hE7z := Ex.size hE7
 refine sd rfl (yl_not rfl rfl (dn (bcase (g_internal_stringslite_HasPrefix p_s p_prefix) (fun hb8 => ?_) (fun hb8 => ?_))))
 ·have hb8p := f_HasPrefix hb8
  refine CW.cond_f rfl (not_t hb8) (CW.skip (tn (CW.seq (CW.region (sd rfl (yM rfl rfl (sd rfl (yM rfl rfl (sd rfl (yl_slen un9 (a := p_prefix) rfl rfl (sd rfl (yl_sslice_lo un9 (a := p_s) (l := p_prefix.length) rfl rfl rfl (by omega) ?_))))))))))))
  refine sd rfl (yA rfl rfl (sd rfl (yA rfl rfl (dn (CW.ret (rr rfl (.cons rfl (.cons rfl .nil)) ?_))))))
  have hM9 : (g_internal_stringslite_CutPrefix p_s p_prefix) = (((p_s.drop p_prefix.length), true)) := by simp only [g_internal_stringslite_CutPrefix, hb8, cL]
  rw [hM9]
  exact ⟨rfl, (okS.drop o1 _), (Ex.trans (Ex.refl w) hE7)⟩
 ·refine CW.cond_t rfl (not_f hb8) (CW.seq (CW.region (sd rfl (yM rfl rfl (sd rfl (yA rfl rfl (sd rfl (yA rfl rfl (dn (CW.ret ?_))))))))))
  refine tr (rr rfl (.cons rfl (.cons rfl .nil)) ?_)
  have hM11 : (g_internal_stringslite_CutPrefix p_s p_prefix) = ((p_s, false)) := by simp only [g_internal_stringslite_CutPrefix, hb8, cL]
  rw [hM11]
  exact ⟨rfl, o1, (Ex.trans (Ex.refl w) hE7)⟩
theorem c_g_strings_CutPrefix {w : World} (p_s : Str) (p_prefix : Str) (o1 : okS p_s) (o2 : okS p_prefix) : Cal Tryz.prog 71 #[.string (bs (p_s)), .string (bs (p_prefix))] w fun v w' => v = .tuple #[.string (bs ((g_strings_CutPrefix p_s p_prefix).1)), .bool ((g_strings_CutPrefix p_s p_prefix).2)] ∧ okS ((g_strings_CutPrefix p_s p_prefix).1) ∧ Ex w w' := by
 refine Cal.of func71 rfl ntmps71 rfl (CW.seq (CW.region (sd rfl (yA rfl rfl (sd rfl (yA rfl rfl (dn (CW.seq (CW.region ?_)))))))))
 refine sd rfl (yM rfl rfl (sd rfl (yM rfl rfl (sd rfl (yC en94 rfl (oc rfl (oc rfl oz)) (Cal.mono (c_g_internal_stringslite_CutPrefix p_s p_prefix o1 o2) ?_))))))
 rintro v7 w5 ⟨rfl, ho6, hE8⟩
 refine sd rfl (yl_extract rfl rfl rfl (sd rfl (yl_extract rfl rfl rfl (sd rfl (yA rfl rfl (sd rfl (yA rfl rfl (dn (CW.ret (rr rfl (.cons rfl (.cons rfl .nil)) ?_))))))))))
 have hM9 : (g_strings_CutPrefix p_s p_prefix) = (((g_internal_stringslite_CutPrefix p_s p_prefix).1, (g_internal_stringslite_CutPrefix p_s p_prefix).2)) := by simp only [g_strings_CutPrefix, cL]
 rw [hM9]
 exact ⟨rfl, ho6, (Ex.trans (Ex.refl w) hE8)⟩
theorem c_g_internal_bytealg_Cutover {w : World} (p_n : Int) : Cal Tryz.prog 117 #[.int .i64 (p_n)] w fun v w' => v = .int .i64 ((g_internal_bytealg_Cutover p_n)) ∧ Ex w w' := by
 refine Cal.of func117 rfl ntmps117 rfl (CW.seq (CW.region (sd rfl (yA rfl rfl (dn (CW.seq (CW.region (sd rfl (yM rfl rfl ?_)))))))))
 refine sd rfl (yl_add rfl rfl rfl (sd rfl (yl_quo rfl rfl rfl (by decide) (sd rfl (yA rfl rfl (dn (CW.ret (rr rfl (.cons rfl .nil) ?_))))))))
 have hM1 : (g_internal_bytealg_Cutover p_n) = (IntKind.wrap .i64 (Int.tdiv (IntKind.wrap .i64 (p_n + 16)) 8)) := by simp only [g_internal_bytealg_Cutover, cL]
 rw [hM1]
 exact ⟨rfl, (Ex.refl w)⟩
theorem c_g_internal_stringslite_Index {w : World} (p_0 : Str) (p_1 : Str) (o1 : okS p_0) (o2 : okS p_1) (pre0 : p_1.length = 1) : Cal Tryz.prog 106 #[.string (bs (p_0)), .string (bs (p_1))] w fun v w' => v = .int .i64 ((g_internal_stringslite_Index p_0 p_1)) ∧ Ex w w' := by
 have hol3 : p_0.length ≤ 1073741824 := o1
 have hol4 : p_1.length ≤ 1073741824 := o2
 refine Cal.of func106 rfl ntmps106 rfl (CW.seq (CW.region (sd rfl (yA rfl rfl (dn (CW.seq (CW.region (sd rfl (yM rfl rfl ?_)))))))))
 refine sd rfl (yl_slen un9 (a := p_1) rfl rfl (sd rfl (yA rfl rfl (dn (CW.seq (CW.block (CW.seq (CW.region (sd rfl (yM rfl rfl ?_))))))))))
 refine sd rfl (yl_eql rfl rfl rfl (sd rfl (yM rfl rfl (sy rfl rfl (decide_eq_false (by omega)) (yM rfl rfl (sy rfl rfl (decide_eq_false (by omega)) (yM rfl rfl (sy rfl rfl (decide_eq_false (by omega)) (yl_seql (a := p_1) (b := p_0) rfl rfl rfl (sd rfl (yl_pick_f rfl rfl (decide_eq_false (by omega)) rfl (sd rfl (yA rfl rfl (dn ?_))))))))))))))
 refine bcase (p_1 == p_0) (fun hb5 => ?_) (fun hb5 => ?_)
 ·refine CW.cond_t rfl hb5 (CW.seq (CW.region (sd rfl (yA rfl rfl (dn (CW.ret (br (tr ?_))))))))
  refine rr rfl (.cons rfl .nil) ?_
  have hM6 : (g_internal_stringslite_Index p_0 p_1) = (0) := by simp only [g_internal_stringslite_Index, hb5, cL]
  rw [hM6]
  exact ⟨rfl, (Ex.refl w)⟩
 ·refine CW.cond_f rfl hb5 (CW.seq (CW.region (sd rfl (yM rfl rfl (sd rfl (yl_eql rfl rfl rfl (sd rfl (yA rfl rfl (dn (CW.cond_t rfl (decide_eq_true (by omega)) ?_))))))))))
  refine CW.seq (CW.region (sd rfl (yM rfl rfl (sd rfl (yM rfl rfl (sd rfl (yl_sindexN un9 (a := p_1) rfl rfl rfl (by first | omega | assumption | (simp only [wI] at *; omega)) (sd rfl (yC en115 rfl (oc rfl (oc rfl oz)) (Cal.mono (c_g_internal_stringslite_IndexByte p_0 ((p_1.getD 0 0).toNat : Int) o1) ?_))))))))))
  rintro v8 w7 ⟨rfl, hE9⟩
  have hE9z := Ex.size hE9
  refine sd rfl (yA rfl rfl (dn (CW.ret (br (tr (rr rfl (.cons rfl .nil) ?_))))))
  have hM10 : (g_internal_stringslite_Index p_0 p_1) = ((g_internal_stringslite_IndexByte p_0 ((p_1.getD 0 0).toNat : Int))) := by simp only [g_internal_stringslite_Index, hb5, cL]
  rw [hM10]
  exact ⟨rfl, (Ex.trans (Ex.refl w) hE9)⟩
theorem c_g_internal_stringslite_Cut {w : World} (p_s : Str) (p_sep : Str) (o1 : okS p_s) (o2 : okS p_sep) (pre0 : p_sep.length = 1) : Cal Tryz.prog 95 #[.string (bs (p_s)), .string (bs (p_sep))] w fun v w' => v = .tuple #[.string (bs ((g_internal_stringslite_Cut p_s p_sep).1)), .string (bs ((g_internal_stringslite_Cut p_s p_sep).2.1)), .bool ((g_internal_stringslite_Cut p_s p_sep).2.2)] ∧ okS ((g_internal_stringslite_Cut p_s p_sep).1) ∧ okS ((g_internal_stringslite_Cut p_s p_sep).2.1) ∧ Ex w w' := by
 have hol3 : p_s.length ≤ 1073741824 := o1
 have hol4 : p_sep.length ≤ 1073741824 := o2
 refine Cal.of func95 rfl ntmps95 rfl (CW.seq (CW.region (sd rfl (yA rfl rfl (sd rfl (yA rfl rfl (sd rfl (yA rfl rfl (dn (CW.seq ?_))))))))))
 refine CW.seq (CW.region (sd rfl (yM rfl rfl (sd rfl (yM rfl rfl (sd rfl (yC en106 rfl (oc rfl (oc rfl oz)) (Cal.mono (c_g_internal_stringslite_Index p_s p_sep o1 o2 (by first | omega | assumption | (simp only [wI] at *; omega))) ?_))))))))
 rintro v6 w5 ⟨rfl, hE7⟩
 have hE7z := Ex.size hE7
 have hrf8 := rf_Index (s := p_s) (sub := p_sep) (by first | omega | assumption | (simp only [wI] at *; omega))
 refine sd rfl (yA rfl rfl (dn (CW.seq (CW.region (sd rfl (yM rfl rfl (sd rfl (yl_geq rfl rfl rfl (dn ?_)))))))))
 refine bcase (decide (0 ≤ (g_internal_stringslite_Index p_s p_sep))) (fun hb9 => ?_) (fun hb9 => ?_)
 ·have hb9p := dec_t hb9
  have hb9q := f_Cut o1 pre0 hb9
  refine CW.cond_t rfl hb9 (CW.seq (CW.drawsI 12 (vgetI ([.string (bs (p_s)), .int .i64 ((g_internal_stringslite_Index p_s p_sep)), .string (bs ((p_s.take (((g_internal_stringslite_Index p_s p_sep)).toNat)))), .string (bs (p_s)), .int .i64 ((g_internal_stringslite_Index p_s p_sep)), .string (bs (p_sep)), .int .i64 ((p_sep.length : Int)), .int .i64 (IntKind.wrap .i64 ((g_internal_stringslite_Index p_s p_sep) + (p_sep.length : Int))), .string (bs ((p_s.drop ((IntKind.wrap .i64 ((g_internal_stringslite_Index p_s p_sep) + (p_sep.length : Int))).toNat)))), .string (bs ((p_s.take (((g_internal_stringslite_Index p_s p_sep)).toNat)))), .string (bs ((p_s.drop ((IntKind.wrap .i64 ((g_internal_stringslite_Index p_s p_sep) + (p_sep.length : Int))).toNat)))), .bool (true)].map DetI)) Tryz.follows rfl rfl rfl rfl rfl rfl (vgetI_stable (stD _)) ⟨?_, ?_, ?_, ?_, ?_, ?_, ?_, ?_, ?_, ?_, ?_, ?_, trivial⟩ ?_))
  ·exact oI rfl fun h => yM rfl (h.old 0 _ rfl rfl) kI
  ·exact oI rfl fun h => yM rfl (h.old 7 _ rfl rfl) kI
  ·intro L20 w21 hi22
   have hE23 := hi22.ex
   have hE23z := Ex.size hE23
   exact os rfl ((yl_sslice_hi un9 (a := p_s) (h := ((g_internal_stringslite_Index p_s p_sep)).toNat) rfl (hi22.dt 0 13 rfl rfl rfl) (toNat_op (hi22.dt 1 14 rfl rfl rfl) (by omega)) (by omega) kI))
  ·exact oI rfl fun h => yM rfl (h.old 0 _ rfl rfl) kI
  ·exact oI rfl fun h => yM rfl (h.old 7 _ rfl rfl) kI
  ·exact oI rfl fun h => yM rfl (h.old 1 _ rfl rfl) kI
  ·exact oI rfl fun h => yl_slen un9 (a := p_sep) rfl (h.dt 5 18 rfl rfl rfl) kI
  ·exact oI rfl fun h => yl_add rfl (h.dt 4 17 rfl rfl rfl) (h.dt 6 19 rfl rfl rfl) kI
  ·intro L52 w53 hi54
   have hE55 := hi54.ex
   have hE55z := Ex.size hE55
   exact os rfl ((yl_sslice_lo un9 (a := p_s) (l := (IntKind.wrap .i64 ((g_internal_stringslite_Index p_s p_sep) + (p_sep.length : Int))).toNat) rfl (hi54.dt 3 16 rfl rfl rfl) (toNat_op (hi54.dt 7 20 rfl rfl rfl) (by omega)) (by omega) kI))
  ·exact oI rfl fun h => yA rfl (h.dt 2 15 rfl rfl rfl) kI
  ·exact oI rfl fun h => yA rfl (h.dt 8 21 rfl rfl rfl) kI
  ·exact oI rfl fun _ => yA rfl rfl kI
  ·intro fl75 fh76 L72 w73 hp74
   have hE77 := hp74.ex
   have hE77z := Ex.size hE77
   refine dn (CW.sub (Sub.cons (d := 4) (hp74.nt 9 4 rfl rfl rfl) (Sub.cons (d := 5) (hp74.nt 10 5 rfl rfl rfl) (Sub.cons (d := 6) (hp74.nt 11 6 rfl rfl rfl) (Sub.nil _)))) (CW.ret (tr (rr rfl (.cons rfl (.cons rfl (.cons rfl .nil))) ?_))))
   have hM81 : (g_internal_stringslite_Cut p_s p_sep) = (((p_s.take (((g_internal_stringslite_Index p_s p_sep)).toNat)), (p_s.drop ((IntKind.wrap .i64 ((g_internal_stringslite_Index p_s p_sep) + (p_sep.length : Int))).toNat)), true)) := by simp only [g_internal_stringslite_Cut, hb9, cL]
   rw [hM81]
   exact ⟨rfl, (okS.take o1 _), (okS.drop o1 _), (Ex.trans (Ex.trans (Ex.refl w) hE7) hE77)⟩
 ·have hb9p := dec_f hb9
  refine CW.cond_f rfl hb9 (CW.skip (tn (CW.seq (CW.region (sd rfl (yM rfl rfl (sd rfl (yA rfl rfl (sd rfl (yA rfl rfl (sd rfl (yA rfl rfl ?_))))))))))))
  refine dn (CW.ret (rr rfl (.cons rfl (.cons rfl (.cons rfl .nil))) ?_))
  have hM84 : (g_internal_stringslite_Cut p_s p_sep) = ((p_s, ([] : Str), false)) := by simp only [g_internal_stringslite_Cut, hb9, cL]
  rw [hM84]
  exact ⟨rfl, o1, (okS.lit rfl), (Ex.trans (Ex.refl w) hE7)⟩
theorem c_g_strings_Cut {w : World} (p_s : Str) (p_sep : Str) (o1 : okS p_s) (o2 : okS p_sep) (pre0 : p_sep.length = 1) : Cal Tryz.prog 72 #[.string (bs (p_s)), .string (bs (p_sep))] w fun v w' => v = .tuple #[.string (bs ((g_strings_Cut p_s p_sep).1)), .string (bs ((g_strings_Cut p_s p_sep).2.1)), .bool ((g_strings_Cut p_s p_sep).2.2)] ∧ okS ((g_strings_Cut p_s p_sep).1) ∧ okS ((g_strings_Cut p_s p_sep).2.1) ∧ Ex w w' := by
 have hol3 : p_s.length ≤ 1073741824 := o1
 have hol4 : p_sep.length ≤ 1073741824 := o2
 refine Cal.of func72 rfl ntmps72 rfl (CW.seq (CW.region (sd rfl (yA rfl rfl (sd rfl (yA rfl rfl (sd rfl (yA rfl rfl (dn (CW.seq ?_))))))))))
 refine CW.region (sd rfl (yM rfl rfl (sd rfl (yM rfl rfl (sd rfl (yC en95 rfl (oc rfl (oc rfl oz)) (Cal.mono (c_g_internal_stringslite_Cut p_s p_sep o1 o2 (by first | omega | assumption | (simp only [wI] at *; omega))) ?_)))))))
 rintro v8 w5 ⟨rfl, ho6, ho7, hE9⟩
 have hE9z := Ex.size hE9
 refine sd rfl (yl_extract rfl rfl rfl (sd rfl (yl_extract rfl rfl rfl (sd rfl (yl_extract rfl rfl rfl (sd rfl (yA rfl rfl (sd rfl (yA rfl rfl (sd rfl (yA rfl rfl (dn (CW.ret ?_)))))))))))))
 refine rr rfl (.cons rfl (.cons rfl (.cons rfl .nil))) ?_
 have hM10 : (g_strings_Cut p_s p_sep) = (((g_internal_stringslite_Cut p_s p_sep).1, (g_internal_stringslite_Cut p_s p_sep).2.1, (g_internal_stringslite_Cut p_s p_sep).2.2)) := by simp only [g_strings_Cut, cL]
 rw [hM10]
 exact ⟨rfl, ho6, ho7, (Ex.trans (Ex.refl w) hE9)⟩
theorem c_i_isField {w : World} (p_s : Str) (o1 : okS p_s) : Cal Tryz.prog 73 #[.string (bs (p_s))] w fun v w' => v = .bool ((i_isField p_s)) ∧ Ex w w' := by
 refine Cal.of func73 rfl ntmps73 rfl (CW.seq (CW.region (sd rfl (yA rfl rfl (dn (CW.seq (CW.region (sd rfl (yM rfl rfl ?_)))))))))
 refine sd rfl (yl_slen un9 (a := p_s) rfl rfl (sd rfl (yC en50 rfl (oc rfl (oc rfl (oc rfl oz))) (Cal.mono (c_i_within (p_s.length : Int) 1 3) ?_))))
 rintro v4 w3 ⟨rfl, hE5⟩
 refine sd rfl (yM rfl rfl (bcase (i_within (p_s.length : Int) 1 3) (fun hb6 => ?_) (fun hb6 => ?_)))
 ·have hb6p := f_within hb6
  refine sy rfl rfl hb6 (yM rfl rfl (sy rfl rfl hb6 (yC en96 rfl (oc rfl (oc rfl oz)) (Cal.mono (c_i_hasBytes p_s ([] : Str) o1 (okS.lit rfl)) ?_))))
  rintro v8 w7 ⟨rfl, hE9⟩
  refine sd rfl (yl_pick_t rfl rfl hb6 rfl (sd rfl (yA rfl rfl (dn (CW.ret (rr rfl (.cons rfl .nil) ?_))))))
  have hM10 : (i_isField p_s) = ((i_hasBytes p_s ([] : Str))) := by simp only [i_isField, hb6, cL]
  rw [hM10]
  exact ⟨rfl, (Ex.trans (Ex.trans (Ex.refl w) hE5) hE9)⟩
 ·refine sz rfl rfl hb6 (sz rfl rfl hb6 (sd rfl (yl_pick_f rfl rfl hb6 rfl (sd rfl (yA rfl rfl (dn (CW.ret (rr rfl (.cons rfl .nil) ?_))))))))
  have hM13 : (i_isField p_s) = (false) := by simp only [i_isField, hb6, cL]
  rw [hM13]
  exact ⟨rfl, (Ex.trans (Ex.refl w) hE5)⟩
theorem c_i_Table_readIdxKey {A1 : Option Addr} {c1 : Nat} {A2 : Option Addr} {c2 : Nat} {w : World} (p_t : DTable) (pn : Str) (p_key : Str) (h1 : RdS w (Iv 0 w.heap.size) (RF e_Str) 1 A1 p_t.Cols.length c1 p_t.Cols) (h2 : RdS w (Iv 0 w.heap.size) (RF e_Idx) 3 A2 p_t.Idxs.length c2 p_t.Idxs) (o3 : ok_Table p_t) (o4 : okS pn) (o5 : okS p_key) (pre0 : (p_t.Name.length ≤ 1 ∧ pn.length ≤ 1)) : Cal Tryz.prog 42 #[.agg #[.string (bs (p_t.Name)), .slice A1 p_t.Cols.length c1, .slice A2 p_t.Idxs.length c2], .string (bs (pn)), .string (bs (p_key))] w fun v w' => v = .tuple #[.string (bs ((i_Table_readIdxKey p_t pn p_key).1)), .string (bs ((i_Table_readIdxKey p_t pn p_key).2.1)), .bool ((i_Table_readIdxKey p_t pn p_key).2.2)] ∧ okS ((i_Table_readIdxKey p_t pn p_key).1) ∧ okS ((i_Table_readIdxKey p_t pn p_key).2.1) ∧ Ex w w' := by
 refine Cal.of func42 rfl ntmps42 rfl (CW.seq (CW.region (sd rfl (yl_box rfl rfl rfl ?_))))
 intro b11 w12 hs13 hz14 hB15 hE16
 refine sd rfl (yA rfl rfl (sd rfl (yA rfl rfl (sd rfl (yA rfl rfl (dn (CW.seq (CW.region (sd rfl (yM rfl rfl (sd rfl (yl_loadN ty26 rfl rfl (hB15.cells (n := 3) rfl) rfl ?_))))))))))))
 refine sd rfl (yM rfl rfl (sd rfl (yC en64 rfl (oc rfl (oc rfl oz)) (Cal.mono (c_i_Table_idxHead p_t pn (RdS.up (RdS.ex gS h1 hE16) gS) (RdS.up (RdS.ex gI h2 hE16) gI) o3 o4) ?_))))
 rintro v20 w19 ⟨rfl, hE21⟩
 have hrf22 := rf_idxHead p_t pn
 refine sd rfl (yC en71 rfl (oc rfl (oc rfl oz)) (Cal.mono (c_g_strings_CutPrefix p_key (i_Table_idxHead p_t pn) o5 (okS_idxHead pre0)) ?_))
 rintro v25 w23 ⟨rfl, ho24, hE26⟩
 refine sd rfl (yM rfl rfl (sd rfl (yl_extract rfl rfl rfl (sd rfl (yl_extract rfl rfl rfl (sd rfl (yA rfl rfl (sd rfl (yA rfl rfl (dn (CW.seq (CW.region ?_))))))))))))
 refine sd rfl (yM rfl rfl (sd rfl (yC en72 rfl (oc rfl (oc rfl oz)) (Cal.mono (c_g_strings_Cut ((g_strings_CutPrefix p_key (i_Table_idxHead p_t pn)).1) ([47] : Str) ho24 (okS.lit rfl) rfl) ?_))))
 rintro v30 w27 ⟨rfl, ho28, ho29, hE31⟩
 refine sd rfl (yM rfl rfl (sd rfl (yl_extract rfl rfl rfl (sd rfl (yl_extract rfl rfl rfl (sd rfl (yl_extract rfl rfl rfl (sd rfl (yA rfl rfl (sd rfl (yA rfl rfl (sd rfl (yA rfl rfl (dn ?_))))))))))))))
 refine CW.seq (CW.seq (CW.region (sd rfl (yM rfl rfl (sd rfl (yl_not rfl rfl (sd rfl (yM rfl rfl (bcase ((g_strings_CutPrefix p_key (i_Table_idxHead p_t pn)).2) (fun hb32 => ?_) (fun hb32 => ?_))))))))))
 ·refine sy rfl rfl (not_t hb32) (yM rfl rfl (sy rfl rfl (not_t hb32) (yl_not rfl rfl (sd rfl (yl_pick_f rfl rfl (not_t hb32) rfl (sd rfl (yM rfl rfl (bcase ((g_strings_Cut ((g_strings_CutPrefix p_key (i_Table_idxHead p_t pn)).1) ([47] : Str)).2.2) (fun hb33 => ?_) (fun hb33 => ?_)))))))))
  ·refine sy rfl rfl (not_t hb33) (yM rfl rfl (sy rfl rfl (not_t hb33) (yC en73 rfl (oc rfl oz) (Cal.mono (c_i_isField ((g_strings_Cut ((g_strings_CutPrefix p_key (i_Table_idxHead p_t pn)).1) ([47] : Str)).1) ho28) ?_))))
   rintro v35 w34 ⟨rfl, hE36⟩
   refine sy rfl rfl (not_t hb33) (yl_not rfl rfl (sd rfl (yl_pick_f rfl rfl (not_t hb33) rfl (sd rfl (yM rfl rfl (bcase (i_isField ((g_strings_Cut ((g_strings_CutPrefix p_key (i_Table_idxHead p_t pn)).1) ([47] : Str)).1)) (fun hb37 => ?_) (fun hb37 => ?_)))))))
   ·refine sy rfl rfl (not_t hb37) (yM rfl rfl (sy rfl rfl (not_t hb37) (yC en73 rfl (oc rfl oz) (Cal.mono (c_i_isField ((g_strings_Cut ((g_strings_CutPrefix p_key (i_Table_idxHead p_t pn)).1) ([47] : Str)).2.1) ho29) ?_))))
    rintro v39 w38 ⟨rfl, hE40⟩
    refine sy rfl rfl (not_t hb37) (yl_not rfl rfl (sd rfl (yl_pick_f rfl rfl (not_t hb37) rfl (dn (bcase (i_isField ((g_strings_Cut ((g_strings_CutPrefix p_key (i_Table_idxHead p_t pn)).1) ([47] : Str)).2.1)) (fun hb41 => ?_) (fun hb41 => ?_))))))
    ·refine CW.cond_f rfl (not_t hb41) (CW.skip (tn (CW.seq (CW.region (sd rfl (yM rfl rfl (sd rfl (yM rfl rfl (sd rfl (yA rfl rfl (sd rfl (yA rfl rfl ?_))))))))))))
     refine sd rfl (yA rfl rfl (dn (CW.ret (rr rfl (.cons rfl (.cons rfl (.cons rfl .nil))) ?_))))
     have hM42 : (i_Table_readIdxKey p_t pn p_key) = (((g_strings_Cut ((g_strings_CutPrefix p_key (i_Table_idxHead p_t pn)).1) ([47] : Str)).1, (g_strings_Cut ((g_strings_CutPrefix p_key (i_Table_idxHead p_t pn)).1) ([47] : Str)).2.1, true)) := by simp only [i_Table_readIdxKey, hb32, hb33, hb37, hb41, cL]
     rw [hM42]
     exact ⟨rfl, ho28, ho29, (Ex.trans (Ex.trans (Ex.trans (Ex.trans (Ex.trans (Ex.trans (Ex.refl w) hE16) hE21) hE26) hE31) hE36) hE40)⟩
    ·refine CW.cond_t rfl (not_f hb41) (CW.seq (CW.region (sd rfl (yA rfl rfl (sd rfl (yA rfl rfl (sd rfl (yA rfl rfl (dn (CW.ret ?_))))))))))
     refine tr (rr rfl (.cons rfl (.cons rfl (.cons rfl .nil))) ?_)
     have hM49 : (i_Table_readIdxKey p_t pn p_key) = ((([] : Str), ([] : Str), false)) := by simp only [i_Table_readIdxKey, hb32, hb33, hb37, hb41, cL]
     rw [hM49]
     exact ⟨rfl, (okS.lit rfl), (okS.lit rfl), (Ex.trans (Ex.trans (Ex.trans (Ex.trans (Ex.trans (Ex.trans (Ex.refl w) hE16) hE21) hE26) hE31) hE36) hE40)⟩
   ·refine sz rfl rfl (not_f hb37) (sz rfl rfl (not_f hb37) (sz rfl rfl (not_f hb37) (sd rfl (yl_pick_t rfl rfl (not_f hb37) rfl (dn (CW.cond_t rfl rfl (CW.seq (CW.region ?_))))))))
    refine sd rfl (yA rfl rfl (sd rfl (yA rfl rfl (sd rfl (yA rfl rfl (dn (CW.ret (tr (rr rfl (.cons rfl (.cons rfl (.cons rfl .nil))) ?_)))))))))
    have hM56 : (i_Table_readIdxKey p_t pn p_key) = ((([] : Str), ([] : Str), false)) := by simp only [i_Table_readIdxKey, hb32, hb33, hb37, cL]
    rw [hM56]
    exact ⟨rfl, (okS.lit rfl), (okS.lit rfl), (Ex.trans (Ex.trans (Ex.trans (Ex.trans (Ex.trans (Ex.refl w) hE16) hE21) hE26) hE31) hE36)⟩
  ·refine sz rfl rfl (not_f hb33) (sz rfl rfl (not_f hb33) (sz rfl rfl (not_f hb33) (sd rfl (yl_pick_t rfl rfl (not_f hb33) rfl (sd rfl (yM rfl rfl (sz rfl rfl rfl (sz rfl rfl rfl (sz rfl rfl rfl (sd rfl (yl_pick_t rfl rfl rfl rfl ?_)))))))))))
   refine dn (CW.cond_t rfl rfl (CW.seq (CW.region (sd rfl (yA rfl rfl (sd rfl (yA rfl rfl (sd rfl (yA rfl rfl (SeqR.done ?_))))))))))
   refine tn (CW.ret (tr (rr rfl (.cons rfl (.cons rfl (.cons rfl .nil))) ?_)))
   have hM62 : (i_Table_readIdxKey p_t pn p_key) = ((([] : Str), ([] : Str), false)) := by simp only [i_Table_readIdxKey, hb32, hb33, cL]
   rw [hM62]
   exact ⟨rfl, (okS.lit rfl), (okS.lit rfl), (Ex.trans (Ex.trans (Ex.trans (Ex.trans (Ex.refl w) hE16) hE21) hE26) hE31)⟩
 ·refine sz rfl rfl (not_f hb32) (sz rfl rfl (not_f hb32) (sd rfl (yl_pick_t rfl rfl (not_f hb32) rfl (sd rfl (yM rfl rfl (sz rfl rfl rfl (sz rfl rfl rfl (sz rfl rfl rfl (sd rfl (yl_pick_t rfl rfl rfl rfl (sd rfl (yM rfl rfl ?_))))))))))))
  refine sz rfl rfl rfl (sz rfl rfl rfl (sz rfl rfl rfl (sd rfl (yl_pick_t rfl rfl rfl rfl (dn (CW.cond_t rfl rfl (CW.seq (CW.region ?_))))))))
  refine sd rfl (yA rfl rfl (sd rfl (yA rfl rfl (sd rfl (yA rfl rfl (dn (CW.ret (tr (rr rfl (.cons rfl (.cons rfl (.cons rfl .nil))) ?_)))))))))
  have hM67 : (i_Table_readIdxKey p_t pn p_key) = ((([] : Str), ([] : Str), false)) := by simp only [i_Table_readIdxKey, hb32, cL]
  rw [hM67]
  exact ⟨rfl, (okS.lit rfl), (okS.lit rfl), (Ex.trans (Ex.trans (Ex.trans (Ex.trans (Ex.refl w) hE16) hE21) hE26) hE31)⟩
theorem c_i_Table_entriesIn {A1 : Option Addr} {c1 : Nat} {A2 : Option Addr} {c2 : Nat} {A5 : Option Addr} {c5 : Nat} {w : World} (p_t : DTable) (pn : Str) (ps : List DWrite) (h1 : RdS w (Iv 0 w.heap.size) (RF e_Str) 1 A1 p_t.Cols.length c1 p_t.Cols) (h2 : RdS w (Iv 0 w.heap.size) (RF e_Idx) 3 A2 p_t.Idxs.length c2 p_t.Idxs) (h5 : RdS w (Iv 0 w.heap.size) (RF e_Write) 3 A5 ps.length c5 ps) (o3 : ok_Table p_t) (o4 : okS pn) (o6 : (okL ok_Write) ps) (pre0 : (p_t.Name.length ≤ 1 ∧ pn.length ≤ 1)) : Cal Tryz.prog 23 #[.agg #[.string (bs (p_t.Name)), .slice A1 p_t.Cols.length c1, .slice A2 p_t.Idxs.length c2], .string (bs (pn)), .slice A5 ps.length c5] w fun v w' => ∃ A_1 c_1 lo_1 hi_1, v = .slice A_1 ((i_Table_entriesIn p_t pn ps).length) c_1 ∧ OwnL w' lo_1 hi_1 9 1 (RF e_Str) A_1 ((i_Table_entriesIn p_t pn ps).length) c_1 (i_Table_entriesIn p_t pn ps) ∧ (okL okS) (i_Table_entriesIn p_t pn ps) ∧ (w.heap.size ≤ lo_1 ∧ lo_1 ≤ hi_1 ∧ hi_1 ≤ w'.heap.size) ∧ Ex w w' := by
 have hol7 : p_t.Name.length ≤ 1073741824 := o3.1
 have hol8 := o3.2.1.1
 have hol9 := o3.2.2.1
 have hol10 : pn.length ≤ 1073741824 := o4
 have hol11 := o6.1
 refine Cal.of func23 rfl ntmps23 rfl (CW.seq (CW.region (sd rfl (yl_box rfl rfl rfl ?_))))
 intro b12 w13 hs14 hz15 hB16 hE17
 refine sd rfl (yA rfl rfl (dn (CW.seq (CW.region (sd rfl (yl_buildSlice (cs := []) un23 ty9 (by decide) rfl opvs_nil (by kernel_rfl) ?_))))))
 intro b18 w19 hs20 hz21 hB22 hE23
 have hO24 : OwnL w19 b18 (b18 + 1) 9 1 (RF e_Str) (some ⟨b18, 0, none⟩) 0 0 ([] : List Str) := OwnL.of_box (S := fun _ => False) hB22 (Nat.le_refl _) (Nat.lt_succ_self _) EncL.nil (Nat.le_of_ble_eq_true rfl) (fun h => h) (fun _ h => False.elim h)
 refine sd rfl (yA rfl rfl (dn (CW.seq (CW.seq (CW.region (sd rfl (yM rfl rfl (sd rfl (yL un27 rfl rfl (sd rfl (yM rfl rfl ?_)))))))))))
 refine dn (CW.block (CW.loop (fun m91 L92 w93 => ∃ (k25 : Nat) (x87 : List Str) (A88 : Option Addr) (c89 : Nat) (u90 : Nat), m91 = ps.length - k25 ∧ k25 ≤ ps.length ∧ w19.heap.size ≤ w93.heap.size ∧ lkp L92 1 = some (.string (bs (pn))) ∧ lkp L92 3 = some (.pointer (some ⟨b12, 0, none⟩)) ∧ lkp L92 7 = some (.slice A88 x87.length c89) ∧ lkp L92 14 = some (.slice A5 ps.length c5) ∧ lkp L92 15 = some (.int .i64 ((ps.length : Int))) ∧ lkp L92 16 = some (.int .i64 ((k25 : Int))) ∧ Box w93 b12 26 [.string (bs (p_t.Name)), .slice A1 p_t.Cols.length c1, .slice A2 p_t.Idxs.length c2] ∧ RdS w93 (Iv 0 w.heap.size) (RF e_Str) 1 A1 p_t.Cols.length c1 p_t.Cols ∧ RdS w93 (Iv 0 w.heap.size) (RF e_Idx) 3 A2 p_t.Idxs.length c2 p_t.Idxs ∧ OwnL w93 b18 u90 9 1 (RF e_Str) A88 x87.length c89 x87 ∧ RdS w93 (Iv 0 w.heap.size) (RF e_Write) 3 A5 ps.length c5 ps ∧ Ex w w93 ∧ (b18 ≤ u90 ∧ u90 ≤ w93.heap.size) ∧ x87.length ≤ 0 + 1 * (k25 - 0) ∧ (∀ y ∈ x87, okS y) ∧ loopM (B_i_Table_entriesIn_0 p_t pn ps) (ps.length - k25) k25 (x87) = loopM (B_i_Table_entriesIn_0 p_t pn ps) (ps.length - 0) 0 (([] : List Str))) (ps.length - 0) ?_ ?_))
 ·exact ⟨0, ([] : List Str), (some ⟨b18, 0, none⟩), 0, (b18 + 1), rfl, (by omega), Nat.le_refl _, rfl, rfl, rfl, rfl, rfl, rfl, (Box.ex hB16 hE23), (RdS.ex gS (RdS.ex gS h1 hE17) hE23), (RdS.ex gI (RdS.ex gI h2 hE17) hE23), hO24, (RdS.ex gW (RdS.ex gW h5 hE17) hE23), (Ex.trans (Ex.trans (Ex.refl w) hE17) hE23), (by omega), (by first | (simp; done) | (first | omega | (simp only [lN, toS_length]; omega))), okE.nil, rfl⟩
 ·rintro m103 L104 w105 ⟨k25, x87, A88, c89, u90, rfl, hk106, hsz108, hl109, hl110, hl111, hl112, hl113, hl114, hf115, hf116, hf117, hf118, hf119, hf120, hu121, hln122, hok123, hI107⟩
  refine CW.sub (Sub.cons hl109 (Sub.cons hl110 (Sub.cons hl111 (Sub.cons hl112 (Sub.cons hl113 (Sub.cons hl114 (Sub.nil _))))))) ?_
  have hf115z := Box.lt hf115
  have hf120z := Ex.size hf120
  have hbg124 := RdS.big hf119
  rcases Nat.lt_or_ge k25 ps.length with hlt125 | hlt125
  ·refine CW.seq (CW.region (sd rfl (yl_lss rfl rfl rfl (dn (CW.seq (CW.cond_t rfl (lt_t hlt125) (CW.skip (tn ?_))))))))
   refine CW.seq (CW.block (CW.seq (CW.region ?_)))
   obtain ⟨eb126, eo126, _, eA126, _, ebl126, _, eR126, eC126⟩ := RdS.aD hf119 d_Write (i := k25)
   obtain rfl := eR126
   have eC126 : Cells w105 eb126 (eo126 + k25 * 3) [.string (bs ((ps.getD k25 d_Write).Key)), .string (bs ((ps.getD k25 d_Write).Val)), .bool ((ps.getD k25 d_Write).Gone)] := eC126
   refine sd rfl (yl_ixN un27 ty66 rfl rfl rfl eA126 (sd rfl (yl_loadN ty66 rfl rfl eC126 rfl (sd rfl (yB ty66 (cs := [.string (bs (([] : Str))), .string (bs (([] : Str))), .bool (false)]) rfl rfl ?_)))))
   intro b127 w128 hs129 hz130 hB131 hE132
   refine SeqR.u rfl rfl (yl_store (vs := [.string (bs ((ps.getD k25 d_Write).Key)), .string (bs ((ps.getD k25 d_Write).Val)), .bool ((ps.getD k25 d_Write).Gone)]) ty66 rfl rfl rfl rfl rfl rfl hB131 (Nat.le_of_ble_eq_true rfl) ?_)
   intro w133 hB134 hO135
   have hB134 : Box w133 b127 66 [.string (bs ((ps.getD k25 d_Write).Key)), .string (bs ((ps.getD k25 d_Write).Val)), .bool ((ps.getD k25 d_Write).Gone)] := hB134
   have hO135z := hO135.size
   refine dn (CW.seq (CW.region ?_))
   have q137 := Box.only (Box.ex hf115 hE132) hO135 (by omega)
   refine sd rfl (yl_loadN ty26 rfl rfl (q137.cells (n := 3) rfl) rfl (sd rfl (yM rfl rfl (sd rfl (yl_fieldAddr fd66_0 rfl rfl (sd rfl (yl_load1 ty9 rfl rfl ((hB134.cell 0).trans rfl) ?_)))))))
   have q139 := RdS.only gS (RdS.ex gS hf116 hE132) hO135 (by simp only [Iv]; omega)
   have q141 := RdS.only gI (RdS.ex gI hf117 hE132) hO135 (by simp only [Iv]; omega)
   refine sd rfl (yC en42 rfl (oc rfl (oc rfl (oc rfl oz))) (Cal.mono (c_i_Table_readIdxKey p_t pn ((ps.getD k25 d_Write).Key) (RdS.up q139 gS) (RdS.up q141 gI) o3 o4 ((okL.getD o6 ok_d_Write _).1) (by first | omega | assumption | (simp only [wI] at *; omega))) ?_))
   rintro v145 w142 ⟨rfl, ho143, ho144, hE146⟩
   have hE146z := Ex.size hE146
   refine sd rfl (yM rfl rfl (sd rfl (yl_extract rfl rfl rfl (sd rfl (yl_extract rfl rfl rfl (sd rfl (yl_extract rfl rfl rfl (sd rfl (yA rfl rfl (sd rfl (yA rfl rfl (sd rfl (yA rfl rfl (dn ?_))))))))))))))
   refine CW.seq (CW.region (sd rfl (yM rfl rfl (dn (bcase ((i_Table_readIdxKey p_t pn ((ps.getD k25 d_Write).Key)).2.2) (fun hb147 => ?_) (fun hb147 => ?_))))))
   ·refine CW.cond_t rfl hb147 (CW.region (sd rfl (yM rfl rfl (sd rfl (yl_fieldAddr fd66_0 rfl rfl (sd rfl (yl_load1 ty9 rfl rfl (((Box.ex hB134 hE146).cell 0).trans rfl) (sd rfl (yl_buildSlice (cs := [.string (bs ((ps.getD k25 d_Write).Key))]) un23 ty9 (by decide) rfl (oc rfl oz) (by kernel_rfl) ?_)))))))))
    intro b149 w150 hs151 hz152 hB153 hE154
    have hO155 : OwnL w150 b149 (b149 + 1) 9 1 (RF e_Str) (some ⟨b149, 0, none⟩) 1 1 ([(ps.getD k25 d_Write).Key] : List Str) := OwnL.of_box (S := fun _ => False) hB153 (Nat.le_refl _) (Nat.lt_succ_self _) (EncL.cons (c := [.string (bs ((ps.getD k25 d_Write).Key))]) rfl rfl EncL.nil) (Nat.le_of_ble_eq_true rfl) (fun h => h) (fun _ h => False.elim h)
    refine sd rfl (yl_appendL (S := (fun _ => False)) (lo := b18) (hi := u90) (xs := x87) (ys := ([(ps.getD k25 d_Write).Key] : List Str)) gS un23 ty9 rfl (Nat.le_of_ble_eq_true rfl) rfl rfl rfl (OwnL.ex gS (OwnL.ex gS (OwnL.only gS (OwnL.ex gS hf118 hE132) hO135 (by omega)) hE146) hE154) (EncL.cons (c := [.string (bs ((ps.getD k25 d_Write).Key))]) rfl rfl EncL.nil) (Or.inr ⟨_, _, rfl, rfl, hB153.cells (o := 0) (n := 1) rfl⟩) rfl (by first | omega | (simp only [lN, toS_length]; omega)) (by first | omega | (simp only [lN, toS_length]; omega)) (by omega) (by omega) (fun _ h _ => False.elim h) (by omega) ?_)
    intro A160 c161 w162 row163 hO164 hG165 hrg166
    have hG165z := hG165.size
    refine sd rfl (yA rfl rfl (SeqR.done (bn (tn (CW.region (sd rfl (yl_inc rfl rfl rfl (by omega) (sd rfl (yM rfl rfl (dn ?_))))))))))
    have hB167 : B_i_Table_entriesIn_0 p_t pn ps k25 (x87) = .cont ((x87 ++ ([(ps.getD k25 d_Write).Key] : List Str))) := by simp only [B_i_Table_entriesIn_0, hb147, cL]
    exact ⟨ps.length - (k25 + 1), by omega, k25 + 1, (x87 ++ ([(ps.getD k25 d_Write).Key] : List Str)), A160, c161, w162.heap.size, rfl, hlt125, (by omega), rfl, rfl, rfl, rfl, rfl, rfl, (Box.grown (Box.ex (Box.ex q137 hE146) hE154) hG165 (fun k hk => by have := hrg166 k hk; omega)), (RdS.grown gS (RdS.ex gS (RdS.ex gS q139 hE146) hE154) hG165 (fun k hk => by have := hrg166 k hk; simp only [Iv]; omega)), (RdS.grown gI (RdS.ex gI (RdS.ex gI q141 hE146) hE154) hG165 (fun k hk => by have := hrg166 k hk; simp only [Iv]; omega)), hO164, (RdS.grown gW (RdS.ex gW (RdS.ex gW (RdS.only gW (RdS.ex gW hf119 hE132) hO135 (by simp only [Iv]; omega)) hE146) hE154) hG165 (fun k hk => by have := hrg166 k hk; simp only [Iv]; omega)), (Below.grown (Ex.trans (Ex.trans (Below.only (Ex.trans hf120 hE132) hO135 (by omega)) hE146) hE154) hG165 (by omega) (fun k hk => by have := hrg166 k hk; omega)), (by omega), (by first | omega | (simp only [lN, toS_length]; omega)), (okE.append hok123 ((okL.mk (Nat.le_of_ble_eq_true rfl) (okE.cons (okL.getD o6 ok_d_Write _).1 okE.nil))).2), (loopM.cont hlt125 hB167).symm.trans hI107⟩
   ·refine CW.cond_f rfl hb147 (CW.skip (bn (tn (CW.region (sd rfl (yl_inc rfl rfl rfl (by omega) (sd rfl (yM rfl rfl (dn ?_)))))))))
    have hB187 : B_i_Table_entriesIn_0 p_t pn ps k25 (x87) = .cont (x87) := by simp only [B_i_Table_entriesIn_0, hb147, cL]
    exact ⟨ps.length - (k25 + 1), by omega, k25 + 1, x87, A88, c89, u90, rfl, hlt125, (by omega), rfl, rfl, rfl, rfl, rfl, rfl, (Box.ex q137 hE146), (RdS.ex gS q139 hE146), (RdS.ex gI q141 hE146), (OwnL.ex gS (OwnL.only gS (OwnL.ex gS hf118 hE132) hO135 (by omega)) hE146), (RdS.ex gW (RdS.only gW (RdS.ex gW hf119 hE132) hO135 (by simp only [Iv]; omega)) hE146), (Ex.trans (Below.only (Ex.trans hf120 hE132) hO135 (by omega)) hE146), (by omega), (by first | omega | (simp only [lN, toS_length]; omega)), hok123, (loopM.cont hlt125 hB187).symm.trans hI107⟩
  ·refine CW.seq (CW.region (sd rfl (yl_lss rfl rfl rfl (dn (CW.seq (CW.cond_f rfl (lt_f hlt125) (CW.exit (tx ?_))))))))
   refine tx ?_
   have hL200 : loopM (B_i_Table_entriesIn_0 p_t pn ps) (ps.length - 0) 0 (([] : List Str)) = .done (x87) := hI107.symm.trans (loopM.stop hlt125)
   refine bx (tn (CW.seq (CW.region (sd rfl (yM rfl rfl (sd rfl (yA rfl rfl (dn (CW.ret ?_)))))))))
   refine rr rfl (.cons rfl .nil) ?_
   have hM201 : (i_Table_entriesIn p_t pn ps) = (x87) := by simp only [i_Table_entriesIn, hL200, cL]
   rw [hM201]
   exact ⟨A88, c89, b18, u90, rfl, hf118, (okL.mk (xs := x87) (by first | omega | (simp only [lN, toS_length]; omega)) hok123), (by omega), hf120⟩
theorem c_i_EntriesIn {A1 : Option Addr} {c1 : Nat} {A2 : Option Addr} {c2 : Nat} {A5 : Option Addr} {c5 : Nat} {w : World} (p_t : DTable) (pn : Str) (ps : List DWrite) (h1 : RdS w (Iv 0 w.heap.size) (RF e_Str) 1 A1 p_t.Cols.length c1 p_t.Cols) (h2 : RdS w (Iv 0 w.heap.size) (RF e_Idx) 3 A2 p_t.Idxs.length c2 p_t.Idxs) (h5 : RdS w (Iv 0 w.heap.size) (RF e_Write) 3 A5 ps.length c5 ps) (o3 : ok_Table p_t) (o4 : okS pn) (o6 : (okL ok_Write) ps) : Cal Tryz.prog 5 #[.agg #[.string (bs (p_t.Name)), .slice A1 p_t.Cols.length c1, .slice A2 p_t.Idxs.length c2], .string (bs (pn)), .slice A5 ps.length c5] w fun v w' => ∃ A_1 c_1 lo_1 hi_1, v = .tuple #[.slice A_1 (((i_EntriesIn p_t pn ps).1).length) c_1, .bool ((i_EntriesIn p_t pn ps).2)] ∧ OwnL w' lo_1 hi_1 9 1 (RF e_Str) A_1 (((i_EntriesIn p_t pn ps).1).length) c_1 ((i_EntriesIn p_t pn ps).1) ∧ (okL okS) ((i_EntriesIn p_t pn ps).1) ∧ (w.heap.size ≤ lo_1 ∧ lo_1 ≤ hi_1 ∧ hi_1 ≤ w'.heap.size) ∧ Ex w w' := by
 have hol7 : p_t.Name.length ≤ 1073741824 := o3.1
 have hol8 := o3.2.1.1
 have hol9 := o3.2.2.1
 have hol10 : pn.length ≤ 1073741824 := o4
 have hol11 := o6.1
 refine Cal.of func5 rfl ntmps5 rfl (CW.seq (CW.region (sd rfl (yl_box rfl rfl rfl ?_))))
 intro b12 w13 hs14 hz15 hB16 hE17
 refine sd rfl (yA rfl rfl (sd rfl (yA rfl rfl (dn (CW.seq (CW.seq (CW.region (sd rfl (yl_loadN ty26 rfl rfl (hB16.cells (n := 3) rfl) rfl (sd rfl (yM rfl rfl ?_)))))))))))
 refine sd rfl (yM rfl rfl ?_)
 have q18 := RdS.ex gS h1 hE17
 have q19 := RdS.ex gI h2 hE17
 have q20 := RdS.ex gW h5 hE17
 refine sd rfl (yC en22 rfl (oc rfl (oc rfl (oc rfl oz))) (Cal.mono (c_i_isIdxStore p_t pn ps (RdS.up q18 gS) (RdS.up q19 gI) (RdS.up q20 gW) o3 o4 o6) ?_))
 rintro v22 w21 ⟨rfl, hE23⟩
 have hE23z := Ex.size hE23
 refine sd rfl (yl_not rfl rfl (dn (bcase (i_isIdxStore p_t pn ps) (fun hb24 => ?_) (fun hb24 => ?_))))
 ·have hb24p := f_isIdxStore hb24
  refine CW.cond_f rfl (not_t hb24) (CW.skip (tn (CW.seq (CW.region (sd rfl (yl_loadN ty26 rfl rfl ((Box.ex hB16 hE23).cells (n := 3) rfl) rfl (sd rfl (yM rfl rfl (sd rfl (yM rfl rfl (sd rfl (yC en23 rfl (oc rfl (oc rfl (oc rfl oz))) (Cal.mono (c_i_Table_entriesIn p_t pn ps (RdS.up (RdS.ex gS q18 hE23) gS) (RdS.up (RdS.ex gI q19 hE23) gI) (RdS.up (RdS.ex gW q20 hE23) gW) o3 o4 o6 (by first | omega | assumption | (simp only [wI] at *; omega))) ?_)))))))))))))
  rintro v32 w29 ⟨A30, c30, lo30, hi30, rfl, h30, ho31, hrn34, hE33⟩
  have hE33z := Ex.size hE33
  refine sd rfl (yA rfl rfl (sd rfl (yA rfl rfl (dn (CW.ret (rr rfl (.cons rfl (.cons rfl .nil)) ?_))))))
  have hM35 : (i_EntriesIn p_t pn ps) = (((i_Table_entriesIn p_t pn ps), true)) := by simp only [i_EntriesIn, hb24, cL]
  rw [hM35]
  exact ⟨A30, c30, lo30, hi30, rfl, h30, ho31, (by omega), (Ex.trans (Ex.trans (Ex.trans (Ex.refl w) hE17) hE23) hE33)⟩
 ·refine CW.cond_t rfl (not_f hb24) (CW.seq (CW.region (sd rfl (yA rfl rfl (sd rfl (yA rfl rfl (dn (CW.ret (tr ?_)))))))))
  refine rr rfl (.cons rfl (.cons rfl .nil)) ?_
  have hM39 : (i_EntriesIn p_t pn ps) = ((([] : List Str), false)) := by simp only [i_EntriesIn, hb24, cL]
  rw [hM39]
  exact ⟨none, 0, w21.heap.size, w21.heap.size, rfl, (OwnL.nil _ _ _ _ _ _), (okL.nil _), (by omega), (Ex.trans (Ex.trans (Ex.refl w) hE17) hE23)⟩
theorem c_s_l24Letters {w : World} (p_s : Str) (p_most : Int) (o1 : okS p_s) : Cal Tryz.prog 57 #[.string (bs (p_s)), .int .i64 (p_most)] w fun v w' => v = .bool ((s_l24Letters p_s p_most)) ∧ Ex w w' := by
 have hol2 : p_s.length ≤ 1073741824 := o1
 refine Cal.of func57 rfl ntmps57 rfl (CW.seq (CW.region (sd rfl (yA rfl rfl (dn (CW.seq (CW.seq (CW.region ?_))))))))
 refine sd rfl (yA rfl rfl (dn (CW.block (CW.loop (fun m4 L5 w6 => ∃ (k3 : Nat), m4 = p_s.length - k3 ∧ k3 ≤ p_s.length ∧ w.heap.size ≤ w6.heap.size ∧ lkp L5 0 = some (.string (bs (p_s))) ∧ lkp L5 1 = some (.int .i64 (p_most)) ∧ lkp L5 5 = some (.int .i64 ((k3 : Int))) ∧ Ex w w6 ∧ loopM (B_s_l24Letters_0 p_s p_most) (p_s.length - k3) k3 () = loopM (B_s_l24Letters_0 p_s p_most) (p_s.length - 0) 0 ()) (p_s.length - 0) ?_ ?_))))
 ·exact ⟨0, rfl, (by omega), Nat.le_refl _, rfl, rfl, rfl, (Ex.refl w), rfl⟩
 ·rintro m7 L8 w9 ⟨k3, rfl, hk10, hsz12, hl13, hl14, hl15, hf16, hI11⟩
  refine CW.sub (Sub.cons hl13 (Sub.cons hl14 (Sub.cons hl15 (Sub.nil _)))) ?_
  have hf16z := Ex.size hf16
  have hbg17 : p_s.length ≤ 1073741824 := o1
  rcases Nat.lt_or_ge k3 p_s.length with hlt18 | hlt18
  ·refine CW.seq (CW.seq (CW.region (sd rfl (yM rfl rfl (sd rfl (yM rfl rfl (sd rfl (yl_slen un9 (a := p_s) rfl rfl (sd rfl (yl_lss rfl rfl rfl (dn ?_)))))))))))
   refine CW.cond_t rfl (lt_t hlt18) (CW.skip (tn (CW.seq (CW.block (CW.seq (CW.region (sd rfl (yM rfl rfl (sd rfl (yM rfl rfl ?_))))))))))
   refine sd rfl (yl_sindexN un9 (a := p_s) rfl rfl rfl (by first | omega | assumption | (simp only [wI] at *; omega)) (sd rfl (yl_lss rfl rfl rfl (sd rfl (yM rfl rfl (bcase (decide (((p_s.getD k3 0).toNat : Int) < 97)) (fun hb19 => ?_) (fun hb19 => ?_)))))))
   ·have hb19p := dec_t hb19
    refine sz rfl rfl hb19 (sz rfl rfl hb19 (sz rfl rfl hb19 (sz rfl rfl hb19 (sd rfl (yl_pick_t rfl rfl hb19 rfl (dn (CW.cond_t rfl rfl (CW.seq ?_))))))))
    refine CW.region (sd rfl (yA rfl rfl (dn (CW.ret (br (tr (tr ?_)))))))
    have hB21 : B_s_l24Letters_0 p_s p_most k3 () = .ret false := by simp only [B_s_l24Letters_0, hb19, cL]
    have hL20 : loopM (B_s_l24Letters_0 p_s p_most) (p_s.length - 0) 0 () = .ret false := hI11.symm.trans (loopM.ret hlt18 hB21)
    refine br (tr (rr rfl (.cons rfl .nil) ?_))
    have hM22 : (s_l24Letters p_s p_most) = (false) := by simp only [s_l24Letters, hb19, hL20, cL]
    rw [hM22]
    exact ⟨rfl, hf16⟩
   ·have hb19p := dec_f hb19
    refine sy rfl rfl hb19 (yM rfl rfl (sy rfl rfl hb19 (yM rfl rfl (sy rfl rfl hb19 (yl_sindexN un9 (a := p_s) rfl rfl rfl (by first | omega | assumption | (simp only [wI] at *; omega)) (sy rfl rfl hb19 (yl_gtr rfl rfl rfl (sd rfl (yl_pick_f rfl rfl hb19 rfl (dn (bcase (decide (122 < ((p_s.getD k3 0).toNat : Int))) (fun hb23 => ?_) (fun hb23 => ?_))))))))))))
    ·have hb23p := dec_t hb23
     refine CW.cond_t rfl hb23 (CW.seq (CW.region (sd rfl (yA rfl rfl (dn (CW.ret (br (tr ?_))))))))
     refine tr ?_
     have hB25 : B_s_l24Letters_0 p_s p_most k3 () = .ret false := by simp only [B_s_l24Letters_0, hb19, hb23, cL]
     have hL24 : loopM (B_s_l24Letters_0 p_s p_most) (p_s.length - 0) 0 () = .ret false := hI11.symm.trans (loopM.ret hlt18 hB25)
     refine br (tr (rr rfl (.cons rfl .nil) ?_))
     have hM26 : (s_l24Letters p_s p_most) = (false) := by simp only [s_l24Letters, hb19, hb23, hL24, cL]
     rw [hM26]
     exact ⟨rfl, hf16⟩
    ·have hb23p := dec_f hb23
     refine CW.cond_f rfl hb23 (CW.skip (bn (tn (CW.region (sd rfl (yM rfl rfl (sd rfl (yl_inc rfl rfl rfl (by omega) (sd rfl (yA rfl rfl (SeqR.done ?_)))))))))))
     refine tn ?_
     have hB27 : B_s_l24Letters_0 p_s p_most k3 () = .cont () := by simp only [B_s_l24Letters_0, hb19, hb23, cL]
     exact ⟨p_s.length - (k3 + 1), by omega, k3 + 1, rfl, hlt18, (by omega), rfl, rfl, rfl, hf16, (loopM.cont hlt18 hB27).symm.trans hI11⟩
  ·refine CW.seq (CW.seq (CW.region (sd rfl (yM rfl rfl (sd rfl (yM rfl rfl (sd rfl (yl_slen un9 (a := p_s) rfl rfl (sd rfl (yl_lss rfl rfl rfl (dn ?_)))))))))))
   refine CW.cond_f rfl (lt_f hlt18) (CW.exit (tx (tx ?_)))
   have hL28 : loopM (B_s_l24Letters_0 p_s p_most) (p_s.length - 0) 0 () = .done () := hI11.symm.trans (loopM.stop hlt18)
   refine bx (tn (CW.seq (CW.region (sd rfl (yM rfl rfl (sd rfl (yl_slen un9 (a := p_s) rfl rfl (sd rfl (yl_geq rfl rfl rfl (sd rfl (yM rfl rfl (bcase (decide (1 ≤ (p_s.length : Int))) (fun hb29 => ?_) (fun hb29 => ?_)))))))))))))
   ·have hb29p := dec_t hb29
    refine sy rfl rfl hb29 (yM rfl rfl (sy rfl rfl hb29 (yl_slen un9 (a := p_s) rfl rfl (sy rfl rfl hb29 (yM rfl rfl (sy rfl rfl hb29 (yl_leq rfl rfl rfl (sd rfl (yl_pick_t rfl rfl hb29 rfl (sd rfl (yA rfl rfl (dn (CW.ret ?_)))))))))))))
    refine rr rfl (.cons rfl .nil) ?_
    have hM30 : (s_l24Letters p_s p_most) = (decide ((p_s.length : Int) ≤ p_most)) := by simp only [s_l24Letters, hb29, hL28, cL]
    rw [hM30]
    exact ⟨rfl, hf16⟩
   ·have hb29p := dec_f hb29
    refine sz rfl rfl hb29 (sz rfl rfl hb29 (sz rfl rfl hb29 (sz rfl rfl hb29 (sd rfl (yl_pick_f rfl rfl hb29 rfl (sd rfl (yA rfl rfl (dn (CW.ret ?_)))))))))
    refine rr rfl (.cons rfl .nil) ?_
    have hM31 : (s_l24Letters p_s p_most) = (false) := by simp only [s_l24Letters, hb29, hL28, cL]
    rw [hM31]
    exact ⟨rfl, hf16⟩
theorem c_s_l24At {A1 : Option Addr} {c1 : Nat} {w : World} (p_l : List Str) (p_s : Str) (h1 : RdS w (Iv 0 w.heap.size) (RF e_Str) 1 A1 p_l.length c1 p_l) (o2 : (okL okS) p_l) (o3 : okS p_s) : Cal Tryz.prog 47 #[.slice A1 p_l.length c1, .string (bs (p_s))] w fun v w' => v = .int .i64 ((s_l24At p_l p_s)) ∧ Ex w w' := by
 have hol4 := o2.1
 have hol5 : p_s.length ≤ 1073741824 := o3
 refine Cal.of func47 rfl ntmps47 rfl (CW.seq (CW.region (sd rfl (yA rfl rfl (dn (CW.seq (CW.seq (CW.region ?_))))))))
 refine sd rfl (yM rfl rfl (sd rfl (yL un23 rfl rfl (sd rfl (yM rfl rfl (dn (CW.block (CW.loop (fun m7 L8 w9 => ∃ (k6 : Nat), m7 = p_l.length - k6 ∧ k6 ≤ p_l.length ∧ w.heap.size ≤ w9.heap.size ∧ lkp L8 1 = some (.string (bs (p_s))) ∧ lkp L8 7 = some (.slice A1 p_l.length c1) ∧ lkp L8 8 = some (.int .i64 ((p_l.length : Int))) ∧ lkp L8 9 = some (.int .i64 ((k6 : Int))) ∧ RdS w9 (Iv 0 w.heap.size) (RF e_Str) 1 A1 p_l.length c1 p_l ∧ Ex w w9 ∧ loopM (B_s_l24At_0 p_l p_s) (p_l.length - k6) k6 () = loopM (B_s_l24At_0 p_l p_s) (p_l.length - 0) 0 ()) (p_l.length - 0) ?_ ?_))))))))
 ·exact ⟨0, rfl, (by omega), Nat.le_refl _, rfl, rfl, rfl, rfl, h1, (Ex.refl w), rfl⟩
 ·rintro m10 L11 w12 ⟨k6, rfl, hk13, hsz15, hl16, hl17, hl18, hl19, hf20, hf21, hI14⟩
  refine CW.sub (Sub.cons hl16 (Sub.cons hl17 (Sub.cons hl18 (Sub.cons hl19 (Sub.nil _))))) ?_
  have hf21z := Ex.size hf21
  have hbg22 := RdS.big hf20
  rcases Nat.lt_or_ge k6 p_l.length with hlt23 | hlt23
  ·refine CW.seq (CW.region (sd rfl (yl_lss rfl rfl rfl (dn (CW.seq (CW.cond_t rfl (lt_t hlt23) (CW.skip (tn ?_))))))))
   refine CW.seq (CW.block (CW.seq (CW.region (sd rfl (yM rfl rfl ?_)))))
   obtain ⟨eb24, eo24, _, eA24, _, ebl24, _, eR24, eC24⟩ := RdS.aD hf20 d_Str (i := k6)
   obtain rfl := eR24
   have eC24 : Cells w12 eb24 (eo24 + k6 * 1) [.string (bs ((p_l.getD k6 d_Str)))] := eC24
   refine sd rfl (yl_ixN un23 ty9 rfl rfl rfl eA24 (sd rfl (yl_load1 ty9 rfl rfl (eC24 0 _ rfl) (sd rfl (yA rfl rfl (sd rfl (yA rfl rfl (dn (CW.seq (CW.region (sd rfl (yM rfl rfl ?_))))))))))))
   refine sd rfl (yM rfl rfl (sd rfl (yl_seql (a := (p_l.getD k6 d_Str)) (b := p_s) rfl rfl rfl (dn (bcase ((p_l.getD k6 d_Str) == p_s) (fun hb25 => ?_) (fun hb25 => ?_))))))
   ·refine CW.cond_t rfl hb25 (CW.seq (CW.region (sd rfl (yM rfl rfl (sd rfl (yA rfl rfl (dn (CW.ret (br ?_)))))))))
    refine tr (tr ?_)
    have hB27 : B_s_l24At_0 p_l p_s k6 () = .ret (k6 : Int) := by simp only [B_s_l24At_0, hb25, cL]
    have hL26 : loopM (B_s_l24At_0 p_l p_s) (p_l.length - 0) 0 () = .ret (k6 : Int) := hI14.symm.trans (loopM.ret hlt23 hB27)
    refine br (tr (rr rfl (.cons rfl .nil) ?_))
    have hM28 : (s_l24At p_l p_s) = ((k6 : Int)) := by simp only [s_l24At, hb25, hL26, cL]
    rw [hM28]
    exact ⟨rfl, hf21⟩
   ·refine CW.cond_f rfl hb25 (CW.skip (bn (tn (CW.region (sd rfl (yl_inc rfl rfl rfl (by omega) (sd rfl (yM rfl rfl (dn ?_)))))))))
    have hB29 : B_s_l24At_0 p_l p_s k6 () = .cont () := by simp only [B_s_l24At_0, hb25, cL]
    exact ⟨p_l.length - (k6 + 1), by omega, k6 + 1, rfl, hlt23, (by omega), rfl, rfl, rfl, rfl, hf20, hf21, (loopM.cont hlt23 hB29).symm.trans hI14⟩
  ·refine CW.seq (CW.region (sd rfl (yl_lss rfl rfl rfl (dn (CW.seq (CW.cond_f rfl (lt_f hlt23) (CW.exit (tx ?_))))))))
   refine tx ?_
   have hL30 : loopM (B_s_l24At_0 p_l p_s) (p_l.length - 0) 0 () = .done () := hI14.symm.trans (loopM.stop hlt23)
   refine bx (tn (CW.seq (CW.region (sd rfl (yA rfl rfl (dn (CW.ret (rr rfl (.cons rfl .nil) ?_))))))))
   have hM31 : (s_l24At p_l p_s) = (-1) := by simp only [s_l24At, hL30, cL]
   rw [hM31]
   exact ⟨rfl, hf21⟩
theorem c_s_l24Cols {A1 : Option Addr} {c1 : Nat} {w : World} (p_l : List Str) (h1 : RdS w (Iv 0 w.heap.size) (RF e_Str) 1 A1 p_l.length c1 p_l) (o2 : (okL okS) p_l) : Cal Tryz.prog 58 #[.slice A1 p_l.length c1] w fun v w' => v = .bool ((s_l24Cols p_l)) ∧ Ex w w' := by
 have hol3 := o2.1
 refine Cal.of func58 rfl ntmps58 rfl (CW.seq (CW.region (sd rfl (yA rfl rfl (dn (CW.seq (CW.seq (CW.region ?_))))))))
 refine sd rfl (yM rfl rfl (sd rfl (yL un23 rfl rfl (sd rfl (yM rfl rfl (dn (CW.block (CW.loop (fun m5 L6 w7 => ∃ (k4 : Nat), m5 = p_l.length - k4 ∧ k4 ≤ p_l.length ∧ w.heap.size ≤ w7.heap.size ∧ lkp L6 0 = some (.slice A1 p_l.length c1) ∧ lkp L6 5 = some (.slice A1 p_l.length c1) ∧ lkp L6 6 = some (.int .i64 ((p_l.length : Int))) ∧ lkp L6 7 = some (.int .i64 ((k4 : Int))) ∧ RdS w7 (Iv 0 w.heap.size) (RF e_Str) 1 A1 p_l.length c1 p_l ∧ Ex w w7 ∧ loopM (B_s_l24Cols_0 p_l) (p_l.length - k4) k4 () = loopM (B_s_l24Cols_0 p_l) (p_l.length - 0) 0 ()) (p_l.length - 0) ?_ ?_))))))))
 ·exact ⟨0, rfl, (by omega), Nat.le_refl _, rfl, rfl, rfl, rfl, h1, (Ex.refl w), rfl⟩
 ·rintro m8 L9 w10 ⟨k4, rfl, hk11, hsz13, hl14, hl15, hl16, hl17, hf18, hf19, hI12⟩
  refine CW.sub (Sub.cons hl14 (Sub.cons hl15 (Sub.cons hl16 (Sub.cons hl17 (Sub.nil _))))) ?_
  have hf19z := Ex.size hf19
  have hbg20 := RdS.big hf18
  rcases Nat.lt_or_ge k4 p_l.length with hlt21 | hlt21
  ·refine CW.seq (CW.region (sd rfl (yl_lss rfl rfl rfl (dn (CW.seq (CW.cond_t rfl (lt_t hlt21) (CW.skip (tn ?_))))))))
   refine CW.seq (CW.block (CW.seq (CW.region (sd rfl (yM rfl rfl ?_)))))
   obtain ⟨eb22, eo22, _, eA22, _, ebl22, _, eR22, eC22⟩ := RdS.aD hf18 d_Str (i := k4)
   obtain rfl := eR22
   have eC22 : Cells w10 eb22 (eo22 + k4 * 1) [.string (bs ((p_l.getD k4 d_Str)))] := eC22
   refine sd rfl (yl_ixN un23 ty9 rfl rfl rfl eA22 (sd rfl (yl_load1 ty9 rfl rfl (eC22 0 _ rfl) (sd rfl (yA rfl rfl (sd rfl (yA rfl rfl (dn (CW.seq (CW.region (sd rfl (yM rfl rfl ?_))))))))))))
   refine sd rfl (yC en57 rfl (oc rfl (oc rfl oz)) (Cal.mono (c_s_l24Letters (p_l.getD k4 d_Str) 3 (okL.getD o2 ok_d_Str _)) ?_))
   rintro v24 w23 ⟨rfl, hE25⟩
   have hE25z := Ex.size hE25
   refine sd rfl (yl_not rfl rfl (sd rfl (yM rfl rfl (bcase (s_l24Letters (p_l.getD k4 d_Str) 3) (fun hb26 => ?_) (fun hb26 => ?_)))))
   ·refine sy rfl rfl (not_t hb26) (yM rfl rfl (sy rfl rfl (not_t hb26) (yM rfl rfl ?_)))
    have q27 := RdS.ex gS hf18 hE25
    obtain ⟨A28, c29, he32, h31⟩ := RdS.sl (RdS.drop (RdS.take q27 (k := k4) (by omega)) (k := 0) (by omega))
    have hrc33 := (q27).2.1
    refine sy rfl rfl (not_t hb26) (yl_sliceR (kl := .i64) (l := 0) (h := k4) un23 ty9 rfl rfl (.inl ⟨rfl, rfl⟩) (.inr ⟨_, rfl, rfl⟩) (by omega) (by omega) he32 (sy rfl rfl (not_t hb26) (yM rfl rfl (sy rfl rfl (not_t hb26) (yC en47 rfl (oc rfl (oc rfl oz)) (Cal.mono (c_s_l24At (p_l.take k4) (p_l.getD k4 d_Str) (RdS.up h31 gS) (okL.take o2 _) (okL.getD o2 ok_d_Str _)) ?_))))))
    rintro v35 w34 ⟨rfl, hE36⟩
    have hE36z := Ex.size hE36
    refine sy rfl rfl (not_t hb26) (yl_geq rfl rfl rfl (sd rfl (yl_pick_f rfl rfl (not_t hb26) rfl (dn (bcase (decide (0 ≤ (s_l24At (p_l.take k4) (p_l.getD k4 d_Str)))) (fun hb37 => ?_) (fun hb37 => ?_))))))
    ·have hb37p := dec_t hb37
     refine CW.cond_t rfl hb37 (CW.seq (CW.region (sd rfl (yA rfl rfl (dn (CW.ret (br (tr ?_))))))))
     refine tr ?_
     have hB39 : B_s_l24Cols_0 p_l k4 () = .ret false := by simp only [B_s_l24Cols_0, hb26, hb37, cL]
     have hL38 : loopM (B_s_l24Cols_0 p_l) (p_l.length - 0) 0 () = .ret false := hI12.symm.trans (loopM.ret hlt21 hB39)
     refine br (tr (rr rfl (.cons rfl .nil) ?_))
     have hM40 : (s_l24Cols p_l) = (false) := by simp only [s_l24Cols, hb26, hb37, hL38, cL]
     rw [hM40]
     exact ⟨rfl, (Ex.trans (Ex.trans hf19 hE25) hE36)⟩
    ·have hb37p := dec_f hb37
     refine CW.cond_f rfl hb37 (CW.skip (bn (tn (CW.region (sd rfl (yl_inc rfl rfl rfl (by omega) (sd rfl (yM rfl rfl (dn ?_)))))))))
     have hB43 : B_s_l24Cols_0 p_l k4 () = .cont () := by simp only [B_s_l24Cols_0, hb26, hb37, cL]
     exact ⟨p_l.length - (k4 + 1), by omega, k4 + 1, rfl, hlt21, (by omega), rfl, rfl, rfl, rfl, (RdS.ex gS q27 hE36), (Ex.trans (Ex.trans hf19 hE25) hE36), (loopM.cont hlt21 hB43).symm.trans hI12⟩
   ·refine sz rfl rfl (not_f hb26) (sz rfl rfl (not_f hb26) (sz rfl rfl (not_f hb26) (sz rfl rfl (not_f hb26) (sz rfl rfl (not_f hb26) (sz rfl rfl (not_f hb26) (sd rfl (yl_pick_t rfl rfl (not_f hb26) rfl (dn ?_))))))))
    refine CW.cond_t rfl rfl (CW.seq (CW.region (sd rfl (yA rfl rfl (dn (CW.ret (br (tr ?_))))))))
    refine tr ?_
    have hB48 : B_s_l24Cols_0 p_l k4 () = .ret false := by simp only [B_s_l24Cols_0, hb26, cL]
    have hL47 : loopM (B_s_l24Cols_0 p_l) (p_l.length - 0) 0 () = .ret false := hI12.symm.trans (loopM.ret hlt21 hB48)
    refine br (tr (rr rfl (.cons rfl .nil) ?_))
    have hM49 : (s_l24Cols p_l) = (false) := by simp only [s_l24Cols, hb26, hL47, cL]
    rw [hM49]
    exact ⟨rfl, (Ex.trans hf19 hE25)⟩
  ·refine CW.seq (CW.region (sd rfl (yl_lss rfl rfl rfl (dn (CW.seq (CW.cond_f rfl (lt_f hlt21) (CW.exit (tx ?_))))))))
   refine tx ?_
   have hL51 : loopM (B_s_l24Cols_0 p_l) (p_l.length - 0) 0 () = .done () := hI12.symm.trans (loopM.stop hlt21)
   refine bx (tn (CW.seq (CW.region (sd rfl (yM rfl rfl (sd rfl (yL un23 rfl rfl (sd rfl (yC en59 rfl (oc rfl (oc rfl (oc rfl oz))) (Cal.mono (c_s_l1In (p_l.length : Int) 2 4) ?_))))))))))
   rintro v53 w52 ⟨rfl, hE54⟩
   have hE54z := Ex.size hE54
   refine sd rfl (yA rfl rfl (dn (CW.ret (rr rfl (.cons rfl .nil) ?_))))
   have hM55 : (s_l24Cols p_l) = ((s_l1In (p_l.length : Int) 2 4)) := by simp only [s_l24Cols, hL51, cL]
   rw [hM55]
   exact ⟨rfl, (Ex.trans hf19 hE54)⟩
end Go.Proofs.YtlnjgkmpaebioaaGreatDoor
