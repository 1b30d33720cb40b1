/- Clear Piece: what each call returns, part 2. -/
import Derived.Test.YtoimdjojffkefaaGreatDoorClearPieceC1
set_option maxRecDepth 100000
set_option maxHeartbeats 2000000
open Go.Proofs.Tryz Go.Proofs.YtoimdjojffkefaaGreatDoor.Tryz
set_option linter.unusedVariables false
set_option linter.unusedSimpArgs false
namespace Go.Proofs.YtoimdjojffkefaaGreatDoor
open Go.RowKit Go.X
theorem c_s_l5PutW {A1 : Option Addr} {c1 : Nat} {w : World} (p_l : List DWrite) (p_w : DWrite) (h1 : RdS w (Iv 0 w.heap.size) (RF e_Write) 3 A1 p_l.length c1 p_l) (o2 : (okL ok_Write) p_l) (o3 : ok_Write p_w) (pre0 : p_l.length ≤ 1000000) : Cal Tryz.prog 172 #[.slice A1 p_l.length c1, .agg #[.string (bs (p_w.Key)), .string (bs (p_w.Val)), .bool (p_w.Gone)]] w fun v w' => ∃ A_1 c_1 lo_1 hi_1, v = .slice A_1 ((s_l5PutW p_l p_w).length) c_1 ∧ OwnL w' lo_1 hi_1 80 3 (RF e_Write) A_1 ((s_l5PutW p_l p_w).length) c_1 (s_l5PutW p_l p_w) ∧ (okL ok_Write) (s_l5PutW p_l p_w) ∧ (s_l5PutW p_l p_w).length ≤ p_l.length + 1 ∧ (w.heap.size ≤ lo_1 ∧ lo_1 ≤ hi_1 ∧ hi_1 ≤ w'.heap.size) ∧ Ex w w' := by
 have hol4 := o2.1
 have hol5 : p_w.Key.length ≤ 1073741824 := o3.1
 have hol6 : p_w.Val.length ≤ 1073741824 := o3.2
 refine Cal.of func172 rfl ntmps172 rfl (cR (sd rfl (yl_box rfl rfl rfl ?_)))
 intro b7 w8 hs9 hz10 hB11 hE12
 refine sA rfl (dn (cR (sM rfl (sd rfl (yL un34 rfl rfl (sA rfl (SeqR.done ?_)))))))
 refine tn (CW.seq (CW.block (CW.loop (fun m15 L16 w17 => ∃ (x14 : Int), ((x14).toNat) < m15 ∧ w8.heap.size ≤ w17.heap.size ∧ Sub [(0, .slice A1 p_l.length c1), (3, .pointer (some ⟨b7, 0, none⟩)), (5, .int .i64 (x14))] L16 ∧ RdS w17 (Iv 0 w.heap.size) (RF e_Write) 3 A1 p_l.length c1 p_l ∧ Box w17 b7 80 [.string (bs (p_w.Key)), .string (bs (p_w.Val)), .bool (p_w.Gone)] ∧ Ex w w17 ∧ (0 ≤ x14 ∧ x14 ≤ (p_l.length : Int)) ∧ loopW (B_s_l5PutW_0 p_l p_w) m15 (x14) = loopW (B_s_l5PutW_0 p_l p_w) ((((p_l.length : Int)).toNat) + 1) ((p_l.length : Int))) ((((p_l.length : Int)).toNat) + 1) ?_ ?_)))
 ·exact ⟨(p_l.length : Int), Nat.lt_succ_self _, Nat.le_refl _, (sR rfl), (RdS.ex gW h1 hE12), hB11, (Ex.trans (Ex.refl w) hE12), Bo, rfl⟩
 ·rintro m20 L21 w22 ⟨x14, hk23, hsz25, hl26, hf27, hf28, hf29, hv30, hI24⟩
  refine CW.sub hl26 ?_
  have hf28z := Box.lt hf28
  have hf29z := Ex.size hf29
  refine CW.seq (CW.seq (bcD (q := 0 < x14) (fun hb31 hb31p => ?_) (fun hb31 hb31p => ?_)))
  ·obtain ⟨eb32, eo32, _, eA32, _, ebl32, _, eR32, eC32⟩ := RdS.atD hf27 d_Write (i := (IntKind.wrap .i64 (x14 - 1)).toNat) Bq
   obtain rfl := eR32
   refine drJ 13 [.int .i64 (x14), .bool (decide (0 < x14)), .bool (decide (0 < x14)), .slice A1 p_l.length c1, .int .i64 (x14), .int .i64 (IntKind.wrap .i64 (x14 - 1)), .pointer (some ⟨eb32, eo32 + ((IntKind.wrap .i64 (x14 - 1)).toNat) * 3, none⟩), .pointer (some ⟨eb32, eo32 + ((IntKind.wrap .i64 (x14 - 1)).toNat) * 3 + 0, none⟩), .string (bs ((p_l.getD ((IntKind.wrap .i64 (x14 - 1)).toNat) d_Write).Key)), .pointer (some ⟨b7, 0 + 0, none⟩), .string (bs (p_w.Key)), .bool (!(sLe ((p_l.getD ((IntKind.wrap .i64 (x14 - 1)).toNat) d_Write).Key) p_w.Key)), .bool (!(sLe ((p_l.getD ((IntKind.wrap .i64 (x14 - 1)).toNat) d_Write).Key) p_w.Key))] Tryz.follows rfl ⟨oI rfl fun h => yM rfl (h.g 5 rfl) kI, oI rfl fun h => yl_gtr rfl (h.g 10 rfl) rfl kI, oI rfl fun h => yM rfl (h.g 11 rfl) kI, oW rfl rfl rfl rfl hb31 fun h => yM rfl (h.g 0 rfl) kI, oW rfl rfl rfl rfl hb31 fun h => yM rfl (h.g 5 rfl) kI, oW rfl rfl rfl rfl hb31 fun h => yl_sub rfl (h.g 14 rfl) rfl kI, ?_, oW rfl rfl rfl rfl hb31 fun h => yl_fieldAddr fd80_0 rfl (h.g 16 rfl) kI, oW rfl rfl rfl rfl hb31 fun h => yl_load1 ty9 rfl (h.g 17 rfl) ((Cells.ex eC32 h.ex) 0 _ rfl) kI, oW rfl rfl rfl rfl hb31 fun h => yl_fieldAddr fd80_0 rfl (h.g 3 rfl) kI, oW rfl rfl rfl rfl hb31 fun h => yl_load1 ty9 rfl (h.g 19 rfl) (((Box.ex hf28 h.ex).cell 0).trans rfl) kI, oW rfl rfl rfl rfl hb31 fun h => yl_sgtr (a := ((p_l.getD ((IntKind.wrap .i64 (x14 - 1)).toNat) d_Write).Key)) (b := p_w.Key) rfl (h.g 18 rfl) (h.g 20 rfl) kI, oI rfl fun h => yl_pick_t rfl (h.g 12 rfl) hb31 (h.g 21 rfl) kI, trivial⟩ ?_
   ·intro L66 w67 hi68
    have hE69 := hi68.ex
    have hE69z := Ex.size hE69
    exact OpR.want rfl rfl (hi68.g 12 rfl) hb31 (Yl.sameI (yl_indexAddr un34 ty80 rfl (hi68.g 13 rfl) (hi68.g 15 rfl) eA32 Bq Bq kI))
   ·intro fl115 fh116 L112 w113 hp114
    have hE117 := hp114.ex
    have hE117z := Ex.size hE117
    refine dn (CW.sub (hp114.ss [0, 3, 5, 22] rfl) (bcase (sLe ((p_l.getD ((IntKind.wrap .i64 (x14 - 1)).toNat) d_Write).Key) p_w.Key) (fun hb122 => ?_) (fun hb122 => ?_)))
    ·refine CW.cond_f rfl (not_t hb122) (CW.exit (tx (tx ?_)))
     have hB124 : B_s_l5PutW_0 p_l p_w (x14) = .brk (x14) := by simp only [B_s_l5PutW_0, hb31, hb122, cL]
     have hL123 : loopW (B_s_l5PutW_0 p_l p_w) ((((p_l.length : Int)).toNat) + 1) ((p_l.length : Int)) = .done (x14) := hI24.symm.trans (loopW.brk hk23 hB124)
     refine bx (tn (CW.seq (CW.seq ?_)))
     have q126 := Box.ex hf28 hE117
     refine drJ 13 [.int .i64 (x14), .bool (decide (0 < x14)), .bool (decide (0 < x14)), .slice A1 p_l.length c1, .int .i64 (x14), .int .i64 (IntKind.wrap .i64 (x14 - 1)), .pointer (some ⟨eb32, eo32 + ((IntKind.wrap .i64 (x14 - 1)).toNat) * 3, none⟩), .pointer (some ⟨eb32, eo32 + ((IntKind.wrap .i64 (x14 - 1)).toNat) * 3 + 0, none⟩), .string (bs ((p_l.getD ((IntKind.wrap .i64 (x14 - 1)).toNat) d_Write).Key)), .pointer (some ⟨b7, 0 + 0, none⟩), .string (bs (p_w.Key)), .bool (((p_l.getD ((IntKind.wrap .i64 (x14 - 1)).toNat) d_Write).Key) == p_w.Key), .bool (((p_l.getD ((IntKind.wrap .i64 (x14 - 1)).toNat) d_Write).Key) == p_w.Key)] Tryz.follows rfl ⟨oI rfl fun h => yM rfl (h.g 5 rfl) kI, oI rfl fun h => yl_gtr rfl (h.g 25 rfl) rfl kI, oI rfl fun h => yM rfl (h.g 26 rfl) kI, oW rfl rfl rfl rfl hb31 fun h => yM rfl (h.g 0 rfl) kI, oW rfl rfl rfl rfl hb31 fun h => yM rfl (h.g 5 rfl) kI, oW rfl rfl rfl rfl hb31 fun h => yl_sub rfl (h.g 29 rfl) rfl kI, ?_, oW rfl rfl rfl rfl hb31 fun h => yl_fieldAddr fd80_0 rfl (h.g 31 rfl) kI, oW rfl rfl rfl rfl hb31 fun h => yl_load1 ty9 rfl (h.g 32 rfl) ((Cells.ex (Cells.ex eC32 hE117) h.ex) 0 _ rfl) kI, oW rfl rfl rfl rfl hb31 fun h => yl_fieldAddr fd80_0 rfl (h.g 3 rfl) kI, oW rfl rfl rfl rfl hb31 fun h => yl_load1 ty9 rfl (h.g 34 rfl) (((Box.ex q126 h.ex).cell 0).trans rfl) kI, oW rfl rfl rfl rfl hb31 fun h => yl_seql (a := ((p_l.getD ((IntKind.wrap .i64 (x14 - 1)).toNat) d_Write).Key)) (b := p_w.Key) rfl (h.g 33 rfl) (h.g 35 rfl) kI, oI rfl fun h => yl_pick_t rfl (h.g 27 rfl) hb31 (h.g 36 rfl) kI, trivial⟩ ?_
     ·intro L160 w161 hi162
      have hE163 := hi162.ex
      have hE163z := Ex.size hE163
      exact OpR.want rfl rfl (hi162.g 27 rfl) hb31 (Yl.sameI (yl_indexAddr un34 ty80 rfl (hi162.g 28 rfl) (hi162.g 30 rfl) eA32 Bq Bq kI))
     ·intro fl209 fh210 L206 w207 hp208
      have hE211 := hp208.ex
      have hE211z := Ex.size hE211
      refine dn (CW.sub (hp208.ss [0, 3, 5, 37] rfl) (bcase (((p_l.getD ((IntKind.wrap .i64 (x14 - 1)).toNat) d_Write).Key) == p_w.Key) (fun hb216 => ?_) (fun hb216 => ?_)))
      ·refine CW.cond_t rfl hb216 (cR (sd rfl (yl_buildSlice (cs := []) un34 ty80 (by decide) rfl opvs_nil (by kernel_rfl) ?_)))
       intro b217 w218 hs219 hz220 hB221 hE222
       have hO223 : OwnL w218 b217 (b217 + 1) 80 3 (RF e_Write) (some ⟨b217, 0, none⟩) 0 0 ([] : List DWrite) := oB hB221
       refine sM rfl ?_
       obtain ⟨nw227, he228, hs229⟩ := RdS.src (RdS.ex gW (RdS.ex gW (RdS.ex gW hf27 hE117) hE211) hE222)
       have hol230 : p_l.length ≤ 2147483648 := o2.1
       refine sd rfl (yl_appendL (S := (fun _ => False)) (lo := b217) (hi := (b217 + 1)) (xs := ([] : List DWrite)) (ys := p_l) gW un34 ty80 rfl (nb rfl) rfl rfl rfl hO223 he228 hs229 rfl Bl Bl oM oM (fun _ h _ => False.elim h) oM ?_)
       intro A231 c232 w233 row234 hO235 hG236 hrg237
       have hG236z := hG236.size
       refine sA rfl (dn (cR (sM rfl (sM rfl (sd rfl (yl_sub rfl rfl rfl (sd rfl (yl_loadN ty80 rfl rfl ((Box.grown (Box.ex (Box.ex q126 hE211) hE222) hG236 (hW hrg237)).cells (n := 3) rfl) rfl ?_))))))))
       obtain ⟨eb242, eo242, _, eA242, _, ebl242, _, eR242, _⟩ := RdS.atD (OwnL.rd gW hO235) d_Write (i := (IntKind.wrap .i64 (x14 - 1)).toNat) Bq
       obtain rfl := eR242
       refine sd rfl (yl_indexAddr un34 ty80 rfl rfl rfl eA242 Bq Bq ?_)
       have hrg243 := OwnL.rng hO235 (i := (IntKind.wrap .i64 (x14 - 1)).toNat) Bq eb242 (by rw [eA242]; rfl)
       refine SeqR.u rfl rfl (yl_storeF (off := eo242) (i := (IntKind.wrap .i64 (x14 - 1)).toNat) (d := 0) (dx := d_Write) (x' := p_w) (vs := [.string (bs (p_w.Key)), .string (bs (p_w.Val)), .bool (p_w.Gone)]) ty80 rfl hO235 eA242 rfl rfl rfl rfl rfl Bq (nb rfl) rfl rfl ?_)
       intro w244 hB245 hO246
       have hO246z := hO246.size
       refine dn (cR (sM rfl (sA rfl (dn (CW.ret ?_)))))
       refine tr (rr rfl (.cons rfl .nil) ?_)
       have hfx248 := (hB245).1
       have hol249 : p_l.length ≤ 2147483648 := o2.1
       rw [show (s_l5PutW p_l p_w) = (((([] : List DWrite) ++ p_l).set ((IntKind.wrap .i64 (x14 - 1)).toNat) p_w)) by simp only [s_l5PutW, hb31, hb122, hb216, hL123, cL]]
       exact ⟨A231, c232, b217, w233.heap.size, (by first | rfl | (simp only [List.length_replicate, List.length_set]; done) | (simp only [List.length_replicate, List.length_set]; rfl) | (rw [hfx248] <;> rfl)), (OwnL.fix hB245), (okL.mk (xs := ((([] : List DWrite) ++ p_l).set ((IntKind.wrap .i64 (x14 - 1)).toNat) p_w)) Bl (okE.set (okE.append okE.nil (o2).2) o3)), (by (try dsimp only); first | omega | (simp only [List.length_append, List.length_take, List.length_drop, List.length_set, List.length_cons, List.length_nil]; omega)), oM, (Below.only (Below.grown (Ex.trans (Ex.trans (Ex.trans hf29 hE117) hE211) hE222) hG236 oM (hW hrg237)) hO246 oM)⟩
      ·refine CW.cond_f rfl hb216 (CW.skip (tn (cR (sd rfl (yl_buildSlice (cs := []) un34 ty80 (by decide) rfl opvs_nil (by kernel_rfl) ?_)))))
       intro b255 w256 hs257 hz258 hB259 hE260
       have hO261 : OwnL w256 b255 (b255 + 1) 80 3 (RF e_Write) (some ⟨b255, 0, none⟩) 0 0 ([] : List DWrite) := oB hB259
       refine sM rfl (sM rfl ?_)
       have q264 := RdS.ex gW (RdS.ex gW (RdS.ex gW hf27 hE117) hE211) hE260
       obtain ⟨A265, c266, he269, h268⟩ := RdS.sl (RdS.drop q264 (k := (x14).toNat) Bq)
       have hrc270 := (q264).2.1
       refine sd rfl (yl_sliceR (kh := .i64) (l := (x14).toNat) (h := p_l.length) un34 ty80 rfl rfl (.inr ⟨_, rfl, (toNat_op rfl Bq)⟩) (.inl ⟨rfl, rfl⟩) Bq Bq he269 ?_)
       obtain ⟨nw271, he272, hs273⟩ := RdS.src h268
       have hol274 : (p_l.drop ((x14).toNat)).length ≤ 2147483648 := (okL.drop o2 _).1
       refine sd rfl (yl_appendL (S := (fun _ => False)) (lo := b255) (hi := (b255 + 1)) (xs := ([] : List DWrite)) (ys := (p_l.drop ((x14).toNat))) gW un34 ty80 rfl (nb rfl) rfl rfl rfl hO261 he272 hs273 rfl Bl Bl oM oM (fun _ h _ => False.elim h) oM ?_)
       intro A275 c276 w277 row278 hO279 hG280 hrg281
       have hG280z := hG280.size
       refine sA rfl (dn (CW.seq ?_))
       have q285 := RdS.grown gW q264 hG280 (hV hrg281)
       obtain ⟨A286, c287, he290, h289⟩ := RdS.sl (RdS.drop (RdS.take q285 (k := (x14).toNat) Bq) (k := 0) Bq)
       have hrc291 := (q285).2.1
       refine CW.drawsG 9 (fun _ _ => False) (fun i G b => (i = 7 ∧ (G.fl 4) ≤ b ∧ b < (G.fh 4))) (vgetG [fun G v wq => ∃ A282, v = .slice A282 0 0 ∧ OwnL wq w277.heap.size w277.heap.size 80 3 (RF e_Write) A282 0 0 ([] : List DWrite), DetG (.slice A1 p_l.length c1), DetG (.int .i64 (x14)), fun G v wq => ∃ A286 c287, v = .slice A286 ((p_l.take ((x14).toNat)).length) c287 ∧ RdS wq (Iv 0 w.heap.size) (RF e_Write) 3 A286 (p_l.take ((x14).toNat)).length c287 (p_l.take ((x14).toNat)), fun G v wq => ∃ A293 c294, v = .slice A293 ((([] : List DWrite) ++ (p_l.take ((x14).toNat))).length) c294 ∧ (G.dn 7 = false → OwnL wq (G.fl 4) (G.fh 4) 80 3 (RF e_Write) A293 ((([] : List DWrite) ++ (p_l.take ((x14).toNat))).length) c294 (([] : List DWrite) ++ (p_l.take ((x14).toNat)))), DetG (.agg #[.string (bs (p_w.Key)), .string (bs (p_w.Val)), .bool (p_w.Gone)]), fun G v wq => ∃ A299, v = .slice A299 1 1 ∧ OwnL wq (G.fl 6) (G.fh 6) 80 3 (RF e_Write) A299 1 1 ([p_w] : List DWrite), fun G v wq => ∃ A302 c303, v = .slice A302 (((([] : List DWrite) ++ (p_l.take ((x14).toNat))) ++ ([p_w] : List DWrite)).length) c303 ∧ OwnL wq (G.fl 4) (G.fh 7) 80 3 (RF e_Write) A302 (((([] : List DWrite) ++ (p_l.take ((x14).toNat))) ++ ([p_w] : List DWrite)).length) c303 ((([] : List DWrite) ++ (p_l.take ((x14).toNat))) ++ ([p_w] : List DWrite)), DetG (.slice A275 ((([] : List DWrite) ++ (p_l.drop ((x14).toNat))).length) c276)]) Tryz.follows rfl rfl rfl rfl rfl rfl (fun _ _ _ _ _ h => h) (fun i G w lo hi b K hn hh hp => by exact (match hp with | ⟨e, q1, q2⟩ => by subst e; exact .inr (by have := K.rng 4 (hh 4 rfl); omega))) (vgetG_kept ⟨(by rintro i G v w w' K hn hh hj ⟨A282, hv, h0⟩ e; exact ⟨A282, hv, (by exact OwnL.chg gW h0 e (fun b hb hp => by obtain ⟨rfl, q1, q2⟩ := hp; have := K.rng 4 (hh 4 rfl); skip; omega))⟩), (KeptG.det _), (KeptG.det _), (by rintro i G v w w' K hn hh hj ⟨A286, c287, hv, h0⟩ e; exact ⟨A286, c287, hv, (by exact RdS.chg gW h0 e (fun b hb hp hS => by have hS1 := hS.1; have hS2 := hS.2; obtain ⟨rfl, q1, q2⟩ := hp; have := K.rng 4 (hh 4 rfl); skip; omega))⟩), (by rintro i G v w w' K hn hh hj ⟨A293, c294, hv, h0⟩ e; have d4 : G.dn 4 = true := hj; have u4 := Gh.ufl (lo := w.heap.size) (hi := w'.heap.size) d4 hn; have t4 := Gh.ufh (lo := w.heap.size) (hi := w'.heap.size) d4 hn; exact ⟨A293, c294, hv, (by intro hd; simp only [u4, t4]; exact OwnL.chg gW (h0 (Gh.off hd).2) e (fun b hb hp => by obtain ⟨rfl, q1, q2⟩ := hp; exact absurd rfl (Gh.off hd).1))⟩), (KeptG.det _), (by rintro i G v w w' K hn hh hj ⟨A299, hv, h0⟩ e; have d6 : G.dn 6 = true := hj; have u6 := Gh.ufl (lo := w.heap.size) (hi := w'.heap.size) d6 hn; have t6 := Gh.ufh (lo := w.heap.size) (hi := w'.heap.size) d6 hn; exact ⟨A299, hv, (by simp only [u6, t6]; exact OwnL.chg gW h0 e (fun b hb hp => by obtain ⟨rfl, q1, q2⟩ := hp; have := K.rng 4 (hh 4 rfl); have := K.rng 6 d6; have := K.sep 4 6 (hh 4 rfl) d6 rfl; skip; omega))⟩), (by rintro i G v w w' K hn hh hj ⟨A302, c303, hv, h0⟩ e; have d4 : G.dn 4 = true := K.cl 7 4 hj rfl; have u4 := Gh.ufl (lo := w.heap.size) (hi := w'.heap.size) d4 hn; have t4 := Gh.ufh (lo := w.heap.size) (hi := w'.heap.size) d4 hn; have d7 : G.dn 7 = true := hj; have u7 := Gh.ufl (lo := w.heap.size) (hi := w'.heap.size) d7 hn; have t7 := Gh.ufh (lo := w.heap.size) (hi := w'.heap.size) d7 hn; exact ⟨A302, c303, hv, (by simp only [u4, t4, u7, t7]; exact OwnL.chg gW h0 e (fun b hb hp => by obtain ⟨rfl, q1, q2⟩ := hp; rw [hj] at hn; cases hn))⟩), (KeptG.det _), trivial⟩) ⟨?_, ?_, ?_, ?_, ?_, ?_, ?_, ?_, ?_, trivial⟩ ?_
       ·intro L306 w307 G305 hgk308
        have hE309 := hgk308.st.ex.ex (fun b h => h.elim (fun h => h.elim) (fun h => h))
        have hE309z := Ex.size hE309
        refine OpR.op' rfl (yl_buildSlice (cs := []) un34 ty80 (by decide) rfl opvs_nil (by kernel_rfl) ?_)
        intro b310 w311 hs312 hz313 hB314 hE315
        have hO316 : OwnL w311 b310 (b310 + 1) 80 3 (RF e_Write) (some ⟨b310, 0, none⟩) 0 0 ([] : List DWrite) := oB hB314
        exact ⟨Chg.of_ex hE315, _, rfl, OwnL.empty _ _ _ _ _ _ _⟩
       ·intro L318 w319 G317 hgk320
        have hE321 := hgk320.st.ex.ex (fun b h => h.elim (fun h => h.elim) (fun h => h))
        have hE321z := Ex.size hE321
        exact OpR.op' rfl (Yl.sameG (yM rfl (hgk320.old 0 _ rfl rfl) kI))
       ·intro L324 w325 G323 hgk326
        have hE327 := hgk326.st.ex.ex (fun b h => h.elim (fun h => h.elim) (fun h => h))
        have hE327z := Ex.size hE327
        exact OpR.op' rfl (Yl.sameG (yM rfl (hgk326.old 5 _ rfl rfl) kI))
       ·intro L330 w331 G329 hgk332
        have hE333 := hgk332.st.ex.ex (fun b h => h.elim (fun h => h.elim) (fun h => h))
        have hE333z := Ex.size hE333
        obtain ⟨_, hx334, rfl⟩ := hgk332.val 1 53 rfl rfl
        obtain ⟨_, hx335, rfl⟩ := hgk332.val 2 54 rfl rfl
        have q336 := RdS.ex gW q285 hE333
        obtain ⟨A337, c338, he341, h340⟩ := RdS.sl (RdS.drop (RdS.take q336 (k := (x14).toNat) Bq) (k := 0) Bq)
        have hrc342 := (q336).2.1
        exact OpR.op' rfl (Yl.sameG (yl_sliceR (kl := .i64) (l := 0) (h := (x14).toNat) un34 ty80 rfl hx334 (.inl ⟨rfl, rfl⟩) (.inr ⟨_, rfl, (toNat_op hx335 Bq)⟩) Bq Bq he341 ⟨fun _ _ => ⟨A337, c338, rfl, h340⟩, rfl⟩))
       ·intro L344 w345 G343 hgk346
        have hE347 := hgk346.st.ex.ex (fun b h => h.elim (fun h => h.elim) (fun h => h))
        have hE347z := Ex.size hE347
        obtain ⟨_, hx348, A282_349, rfl, h350⟩ := hgk346.val 0 52 rfl rfl
        obtain ⟨_, hx351, A286_352, c287_353, rfl, h354⟩ := hgk346.val 3 55 rfl rfl
        have hr355 := hgk346.st.rng 0 (hgk346.has 0 rfl)
        have hr356 := hgk346.st.rng 3 (hgk346.has 3 rfl)
        have hsp357 := hgk346.st.sep 0 3 (hgk346.has 0 rfl) (hgk346.has 3 rfl) rfl
        obtain ⟨nw358, he359, hs360⟩ := RdS.src h354
        have hol361 : (p_l.take ((x14).toNat)).length ≤ 2147483648 := (okL.take o2 _).1
        refine OpR.op' rfl (yl_appendL (S := (fun _ => False)) (lo := w345.heap.size) (hi := w345.heap.size) (xs := ([] : List DWrite)) (ys := (p_l.take ((x14).toNat))) gW un34 ty80 rfl (nb rfl) rfl hx348 hx351 (OwnL.empty w345 w345.heap.size w345.heap.size 80 3 (RF e_Write) A282_349) he359 hs360 rfl Bl Bl oM oM (fun _ h _ => False.elim h) oM ?_)
        intro A362 c363 w364 row365 hO366 hG367 hrg368
        have hG367z := hG367.size
        exact ⟨Chg.of_grown hG367 (fun k hk => by have hq := hrg368 k hk; exact absurd hq oM), A362, c363, rfl, fun _ => OwnL.more (lo' := w345.heap.size) (hi' := w364.heap.size) hO366 oM oM⟩
       ·intro L370 w371 G369 hgk372
        have hE373 := hgk372.st.ex.ex (fun b h => h.elim (fun h => h.elim) (fun h => h))
        have hE373z := Ex.size hE373
        exact OpR.op' rfl (Yl.sameG (yl_loadN ty80 rfl (hgk372.old 3 _ rfl rfl) ((Box.ex (Box.grown (Box.ex (Box.ex q126 hE211) hE260) hG280 (hW hrg281)) hE373).cells (n := 3) rfl) rfl kI))
       ·intro L377 w378 G376 hgk379
        have hE380 := hgk379.st.ex.ex (fun b h => h.elim (fun h => h.elim) (fun h => h))
        have hE380z := Ex.size hE380
        obtain ⟨_, hx381, rfl⟩ := hgk379.val 5 57 rfl rfl
        refine OpR.op' rfl (yl_buildSlice (cs := [.string (bs (p_w.Key)), .string (bs (p_w.Val)), .bool (p_w.Gone)]) un34 ty80 (by decide) rfl (oc hx381 oz) (by kernel_rfl) ?_)
        intro b382 w383 hs384 hz385 hB386 hE387
        have hO388 : OwnL w383 b382 (b382 + 1) 80 3 (RF e_Write) (some ⟨b382, 0, none⟩) 1 1 ([p_w] : List DWrite) := OwnL.of_box (S := fun _ => False) hB386 (Nat.le_refl _) (Nat.lt_succ_self _) (EncL.cons (c := [.string (bs (p_w.Key)), .string (bs (p_w.Val)), .bool (p_w.Gone)]) rfl rfl EncL.nil) (nb rfl) (fun h => h) (fun _ h => False.elim h)
        exact ⟨Chg.of_ex hE387, (some ⟨b382, 0, none⟩), rfl, OwnL.more (lo' := w378.heap.size) (hi' := w383.heap.size) hO388 oM oM⟩
       ·intro L390 w391 G389 hgk392
        have hE393 := hgk392.st.ex.ex (fun b h => h.elim (fun h => h.elim) (fun h => h))
        have hE393z := Ex.size hE393
        obtain ⟨_, hx394, A293_395, c294_396, rfl, h397⟩ := hgk392.val 4 56 rfl rfl
        have h397 := h397 hgk392.new
        obtain ⟨_, hx398, A299_399, rfl, h400⟩ := hgk392.val 6 58 rfl rfl
        have hr401 := hgk392.st.rng 4 (hgk392.has 4 rfl)
        have hr402 := hgk392.st.rng 6 (hgk392.has 6 rfl)
        have hsp403 := hgk392.st.sep 4 6 (hgk392.has 4 rfl) (hgk392.has 6 rfl) rfl
        have q404 := OwnL.rd gW h400
        obtain ⟨nw405, he406, hs407⟩ := RdS.src q404
        have hol408 : (p_l.take ((x14).toNat)).length ≤ 2147483648 := (okL.take o2 _).1
        refine OpR.op' rfl (yl_appendL (S := (fun _ => False)) (lo := (G389.fl 4)) (hi := (G389.fh 4)) (xs := (([] : List DWrite) ++ (p_l.take ((x14).toNat)))) (ys := ([p_w] : List DWrite)) gW un34 ty80 rfl (nb rfl) rfl hx394 hx398 h397 he406 hs407 (RdS.len q404) Bl Bl oM oM (fun _ h _ => False.elim h) oM ?_)
        intro A409 c410 w411 row412 hO413 hG414 hrg415
        have hG414z := hG414.size
        exact ⟨Chg.of_grown hG414 (fun k hk => by have hq := hrg415 k hk; exact (⟨rfl, oM, by omega⟩)), A409, c410, rfl, OwnL.more (lo' := (G389.fl 4)) (hi' := w411.heap.size) hO413 oM oM⟩
       ·intro L417 w418 G416 hgk419
        have hE420 := hgk419.st.ex.ex (fun b h => h.elim (fun h => h.elim) (fun h => h))
        have hE420z := Ex.size hE420
        exact OpR.op' rfl (Yl.sameG (yM rfl (hgk419.old 7 _ rfl rfl) kI))
       ·intro G422 L423 w424 hgp425
        have hE426 := hgp425.st.ex.ex (fun b h => h.elim (fun h => h.elim) (fun h => h))
        have hE426z := Ex.size hE426
        obtain ⟨_, hx427, A282_428, rfl, h429⟩ := hgp425.val 0 52 rfl rfl
        obtain ⟨_, hx430, A286_431, c287_432, rfl, h433⟩ := hgp425.val 3 55 rfl rfl
        obtain ⟨_, hx434, A299_435, rfl, h436⟩ := hgp425.val 6 58 rfl rfl
        obtain ⟨_, hx437, A302_438, c303_439, rfl, h440⟩ := hgp425.val 7 59 rfl rfl
        obtain ⟨_, hx441, rfl⟩ := hgp425.val 8 60 rfl rfl
        have hr442 := hgp425.st.rng 0 (hgp425.has 0 rfl)
        have hr443 := hgp425.st.rng 3 (hgp425.has 3 rfl)
        have hr444 := hgp425.st.rng 4 (hgp425.has 4 rfl)
        have hr445 := hgp425.st.rng 6 (hgp425.has 6 rfl)
        have hr446 := hgp425.st.rng 7 (hgp425.has 7 rfl)
        have hsp447 := hgp425.st.sep 0 3 (hgp425.has 0 rfl) (hgp425.has 3 rfl) rfl
        have hsp448 := hgp425.st.ord 4 0 (hgp425.has 4 rfl) rfl
        have hsp449 := hgp425.st.sep 0 6 (hgp425.has 0 rfl) (hgp425.has 6 rfl) rfl
        have hsp450 := hgp425.st.ord 7 0 (hgp425.has 7 rfl) rfl
        have hsp451 := hgp425.st.ord 4 3 (hgp425.has 4 rfl) rfl
        have hsp452 := hgp425.st.sep 3 6 (hgp425.has 3 rfl) (hgp425.has 6 rfl) rfl
        have hsp453 := hgp425.st.ord 7 3 (hgp425.has 7 rfl) rfl
        have hsp454 := hgp425.st.sep 4 6 (hgp425.has 4 rfl) (hgp425.has 6 rfl) rfl
        have hsp455 := hgp425.st.ord 7 4 (hgp425.has 7 rfl) rfl
        have hsp456 := hgp425.st.ord 7 6 (hgp425.has 7 rfl) rfl
        obtain ⟨nw459, he460, hs461⟩ := RdS.src (OwnL.rd gW (OwnL.ex gW hO279 hE426))
        have hol462 : (p_l.take ((x14).toNat)).length ≤ 2147483648 := (okL.take o2 _).1
        have hol463 : (p_l.drop ((x14).toNat)).length ≤ 2147483648 := (okL.drop o2 _).1
        refine sd rfl (yl_appendL (S := (fun _ => False)) (lo := (G422.fl 4)) (hi := (G422.fh 7)) (xs := ((([] : List DWrite) ++ (p_l.take ((x14).toNat))) ++ ([p_w] : List DWrite))) (ys := (([] : List DWrite) ++ (p_l.drop ((x14).toNat)))) gW un34 ty80 rfl (nb rfl) rfl hx437 hx441 h440 he460 hs461 rfl Bl Bl oM oM (fun _ h _ => False.elim h) oM ?_)
        intro A464 c465 w466 row467 hO468 hG469 hrg470
        have hG469z := hG469.size
        refine sA rfl (dn (CW.sub (sC 4 rfl (Sub.nil _)) (CW.ret (rr rfl (.cons rfl .nil) ?_))))
        have hol472 : (p_l.take ((x14).toNat)).length ≤ 2147483648 := (okL.take o2 _).1
        have hol473 : (p_l.drop ((x14).toNat)).length ≤ 2147483648 := (okL.drop o2 _).1
        rw [show (s_l5PutW p_l p_w) = ((((([] : List DWrite) ++ (p_l.take ((x14).toNat))) ++ ([p_w] : List DWrite)) ++ (([] : List DWrite) ++ (p_l.drop ((x14).toNat))))) by simp only [s_l5PutW, hb31, hb122, hb216, hL123, cL]]
        exact ⟨A464, c465, (G422.fl 4), w466.heap.size, rfl, hO468, (okL.mk (xs := (((([] : List DWrite) ++ (p_l.take ((x14).toNat))) ++ ([p_w] : List DWrite)) ++ (([] : List DWrite) ++ (p_l.drop ((x14).toNat))))) Bl (okE.append (okE.append (okE.append okE.nil ((okL.take o2 _)).2) ((okL.mk (nb rfl) (okE.cons o3 okE.nil))).2) (okE.append okE.nil ((okL.drop o2 _)).2))), (by (try dsimp only); first | omega | (simp only [List.length_append, List.length_take, List.length_drop, List.length_set, List.length_cons, List.length_nil]; omega)), oM, (Below.grown (Ex.trans (Below.grown (Ex.trans (Ex.trans (Ex.trans hf29 hE117) hE211) hE260) hG280 oM (hW hrg281)) hE426) hG469 oM (hW hrg470))⟩
    ·refine CW.cond_t rfl (not_f hb122) (CW.skip (tn (CW.block (CW.region (sM rfl (sd rfl (yl_sub rfl rfl rfl (sA rfl (SeqR.done ?_)))))))))
     refine bn (tn ?_)
     have hB480 : B_s_l5PutW_0 p_l p_w (x14) = .cont (IntKind.wrap .i64 (x14 - 1)) := by simp only [B_s_l5PutW_0, hb31, hb122, cL]
     have hmu484 : ((IntKind.wrap .i64 (x14 - 1)).toNat) < ((x14).toNat) := by first | omega | assumption | (simp only [wI] at *; omega)
     exact ⟨m20 - 1, oM, IntKind.wrap .i64 (x14 - 1), oM, oM, (sR rfl), (RdS.ex gW hf27 hE117), (Box.ex hf28 hE117), (Ex.trans hf29 hE117), Bo, (loopW.cont hk23 hB480).symm.trans hI24⟩
  ·refine drJ 13 [.int .i64 (x14), .bool (decide (0 < x14)), .bool (decide (0 < x14)), undef, undef, undef, undef, undef, undef, undef, undef, undef, .bool (false)] Tryz.follows rfl ⟨oI rfl fun h => yM rfl (h.g 5 rfl) kI, oI rfl fun h => yl_gtr rfl (h.g 10 rfl) rfl kI, oI rfl fun h => yM rfl (h.g 11 rfl) kI, oS rfl rfl rfl rfl rfl hb31, oS rfl rfl rfl rfl rfl hb31, oS rfl rfl rfl rfl rfl hb31, oS rfl rfl rfl rfl rfl hb31, oS rfl rfl rfl rfl rfl hb31, oS rfl rfl rfl rfl rfl hb31, oS rfl rfl rfl rfl rfl hb31, oS rfl rfl rfl rfl rfl hb31, oS rfl rfl rfl rfl rfl hb31, oI rfl fun h => yl_pick_f rfl (h.g 12 rfl) hb31 rfl kI, trivial⟩ ?_
   ·intro fl554 fh555 L551 w552 hp553
    have hE556 := hp553.ex
    have hE556z := Ex.size hE556
    refine dn (CW.sub (hp553.ss [0, 3, 5, 22] rfl) (CW.cond_f rfl rfl (CW.exit (tx (tx ?_)))))
    have hB562 : B_s_l5PutW_0 p_l p_w (x14) = .brk (x14) := by simp only [B_s_l5PutW_0, hb31, cL]
    have hL561 : loopW (B_s_l5PutW_0 p_l p_w) ((((p_l.length : Int)).toNat) + 1) ((p_l.length : Int)) = .done (x14) := hI24.symm.trans (loopW.brk hk23 hB562)
    refine bx (tn (CW.seq (CW.seq (drJ 13 [.int .i64 (x14), .bool (decide (0 < x14)), .bool (decide (0 < x14)), undef, undef, undef, undef, undef, undef, undef, undef, undef, .bool (false)] Tryz.follows rfl ⟨?_, ?_, ?_, ?_, ?_, ?_, ?_, ?_, ?_, ?_, ?_, ?_, ?_, trivial⟩ ?_))))
    ·exact oI rfl fun h => yM rfl (h.g 5 rfl) kI
    ·exact oI rfl fun h => yl_gtr rfl (h.g 25 rfl) rfl kI
    ·exact oI rfl fun h => yM rfl (h.g 26 rfl) kI
    ·exact oS rfl rfl rfl rfl rfl hb31
    ·exact oS rfl rfl rfl rfl rfl hb31
    ·exact oS rfl rfl rfl rfl rfl hb31
    ·exact oS rfl rfl rfl rfl rfl hb31
    ·exact oS rfl rfl rfl rfl rfl hb31
    ·exact oS rfl rfl rfl rfl rfl hb31
    ·exact oS rfl rfl rfl rfl rfl hb31
    ·exact oS rfl rfl rfl rfl rfl hb31
    ·exact oS rfl rfl rfl rfl rfl hb31
    ·exact oI rfl fun h => yl_pick_f rfl (h.g 27 rfl) hb31 rfl kI
    ·intro fl632 fh633 L629 w630 hp631
     have hE634 := hp631.ex
     have hE634z := Ex.size hE634
     refine dn (CW.sub (hp631.ss [0, 3, 5, 37] rfl) (CW.cond_f rfl rfl (CW.skip (tn (cR (sd rfl (yl_buildSlice (cs := []) un34 ty80 (by decide) rfl opvs_nil (by kernel_rfl) ?_)))))))
     intro b639 w640 hs641 hz642 hB643 hE644
     have hO645 : OwnL w640 b639 (b639 + 1) 80 3 (RF e_Write) (some ⟨b639, 0, none⟩) 0 0 ([] : List DWrite) := oB hB643
     refine sM rfl (sM rfl ?_)
     have q648 := RdS.ex gW (RdS.ex gW (RdS.ex gW hf27 hE556) hE634) hE644
     obtain ⟨A649, c650, he653, h652⟩ := RdS.sl (RdS.drop q648 (k := (x14).toNat) Bq)
     have hrc654 := (q648).2.1
     refine sd rfl (yl_sliceR (kh := .i64) (l := (x14).toNat) (h := p_l.length) un34 ty80 rfl rfl (.inr ⟨_, rfl, (toNat_op rfl Bq)⟩) (.inl ⟨rfl, rfl⟩) Bq Bq he653 ?_)
     obtain ⟨nw655, he656, hs657⟩ := RdS.src h652
     have hol658 : (p_l.drop ((x14).toNat)).length ≤ 2147483648 := (okL.drop o2 _).1
     refine sd rfl (yl_appendL (S := (fun _ => False)) (lo := b639) (hi := (b639 + 1)) (xs := ([] : List DWrite)) (ys := (p_l.drop ((x14).toNat))) gW un34 ty80 rfl (nb rfl) rfl rfl rfl hO645 he656 hs657 rfl Bl Bl oM oM (fun _ h _ => False.elim h) oM ?_)
     intro A659 c660 w661 row662 hO663 hG664 hrg665
     have hG664z := hG664.size
     refine sA rfl (dn (CW.seq ?_))
     have q669 := RdS.grown gW q648 hG664 (hV hrg665)
     obtain ⟨A670, c671, he674, h673⟩ := RdS.sl (RdS.drop (RdS.take q669 (k := (x14).toNat) Bq) (k := 0) Bq)
     have hrc675 := (q669).2.1
     refine CW.drawsG 9 (fun _ _ => False) (fun i G b => (i = 7 ∧ (G.fl 4) ≤ b ∧ b < (G.fh 4))) (vgetG [fun G v wq => ∃ A666, v = .slice A666 0 0 ∧ OwnL wq w661.heap.size w661.heap.size 80 3 (RF e_Write) A666 0 0 ([] : List DWrite), DetG (.slice A1 p_l.length c1), DetG (.int .i64 (x14)), fun G v wq => ∃ A670 c671, v = .slice A670 ((p_l.take ((x14).toNat)).length) c671 ∧ RdS wq (Iv 0 w.heap.size) (RF e_Write) 3 A670 (p_l.take ((x14).toNat)).length c671 (p_l.take ((x14).toNat)), fun G v wq => ∃ A677 c678, v = .slice A677 ((([] : List DWrite) ++ (p_l.take ((x14).toNat))).length) c678 ∧ (G.dn 7 = false → OwnL wq (G.fl 4) (G.fh 4) 80 3 (RF e_Write) A677 ((([] : List DWrite) ++ (p_l.take ((x14).toNat))).length) c678 (([] : List DWrite) ++ (p_l.take ((x14).toNat)))), DetG (.agg #[.string (bs (p_w.Key)), .string (bs (p_w.Val)), .bool (p_w.Gone)]), fun G v wq => ∃ A684, v = .slice A684 1 1 ∧ OwnL wq (G.fl 6) (G.fh 6) 80 3 (RF e_Write) A684 1 1 ([p_w] : List DWrite), fun G v wq => ∃ A687 c688, v = .slice A687 (((([] : List DWrite) ++ (p_l.take ((x14).toNat))) ++ ([p_w] : List DWrite)).length) c688 ∧ OwnL wq (G.fl 4) (G.fh 7) 80 3 (RF e_Write) A687 (((([] : List DWrite) ++ (p_l.take ((x14).toNat))) ++ ([p_w] : List DWrite)).length) c688 ((([] : List DWrite) ++ (p_l.take ((x14).toNat))) ++ ([p_w] : List DWrite)), DetG (.slice A659 ((([] : List DWrite) ++ (p_l.drop ((x14).toNat))).length) c660)]) Tryz.follows rfl rfl rfl rfl rfl rfl (fun _ _ _ _ _ h => h) (fun i G w lo hi b K hn hh hp => by exact (match hp with | ⟨e, q1, q2⟩ => by subst e; exact .inr (by have := K.rng 4 (hh 4 rfl); omega))) (vgetG_kept ⟨(by rintro i G v w w' K hn hh hj ⟨A666, hv, h0⟩ e; exact ⟨A666, hv, (by exact OwnL.chg gW h0 e (fun b hb hp => by obtain ⟨rfl, q1, q2⟩ := hp; have := K.rng 4 (hh 4 rfl); skip; omega))⟩), (KeptG.det _), (KeptG.det _), (by rintro i G v w w' K hn hh hj ⟨A670, c671, hv, h0⟩ e; exact ⟨A670, c671, hv, (by exact RdS.chg gW h0 e (fun b hb hp hS => by have hS1 := hS.1; have hS2 := hS.2; obtain ⟨rfl, q1, q2⟩ := hp; have := K.rng 4 (hh 4 rfl); skip; omega))⟩), (by rintro i G v w w' K hn hh hj ⟨A677, c678, hv, h0⟩ e; have d4 : G.dn 4 = true := hj; have u4 := Gh.ufl (lo := w.heap.size) (hi := w'.heap.size) d4 hn; have t4 := Gh.ufh (lo := w.heap.size) (hi := w'.heap.size) d4 hn; exact ⟨A677, c678, hv, (by intro hd; simp only [u4, t4]; exact OwnL.chg gW (h0 (Gh.off hd).2) e (fun b hb hp => by obtain ⟨rfl, q1, q2⟩ := hp; exact absurd rfl (Gh.off hd).1))⟩), (KeptG.det _), (by rintro i G v w w' K hn hh hj ⟨A684, hv, h0⟩ e; have d6 : G.dn 6 = true := hj; have u6 := Gh.ufl (lo := w.heap.size) (hi := w'.heap.size) d6 hn; have t6 := Gh.ufh (lo := w.heap.size) (hi := w'.heap.size) d6 hn; exact ⟨A684, hv, (by simp only [u6, t6]; exact OwnL.chg gW h0 e (fun b hb hp => by obtain ⟨rfl, q1, q2⟩ := hp; have := K.rng 4 (hh 4 rfl); have := K.rng 6 d6; have := K.sep 4 6 (hh 4 rfl) d6 rfl; skip; omega))⟩), (by rintro i G v w w' K hn hh hj ⟨A687, c688, hv, h0⟩ e; have d4 : G.dn 4 = true := K.cl 7 4 hj rfl; have u4 := Gh.ufl (lo := w.heap.size) (hi := w'.heap.size) d4 hn; have t4 := Gh.ufh (lo := w.heap.size) (hi := w'.heap.size) d4 hn; have d7 : G.dn 7 = true := hj; have u7 := Gh.ufl (lo := w.heap.size) (hi := w'.heap.size) d7 hn; have t7 := Gh.ufh (lo := w.heap.size) (hi := w'.heap.size) d7 hn; exact ⟨A687, c688, hv, (by simp only [u4, t4, u7, t7]; exact OwnL.chg gW h0 e (fun b hb hp => by obtain ⟨rfl, q1, q2⟩ := hp; rw [hj] at hn; cases hn))⟩), (KeptG.det _), trivial⟩) ⟨?_, ?_, ?_, ?_, ?_, ?_, ?_, ?_, ?_, trivial⟩ ?_
     ·intro L691 w692 G690 hgk693
      have hE694 := hgk693.st.ex.ex (fun b h => h.elim (fun h => h.elim) (fun h => h))
      have hE694z := Ex.size hE694
      refine OpR.op' rfl (yl_buildSlice (cs := []) un34 ty80 (by decide) rfl opvs_nil (by kernel_rfl) ?_)
      intro b695 w696 hs697 hz698 hB699 hE700
      have hO701 : OwnL w696 b695 (b695 + 1) 80 3 (RF e_Write) (some ⟨b695, 0, none⟩) 0 0 ([] : List DWrite) := oB hB699
      exact ⟨Chg.of_ex hE700, _, rfl, OwnL.empty _ _ _ _ _ _ _⟩
     ·intro L703 w704 G702 hgk705
      have hE706 := hgk705.st.ex.ex (fun b h => h.elim (fun h => h.elim) (fun h => h))
      have hE706z := Ex.size hE706
      exact OpR.op' rfl (Yl.sameG (yM rfl (hgk705.old 0 _ rfl rfl) kI))
     ·intro L709 w710 G708 hgk711
      have hE712 := hgk711.st.ex.ex (fun b h => h.elim (fun h => h.elim) (fun h => h))
      have hE712z := Ex.size hE712
      exact OpR.op' rfl (Yl.sameG (yM rfl (hgk711.old 5 _ rfl rfl) kI))
     ·intro L715 w716 G714 hgk717
      have hE718 := hgk717.st.ex.ex (fun b h => h.elim (fun h => h.elim) (fun h => h))
      have hE718z := Ex.size hE718
      obtain ⟨_, hx719, rfl⟩ := hgk717.val 1 53 rfl rfl
      obtain ⟨_, hx720, rfl⟩ := hgk717.val 2 54 rfl rfl
      have q721 := RdS.ex gW q669 hE718
      obtain ⟨A722, c723, he726, h725⟩ := RdS.sl (RdS.drop (RdS.take q721 (k := (x14).toNat) Bq) (k := 0) Bq)
      have hrc727 := (q721).2.1
      exact OpR.op' rfl (Yl.sameG (yl_sliceR (kl := .i64) (l := 0) (h := (x14).toNat) un34 ty80 rfl hx719 (.inl ⟨rfl, rfl⟩) (.inr ⟨_, rfl, (toNat_op hx720 Bq)⟩) Bq Bq he726 ⟨fun _ _ => ⟨A722, c723, rfl, h725⟩, rfl⟩))
     ·intro L729 w730 G728 hgk731
      have hE732 := hgk731.st.ex.ex (fun b h => h.elim (fun h => h.elim) (fun h => h))
      have hE732z := Ex.size hE732
      obtain ⟨_, hx733, A666_734, rfl, h735⟩ := hgk731.val 0 52 rfl rfl
      obtain ⟨_, hx736, A670_737, c671_738, rfl, h739⟩ := hgk731.val 3 55 rfl rfl
      have hr740 := hgk731.st.rng 0 (hgk731.has 0 rfl)
      have hr741 := hgk731.st.rng 3 (hgk731.has 3 rfl)
      have hsp742 := hgk731.st.sep 0 3 (hgk731.has 0 rfl) (hgk731.has 3 rfl) rfl
      obtain ⟨nw743, he744, hs745⟩ := RdS.src h739
      have hol746 : (p_l.take ((x14).toNat)).length ≤ 2147483648 := (okL.take o2 _).1
      refine OpR.op' rfl (yl_appendL (S := (fun _ => False)) (lo := w730.heap.size) (hi := w730.heap.size) (xs := ([] : List DWrite)) (ys := (p_l.take ((x14).toNat))) gW un34 ty80 rfl (nb rfl) rfl hx733 hx736 (OwnL.empty w730 w730.heap.size w730.heap.size 80 3 (RF e_Write) A666_734) he744 hs745 rfl Bl Bl oM oM (fun _ h _ => False.elim h) oM ?_)
      intro A747 c748 w749 row750 hO751 hG752 hrg753
      have hG752z := hG752.size
      exact ⟨Chg.of_grown hG752 (fun k hk => by have hq := hrg753 k hk; exact absurd hq oM), A747, c748, rfl, fun _ => OwnL.more (lo' := w730.heap.size) (hi' := w749.heap.size) hO751 oM oM⟩
     ·intro L755 w756 G754 hgk757
      have hE758 := hgk757.st.ex.ex (fun b h => h.elim (fun h => h.elim) (fun h => h))
      have hE758z := Ex.size hE758
      exact OpR.op' rfl (Yl.sameG (yl_loadN ty80 rfl (hgk757.old 3 _ rfl rfl) ((Box.ex (Box.grown (Box.ex (Box.ex (Box.ex hf28 hE556) hE634) hE644) hG664 (hW hrg665)) hE758).cells (n := 3) rfl) rfl kI))
     ·intro L762 w763 G761 hgk764
      have hE765 := hgk764.st.ex.ex (fun b h => h.elim (fun h => h.elim) (fun h => h))
      have hE765z := Ex.size hE765
      obtain ⟨_, hx766, rfl⟩ := hgk764.val 5 57 rfl rfl
      refine OpR.op' rfl (yl_buildSlice (cs := [.string (bs (p_w.Key)), .string (bs (p_w.Val)), .bool (p_w.Gone)]) un34 ty80 (by decide) rfl (oc hx766 oz) (by kernel_rfl) ?_)
      intro b767 w768 hs769 hz770 hB771 hE772
      have hO773 : OwnL w768 b767 (b767 + 1) 80 3 (RF e_Write) (some ⟨b767, 0, none⟩) 1 1 ([p_w] : List DWrite) := OwnL.of_box (S := fun _ => False) hB771 (Nat.le_refl _) (Nat.lt_succ_self _) (EncL.cons (c := [.string (bs (p_w.Key)), .string (bs (p_w.Val)), .bool (p_w.Gone)]) rfl rfl EncL.nil) (nb rfl) (fun h => h) (fun _ h => False.elim h)
      exact ⟨Chg.of_ex hE772, (some ⟨b767, 0, none⟩), rfl, OwnL.more (lo' := w763.heap.size) (hi' := w768.heap.size) hO773 oM oM⟩
     ·intro L775 w776 G774 hgk777
      have hE778 := hgk777.st.ex.ex (fun b h => h.elim (fun h => h.elim) (fun h => h))
      have hE778z := Ex.size hE778
      obtain ⟨_, hx779, A677_780, c678_781, rfl, h782⟩ := hgk777.val 4 56 rfl rfl
      have h782 := h782 hgk777.new
      obtain ⟨_, hx783, A684_784, rfl, h785⟩ := hgk777.val 6 58 rfl rfl
      have hr786 := hgk777.st.rng 4 (hgk777.has 4 rfl)
      have hr787 := hgk777.st.rng 6 (hgk777.has 6 rfl)
      have hsp788 := hgk777.st.sep 4 6 (hgk777.has 4 rfl) (hgk777.has 6 rfl) rfl
      have q789 := OwnL.rd gW h785
      obtain ⟨nw790, he791, hs792⟩ := RdS.src q789
      have hol793 : (p_l.take ((x14).toNat)).length ≤ 2147483648 := (okL.take o2 _).1
      refine OpR.op' rfl (yl_appendL (S := (fun _ => False)) (lo := (G774.fl 4)) (hi := (G774.fh 4)) (xs := (([] : List DWrite) ++ (p_l.take ((x14).toNat)))) (ys := ([p_w] : List DWrite)) gW un34 ty80 rfl (nb rfl) rfl hx779 hx783 h782 he791 hs792 (RdS.len q789) Bl Bl oM oM (fun _ h _ => False.elim h) oM ?_)
      intro A794 c795 w796 row797 hO798 hG799 hrg800
      have hG799z := hG799.size
      exact ⟨Chg.of_grown hG799 (fun k hk => by have hq := hrg800 k hk; exact (⟨rfl, oM, by omega⟩)), A794, c795, rfl, OwnL.more (lo' := (G774.fl 4)) (hi' := w796.heap.size) hO798 oM oM⟩
     ·intro L802 w803 G801 hgk804
      have hE805 := hgk804.st.ex.ex (fun b h => h.elim (fun h => h.elim) (fun h => h))
      have hE805z := Ex.size hE805
      exact OpR.op' rfl (Yl.sameG (yM rfl (hgk804.old 7 _ rfl rfl) kI))
     ·intro G807 L808 w809 hgp810
      have hE811 := hgp810.st.ex.ex (fun b h => h.elim (fun h => h.elim) (fun h => h))
      have hE811z := Ex.size hE811
      obtain ⟨_, hx812, A666_813, rfl, h814⟩ := hgp810.val 0 52 rfl rfl
      obtain ⟨_, hx815, A670_816, c671_817, rfl, h818⟩ := hgp810.val 3 55 rfl rfl
      obtain ⟨_, hx819, A684_820, rfl, h821⟩ := hgp810.val 6 58 rfl rfl
      obtain ⟨_, hx822, A687_823, c688_824, rfl, h825⟩ := hgp810.val 7 59 rfl rfl
      obtain ⟨_, hx826, rfl⟩ := hgp810.val 8 60 rfl rfl
      have hr827 := hgp810.st.rng 0 (hgp810.has 0 rfl)
      have hr828 := hgp810.st.rng 3 (hgp810.has 3 rfl)
      have hr829 := hgp810.st.rng 4 (hgp810.has 4 rfl)
      have hr830 := hgp810.st.rng 6 (hgp810.has 6 rfl)
      have hr831 := hgp810.st.rng 7 (hgp810.has 7 rfl)
      have hsp832 := hgp810.st.sep 0 3 (hgp810.has 0 rfl) (hgp810.has 3 rfl) rfl
      have hsp833 := hgp810.st.ord 4 0 (hgp810.has 4 rfl) rfl
      have hsp834 := hgp810.st.sep 0 6 (hgp810.has 0 rfl) (hgp810.has 6 rfl) rfl
      have hsp835 := hgp810.st.ord 7 0 (hgp810.has 7 rfl) rfl
      have hsp836 := hgp810.st.ord 4 3 (hgp810.has 4 rfl) rfl
      have hsp837 := hgp810.st.sep 3 6 (hgp810.has 3 rfl) (hgp810.has 6 rfl) rfl
      have hsp838 := hgp810.st.ord 7 3 (hgp810.has 7 rfl) rfl
      have hsp839 := hgp810.st.sep 4 6 (hgp810.has 4 rfl) (hgp810.has 6 rfl) rfl
      have hsp840 := hgp810.st.ord 7 4 (hgp810.has 7 rfl) rfl
      have hsp841 := hgp810.st.ord 7 6 (hgp810.has 7 rfl) rfl
      obtain ⟨nw844, he845, hs846⟩ := RdS.src (OwnL.rd gW (OwnL.ex gW hO663 hE811))
      have hol847 : (p_l.take ((x14).toNat)).length ≤ 2147483648 := (okL.take o2 _).1
      have hol848 : (p_l.drop ((x14).toNat)).length ≤ 2147483648 := (okL.drop o2 _).1
      refine sd rfl (yl_appendL (S := (fun _ => False)) (lo := (G807.fl 4)) (hi := (G807.fh 7)) (xs := ((([] : List DWrite) ++ (p_l.take ((x14).toNat))) ++ ([p_w] : List DWrite))) (ys := (([] : List DWrite) ++ (p_l.drop ((x14).toNat)))) gW un34 ty80 rfl (nb rfl) rfl hx822 hx826 h825 he845 hs846 rfl Bl Bl oM oM (fun _ h _ => False.elim h) oM ?_)
      intro A849 c850 w851 row852 hO853 hG854 hrg855
      have hG854z := hG854.size
      refine sA rfl (dn (CW.sub (sC 4 rfl (Sub.nil _)) (CW.ret (rr rfl (.cons rfl .nil) ?_))))
      have hol857 : (p_l.take ((x14).toNat)).length ≤ 2147483648 := (okL.take o2 _).1
      have hol858 : (p_l.drop ((x14).toNat)).length ≤ 2147483648 := (okL.drop o2 _).1
      rw [show (s_l5PutW p_l p_w) = ((((([] : List DWrite) ++ (p_l.take ((x14).toNat))) ++ ([p_w] : List DWrite)) ++ (([] : List DWrite) ++ (p_l.drop ((x14).toNat))))) by simp only [s_l5PutW, hb31, hL561, cL]]
      exact ⟨A849, c850, (G807.fl 4), w851.heap.size, rfl, hO853, (okL.mk (xs := (((([] : List DWrite) ++ (p_l.take ((x14).toNat))) ++ ([p_w] : List DWrite)) ++ (([] : List DWrite) ++ (p_l.drop ((x14).toNat))))) Bl (okE.append (okE.append (okE.append okE.nil ((okL.take o2 _)).2) ((okL.mk (nb rfl) (okE.cons o3 okE.nil))).2) (okE.append okE.nil ((okL.drop o2 _)).2))), (by (try dsimp only); first | omega | (simp only [List.length_append, List.length_take, List.length_drop, List.length_set, List.length_cons, List.length_nil]; omega)), oM, (Below.grown (Ex.trans (Below.grown (Ex.trans (Ex.trans (Ex.trans hf29 hE556) hE634) hE644) hG664 oM (hW hrg665)) hE811) hG854 oM (hW hrg855))⟩
theorem c_s_l5Stands {A1 : Option Addr} {c1 : Nat} {A3 : Option Addr} {c3 : Nat} {w : World} (p_buf : List DWrite) (p_got : List DGot) (p_key : Str) (h1 : RdS w (Iv 0 w.heap.size) (RF e_Write) 3 A1 p_buf.length c1 p_buf) (h3 : RdS w (Iv 0 w.heap.size) (RF e_Got) 3 A3 p_got.length c3 p_got) (o2 : (okL ok_Write) p_buf) (o4 : (okL ok_Got) p_got) (o5 : okS p_key) : Cal Tryz.prog 199 #[.slice A1 p_buf.length c1, .slice A3 p_got.length c3, .string (bs (p_key))] w fun v w' => v = .tuple #[.string (bs ((s_l5Stands p_buf p_got p_key).1)), .bool ((s_l5Stands p_buf p_got p_key).2.1), .bool ((s_l5Stands p_buf p_got p_key).2.2)] ∧ okS ((s_l5Stands p_buf p_got p_key).1) ∧ Ex w w' := by
 have hol6 := o2.1
 have hol7 := o4.1
 have hol8 : p_key.length ≤ 1073741824 := o5
 refine Cal.of func199 rfl ntmps199 rfl (cR (sA rfl (sA rfl (sA rfl (dn (CW.seq ?_))))))
 refine cR (sM rfl (sd rfl (yL un34 rfl rfl (sM rfl (dn (CW.block (CW.loop (fun m21 L22 w23 => ∃ (k9 : Nat), m21 = p_buf.length - k9 ∧ k9 ≤ p_buf.length ∧ w.heap.size ≤ w23.heap.size ∧ Sub [(1, .slice A3 p_got.length c3), (2, .string (bs (p_key))), (13, .slice A1 p_buf.length c1), (14, .int .i64 ((p_buf.length : Int))), (15, .int .i64 ((k9 : Int)))] L22 ∧ RdS w23 (Iv 0 w.heap.size) (RF e_Got) 3 A3 p_got.length c3 p_got ∧ RdS w23 (Iv 0 w.heap.size) (RF e_Write) 3 A1 p_buf.length c1 p_buf ∧ Ex w w23 ∧ loopM (B_s_l5Stands_0 p_buf p_got p_key) (p_buf.length - k9) k9 () = loopM (B_s_l5Stands_0 p_buf p_got p_key) (p_buf.length - 0) 0 ()) (p_buf.length - 0) ?_ ?_)))))))
 ·exact ⟨0, rfl, oM, Nat.le_refl _, (sR rfl), h3, h1, (Ex.refl w), rfl⟩
 ·rintro m24 L25 w26 ⟨k9, rfl, hk27, hsz29, hl30, hf31, hf32, hf33, hI28⟩
  refine CW.sub hl30 ?_
  have hf33z := Ex.size hf33
  have hbg34 := RdS.big hf32
  rcases Nat.lt_or_ge k9 p_buf.length with hlt35 | hlt35
  ·refine cR (sd rfl (yl_lss rfl rfl rfl (dn (CW.seq (CW.cond_t rfl (lt_t hlt35) (CW.skip (tn ?_)))))))
   refine CW.seq (CW.block (cR ?_))
   obtain ⟨_, _, _, eA36, _, ebl36, _, eR36, eC36⟩ := RdS.aD hf32 d_Write (i := k9)
   obtain rfl := eR36
   refine sd rfl (yl_ixN un34 ty80 rfl rfl rfl eA36 (sd rfl (yl_loadN ty80 rfl rfl eC36 rfl (sd rfl (yB ty80 (cs := [.string (bs (([] : Str))), .string (bs (([] : Str))), .bool (false)]) rfl rfl ?_)))))
   intro b37 w38 hs39 hz40 hB41 hE42
   refine SeqR.u rfl rfl (yl_storeA (vs := [.string (bs ((p_buf.getD k9 d_Write).Key)), .string (bs ((p_buf.getD k9 d_Write).Val)), .bool ((p_buf.getD k9 d_Write).Gone)]) ty80 rfl rfl rfl rfl rfl rfl hB41 rfl ?_)
   intro w43 hB44 hO45
   have hO45z := hO45.size
   refine dn (cR (sd rfl (yl_fieldAddr fd80_0 rfl rfl (sd rfl (yl_load1 ty9 rfl rfl ((hB44.cell 0).trans rfl) (sM rfl (sd rfl (yl_seql (a := ((p_buf.getD k9 d_Write).Key)) (b := p_key) rfl rfl rfl (SeqR.done ?_)))))))))
   refine tn (bcase (((p_buf.getD k9 d_Write).Key) == p_key) (fun hb46 => ?_) (fun hb46 => ?_))
   ·refine CW.cond_t rfl hb46 (CW.seq (drJ 8 [.pointer (some ⟨b37, 0 + 1, none⟩), .string (bs ((p_buf.getD k9 d_Write).Val)), .pointer (some ⟨b37, 0 + 2, none⟩), .bool ((p_buf.getD k9 d_Write).Gone), .bool (!((p_buf.getD k9 d_Write).Gone)), .string (bs ((p_buf.getD k9 d_Write).Val)), .bool (!((p_buf.getD k9 d_Write).Gone)), .bool (true)] Tryz.follows rfl ⟨?_, ?_, ?_, ?_, ?_, ?_, ?_, ?_, trivial⟩ ?_))
    ·exact oI rfl fun h => yl_fieldAddr fd80_1 rfl (h.g 10 rfl) kI
    ·exact oI rfl fun h => yl_load1 ty9 rfl (h.g 23 rfl) (((Box.ex hB44 h.ex).cell 1).trans rfl) kI
    ·exact oI rfl fun h => yl_fieldAddr fd80_2 rfl (h.g 10 rfl) kI
    ·exact oI rfl fun h => yl_load1 ty4 rfl (h.g 25 rfl) (((Box.ex hB44 h.ex).cell 2).trans rfl) kI
    ·exact oI rfl fun h => yl_not rfl (h.g 26 rfl) kI
    ·exact oI rfl fun h => yA rfl (h.g 24 rfl) kI
    ·exact oI rfl fun h => yA rfl (h.g 27 rfl) kI
    ·exact oI rfl fun _ => yA rfl rfl kI
    ·intro fl91 fh92 L88 w89 hp90
     have hE93 := hp90.ex
     have hE93z := Ex.size hE93
     refine dn (CW.sub (hp90.ss [6, 7, 8] rfl) (CW.ret (br (tr (tr ?_)))))
     have hB98 : B_s_l5Stands_0 p_buf p_got p_key k9 () = .ret ((p_buf.getD k9 d_Write).Val, !((p_buf.getD k9 d_Write).Gone), true) := by simp only [B_s_l5Stands_0, hb46, cL]
     have hL97 : loopM (B_s_l5Stands_0 p_buf p_got p_key) (p_buf.length - 0) 0 () = .ret ((p_buf.getD k9 d_Write).Val, !((p_buf.getD k9 d_Write).Gone), true) := hI28.symm.trans (loopM.ret hlt35 hB98)
     refine br (tr (rr rfl (.cons rfl (.cons rfl (.cons rfl .nil))) ?_))
     rw [show (s_l5Stands p_buf p_got p_key) = (((p_buf.getD k9 d_Write).Val, !((p_buf.getD k9 d_Write).Gone), true)) by simp only [s_l5Stands, hb46, hL97, cL]]
     exact ⟨rfl, (okL.getD o2 ok_d_Write _).2, (Ex.trans (Below.only (Ex.trans hf33 hE42) hO45 oM) hE93)⟩
   ·refine CW.cond_f rfl hb46 (CW.skip (bn (tn (CW.region (sd rfl (yl_inc rfl rfl rfl oM (sM rfl (dn ?_))))))))
    have hB103 : B_s_l5Stands_0 p_buf p_got p_key k9 () = .cont () := by simp only [B_s_l5Stands_0, hb46, cL]
    exact ⟨p_buf.length - (k9 + 1), oM, k9 + 1, rfl, hlt35, oM, (sR rfl), (RdS.only good_Got (RdS.ex good_Got hf31 hE42) hO45 iV), (RdS.only gW (RdS.ex gW hf32 hE42) hO45 iV), (Below.only (Ex.trans hf33 hE42) hO45 oM), (loopM.cont hlt35 hB103).symm.trans hI28⟩
  ·refine cR (sd rfl (yl_lss rfl rfl rfl (dn (CW.seq (CW.cond_f rfl (lt_f hlt35) (CW.exit (tx ?_)))))))
   refine tx ?_
   have hL110 : loopM (B_s_l5Stands_0 p_buf p_got p_key) (p_buf.length - 0) 0 () = .done () := hI28.symm.trans (loopM.stop hlt35)
   refine bx (tn (CW.seq (cR (sM rfl (sd rfl (yL un117 rfl rfl (sM rfl (SeqR.done ?_))))))))
   refine tn (CW.block (CW.loop (fun m123 L124 w125 => ∃ (k111 : Nat), m123 = p_got.length - k111 ∧ k111 ≤ p_got.length ∧ w26.heap.size ≤ w125.heap.size ∧ Sub [(2, .string (bs (p_key))), (29, .slice A3 p_got.length c3), (30, .int .i64 ((p_got.length : Int))), (31, .int .i64 ((k111 : Int)))] L124 ∧ RdS w125 (Iv 0 w.heap.size) (RF e_Got) 3 A3 p_got.length c3 p_got ∧ Ex w w125 ∧ loopM (B_s_l5Stands_1 p_buf p_got p_key) (p_got.length - k111) k111 () = loopM (B_s_l5Stands_1 p_buf p_got p_key) (p_got.length - 0) 0 ()) (p_got.length - 0) ?_ ?_))
   ·exact ⟨0, rfl, oM, Nat.le_refl _, (sR rfl), hf31, hf33, rfl⟩
   ·rintro m126 L127 w128 ⟨k111, rfl, hk129, hsz131, hl132, hf133, hf134, hI130⟩
    refine CW.sub hl132 ?_
    have hf134z := Ex.size hf134
    have hbg135 := RdS.big hf133
    rcases Nat.lt_or_ge k111 p_got.length with hlt136 | hlt136
    ·refine cR (sd rfl (yl_lss rfl rfl rfl (dn (CW.seq (CW.cond_t rfl (lt_t hlt136) (CW.skip (tn ?_)))))))
     refine CW.seq (CW.block (cR ?_))
     obtain ⟨_, _, _, eA137, _, ebl137, _, eR137, eC137⟩ := RdS.aD hf133 d_Got (i := k111)
     obtain rfl := eR137
     refine sd rfl (yl_ixN un117 ty170 rfl rfl rfl eA137 (sd rfl (yl_loadN ty170 rfl rfl eC137 rfl (sd rfl (yB ty170 (cs := [.string (bs (([] : Str))), .string (bs (([] : Str))), .bool (false)]) rfl rfl ?_)))))
     intro b138 w139 hs140 hz141 hB142 hE143
     refine SeqR.u rfl rfl (yl_storeA (vs := [.string (bs ((p_got.getD k111 d_Got).Key)), .string (bs ((p_got.getD k111 d_Got).Val)), .bool ((p_got.getD k111 d_Got).There)]) ty170 rfl rfl rfl rfl rfl rfl hB142 rfl ?_)
     intro w144 hB145 hO146
     have hO146z := hO146.size
     refine dn (cR (sd rfl (yl_fieldAddr fd170_0 rfl rfl (sd rfl (yl_load1 ty9 rfl rfl ((hB145.cell 0).trans rfl) (sM rfl (sd rfl (yl_seql (a := ((p_got.getD k111 d_Got).Key)) (b := p_key) rfl rfl rfl (SeqR.done ?_)))))))))
     refine tn (bcase (((p_got.getD k111 d_Got).Key) == p_key) (fun hb147 => ?_) (fun hb147 => ?_))
     ·refine CW.cond_t rfl hb147 (CW.seq (drJ 7 [.pointer (some ⟨b138, 0 + 1, none⟩), .string (bs ((p_got.getD k111 d_Got).Val)), .pointer (some ⟨b138, 0 + 2, none⟩), .bool ((p_got.getD k111 d_Got).There), .string (bs ((p_got.getD k111 d_Got).Val)), .bool ((p_got.getD k111 d_Got).There), .bool (true)] Tryz.follows rfl ⟨?_, ?_, ?_, ?_, ?_, ?_, ?_, trivial⟩ ?_))
      ·exact oI rfl fun h => yl_fieldAddr fd170_1 rfl (h.g 12 rfl) kI
      ·exact oI rfl fun h => yl_load1 ty9 rfl (h.g 39 rfl) (((Box.ex hB145 h.ex).cell 1).trans rfl) kI
      ·exact oI rfl fun h => yl_fieldAddr fd170_2 rfl (h.g 12 rfl) kI
      ·exact oI rfl fun h => yl_load1 ty4 rfl (h.g 41 rfl) (((Box.ex hB145 h.ex).cell 2).trans rfl) kI
      ·exact oI rfl fun h => yA rfl (h.g 40 rfl) kI
      ·exact oI rfl fun h => yA rfl (h.g 42 rfl) kI
      ·exact oI rfl fun _ => yA rfl rfl kI
      ·intro fl187 fh188 L184 w185 hp186
       have hE189 := hp186.ex
       have hE189z := Ex.size hE189
       refine dn (CW.sub (hp186.ss [6, 7, 8] rfl) (CW.ret (br (tr (tr ?_)))))
       have hB194 : B_s_l5Stands_1 p_buf p_got p_key k111 () = .ret ((p_got.getD k111 d_Got).Val, (p_got.getD k111 d_Got).There, true) := by simp only [B_s_l5Stands_1, hb147, hL110, cL]
       have hL193 : loopM (B_s_l5Stands_1 p_buf p_got p_key) (p_got.length - 0) 0 () = .ret ((p_got.getD k111 d_Got).Val, (p_got.getD k111 d_Got).There, true) := hI130.symm.trans (loopM.ret hlt136 hB194)
       refine br (tr (rr rfl (.cons rfl (.cons rfl (.cons rfl .nil))) ?_))
       rw [show (s_l5Stands p_buf p_got p_key) = (((p_got.getD k111 d_Got).Val, (p_got.getD k111 d_Got).There, true)) by simp only [s_l5Stands, hb147, hL110, hL193, cL]]
       exact ⟨rfl, (okL.getD o4 ok_d_Got _).2, (Ex.trans (Below.only (Ex.trans hf134 hE143) hO146 oM) hE189)⟩
     ·refine CW.cond_f rfl hb147 (CW.skip (bn (tn (CW.region (sd rfl (yl_inc rfl rfl rfl oM (sM rfl (dn ?_))))))))
      have hB199 : B_s_l5Stands_1 p_buf p_got p_key k111 () = .cont () := by simp only [B_s_l5Stands_1, hb147, hL110, cL]
      exact ⟨p_got.length - (k111 + 1), oM, k111 + 1, rfl, hlt136, oM, (sR rfl), (RdS.only good_Got (RdS.ex good_Got hf133 hE143) hO146 iV), (Below.only (Ex.trans hf134 hE143) hO146 oM), (loopM.cont hlt136 hB199).symm.trans hI130⟩
    ·refine cR (sd rfl (yl_lss rfl rfl rfl (dn (CW.seq (CW.cond_f rfl (lt_f hlt136) (CW.exit (tx ?_)))))))
     refine tx ?_
     have hL204 : loopM (B_s_l5Stands_1 p_buf p_got p_key) (p_got.length - 0) 0 () = .done () := hI130.symm.trans (loopM.stop hlt136)
     refine bx (tn (cR (sA rfl (sA rfl (sA rfl (dn ?_))))))
     refine CW.ret (rr rfl (.cons rfl (.cons rfl (.cons rfl .nil))) ?_)
     rw [show (s_l5Stands p_buf p_got p_key) = ((([] : Str), false, false)) by simp only [s_l5Stands, hL110, hL204, cL]]
     exact ⟨rfl, (okS.lit rfl), hf134⟩
theorem c_s_l1Read {w : World} (p_s : Str) (o1 : okS p_s) : Cal Tryz.prog 231 #[.string (bs (p_s))] w fun v w' => v = .int .i64 ((s_l1Read p_s)) ∧ Ex w w' := by
 have hol2 : p_s.length ≤ 1073741824 := o1
 refine Cal.of func231 rfl ntmps231 rfl (cR (sA rfl (dn (CW.seq (cR ?_)))))
 refine sM rfl (sd rfl (yl_slen un9 (a := p_s) rfl rfl (sd rfl (yC en91 rfl (oc rfl (oc rfl (oc rfl oz))) (Cal.mono (c_s_l1In (p_s.length : Int) 1 6) ?_)))))
 rintro v4 w3 ⟨rfl, hE5⟩
 have hE5z := Ex.size hE5
 refine sd rfl (yl_not rfl rfl (sM rfl (bcase (s_l1In (p_s.length : Int) 1 6) (fun hb6 => ?_) (fun hb6 => ?_))))
 ·have hb6p := f_l1In hb6
  refine sy rfl rfl (not_t hb6) (yM rfl rfl (sy rfl rfl (not_t hb6) (yl_sindexN un9 (a := p_s) rfl rfl rfl Bo (sy rfl rfl (not_t hb6) (yl_eql rfl rfl rfl (sy rfl rfl (not_t hb6) (yM rfl rfl (bcD (q := ((p_s.getD 0 0).toNat : Int) = 48) (fun hb7 hb7p => ?_) (fun hb7 hb7p => ?_)))))))))
  ·refine sy rfl rfl hb7 (yM rfl rfl (sy rfl rfl hb7 (yl_slen un9 (a := p_s) rfl rfl (sy rfl rfl hb7 (yl_gtr rfl rfl rfl (sy rfl rfl (not_t hb6) (yl_pick_t rfl rfl hb7 rfl (sd rfl (yl_pick_f rfl rfl (not_t hb6) rfl (dn (bcD (q := 1 < (p_s.length : Int)) (fun hb8 hb8p => ?_) (fun hb8 hb8p => ?_))))))))))))
   ·refine CW.cond_t rfl hb8 (cR (sA rfl (dn (CW.ret (tr (rr rfl (.cons rfl .nil) ?_))))))
    rw [show (s_l1Read p_s) = (-1) by simp only [s_l1Read, hb6, hb7, hb8, cL]]
    exact ⟨rfl, (Ex.trans (Ex.refl w) hE5)⟩
   ·refine CW.cond_f rfl hb8 (CW.skip (tn (cR (sA rfl (dn (CW.seq ?_))))))
    refine cR (sA rfl (dn (CW.block (CW.loop (fun m13 L14 w15 => ∃ (k11 : Nat) (x12 : Int), m13 = p_s.length - k11 ∧ k11 ≤ p_s.length ∧ w3.heap.size ≤ w15.heap.size ∧ Sub [(0, .string (bs (p_s))), (3, .int .i64 (x12)), (4, .int .i64 ((k11 : Int)))] L14 ∧ Ex w w15 ∧ loopM (B_s_l1Read_0 p_s) (p_s.length - k11) k11 (x12) = loopM (B_s_l1Read_0 p_s) (p_s.length - 0) 0 (0)) (p_s.length - 0) ?_ ?_))))
    ·exact ⟨0, 0, rfl, oM, Nat.le_refl _, (sR rfl), (Ex.trans (Ex.refl w) hE5), rfl⟩
    ·rintro m17 L18 w19 ⟨k11, x12, rfl, hk20, hsz22, hl23, hf24, hI21⟩
     refine CW.sub hl23 ?_
     have hf24z := Ex.size hf24
     have hbg25 : p_s.length ≤ 1073741824 := o1
     rcases Nat.lt_or_ge k11 p_s.length with hlt26 | hlt26
     ·refine CW.seq (cR (sM rfl (sM rfl (sd rfl (yl_slen un9 (a := p_s) rfl rfl (sd rfl (yl_lss rfl rfl rfl (dn ?_))))))))
      refine CW.cond_t rfl (lt_t hlt26) (CW.skip (tn (CW.seq (CW.block (CW.seq (cR (sM rfl ?_)))))))
      refine sM rfl (sd rfl (yl_sindexN un9 (a := p_s) rfl rfl rfl Bo (sd rfl (yl_lss rfl rfl rfl (sM rfl (bcD (q := ((p_s.getD k11 0).toNat : Int) < 48) (fun hb27 hb27p => ?_) (fun hb27 hb27p => ?_)))))))
      ·refine sz rfl rfl hb27 (sz rfl rfl hb27 (sz rfl rfl hb27 (sz rfl rfl hb27 (sd rfl (yl_pick_t rfl rfl hb27 rfl (dn (CW.cond_t rfl rfl (CW.seq ?_))))))))
       refine CW.region (sA rfl (dn (CW.ret (tr (br (tr (tr ?_)))))))
       have hB29 : B_s_l1Read_0 p_s k11 (x12) = .ret (-1) := by simp only [B_s_l1Read_0, hb6, hb7, hb8, hb27, cL]
       have hL28 : loopM (B_s_l1Read_0 p_s) (p_s.length - 0) 0 (0) = .ret (-1) := hI21.symm.trans (loopM.ret hlt26 hB29)
       refine br (tr (rr rfl (.cons rfl .nil) ?_))
       rw [show (s_l1Read p_s) = (-1) by simp only [s_l1Read, hb6, hb7, hb8, hb27, hL28, cL]]
       exact ⟨rfl, hf24⟩
      ·refine sy rfl rfl hb27 (yM rfl rfl (sy rfl rfl hb27 (yM rfl rfl (sy rfl rfl hb27 (yl_sindexN un9 (a := p_s) rfl rfl rfl Bo (sy rfl rfl hb27 (yl_gtr rfl rfl rfl (sd rfl (yl_pick_f rfl rfl hb27 rfl (dn (bcD (q := 57 < ((p_s.getD k11 0).toNat : Int)) (fun hb31 hb31p => ?_) (fun hb31 hb31p => ?_))))))))))))
       ·refine CW.cond_t rfl hb31 (cR (sA rfl (dn (CW.ret (tr (br ?_))))))
        refine tr (tr ?_)
        have hB33 : B_s_l1Read_0 p_s k11 (x12) = .ret (-1) := by simp only [B_s_l1Read_0, hb6, hb7, hb8, hb27, hb31, cL]
        have hL32 : loopM (B_s_l1Read_0 p_s) (p_s.length - 0) 0 (0) = .ret (-1) := hI21.symm.trans (loopM.ret hlt26 hB33)
        refine br (tr (rr rfl (.cons rfl .nil) ?_))
        rw [show (s_l1Read p_s) = (-1) by simp only [s_l1Read, hb6, hb7, hb8, hb27, hb31, hL32, cL]]
        exact ⟨rfl, hf24⟩
       ·refine CW.cond_f rfl hb31 (CW.skip (tn (CW.region (sM rfl (sd rfl (yl_mul rfl rfl rfl (sM rfl (sM rfl (sd rfl (yl_sindexN un9 (a := p_s) rfl rfl rfl Bo ?_))))))))))
        refine sd rfl (yl_sub rfl rfl rfl (sd rfl (yl_conv un5 un3 rfl rfl (sd rfl (yl_add rfl rfl rfl (sA rfl (SeqR.done (bn (tn (CW.region (sM rfl ?_)))))))))))
        refine sd rfl (yl_inc rfl rfl rfl oM (sA rfl (dn ?_)))
        have hB35 : B_s_l1Read_0 p_s k11 (x12) = .cont (IntKind.wrap .i64 ((IntKind.wrap .i64 (10 * x12)) + (IntKind.wrap .i64 (IntKind.wrap .u8 (((p_s.getD k11 0).toNat : Int) - 48))))) := by simp only [B_s_l1Read_0, hb6, hb7, hb8, hb27, hb31, cL]
        exact ⟨p_s.length - (k11 + 1), oM, k11 + 1, IntKind.wrap .i64 ((IntKind.wrap .i64 (10 * x12)) + (IntKind.wrap .i64 (IntKind.wrap .u8 (((p_s.getD k11 0).toNat : Int) - 48)))), rfl, hlt26, oM, (sR rfl), hf24, (loopM.cont hlt26 hB35).symm.trans hI21⟩
     ·refine CW.seq (cR (sM rfl (sM rfl (sd rfl (yl_slen un9 (a := p_s) rfl rfl (sd rfl (yl_lss rfl rfl rfl (dn ?_))))))))
      refine CW.cond_f rfl (lt_f hlt26) (CW.exit (tx (tx ?_)))
      have hL36 : loopM (B_s_l1Read_0 p_s) (p_s.length - 0) 0 (0) = .done (x12) := hI21.symm.trans (loopM.stop hlt26)
      refine bx (tn (cR (sM rfl (sA rfl (dn (CW.ret ?_))))))
      refine rr rfl (.cons rfl .nil) ?_
      rw [show (s_l1Read p_s) = (x12) by simp only [s_l1Read, hb6, hb7, hb8, hL36, cL]]
      exact ⟨rfl, hf24⟩
  ·refine sz rfl rfl hb7 (sz rfl rfl hb7 (sz rfl rfl hb7 (sy rfl rfl (not_t hb6) (yl_pick_f rfl rfl hb7 rfl (sd rfl (yl_pick_f rfl rfl (not_t hb6) rfl (dn (CW.cond_f rfl rfl (CW.skip ?_)))))))))
   refine tn (cR (sA rfl (dn (CW.seq (cR ?_)))))
   refine sA rfl (dn (CW.block (CW.loop (fun m40 L41 w42 => ∃ (k38 : Nat) (x39 : Int), m40 = p_s.length - k38 ∧ k38 ≤ p_s.length ∧ w3.heap.size ≤ w42.heap.size ∧ Sub [(0, .string (bs (p_s))), (3, .int .i64 (x39)), (4, .int .i64 ((k38 : Int)))] L41 ∧ Ex w w42 ∧ loopM (B_s_l1Read_0 p_s) (p_s.length - k38) k38 (x39) = loopM (B_s_l1Read_0 p_s) (p_s.length - 0) 0 (0)) (p_s.length - 0) ?_ ?_)))
   ·exact ⟨0, 0, rfl, oM, Nat.le_refl _, (sR rfl), (Ex.trans (Ex.refl w) hE5), rfl⟩
   ·rintro m44 L45 w46 ⟨k38, x39, rfl, hk47, hsz49, hl50, hf51, hI48⟩
    refine CW.sub hl50 ?_
    have hf51z := Ex.size hf51
    have hbg52 : p_s.length ≤ 1073741824 := o1
    rcases Nat.lt_or_ge k38 p_s.length with hlt53 | hlt53
    ·refine CW.seq (cR (sM rfl (sM rfl (sd rfl (yl_slen un9 (a := p_s) rfl rfl (sd rfl (yl_lss rfl rfl rfl (dn ?_))))))))
     refine CW.cond_t rfl (lt_t hlt53) (CW.skip (tn (CW.seq (CW.block (CW.seq (cR (sM rfl ?_)))))))
     refine sM rfl (sd rfl (yl_sindexN un9 (a := p_s) rfl rfl rfl Bo (sd rfl (yl_lss rfl rfl rfl (sM rfl (bcD (q := ((p_s.getD k38 0).toNat : Int) < 48) (fun hb54 hb54p => ?_) (fun hb54 hb54p => ?_)))))))
     ·refine sz rfl rfl hb54 (sz rfl rfl hb54 (sz rfl rfl hb54 (sz rfl rfl hb54 (sd rfl (yl_pick_t rfl rfl hb54 rfl (dn (CW.cond_t rfl rfl (CW.seq ?_))))))))
      refine CW.region (sA rfl (dn (CW.ret (tr (br (tr (tr ?_)))))))
      have hB56 : B_s_l1Read_0 p_s k38 (x39) = .ret (-1) := by simp only [B_s_l1Read_0, hb6, hb7, hb54, cL]
      have hL55 : loopM (B_s_l1Read_0 p_s) (p_s.length - 0) 0 (0) = .ret (-1) := hI48.symm.trans (loopM.ret hlt53 hB56)
      refine br (tr (rr rfl (.cons rfl .nil) ?_))
      rw [show (s_l1Read p_s) = (-1) by simp only [s_l1Read, hb6, hb7, hb54, hL55, cL]]
      exact ⟨rfl, hf51⟩
     ·refine sy rfl rfl hb54 (yM rfl rfl (sy rfl rfl hb54 (yM rfl rfl (sy rfl rfl hb54 (yl_sindexN un9 (a := p_s) rfl rfl rfl Bo (sy rfl rfl hb54 (yl_gtr rfl rfl rfl (sd rfl (yl_pick_f rfl rfl hb54 rfl (dn (bcD (q := 57 < ((p_s.getD k38 0).toNat : Int)) (fun hb58 hb58p => ?_) (fun hb58 hb58p => ?_))))))))))))
      ·refine CW.cond_t rfl hb58 (cR (sA rfl (dn (CW.ret (tr (br ?_))))))
       refine tr (tr ?_)
       have hB60 : B_s_l1Read_0 p_s k38 (x39) = .ret (-1) := by simp only [B_s_l1Read_0, hb6, hb7, hb54, hb58, cL]
       have hL59 : loopM (B_s_l1Read_0 p_s) (p_s.length - 0) 0 (0) = .ret (-1) := hI48.symm.trans (loopM.ret hlt53 hB60)
       refine br (tr (rr rfl (.cons rfl .nil) ?_))
       rw [show (s_l1Read p_s) = (-1) by simp only [s_l1Read, hb6, hb7, hb54, hb58, hL59, cL]]
       exact ⟨rfl, hf51⟩
      ·refine CW.cond_f rfl hb58 (CW.skip (tn (CW.region (sM rfl (sd rfl (yl_mul rfl rfl rfl (sM rfl (sM rfl (sd rfl (yl_sindexN un9 (a := p_s) rfl rfl rfl Bo ?_))))))))))
       refine sd rfl (yl_sub rfl rfl rfl (sd rfl (yl_conv un5 un3 rfl rfl (sd rfl (yl_add rfl rfl rfl (sA rfl (SeqR.done (bn (tn (CW.region (sM rfl ?_)))))))))))
       refine sd rfl (yl_inc rfl rfl rfl oM (sA rfl (dn ?_)))
       have hB62 : B_s_l1Read_0 p_s k38 (x39) = .cont (IntKind.wrap .i64 ((IntKind.wrap .i64 (10 * x39)) + (IntKind.wrap .i64 (IntKind.wrap .u8 (((p_s.getD k38 0).toNat : Int) - 48))))) := by simp only [B_s_l1Read_0, hb6, hb7, hb54, hb58, cL]
       exact ⟨p_s.length - (k38 + 1), oM, k38 + 1, IntKind.wrap .i64 ((IntKind.wrap .i64 (10 * x39)) + (IntKind.wrap .i64 (IntKind.wrap .u8 (((p_s.getD k38 0).toNat : Int) - 48)))), rfl, hlt53, oM, (sR rfl), hf51, (loopM.cont hlt53 hB62).symm.trans hI48⟩
    ·refine CW.seq (cR (sM rfl (sM rfl (sd rfl (yl_slen un9 (a := p_s) rfl rfl (sd rfl (yl_lss rfl rfl rfl (dn ?_))))))))
     refine CW.cond_f rfl (lt_f hlt53) (CW.exit (tx (tx ?_)))
     have hL63 : loopM (B_s_l1Read_0 p_s) (p_s.length - 0) 0 (0) = .done (x39) := hI48.symm.trans (loopM.stop hlt53)
     refine bx (tn (cR (sM rfl (sA rfl (dn (CW.ret ?_))))))
     refine rr rfl (.cons rfl .nil) ?_
     rw [show (s_l1Read p_s) = (x39) by simp only [s_l1Read, hb6, hb7, hL63, cL]]
     exact ⟨rfl, hf51⟩
 ·refine sz rfl rfl (not_f hb6) (sz rfl rfl (not_f hb6) (sz rfl rfl (not_f hb6) (sz rfl rfl (not_f hb6) (sq rfl rfl (sq rfl rfl (sq rfl rfl (sz rfl rfl (not_f hb6) (sd rfl (yl_pick_t rfl rfl (not_f hb6) rfl ?_)))))))))
  refine dn (CW.cond_t rfl rfl (cR (sA rfl (dn (CW.ret ?_)))))
  refine tr (rr rfl (.cons rfl .nil) ?_)
  rw [show (s_l1Read p_s) = (-1) by simp only [s_l1Read, hb6, cL]]
  exact ⟨rfl, (Ex.trans (Ex.refl w) hE5)⟩
theorem c_s_l5Num {w : World} (p_s : Str) (o1 : okS p_s) : Cal Tryz.prog 201 #[.string (bs (p_s))] w fun v w' => v = .tuple #[.int .i64 ((s_l5Num p_s).1), .bool ((s_l5Num p_s).2)] ∧ Ex w w' := by
 have hol2 : p_s.length ≤ 1073741824 := o1
 refine Cal.of func201 rfl ntmps201 rfl (cR (sA rfl (sA rfl (dn (cR ?_)))))
 refine sM rfl (sd rfl (yl_slen un9 (a := p_s) rfl rfl (sd rfl (yl_gtr rfl rfl rfl (sM rfl (bcD (q := 0 < (p_s.length : Int)) (fun hb3 hb3p => ?_) (fun hb3 hb3p => ?_)))))))
 ·refine sy rfl rfl hb3 (yM rfl rfl (sy rfl rfl hb3 (yl_sindexN un9 (a := p_s) rfl rfl rfl Bo (sy rfl rfl hb3 (yl_eql rfl rfl rfl (sd rfl (yl_pick_t rfl rfl hb3 rfl (sA rfl (dn (cR ?_))))))))))
  refine sM rfl (sA rfl (dn (CW.seq (cR (sM rfl (SeqR.done ?_))))))
  refine tn (bcD (q := ((p_s.getD 0 0).toNat : Int) = 45) (fun hb4 hb4p => ?_) (fun hb4 hb4p => ?_))
  ·refine CW.cond_t rfl hb4 (CW.region (sM rfl (sd rfl (yl_sslice_lo un9 (a := p_s) (l := 1) rfl rfl rfl oM (sA rfl (dn (cR ?_)))))))
   refine sM rfl (sd rfl (yC en231 rfl (oc rfl oz) (Cal.mono (c_s_l1Read (p_s.drop 1) (okS.drop o1 _)) ?_)))
   rintro v6 w5 ⟨rfl, hE7⟩
   have hE7z := Ex.size hE7
   refine sA rfl (dn (CW.seq (cR (sM rfl (sd rfl (yl_lss rfl rfl rfl (sM rfl ?_)))))))
   refine bcD (q := (s_l1Read (p_s.drop 1)) < 0) (fun hb8 hb8p => ?_) (fun hb8 hb8p => ?_)
   ·refine sz rfl rfl hb8 (sz rfl rfl hb8 (sq rfl rfl (sq rfl rfl (sz rfl rfl hb8 (sd rfl (yl_pick_t rfl rfl hb8 rfl (dn (CW.cond_t rfl rfl ?_))))))))
    refine cR (sA rfl (sA rfl (dn (CW.ret (tr (rr rfl (.cons rfl (.cons rfl .nil)) ?_))))))
    rw [show (s_l5Num p_s) = ((0, false)) by simp only [s_l5Num, hb3, hb4, hb8, cL]]
    exact ⟨rfl, (Ex.trans (Ex.refl w) hE7)⟩
   ·refine sy rfl rfl hb8 (yM rfl rfl (sy rfl rfl hb8 (yM rfl rfl (sy rfl rfl hb4 (yM rfl rfl (sy rfl rfl hb4 (yl_eql rfl rfl rfl (sy rfl rfl hb8 (yl_pick_t rfl rfl hb4 rfl (sd rfl (yl_pick_f rfl rfl hb8 rfl (dn (bcD (q := (s_l1Read (p_s.drop 1)) = 0) (fun hb11 hb11p => ?_) (fun hb11 hb11p => ?_))))))))))))))
    ·refine CW.cond_t rfl hb11 (cR (sA rfl (sA rfl (dn (CW.ret (tr ?_))))))
     refine rr rfl (.cons rfl (.cons rfl .nil)) ?_
     rw [show (s_l5Num p_s) = ((0, false)) by simp only [s_l5Num, hb3, hb4, hb8, hb11, cL]]
     exact ⟨rfl, (Ex.trans (Ex.refl w) hE7)⟩
    ·refine CW.cond_f rfl hb11 (CW.skip (tn (CW.seq (cR (sM rfl (dn ?_))))))
     refine CW.cond_t rfl hb4 (cR (sM rfl (sd rfl (yl_neg rfl rfl (sA rfl (sA rfl (dn ?_)))))))
     refine CW.ret (tr (rr rfl (.cons rfl (.cons rfl .nil)) ?_))
     rw [show (s_l5Num p_s) = ((IntKind.wrap .i64 (0 - (s_l1Read (p_s.drop 1))), true)) by simp only [s_l5Num, hb3, hb4, hb8, hb11, cL]]
     exact ⟨rfl, (Ex.trans (Ex.refl w) hE7)⟩
  ·refine CW.cond_f rfl hb4 (CW.skip (tn (cR (sM rfl (sd rfl (yC en231 rfl (oc rfl oz) (Cal.mono (c_s_l1Read p_s o1) ?_)))))))
   rintro v17 w16 ⟨rfl, hE18⟩
   have hE18z := Ex.size hE18
   refine sA rfl (dn (CW.seq (cR (sM rfl (sd rfl (yl_lss rfl rfl rfl (sM rfl ?_)))))))
   refine bcD (q := (s_l1Read p_s) < 0) (fun hb19 hb19p => ?_) (fun hb19 hb19p => ?_)
   ·refine sz rfl rfl hb19 (sz rfl rfl hb19 (sq rfl rfl (sq rfl rfl (sz rfl rfl hb19 (sd rfl (yl_pick_t rfl rfl hb19 rfl (dn (CW.cond_t rfl rfl ?_))))))))
    refine cR (sA rfl (sA rfl (dn (CW.ret (tr (rr rfl (.cons rfl (.cons rfl .nil)) ?_))))))
    rw [show (s_l5Num p_s) = ((0, false)) by simp only [s_l5Num, hb3, hb4, hb19, cL]]
    exact ⟨rfl, (Ex.trans (Ex.refl w) hE18)⟩
   ·refine sy rfl rfl hb19 (yM rfl rfl (sy rfl rfl hb19 (yM rfl rfl (sz rfl rfl hb4 (sz rfl rfl hb4 (sy rfl rfl hb19 (yl_pick_f rfl rfl hb4 rfl (sd rfl (yl_pick_f rfl rfl hb19 rfl (dn (CW.cond_f rfl rfl ?_)))))))))))
    refine CW.skip (tn (CW.seq (cR (sM rfl (dn (CW.cond_f rfl hb4 ?_))))))
    refine CW.skip (tn (cR (sM rfl (sA rfl (sA rfl (dn ?_))))))
    refine CW.ret (rr rfl (.cons rfl (.cons rfl .nil)) ?_)
    rw [show (s_l5Num p_s) = (((s_l1Read p_s), true)) by simp only [s_l5Num, hb3, hb4, hb19, cL]]
    exact ⟨rfl, (Ex.trans (Ex.refl w) hE18)⟩
 ·refine sz rfl rfl hb3 (sz rfl rfl hb3 (sz rfl rfl hb3 (sd rfl (yl_pick_f rfl rfl hb3 rfl (sA rfl (dn (cR ?_)))))))
  refine sM rfl (sA rfl (dn (CW.seq (cR (sM rfl (SeqR.done ?_))))))
  refine tn (CW.cond_f rfl rfl (CW.skip (tn (cR (sM rfl (sd rfl (yC en231 rfl (oc rfl oz) (Cal.mono (c_s_l1Read p_s o1) ?_))))))))
  rintro v25 w24 ⟨rfl, hE26⟩
  have hE26z := Ex.size hE26
  refine sA rfl (dn (CW.seq (cR (sM rfl (sd rfl (yl_lss rfl rfl rfl (sM rfl ?_)))))))
  refine bcD (q := (s_l1Read p_s) < 0) (fun hb27 hb27p => ?_) (fun hb27 hb27p => ?_)
  ·refine sz rfl rfl hb27 (sz rfl rfl hb27 (sq rfl rfl (sq rfl rfl (sz rfl rfl hb27 (sd rfl (yl_pick_t rfl rfl hb27 rfl (dn (CW.cond_t rfl rfl ?_))))))))
   refine cR (sA rfl (sA rfl (dn (CW.ret (tr (rr rfl (.cons rfl (.cons rfl .nil)) ?_))))))
   rw [show (s_l5Num p_s) = ((0, false)) by simp only [s_l5Num, hb3, hb27, cL]]
   exact ⟨rfl, (Ex.trans (Ex.refl w) hE26)⟩
  ·refine sy rfl rfl hb27 (yM rfl rfl (sy rfl rfl hb27 (yM rfl rfl (sz rfl rfl rfl (sz rfl rfl rfl (sy rfl rfl hb27 (yl_pick_f rfl rfl rfl rfl (sd rfl (yl_pick_f rfl rfl hb27 rfl (dn (CW.cond_f rfl rfl ?_)))))))))))
   refine CW.skip (tn (CW.seq (cR (sM rfl (dn (CW.cond_f rfl rfl ?_))))))
   refine CW.skip (tn (cR (sM rfl (sA rfl (sA rfl (dn ?_))))))
   refine CW.ret (rr rfl (.cons rfl (.cons rfl .nil)) ?_)
   rw [show (s_l5Num p_s) = (((s_l1Read p_s), true)) by simp only [s_l5Num, hb3, hb27, cL]]
   exact ⟨rfl, (Ex.trans (Ex.refl w) hE26)⟩
theorem c_s_l5Gives {w : World} (p_o : DOp) (p_val : Str) (p_there : Bool) (o1 : ok_Op p_o) (o2 : okS p_val) : Cal Tryz.prog 200 #[.agg #[.int .i64 (p_o.Kind), .string (bs (p_o.Key)), .string (bs (p_o.Val)), .int .i64 (p_o.By)], .string (bs (p_val)), .bool (p_there)] w fun v w' => v = .bool ((s_l5Gives p_o p_val p_there)) ∧ Ex w w' := by
 refine Cal.of func200 rfl ntmps200 rfl (cR (sd rfl (yl_box rfl rfl rfl ?_)))
 intro b6 w7 hs8 hz9 hB10 hE11
 refine sA rfl (dn (cR (sM rfl (sd rfl (yC en201 rfl (oc rfl oz) (Cal.mono (c_s_l5Num p_val o2) ?_))))))
 rintro v13 w12 ⟨rfl, hE14⟩
 refine sM rfl (sd rfl (yl_extract rfl rfl rfl (sd rfl (yl_extract rfl rfl rfl (sA rfl (sA rfl (dn (CW.seq (CW.seq ?_)))))))))
 refine CW.region (sd rfl (yl_fieldAddr fd122_0 rfl rfl ?_))
 have q15 := Box.ex hB10 hE14
 refine sd rfl (yl_load1 ty3 rfl rfl ((q15.cell 0).trans rfl) (dn (CW.block (cR (sd rfl (yl_eql rfl rfl rfl (sA rfl (SeqR.done ?_))))))))
 refine tn (bcD (q := p_o.Kind = 4) (fun hb16 hb16p => ?_) (fun hb16 hb16p => ?_))
 ·refine CW.cond_t rfl hb16 (CW.seq (cR (sM rfl (sd rfl (yl_not rfl rfl (dn (bcase (p_there) (fun hb17 => ?_) (fun hb17 => ?_))))))))
  ·refine CW.cond_f rfl (not_t hb17) (CW.skip (tn (cR (sM rfl (sd rfl (yl_not rfl rfl (sM rfl (bcase ((s_l5Num p_val).2) (fun hb18 => ?_) (fun hb18 => ?_)))))))))
   ·refine sy rfl rfl (not_t hb18) (yM rfl rfl (sy rfl rfl (not_t hb18) (yl_fieldAddr fd122_3 rfl rfl (sy rfl rfl (not_t hb18) (yl_load1 ty3 rfl rfl ((q15.cell 3).trans rfl) (sy rfl rfl (not_t hb18) (yl_add rfl rfl rfl (sy rfl rfl (not_t hb18) (yC en91 rfl (oc rfl (oc rfl (oc rfl oz))) (Cal.mono (c_s_l1In (IntKind.wrap .i64 (((s_l5Num p_val).1) + p_o.By)) (-999999) 999999) ?_))))))))))
    rintro v20 w19 ⟨rfl, hE21⟩
    refine sy rfl rfl (not_t hb18) (yl_not rfl rfl (sd rfl (yl_pick_f rfl rfl (not_t hb18) rfl (sA rfl (dn (CW.ret (br (tr (rr rfl (.cons rfl .nil) ?_)))))))))
    rw [show (s_l5Gives p_o p_val p_there) = (!(s_l1In (IntKind.wrap .i64 (((s_l5Num p_val).1) + p_o.By)) (-999999) 999999)) by simp only [s_l5Gives, hb16, hb17, hb18, cL]]
    exact ⟨rfl, (Ex.trans (Ex.trans (Ex.trans (Ex.refl w) hE11) hE14) hE21)⟩
   ·refine sz rfl rfl (not_f hb18) (sz rfl rfl (not_f hb18) (sz rfl rfl (not_f hb18) (sz rfl rfl (not_f hb18) (sz rfl rfl (not_f hb18) (sz rfl rfl (not_f hb18) (sd rfl (yl_pick_t rfl rfl (not_f hb18) rfl (sA rfl (SeqR.done ?_)))))))))
    refine tn (CW.ret (br (tr (rr rfl (.cons rfl .nil) ?_))))
    rw [show (s_l5Gives p_o p_val p_there) = (true) by simp only [s_l5Gives, hb16, hb17, hb18, cL]]
    exact ⟨rfl, (Ex.trans (Ex.trans (Ex.refl w) hE11) hE14)⟩
  ·refine CW.cond_t rfl (not_f hb17) (cR (sA rfl (dn (CW.ret (tr (br ?_))))))
   refine tr (rr rfl (.cons rfl .nil) ?_)
   rw [show (s_l5Gives p_o p_val p_there) = (false) by simp only [s_l5Gives, hb16, hb17, cL]]
   exact ⟨rfl, (Ex.trans (Ex.trans (Ex.refl w) hE11) hE14)⟩
 ·refine CW.cond_f rfl hb16 (cR (sd rfl (yl_eql rfl rfl rfl (sA rfl (dn (bcD (q := p_o.Kind = 5) (fun hb32 hb32p => ?_) (fun hb32 hb32p => ?_)))))))
  ·refine CW.cond_t rfl hb32 (cR (sM rfl (sd rfl (yl_not rfl rfl (sM rfl (bcase (p_there) (fun hb33 => ?_) (fun hb33 => ?_)))))))
   ·refine sy rfl rfl (not_t hb33) (yM rfl rfl (sy rfl rfl (not_t hb33) (yl_not rfl rfl (sd rfl (yl_pick_f rfl rfl (not_t hb33) rfl (sM rfl (bcase ((s_l5Num p_val).2) (fun hb34 => ?_) (fun hb34 => ?_))))))))
    ·refine sy rfl rfl (not_t hb34) (yM rfl rfl (sy rfl rfl (not_t hb34) (yl_fieldAddr fd122_3 rfl rfl (sy rfl rfl (not_t hb34) (yl_load1 ty3 rfl rfl ((q15.cell 3).trans rfl) (sy rfl rfl (not_t hb34) (yl_lss rfl rfl rfl (sd rfl (yl_pick_f rfl rfl (not_t hb34) rfl (sA rfl (dn (CW.ret ?_))))))))))))
     refine br (tr (rr rfl (.cons rfl .nil) ?_))
     rw [show (s_l5Gives p_o p_val p_there) = (decide (((s_l5Num p_val).1) < p_o.By)) by simp only [s_l5Gives, hb16, hb32, hb33, hb34, cL]]
     exact ⟨rfl, (Ex.trans (Ex.trans (Ex.refl w) hE11) hE14)⟩
    ·refine sz rfl rfl (not_f hb34) (sz rfl rfl (not_f hb34) (sz rfl rfl (not_f hb34) (sz rfl rfl (not_f hb34) (sd rfl (yl_pick_t rfl rfl (not_f hb34) rfl (sA rfl (dn (CW.ret ?_))))))))
     refine br (tr (rr rfl (.cons rfl .nil) ?_))
     rw [show (s_l5Gives p_o p_val p_there) = (true) by simp only [s_l5Gives, hb16, hb32, hb33, hb34, cL]]
     exact ⟨rfl, (Ex.trans (Ex.trans (Ex.refl w) hE11) hE14)⟩
   ·refine sz rfl rfl (not_f hb33) (sz rfl rfl (not_f hb33) (sd rfl (yl_pick_t rfl rfl (not_f hb33) rfl (sM rfl (sz rfl rfl rfl (sz rfl rfl rfl (sz rfl rfl rfl (sz rfl rfl rfl (sd rfl (yl_pick_t rfl rfl rfl rfl ?_))))))))))
    refine sA rfl (dn (CW.ret (br (tr (rr rfl (.cons rfl .nil) ?_)))))
    rw [show (s_l5Gives p_o p_val p_there) = (true) by simp only [s_l5Gives, hb16, hb32, hb33, cL]]
    exact ⟨rfl, (Ex.trans (Ex.trans (Ex.refl w) hE11) hE14)⟩
  ·refine CW.cond_f rfl hb32 (cR (sd rfl (yl_eql rfl rfl rfl (sA rfl (dn (bcD (q := p_o.Kind = 6) (fun hb44 hb44p => ?_) (fun hb44 hb44p => ?_)))))))
   ·refine CW.cond_t rfl hb44 (cR (sM rfl (sA rfl (dn (CW.ret (br ?_))))))
    refine tr (rr rfl (.cons rfl .nil) ?_)
    rw [show (s_l5Gives p_o p_val p_there) = (p_there) by simp only [s_l5Gives, hb16, hb32, hb44, cL]]
    exact ⟨rfl, (Ex.trans (Ex.trans (Ex.refl w) hE11) hE14)⟩
   ·refine CW.cond_f rfl hb44 (cR (sd rfl (yl_eql rfl rfl rfl (sA rfl (dn (bcD (q := p_o.Kind = 7) (fun hb48 hb48p => ?_) (fun hb48 hb48p => ?_)))))))
    ·refine CW.cond_t rfl hb48 (cR (sM rfl (sd rfl (yl_not rfl rfl (sM rfl (bcase (p_there) (fun hb49 => ?_) (fun hb49 => ?_)))))))
     ·refine sy rfl rfl (not_t hb49) (yM rfl rfl (sy rfl rfl (not_t hb49) (yl_fieldAddr fd122_2 rfl rfl (sy rfl rfl (not_t hb49) (yl_load1 ty9 rfl rfl ((q15.cell 2).trans rfl) (sy rfl rfl (not_t hb49) (yl_sneq (a := p_val) (b := p_o.Val) rfl rfl rfl (sd rfl (yl_pick_f rfl rfl (not_t hb49) rfl (sA rfl (dn (CW.ret ?_))))))))))))
      refine br (tr (rr rfl (.cons rfl .nil) ?_))
      rw [show (s_l5Gives p_o p_val p_there) = (!(p_val == p_o.Val)) by simp only [s_l5Gives, hb16, hb32, hb44, hb48, hb49, cL]]
      exact ⟨rfl, (Ex.trans (Ex.trans (Ex.refl w) hE11) hE14)⟩
     ·refine sz rfl rfl (not_f hb49) (sz rfl rfl (not_f hb49) (sz rfl rfl (not_f hb49) (sz rfl rfl (not_f hb49) (sd rfl (yl_pick_t rfl rfl (not_f hb49) rfl (sA rfl (dn (CW.ret ?_))))))))
      refine br (tr (rr rfl (.cons rfl .nil) ?_))
      rw [show (s_l5Gives p_o p_val p_there) = (true) by simp only [s_l5Gives, hb16, hb32, hb44, hb48, hb49, cL]]
      exact ⟨rfl, (Ex.trans (Ex.trans (Ex.refl w) hE11) hE14)⟩
    ·refine CW.cond_f rfl hb48 (CW.skip (bn (tn (cR (sA rfl (dn ?_))))))
     refine CW.ret (rr rfl (.cons rfl .nil) ?_)
     rw [show (s_l5Gives p_o p_val p_there) = (false) by simp only [s_l5Gives, hb16, hb32, hb44, hb48, cL]]
     exact ⟨rfl, (Ex.trans (Ex.trans (Ex.refl w) hE11) hE14)⟩
theorem c_s_l1Num {w : World} (p_n : Int) (pre0 : (0 ≤ p_n ∧ p_n ≤ 9)) : Cal Tryz.prog 232 #[.int .i64 (p_n)] w fun v w' => v = .string (bs ((s_l1Num p_n))) ∧ okS (s_l1Num p_n) ∧ Ex w w' := by
 refine Cal.of func232 rfl ntmps232 rfl (cR (sA rfl (dn (CW.seq (cR ?_)))))
 refine sM rfl (sd rfl (yl_lss rfl rfl rfl (dn (CW.cond_t rfl (decide_eq_true oM) (cR (sM rfl (sd rfl (yl_add rfl rfl rfl ?_))))))))
 refine sd rfl (yl_conv un3 un5 rfl rfl (sd rfl (yl_buildSlice (cs := [.int .u8 (IntKind.wrap .u8 (IntKind.wrap .i64 (48 + p_n)))]) un127 ty5 (by decide) rfl (oc rfl oz) (by kernel_rfl) ?_)))
 intro b1 w2 hs3 hz4 hB5 hE6
 have hO7 : OwnL w2 b1 (b1 + 1) 5 1 (RF e_U8) (some ⟨b1, 0, none⟩) 1 1 ([IntKind.wrap .u8 (IntKind.wrap .i64 (48 + p_n))] : List Int) := OwnL.of_box (S := fun _ => False) hB5 (Nat.le_refl _) (Nat.lt_succ_self _) (EncL.cons (c := [.int .u8 (IntKind.wrap .u8 (IntKind.wrap .i64 (48 + p_n)))]) rfl rfl EncL.nil) (nb rfl) (fun h => h) (fun _ h => False.elim h)
 refine sd rfl (yl_toS un127 un5 un9 rfl rfl (OwnL.rd gU hO7) (sA rfl (dn (CW.ret (tr (rr rfl (.cons rfl .nil) ?_))))))
 rw [show (s_l1Num p_n) = (toS ([IntKind.wrap .u8 (IntKind.wrap .i64 (48 + p_n))] : List Int)) by simp only [s_l1Num, cL]]
 exact ⟨rfl, (okS_toS (nb rfl)), (Ex.trans (Ex.refl w) hE6)⟩
theorem c_s_l5Text {w : World} (p_n : Int) (pre0 : ((-9 : Int) ≤ p_n ∧ p_n ≤ 9)) : Cal Tryz.prog 202 #[.int .i64 (p_n)] w fun v w' => v = .string (bs ((s_l5Text p_n))) ∧ Ex w w' := by
 refine Cal.of func202 rfl ntmps202 rfl (cR (sA rfl (dn (CW.seq (cR ?_)))))
 refine sM rfl (sd rfl (yl_lss rfl rfl rfl (dn (bcD (q := p_n < 0) (fun hb1 hb1p => ?_) (fun hb1 hb1p => ?_)))))
 ·refine CW.cond_t rfl hb1 (cR (sM rfl (sd rfl (yl_neg rfl rfl (sd rfl (yC en232 rfl (oc rfl oz) (Cal.mono (c_s_l1Num (IntKind.wrap .i64 (0 - p_n)) Bo) ?_)))))))
  rintro v4 w2 ⟨rfl, ho3, hE5⟩
  have hE5z := Ex.size hE5
  have hrf6 := rf_l1Num (IntKind.wrap .i64 (0 - p_n))
  have hol7 : (s_l1Num (IntKind.wrap .i64 (0 - p_n))).length ≤ 1073741824 := ho3
  refine sd rfl (yl_sadd (a := ([45] : Str)) (b := (s_l1Num (IntKind.wrap .i64 (0 - p_n)))) rfl rfl rfl Bl (sA rfl (dn (CW.ret (tr (rr rfl (.cons rfl .nil) ?_))))))
  rw [show (s_l5Text p_n) = (([45] : Str) ++ (s_l1Num (IntKind.wrap .i64 (0 - p_n)))) by simp only [s_l5Text, hb1, cL]]
  exact ⟨rfl, (Ex.trans (Ex.refl w) hE5)⟩
 ·refine CW.cond_f rfl hb1 (CW.skip (tn (cR (sM rfl (sd rfl (yC en232 rfl (oc rfl oz) (Cal.mono (c_s_l1Num p_n Bo) ?_)))))))
  rintro v12 w10 ⟨rfl, ho11, hE13⟩
  have hE13z := Ex.size hE13
  have hrf14 := rf_l1Num p_n
  refine sA rfl (dn (CW.ret (rr rfl (.cons rfl .nil) ?_)))
  rw [show (s_l5Text p_n) = ((s_l1Num p_n)) by simp only [s_l5Text, hb1, cL]]
  exact ⟨rfl, (Ex.trans (Ex.refl w) hE13)⟩
theorem c_s_l5Step {A1 : Option Addr} {c1 : Nat} {A3 : Option Addr} {c3 : Nat} {w : World} (p_0 : List DOp) (p_1 : List DGot) (h1 : RdS w (Iv 0 w.heap.size) (RF e_Op) 4 A1 p_0.length c1 p_0) (h3 : RdS w (Iv 0 w.heap.size) (RF e_Got) 3 A3 p_1.length c3 p_1) (o2 : (okL ok_Op) p_0) (o4 : (okL ok_Got) p_1) (pre0 : ∀ y ∈ p_0, y.Kind ≠ 4) (pre1 : p_0.length ≤ 100) : Cal Tryz.prog 170 #[.slice A1 p_0.length c1, .slice A3 p_1.length c3] w fun v w' => ∃ A_1 c_1 lo_1 hi_1, v = .tuple #[.int .i64 ((s_l5Step p_0 p_1).1), .string (bs ((s_l5Step p_0 p_1).2.1)), .slice A_1 (((s_l5Step p_0 p_1).2.2).length) c_1] ∧ OwnL w' lo_1 hi_1 80 3 (RF e_Write) A_1 (((s_l5Step p_0 p_1).2.2).length) c_1 ((s_l5Step p_0 p_1).2.2) ∧ okS ((s_l5Step p_0 p_1).2.1) ∧ (okL ok_Write) ((s_l5Step p_0 p_1).2.2) ∧ ((s_l5Step p_0 p_1).2.2).length ≤ p_0.length ∧ (w.heap.size ≤ lo_1 ∧ lo_1 ≤ hi_1 ∧ hi_1 ≤ w'.heap.size) ∧ Ex w w' := by
 have hol5 := o2.1
 have hol6 := o4.1
 refine Cal.of func170 rfl ntmps170 rfl (cR (sA rfl (sA rfl (sA rfl (dn (CW.seq ?_))))))
 refine CW.region (sA rfl (dn (CW.seq (cR (sM rfl (sd rfl (yL un77 rfl rfl ?_)))))))
 refine sM rfl (dn (CW.block (CW.loop (fun m181 L182 w183 => ∃ (k7 : Nat) (x176 : List DWrite) (A177 : Option Addr) (c178 : Nat) (u179 : Nat) (lo180 : Nat), m181 = p_0.length - k7 ∧ k7 ≤ p_0.length ∧ w.heap.size ≤ w183.heap.size ∧ Sub [(1, .slice A3 p_1.length c3), (7, .slice A177 x176.length c178), (15, .slice A1 p_0.length c1), (16, .int .i64 ((p_0.length : Int))), (17, .int .i64 ((k7 : Int)))] L182 ∧ RdS w183 (Iv 0 w.heap.size) (RF e_Got) 3 A3 p_1.length c3 p_1 ∧ OwnL w183 lo180 u179 80 3 (RF e_Write) A177 x176.length c178 x176 ∧ RdS w183 (Iv 0 w.heap.size) (RF e_Op) 4 A1 p_0.length c1 p_0 ∧ Ex w w183 ∧ (w.heap.size ≤ lo180 ∧ lo180 ≤ u179 ∧ u179 ≤ w183.heap.size) ∧ x176.length ≤ 0 + 1 * (k7 - 0) ∧ (∀ y ∈ x176, ok_Write y) ∧ loopM (B_s_l5Step_0 p_0 p_1) (p_0.length - k7) k7 (x176) = loopM (B_s_l5Step_0 p_0 p_1) (p_0.length - 0) 0 (([] : List DWrite))) (p_0.length - 0) ?_ ?_)))
 ·exact ⟨0, ([] : List DWrite), none, 0, w.heap.size, w.heap.size, rfl, oM, Nat.le_refl _, (sR rfl), h3, (OwnL.nil w w.heap.size w.heap.size 80 3 (RF e_Write)), h1, (Ex.refl w), oM, (by first | (simp; done) | (first | omega | (simp only [lN, toS_length]; omega))), okE.nil, rfl⟩
 ·rintro m184 L185 w186 ⟨k7, x176, A177, c178, u179, lo180, rfl, hk187, hsz189, hl190, hf191, hf192, hf193, hf194, hu195, hln196, hok197, hI188⟩
  refine CW.sub hl190 ?_
  have hf194z := Ex.size hf194
  have hbg198 := RdS.big hf193
  rcases Nat.lt_or_ge k7 p_0.length with hlt199 | hlt199
  ·have hkd := pre0 _ (getD_mem (d := d_Op) hlt199)
   refine cR (sd rfl (yl_lss rfl rfl rfl (dn (CW.seq (CW.cond_t rfl (lt_t hlt199) (CW.skip (tn ?_)))))))
   refine CW.seq (CW.block (cR ?_))
   obtain ⟨_, _, _, eA200, _, ebl200, _, eR200, eC200⟩ := RdS.atD hf193 d_Op (i := k7) Bo
   obtain rfl := eR200
   refine sd rfl (yl_ixN un77 ty122 rfl rfl rfl eA200 (sd rfl (yl_loadN ty122 rfl rfl eC200 rfl (sd rfl (yB ty122 (cs := [.int .i64 (0), .string (bs (([] : Str))), .string (bs (([] : Str))), .int .i64 (0)]) rfl rfl ?_)))))
   intro b201 w202 hs203 hz204 hB205 hE206
   refine SeqR.u rfl rfl (yl_storeA (vs := [.int .i64 ((p_0.getD k7 d_Op).Kind), .string (bs ((p_0.getD k7 d_Op).Key)), .string (bs ((p_0.getD k7 d_Op).Val)), .int .i64 ((p_0.getD k7 d_Op).By)]) ty122 rfl rfl rfl rfl rfl rfl hB205 rfl ?_)
   intro w207 hB208 hO209
   have hO209z := hO209.size
   refine dn (cR (sM rfl (sM rfl (sd rfl (yl_fieldAddr fd122_1 rfl rfl (sd rfl (yl_load1 ty9 rfl rfl ((hB208.cell 1).trans rfl) ?_)))))))
   have q212 := OwnL.only gW (OwnL.ex gW hf192 hE206) hO209 oM
   have q214 := RdS.only good_Got (RdS.ex good_Got hf191 hE206) hO209 iV
   refine sd rfl (yC en199 rfl (oc rfl (oc rfl (oc rfl oz))) (Cal.mono (c_s_l5Stands x176 p_1 ((p_0.getD k7 d_Op).Key) (RdS.up (OwnL.rd gW q212) gW) (RdS.up q214 good_Got) (okL.mk (xs := x176) Bl hok197) o4 ((okL.getD o2 ok_d_Op _).1)) ?_))
   rintro v217 w215 ⟨rfl, ho216, hE218⟩
   have hE218z := Ex.size hE218
   have y1 := RdS.ex good_Op (RdS.only good_Op (RdS.ex good_Op hf193 hE206) hO209 iV) hE218
   have y0 := Ex.trans (Below.only (Ex.trans hf194 hE206) hO209 oM) hE218
   refine sM rfl (sd rfl (yl_extract rfl rfl rfl (sd rfl (yl_extract rfl rfl rfl (sd rfl (yl_extract rfl rfl rfl (sA rfl (sA rfl (sA rfl (dn ?_))))))))))
   refine CW.seq (cR (sM rfl (sd rfl (yl_not rfl rfl (sM rfl (bcase ((s_l5Stands x176 p_1 ((p_0.getD k7 d_Op).Key)).2.2) (fun hb219 => ?_) (fun hb219 => ?_)))))))
   ·refine sz rfl rfl (not_t hb219) (sz rfl rfl (not_t hb219) (sz rfl rfl (not_t hb219) (sd rfl (yl_pick_f rfl rfl (not_t hb219) rfl (sM rfl (sz rfl rfl rfl (sz rfl rfl rfl (sz rfl rfl rfl (sd rfl (yl_pick_f rfl rfl rfl rfl ?_))))))))))
    refine dn (CW.cond_f rfl rfl (CW.skip (tn (CW.seq (cR ?_)))))
    have q220 := Box.ex hB208 hE218
    refine sd rfl (yl_loadN ty122 rfl rfl (q220.cells (n := 4) rfl) rfl (sM rfl (sM rfl (sd rfl (yC en200 rfl (oc rfl (oc rfl (oc rfl oz))) (Cal.mono (c_s_l5Gives (p_0.getD k7 d_Op) ((s_l5Stands x176 p_1 ((p_0.getD k7 d_Op).Key)).1) ((s_l5Stands x176 p_1 ((p_0.getD k7 d_Op).Key)).2.1) (okL.getD o2 ok_d_Op _) ho216) ?_))))))
    rintro v222 w221 ⟨rfl, hE223⟩
    have hE223z := Ex.size hE223
    refine dn (bcase (s_l5Gives (p_0.getD k7 d_Op) ((s_l5Stands x176 p_1 ((p_0.getD k7 d_Op).Key)).1) ((s_l5Stands x176 p_1 ((p_0.getD k7 d_Op).Key)).2.1)) (fun hb224 => ?_) (fun hb224 => ?_))
    ·refine CW.cond_t rfl hb224 (cR (sA rfl (sA rfl (sA rfl (dn (CW.ret ?_))))))
     refine tr (br (tr (tr ?_)))
     have hB226 : B_s_l5Step_0 p_0 p_1 k7 (x176) = .ret (2, ([] : Str), ([] : List DWrite)) := by simp only [B_s_l5Step_0, hb219, hb224, cL]
     have hL225 : loopM (B_s_l5Step_0 p_0 p_1) (p_0.length - 0) 0 (([] : List DWrite)) = .ret (2, ([] : Str), ([] : List DWrite)) := hI188.symm.trans (loopM.ret hlt199 hB226)
     refine br (tr (rr rfl (.cons rfl (.cons rfl (.cons rfl .nil))) ?_))
     rw [show (s_l5Step p_0 p_1) = ((2, ([] : Str), ([] : List DWrite))) by simp only [s_l5Step, hb219, hb224, hL225, cL]]
     exact ⟨none, 0, w221.heap.size, w221.heap.size, rfl, (OwnL.nil _ _ _ _ _ _), (okS.lit rfl), (okL.nil _), (by (try dsimp only); first | omega | exact Nat.zero_le _ | (simp only [List.length_nil]; omega)), oM, (Ex.trans y0 hE223)⟩
    ·refine CW.cond_f rfl hb224 (CW.skip (tn (cR (sd rfl (yl_fieldAddr fd122_0 rfl rfl ?_)))))
     have q232 := Box.ex q220 hE223
     refine sd rfl (yl_load1 ty3 rfl rfl ((q232.cell 0).trans rfl) (dn (CW.block (cR (sd rfl (yl_eql rfl rfl rfl (sA rfl (SeqR.done ?_))))))))
     refine tn (bcD (q := ((p_0.getD k7 d_Op).Kind) = 2) (fun hb233 hb233p => ?_) (fun hb233 hb233p => ?_))
     ·refine CW.cond_t rfl hb233 (CW.region (sM rfl (sd rfl (yl_fieldAddr fd122_1 rfl rfl (sd rfl (yl_load1 ty9 rfl rfl ((q232.cell 1).trans rfl) (sd rfl (yl_fieldAddr fd122_2 rfl rfl (sd rfl (yl_load1 ty9 rfl rfl ((q232.cell 2).trans rfl) (sd rfl (yl_build (cs := [.string (bs ((p_0.getD k7 d_Op).Key)), .string (bs ((p_0.getD k7 d_Op).Val)), .bool (false)]) rfl (oc rfl (oc rfl oz)) (by kernel_rfl) (sd rfl (yC en172 rfl (oc rfl (oc rfl oz)) (Cal.mono (c_s_l5PutW x176 (⟨(p_0.getD k7 d_Op).Key, (p_0.getD k7 d_Op).Val, false⟩ : DWrite) (RdS.up (OwnL.rd gW (OwnL.ex gW (OwnL.ex gW q212 hE218) hE223)) gW) (okL.mk (xs := x176) Bl hok197) (⟨(okL.getD o2 ok_d_Op _).1, (okL.getD o2 ok_d_Op _).2⟩) Bo) ?_)))))))))))))))
      rintro v241 w237 ⟨A238, c238, lo238, hi238, rfl, h238, ho239, hp240, hrn243, hE242⟩
      have hE242z := Ex.size hE242
      refine sA rfl (SeqR.done (bn (bn (tn (CW.region (sd rfl (yl_inc rfl rfl rfl oM (sM rfl (SeqR.done ?_)))))))))
      refine tn ?_
      have hB244 : B_s_l5Step_0 p_0 p_1 k7 (x176) = .cont ((s_l5PutW x176 (⟨(p_0.getD k7 d_Op).Key, (p_0.getD k7 d_Op).Val, false⟩ : DWrite))) := by simp only [B_s_l5Step_0, hb219, hb224, hb233, cL]
      exact ⟨p_0.length - (k7 + 1), oM, k7 + 1, (s_l5PutW x176 (⟨(p_0.getD k7 d_Op).Key, (p_0.getD k7 d_Op).Val, false⟩ : DWrite)), A238, c238, hi238, lo238, rfl, hlt199, oM, (sR rfl), (RdS.ex good_Got (RdS.ex good_Got (RdS.ex good_Got q214 hE218) hE223) hE242), h238, (RdS.ex good_Op (RdS.ex good_Op y1 hE223) hE242), (Ex.trans (Ex.trans y0 hE223) hE242), oM, Bl, (ho239).2, (loopM.cont hlt199 hB244).symm.trans hI188⟩
     ·refine CW.cond_f rfl hb233 (cR (sd rfl (yl_eql rfl rfl rfl (sA rfl (dn (bcD (q := ((p_0.getD k7 d_Op).Kind) = 3) (fun hb258 hb258p => ?_) (fun hb258 hb258p => ?_)))))))
      ·refine CW.cond_t rfl hb258 (CW.region (sM rfl (sd rfl (yl_fieldAddr fd122_1 rfl rfl (sd rfl (yl_load1 ty9 rfl rfl ((q232.cell 1).trans rfl) (sd rfl (yl_build (cs := [.string (bs ((p_0.getD k7 d_Op).Key)), .string (bs (([] : Str))), .bool (true)]) rfl (oc rfl (oc rfl oz)) (by kernel_rfl) (sd rfl (yC en172 rfl (oc rfl (oc rfl oz)) (Cal.mono (c_s_l5PutW x176 (⟨(p_0.getD k7 d_Op).Key, ([] : Str), true⟩ : DWrite) (RdS.up (OwnL.rd gW (OwnL.ex gW (OwnL.ex gW q212 hE218) hE223)) gW) (okL.mk (xs := x176) Bl hok197) (⟨(okL.getD o2 ok_d_Op _).1, (okS.lit rfl)⟩) Bo) ?_)))))))))))
       rintro v266 w262 ⟨A263, c263, lo263, hi263, rfl, h263, ho264, hp265, hrn268, hE267⟩
       have hE267z := Ex.size hE267
       refine sA rfl (SeqR.done (bn (bn (tn (CW.region (sd rfl (yl_inc rfl rfl rfl oM (sM rfl (SeqR.done ?_)))))))))
       refine tn ?_
       have hB269 : B_s_l5Step_0 p_0 p_1 k7 (x176) = .cont ((s_l5PutW x176 (⟨(p_0.getD k7 d_Op).Key, ([] : Str), true⟩ : DWrite))) := by simp only [B_s_l5Step_0, hb219, hb224, hb233, hb258, cL]
       exact ⟨p_0.length - (k7 + 1), oM, k7 + 1, (s_l5PutW x176 (⟨(p_0.getD k7 d_Op).Key, ([] : Str), true⟩ : DWrite)), A263, c263, hi263, lo263, rfl, hlt199, oM, (sR rfl), (RdS.ex good_Got (RdS.ex good_Got (RdS.ex good_Got q214 hE218) hE223) hE267), h263, (RdS.ex good_Op (RdS.ex good_Op y1 hE223) hE267), (Ex.trans (Ex.trans y0 hE223) hE267), oM, Bl, (ho264).2, (loopM.cont hlt199 hB269).symm.trans hI188⟩
      ·refine CW.cond_f rfl hb258 (cR (sd rfl (yl_eql rfl rfl rfl (sA rfl (dn (bcD (q := ((p_0.getD k7 d_Op).Kind) = 4) (fun hb283 hb283p => ?_) (fun hb283 hb283p => ?_)))))))
       ·refine CW.cond_t rfl hb283 (cR (sM rfl (sd rfl (yC en201 rfl (oc rfl oz) (Cal.mono (c_s_l5Num ((s_l5Stands x176 p_1 ((p_0.getD k7 d_Op).Key)).1) ho216) ?_)))))
        rintro v285 w284 ⟨rfl, hE286⟩
        have hE286z := Ex.size hE286
        refine sM rfl (sd rfl (yl_extract rfl rfl rfl (sd rfl (yl_extract rfl rfl rfl (sA rfl (sA rfl (dn (CW.seq (CW.seq ?_)))))))))
        refine CW.region (sM rfl (sd rfl (yl_not rfl rfl (dn (bcase ((s_l5Stands x176 p_1 ((p_0.getD k7 d_Op).Key)).2.1) (fun hb287 => ?_) (fun hb287 => ?_))))))
        ·refine CW.cond_f rfl (not_t hb287) (CW.skip (tn ?_))
         have q288 := Box.ex q232 hE286
         have hrf290 := rf_l5Text (IntKind.wrap .i64 (((s_l5Num ((s_l5Stands x176 p_1 ((p_0.getD k7 d_Op).Key)).1)).1) + ((p_0.getD k7 d_Op).By)))
         refine drJ 9 [.slice A177 x176.length c178, .pointer (some ⟨b201, 0 + 1, none⟩), .string (bs ((p_0.getD k7 d_Op).Key)), .int .i64 ((s_l5Num ((s_l5Stands x176 p_1 ((p_0.getD k7 d_Op).Key)).1)).1), .pointer (some ⟨b201, 0 + 3, none⟩), .int .i64 ((p_0.getD k7 d_Op).By), .int .i64 (IntKind.wrap .i64 (((s_l5Num ((s_l5Stands x176 p_1 ((p_0.getD k7 d_Op).Key)).1)).1) + ((p_0.getD k7 d_Op).By))), .string (bs ((s_l5Text (IntKind.wrap .i64 (((s_l5Num ((s_l5Stands x176 p_1 ((p_0.getD k7 d_Op).Key)).1)).1) + ((p_0.getD k7 d_Op).By)))))), .agg #[.string (bs ((p_0.getD k7 d_Op).Key)), .string (bs ((s_l5Text (IntKind.wrap .i64 (((s_l5Num ((s_l5Stands x176 p_1 ((p_0.getD k7 d_Op).Key)).1)).1) + ((p_0.getD k7 d_Op).By)))))), .bool (false)]] Tryz.follows rfl ⟨oI rfl fun h => yM rfl (h.g 7 rfl) kI, oI rfl fun h => yl_fieldAddr fd122_1 rfl (h.g 9 rfl) kI, oI rfl fun h => yl_load1 ty9 rfl (h.g 76 rfl) (((Box.ex q288 h.ex).cell 1).trans rfl) kI, oI rfl fun h => yM rfl (h.g 13 rfl) kI, oI rfl fun h => yl_fieldAddr fd122_3 rfl (h.g 9 rfl) kI, oI rfl fun h => yl_load1 ty3 rfl (h.g 79 rfl) (((Box.ex q288 h.ex).cell 3).trans rfl) kI, oI rfl fun h => yl_add rfl (h.g 78 rfl) (h.g 80 rfl) kI, ?_, oI rfl fun h => yl_build (cs := [.string (bs ((p_0.getD k7 d_Op).Key)), .string (bs ((s_l5Text (IntKind.wrap .i64 (((s_l5Num ((s_l5Stands x176 p_1 ((p_0.getD k7 d_Op).Key)).1)).1) + ((p_0.getD k7 d_Op).By)))))), .bool (false)]) rfl (oc (h.g 77 rfl) (oc (h.g 82 rfl) oz)) (by kernel_rfl) kI, trivial⟩ ?_
         ·intro L329 w330 hi331
          have hE332 := hi331.ex
          have hE332z := Ex.size hE332
          exact OpR.op' rfl (yC en202 rfl (oc (hi331.g 81 rfl) oz) (Cal.mono (c_s_l5Text (IntKind.wrap .i64 (((s_l5Num ((s_l5Stands x176 p_1 ((p_0.getD k7 d_Op).Key)).1)).1) + ((p_0.getD k7 d_Op).By))) Bo) fun _ _ h => h))
         ·intro fl346 fh347 L343 w344 hp345
          have hE348 := hp345.ex
          have hE348z := Ex.size hE348
          refine sd rfl (yC en172 rfl (oc (hp345.nt 0 75 rfl rfl rfl) (oc (hp345.nt 8 83 rfl rfl rfl) oz)) (Cal.mono (c_s_l5PutW x176 (⟨(p_0.getD k7 d_Op).Key, (s_l5Text (IntKind.wrap .i64 (((s_l5Num ((s_l5Stands x176 p_1 ((p_0.getD k7 d_Op).Key)).1)).1) + ((p_0.getD k7 d_Op).By)))), false⟩ : DWrite) (RdS.up (OwnL.rd gW (OwnL.ex gW (OwnL.ex gW (OwnL.ex gW (OwnL.ex gW q212 hE218) hE223) hE286) hE348)) gW) (okL.mk (xs := x176) Bl hok197) (⟨(okL.getD o2 ok_d_Op _).1, (ok_l5Text _)⟩) Bo) ?_))
          rintro v364 w360 ⟨A361, c361, lo361, hi361, rfl, h361, ho362, hp363, hrn366, hE365⟩
          have hE365z := Ex.size hE365
          refine sA rfl (SeqR.done (bn (bn (tn (CW.sub (sC 1 (hp345.old 1 _ rfl rfl) (sC 7 rfl (sC 15 (hp345.old 15 _ rfl rfl) (sC 16 (hp345.old 16 _ rfl rfl) (sC 17 (hp345.old 17 _ rfl rfl) (Sub.nil _)))))) (CW.region (sd rfl (yl_inc rfl rfl rfl oM (sM rfl ?_)))))))))
          refine dn ?_
          have hB367 : B_s_l5Step_0 p_0 p_1 k7 (x176) = .cont ((s_l5PutW x176 (⟨(p_0.getD k7 d_Op).Key, (s_l5Text (IntKind.wrap .i64 (((s_l5Num ((s_l5Stands x176 p_1 ((p_0.getD k7 d_Op).Key)).1)).1) + ((p_0.getD k7 d_Op).By)))), false⟩ : DWrite))) := by first | (simp only [B_s_l5Step_0, hb219, hb224, hb233, hb258, hb283, hb287, cL]; done) | (simp only [B_s_l5Step_0, hb224, cL] <;> simp only [hb219, hb233, hb258, hb283, hb287, cL])
          exact ⟨p_0.length - (k7 + 1), oM, k7 + 1, (s_l5PutW x176 (⟨(p_0.getD k7 d_Op).Key, (s_l5Text (IntKind.wrap .i64 (((s_l5Num ((s_l5Stands x176 p_1 ((p_0.getD k7 d_Op).Key)).1)).1) + ((p_0.getD k7 d_Op).By)))), false⟩ : DWrite)), A361, c361, hi361, lo361, rfl, hlt199, oM, (sR rfl), (RdS.ex good_Got (RdS.ex good_Got (RdS.ex good_Got (RdS.ex good_Got (RdS.ex good_Got q214 hE218) hE223) hE286) hE348) hE365), h361, (RdS.ex good_Op (RdS.ex good_Op (RdS.ex good_Op (RdS.ex good_Op y1 hE223) hE286) hE348) hE365), (Ex.trans (Ex.trans (Ex.trans (Ex.trans y0 hE223) hE286) hE348) hE365), oM, Bl, (ho362).2, (loopM.cont hlt199 hB367).symm.trans hI188⟩
        ·refine CW.cond_t rfl (not_f hb287) (CW.region (sA rfl (dn ?_)))
         have q387 := Box.ex q232 hE286
         have hrf389 := rf_l5Text (IntKind.wrap .i64 (0 + ((p_0.getD k7 d_Op).By)))
         refine drJ 9 [.slice A177 x176.length c178, .pointer (some ⟨b201, 0 + 1, none⟩), .string (bs ((p_0.getD k7 d_Op).Key)), .int .i64 (0), .pointer (some ⟨b201, 0 + 3, none⟩), .int .i64 ((p_0.getD k7 d_Op).By), .int .i64 (IntKind.wrap .i64 (0 + ((p_0.getD k7 d_Op).By))), .string (bs ((s_l5Text (IntKind.wrap .i64 (0 + ((p_0.getD k7 d_Op).By)))))), .agg #[.string (bs ((p_0.getD k7 d_Op).Key)), .string (bs ((s_l5Text (IntKind.wrap .i64 (0 + ((p_0.getD k7 d_Op).By)))))), .bool (false)]] Tryz.follows rfl ⟨oI rfl fun h => yM rfl (h.g 7 rfl) kI, oI rfl fun h => yl_fieldAddr fd122_1 rfl (h.g 9 rfl) kI, oI rfl fun h => yl_load1 ty9 rfl (h.g 76 rfl) (((Box.ex q387 h.ex).cell 1).trans rfl) kI, oI rfl fun h => yM rfl (h.g 13 rfl) kI, oI rfl fun h => yl_fieldAddr fd122_3 rfl (h.g 9 rfl) kI, oI rfl fun h => yl_load1 ty3 rfl (h.g 79 rfl) (((Box.ex q387 h.ex).cell 3).trans rfl) kI, oI rfl fun h => yl_add rfl (h.g 78 rfl) (h.g 80 rfl) kI, ?_, oI rfl fun h => yl_build (cs := [.string (bs ((p_0.getD k7 d_Op).Key)), .string (bs ((s_l5Text (IntKind.wrap .i64 (0 + ((p_0.getD k7 d_Op).By)))))), .bool (false)]) rfl (oc (h.g 77 rfl) (oc (h.g 82 rfl) oz)) (by kernel_rfl) kI, trivial⟩ ?_
         ·intro L428 w429 hi430
          have hE431 := hi430.ex
          have hE431z := Ex.size hE431
          exact OpR.op' rfl (yC en202 rfl (oc (hi430.g 81 rfl) oz) (Cal.mono (c_s_l5Text (IntKind.wrap .i64 (0 + ((p_0.getD k7 d_Op).By))) Bo) fun _ _ h => h))
         ·intro fl445 fh446 L442 w443 hp444
          have hE447 := hp444.ex
          have hE447z := Ex.size hE447
          refine sd rfl (yC en172 rfl (oc (hp444.nt 0 75 rfl rfl rfl) (oc (hp444.nt 8 83 rfl rfl rfl) oz)) (Cal.mono (c_s_l5PutW x176 (⟨(p_0.getD k7 d_Op).Key, (s_l5Text (IntKind.wrap .i64 (0 + ((p_0.getD k7 d_Op).By)))), false⟩ : DWrite) (RdS.up (OwnL.rd gW (OwnL.ex gW (OwnL.ex gW (OwnL.ex gW (OwnL.ex gW q212 hE218) hE223) hE286) hE447)) gW) (okL.mk (xs := x176) Bl hok197) (⟨(okL.getD o2 ok_d_Op _).1, (ok_l5Text _)⟩) Bo) ?_))
          rintro v463 w459 ⟨A460, c460, lo460, hi460, rfl, h460, ho461, hp462, hrn465, hE464⟩
          have hE464z := Ex.size hE464
          refine sA rfl (SeqR.done (bn (bn (tn (CW.sub (sC 1 (hp444.old 1 _ rfl rfl) (sC 7 rfl (sC 15 (hp444.old 15 _ rfl rfl) (sC 16 (hp444.old 16 _ rfl rfl) (sC 17 (hp444.old 17 _ rfl rfl) (Sub.nil _)))))) (CW.region (sd rfl (yl_inc rfl rfl rfl oM (sM rfl ?_)))))))))
          refine dn ?_
          have hB466 : B_s_l5Step_0 p_0 p_1 k7 (x176) = .cont ((s_l5PutW x176 (⟨(p_0.getD k7 d_Op).Key, (s_l5Text (IntKind.wrap .i64 (0 + ((p_0.getD k7 d_Op).By)))), false⟩ : DWrite))) := by first | (simp only [B_s_l5Step_0, hb219, hb224, hb233, hb258, hb283, hb287, cL]; done) | (simp only [B_s_l5Step_0, hb224, cL] <;> simp only [hb219, hb233, hb258, hb283, hb287, cL])
          exact ⟨p_0.length - (k7 + 1), oM, k7 + 1, (s_l5PutW x176 (⟨(p_0.getD k7 d_Op).Key, (s_l5Text (IntKind.wrap .i64 (0 + ((p_0.getD k7 d_Op).By)))), false⟩ : DWrite)), A460, c460, hi460, lo460, rfl, hlt199, oM, (sR rfl), (RdS.ex good_Got (RdS.ex good_Got (RdS.ex good_Got (RdS.ex good_Got (RdS.ex good_Got q214 hE218) hE223) hE286) hE447) hE464), h460, (RdS.ex good_Op (RdS.ex good_Op (RdS.ex good_Op (RdS.ex good_Op y1 hE223) hE286) hE447) hE464), (Ex.trans (Ex.trans (Ex.trans (Ex.trans y0 hE223) hE286) hE447) hE464), oM, Bl, (ho461).2, (loopM.cont hlt199 hB466).symm.trans hI188⟩
       ·refine CW.cond_f rfl hb283 (CW.skip (bn (bn (tn (CW.region (sd rfl (yl_inc rfl rfl rfl oM (sM rfl (SeqR.done ?_)))))))))
        refine tn ?_
        have hB486 : B_s_l5Step_0 p_0 p_1 k7 (x176) = .cont (x176) := by simp only [B_s_l5Step_0, hb219, hb224, hb233, hb258, hb283, cL]
        exact ⟨p_0.length - (k7 + 1), oM, k7 + 1, x176, A177, c178, u179, lo180, rfl, hlt199, oM, (sR rfl), (RdS.ex good_Got (RdS.ex good_Got q214 hE218) hE223), (OwnL.ex gW (OwnL.ex gW q212 hE218) hE223), (RdS.ex good_Op y1 hE223), (Ex.trans y0 hE223), oM, Bl, hok197, (loopM.cont hlt199 hB486).symm.trans hI188⟩
   ·refine sy rfl rfl (not_f hb219) (yl_fieldAddr fd122_0 rfl rfl ?_)
    have q499 := Box.ex hB208 hE218
    refine sy rfl rfl (not_f hb219) (yl_load1 ty3 rfl rfl ((q499.cell 0).trans rfl) (sy rfl rfl (not_f hb219) (yl_neq rfl rfl rfl (sd rfl (yl_pick_t rfl rfl (not_f hb219) rfl (sM rfl (bcD (q := ((p_0.getD k7 d_Op).Kind) = 2) (fun hb500 hb500p => ?_) (fun hb500 hb500p => ?_))))))))
    ·refine sz rfl rfl (not_t hb500) (sz rfl rfl (not_t hb500) (sz rfl rfl (not_t hb500) (sd rfl (yl_pick_f rfl rfl (not_t hb500) rfl (dn (CW.cond_f rfl rfl (CW.skip (tn ?_))))))))
     refine CW.seq (cR (sd rfl (yl_loadN ty122 rfl rfl (q499.cells (n := 4) rfl) rfl (sM rfl (sM rfl (sd rfl (yC en200 rfl (oc rfl (oc rfl (oc rfl oz))) (Cal.mono (c_s_l5Gives (p_0.getD k7 d_Op) ((s_l5Stands x176 p_1 ((p_0.getD k7 d_Op).Key)).1) ((s_l5Stands x176 p_1 ((p_0.getD k7 d_Op).Key)).2.1) (okL.getD o2 ok_d_Op _) ho216) ?_))))))))
     rintro v502 w501 ⟨rfl, hE503⟩
     have hE503z := Ex.size hE503
     refine dn (bcase (s_l5Gives (p_0.getD k7 d_Op) ((s_l5Stands x176 p_1 ((p_0.getD k7 d_Op).Key)).1) ((s_l5Stands x176 p_1 ((p_0.getD k7 d_Op).Key)).2.1)) (fun hb504 => ?_) (fun hb504 => ?_))
     ·refine CW.cond_t rfl hb504 (cR (sA rfl (sA rfl (sA rfl (dn (CW.ret ?_))))))
      refine tr (br (tr (tr ?_)))
      have hB506 : B_s_l5Step_0 p_0 p_1 k7 (x176) = .ret (2, ([] : Str), ([] : List DWrite)) := by simp only [B_s_l5Step_0, hb219, hb500, hb504, cL]
      have hL505 : loopM (B_s_l5Step_0 p_0 p_1) (p_0.length - 0) 0 (([] : List DWrite)) = .ret (2, ([] : Str), ([] : List DWrite)) := hI188.symm.trans (loopM.ret hlt199 hB506)
      refine br (tr (rr rfl (.cons rfl (.cons rfl (.cons rfl .nil))) ?_))
      rw [show (s_l5Step p_0 p_1) = ((2, ([] : Str), ([] : List DWrite))) by simp only [s_l5Step, hb219, hb500, hb504, hL505, cL]]
      exact ⟨none, 0, w501.heap.size, w501.heap.size, rfl, (OwnL.nil _ _ _ _ _ _), (okS.lit rfl), (okL.nil _), (by (try dsimp only); first | omega | exact Nat.zero_le _ | (simp only [List.length_nil]; omega)), oM, (Ex.trans y0 hE503)⟩
     ·refine CW.cond_f rfl hb504 (CW.skip (tn (cR (sd rfl (yl_fieldAddr fd122_0 rfl rfl ?_)))))
      have q512 := Box.ex q499 hE503
      refine sd rfl (yl_load1 ty3 rfl rfl ((q512.cell 0).trans rfl) (dn (CW.block (cR (sd rfl (yl_eql rfl rfl rfl (sA rfl (SeqR.done ?_))))))))
      refine tn (CW.cond_t rfl hb500 (CW.region (sM rfl (sd rfl (yl_fieldAddr fd122_1 rfl rfl (sd rfl (yl_load1 ty9 rfl rfl ((q512.cell 1).trans rfl) (sd rfl (yl_fieldAddr fd122_2 rfl rfl (sd rfl (yl_load1 ty9 rfl rfl ((q512.cell 2).trans rfl) (sd rfl (yl_build (cs := [.string (bs ((p_0.getD k7 d_Op).Key)), .string (bs ((p_0.getD k7 d_Op).Val)), .bool (false)]) rfl (oc rfl (oc rfl oz)) (by kernel_rfl) ?_)))))))))))))
      refine sd rfl (yC en172 rfl (oc rfl (oc rfl oz)) (Cal.mono (c_s_l5PutW x176 (⟨(p_0.getD k7 d_Op).Key, (p_0.getD k7 d_Op).Val, false⟩ : DWrite) (RdS.up (OwnL.rd gW (OwnL.ex gW (OwnL.ex gW q212 hE218) hE503)) gW) (okL.mk (xs := x176) Bl hok197) (⟨(okL.getD o2 ok_d_Op _).1, (okL.getD o2 ok_d_Op _).2⟩) Bo) ?_))
      rintro v520 w516 ⟨A517, c517, lo517, hi517, rfl, h517, ho518, hp519, hrn522, hE521⟩
      have hE521z := Ex.size hE521
      refine sA rfl (SeqR.done (bn (bn (tn (CW.region (sd rfl (yl_inc rfl rfl rfl oM (sM rfl (SeqR.done ?_)))))))))
      refine tn ?_
      have hB523 : B_s_l5Step_0 p_0 p_1 k7 (x176) = .cont ((s_l5PutW x176 (⟨(p_0.getD k7 d_Op).Key, (p_0.getD k7 d_Op).Val, false⟩ : DWrite))) := by simp only [B_s_l5Step_0, hb219, hb500, hb504, cL]
      exact ⟨p_0.length - (k7 + 1), oM, k7 + 1, (s_l5PutW x176 (⟨(p_0.getD k7 d_Op).Key, (p_0.getD k7 d_Op).Val, false⟩ : DWrite)), A517, c517, hi517, lo517, rfl, hlt199, oM, (sR rfl), (RdS.ex good_Got (RdS.ex good_Got (RdS.ex good_Got q214 hE218) hE503) hE521), h517, (RdS.ex good_Op (RdS.ex good_Op y1 hE503) hE521), (Ex.trans (Ex.trans y0 hE503) hE521), oM, Bl, (ho518).2, (loopM.cont hlt199 hB523).symm.trans hI188⟩
    ·refine sy rfl rfl (not_f hb500) (yl_fieldAddr fd122_0 rfl rfl (sy rfl rfl (not_f hb500) (yl_load1 ty3 rfl rfl ((q499.cell 0).trans rfl) (sy rfl rfl (not_f hb500) (yl_neq rfl rfl rfl (sd rfl (yl_pick_t rfl rfl (not_f hb500) rfl (dn (bcD (q := ((p_0.getD k7 d_Op).Kind) = 3) (fun hb537 hb537p => ?_) (fun hb537 hb537p => ?_))))))))))
     ·refine CW.cond_f rfl (not_t hb537) (CW.skip (tn (CW.seq (cR (sd rfl (yl_loadN ty122 rfl rfl (q499.cells (n := 4) rfl) rfl (sM rfl (sM rfl ?_))))))))
      refine sd rfl (yC en200 rfl (oc rfl (oc rfl (oc rfl oz))) (Cal.mono (c_s_l5Gives (p_0.getD k7 d_Op) ((s_l5Stands x176 p_1 ((p_0.getD k7 d_Op).Key)).1) ((s_l5Stands x176 p_1 ((p_0.getD k7 d_Op).Key)).2.1) (okL.getD o2 ok_d_Op _) ho216) ?_))
      rintro v539 w538 ⟨rfl, hE540⟩
      have hE540z := Ex.size hE540
      refine dn (bcase (s_l5Gives (p_0.getD k7 d_Op) ((s_l5Stands x176 p_1 ((p_0.getD k7 d_Op).Key)).1) ((s_l5Stands x176 p_1 ((p_0.getD k7 d_Op).Key)).2.1)) (fun hb541 => ?_) (fun hb541 => ?_))
      ·refine CW.cond_t rfl hb541 (cR (sA rfl (sA rfl (sA rfl (dn (CW.ret ?_))))))
       refine tr (br (tr (tr ?_)))
       have hB543 : B_s_l5Step_0 p_0 p_1 k7 (x176) = .ret (2, ([] : Str), ([] : List DWrite)) := by simp only [B_s_l5Step_0, hb219, hb500, hb537, hb541, cL]
       have hL542 : loopM (B_s_l5Step_0 p_0 p_1) (p_0.length - 0) 0 (([] : List DWrite)) = .ret (2, ([] : Str), ([] : List DWrite)) := hI188.symm.trans (loopM.ret hlt199 hB543)
       refine br (tr (rr rfl (.cons rfl (.cons rfl (.cons rfl .nil))) ?_))
       rw [show (s_l5Step p_0 p_1) = ((2, ([] : Str), ([] : List DWrite))) by simp only [s_l5Step, hb219, hb500, hb537, hb541, hL542, cL]]
       exact ⟨none, 0, w538.heap.size, w538.heap.size, rfl, (OwnL.nil _ _ _ _ _ _), (okS.lit rfl), (okL.nil _), (by (try dsimp only); first | omega | exact Nat.zero_le _ | (simp only [List.length_nil]; omega)), oM, (Ex.trans y0 hE540)⟩
      ·refine CW.cond_f rfl hb541 (CW.skip (tn (cR (sd rfl (yl_fieldAddr fd122_0 rfl rfl ?_)))))
       have q549 := Box.ex q499 hE540
       refine sd rfl (yl_load1 ty3 rfl rfl ((q549.cell 0).trans rfl) (dn (CW.block (cR (sd rfl (yl_eql rfl rfl rfl (sA rfl (SeqR.done ?_))))))))
       refine tn (CW.cond_f rfl hb500 (cR (sd rfl (yl_eql rfl rfl rfl (sA rfl (dn (CW.cond_t rfl hb537 ?_)))))))
       refine CW.region (sM rfl (sd rfl (yl_fieldAddr fd122_1 rfl rfl (sd rfl (yl_load1 ty9 rfl rfl ((q549.cell 1).trans rfl) (sd rfl (yl_build (cs := [.string (bs ((p_0.getD k7 d_Op).Key)), .string (bs (([] : Str))), .bool (true)]) rfl (oc rfl (oc rfl oz)) (by kernel_rfl) (sd rfl (yC en172 rfl (oc rfl (oc rfl oz)) (Cal.mono (c_s_l5PutW x176 (⟨(p_0.getD k7 d_Op).Key, ([] : Str), true⟩ : DWrite) (RdS.up (OwnL.rd gW (OwnL.ex gW (OwnL.ex gW q212 hE218) hE540)) gW) (okL.mk (xs := x176) Bl hok197) (⟨(okL.getD o2 ok_d_Op _).1, (okS.lit rfl)⟩) Bo) ?_))))))))))
       rintro v557 w553 ⟨A554, c554, lo554, hi554, rfl, h554, ho555, hp556, hrn559, hE558⟩
       have hE558z := Ex.size hE558
       refine sA rfl (SeqR.done (bn (bn (tn (CW.region (sd rfl (yl_inc rfl rfl rfl oM (sM rfl (SeqR.done ?_)))))))))
       refine tn ?_
       have hB560 : B_s_l5Step_0 p_0 p_1 k7 (x176) = .cont ((s_l5PutW x176 (⟨(p_0.getD k7 d_Op).Key, ([] : Str), true⟩ : DWrite))) := by simp only [B_s_l5Step_0, hb219, hb500, hb537, hb541, cL]
       exact ⟨p_0.length - (k7 + 1), oM, k7 + 1, (s_l5PutW x176 (⟨(p_0.getD k7 d_Op).Key, ([] : Str), true⟩ : DWrite)), A554, c554, hi554, lo554, rfl, hlt199, oM, (sR rfl), (RdS.ex good_Got (RdS.ex good_Got (RdS.ex good_Got q214 hE218) hE540) hE558), h554, (RdS.ex good_Op (RdS.ex good_Op y1 hE540) hE558), (Ex.trans (Ex.trans y0 hE540) hE558), oM, Bl, (ho555).2, (loopM.cont hlt199 hB560).symm.trans hI188⟩
     ·refine CW.cond_t rfl (not_f hb537) (CW.seq (drJ 3 [.pointer (some ⟨b201, 0 + 1, none⟩), .string (bs ((p_0.getD k7 d_Op).Key)), .int .i64 (1)] Tryz.follows rfl ⟨?_, ?_, ?_, trivial⟩ ?_))
      ·exact oI rfl fun h => yl_fieldAddr fd122_1 rfl (h.g 9 rfl) kI
      ·exact oI rfl fun h => yl_load1 ty9 rfl (h.g 42 rfl) (((Box.ex q499 h.ex).cell 1).trans rfl) kI
      ·exact oI rfl fun _ => yA rfl rfl kI
      ·intro fl592 fh593 L589 w590 hp591
       have hE594 := hp591.ex
       have hE594z := Ex.size hE594
       refine sd rfl (yA rfl (hp591.nt 1 43 rfl rfl rfl) (sA rfl (dn (CW.sub (sC 4 (hp591.nt 2 4 rfl rfl rfl) (sC 5 rfl (sC 6 rfl (Sub.nil _)))) (CW.ret (tr (br (tr ?_))))))))
       refine tr ?_
       have hB598 : B_s_l5Step_0 p_0 p_1 k7 (x176) = .ret (1, (p_0.getD k7 d_Op).Key, ([] : List DWrite)) := by simp only [B_s_l5Step_0, hb219, hb500, hb537, cL]
       have hL597 : loopM (B_s_l5Step_0 p_0 p_1) (p_0.length - 0) 0 (([] : List DWrite)) = .ret (1, (p_0.getD k7 d_Op).Key, ([] : List DWrite)) := hI188.symm.trans (loopM.ret hlt199 hB598)
       refine br (tr (rr rfl (.cons rfl (.cons rfl (.cons rfl .nil))) ?_))
       rw [show (s_l5Step p_0 p_1) = ((1, (p_0.getD k7 d_Op).Key, ([] : List DWrite))) by simp only [s_l5Step, hb219, hb500, hb537, hL597, cL]]
       exact ⟨none, 0, w590.heap.size, w590.heap.size, rfl, (OwnL.nil _ _ _ _ _ _), (okL.getD o2 ok_d_Op _).1, (okL.nil _), (by (try dsimp only); first | omega | exact Nat.zero_le _ | (simp only [List.length_nil]; omega)), oM, (Ex.trans y0 hE594)⟩
  ·refine cR (sd rfl (yl_lss rfl rfl rfl (dn (CW.seq (CW.cond_f rfl (lt_f hlt199) (CW.exit (tx ?_)))))))
   refine tx ?_
   have hL604 : loopM (B_s_l5Step_0 p_0 p_1) (p_0.length - 0) 0 (([] : List DWrite)) = .done (x176) := hI188.symm.trans (loopM.stop hlt199)
   refine bx (tn (cR (sM rfl (sA rfl (sA rfl (sA rfl (SeqR.done ?_)))))))
   refine tn (CW.ret (rr rfl (.cons rfl (.cons rfl (.cons rfl .nil))) ?_))
   rw [show (s_l5Step p_0 p_1) = ((3, ([] : Str), x176)) by simp only [s_l5Step, hL604, cL]]
   exact ⟨A177, c178, lo180, u179, rfl, hf192, (okS.lit rfl), (okL.mk (xs := x176) Bl hok197), (by (try dsimp only); first | omega | exact Nat.zero_le _ | (simp only [List.length_nil]; omega)), oM, hf194⟩
theorem c_s_l5Tell {A1 : Option Addr} {c1 : Nat} {w : World} (p_rows : List DWrite) (p_key : Str) (h1 : RdS w (Iv 0 w.heap.size) (RF e_Write) 3 A1 p_rows.length c1 p_rows) (o2 : (okL ok_Write) p_rows) (o3 : okS p_key) : Cal Tryz.prog 171 #[.slice A1 p_rows.length c1, .string (bs (p_key))] w fun v w' => v = .agg #[.string (bs ((s_l5Tell p_rows p_key).Key)), .string (bs ((s_l5Tell p_rows p_key).Val)), .bool ((s_l5Tell p_rows p_key).There)] ∧ ok_Got (s_l5Tell p_rows p_key) ∧ Ex w w' := by
 have hol4 := o2.1
 have hol5 : p_key.length ≤ 1073741824 := o3
 refine Cal.of func171 rfl ntmps171 rfl (cR (sd rfl (yB ty170 (cs := [.string (bs (([] : Str))), .string (bs (([] : Str))), .bool (false)]) rfl rfl ?_)))
 intro b6 w7 hs8 hz9 hB10 hE11
 refine dn (CW.seq (cR (sM rfl (sd rfl (yL un34 rfl rfl (sM rfl (SeqR.done ?_)))))))
 refine tn (CW.block (CW.loop (fun m27 L28 w29 => ∃ (k12 : Nat), m27 = p_rows.length - k12 ∧ k12 ≤ p_rows.length ∧ w7.heap.size ≤ w29.heap.size ∧ Sub [(1, .string (bs (p_key))), (4, .pointer (some ⟨b6, 0, none⟩)), (7, .slice A1 p_rows.length c1), (8, .int .i64 ((p_rows.length : Int))), (9, .int .i64 ((k12 : Int)))] L28 ∧ Box w29 b6 170 [.string (bs (([] : Str))), .string (bs (([] : Str))), .bool (false)] ∧ RdS w29 (Iv 0 w.heap.size) (RF e_Write) 3 A1 p_rows.length c1 p_rows ∧ Ex w w29 ∧ loopM (B_s_l5Tell_0 p_rows p_key) (p_rows.length - k12) k12 () = loopM (B_s_l5Tell_0 p_rows p_key) (p_rows.length - 0) 0 ()) (p_rows.length - 0) ?_ ?_))
 ·exact ⟨0, rfl, oM, Nat.le_refl _, (sR rfl), hB10, (RdS.ex gW h1 hE11), (Ex.trans (Ex.refl w) hE11), rfl⟩
 ·rintro m32 L33 w34 ⟨k12, rfl, hk35, hsz37, hl38, hf39, hf40, hf41, hI36⟩
  refine CW.sub hl38 ?_
  have hf39z := Box.lt hf39
  have hf41z := Ex.size hf41
  have hbg42 := RdS.big hf40
  rcases Nat.lt_or_ge k12 p_rows.length with hlt43 | hlt43
  ·refine cR (sd rfl (yl_lss rfl rfl rfl (dn (CW.seq (CW.cond_t rfl (lt_t hlt43) (CW.skip (tn ?_)))))))
   refine CW.seq (CW.block (cR ?_))
   obtain ⟨_, _, _, eA44, _, ebl44, _, eR44, eC44⟩ := RdS.aD hf40 d_Write (i := k12)
   obtain rfl := eR44
   refine sd rfl (yl_ixN un34 ty80 rfl rfl rfl eA44 (sd rfl (yl_loadN ty80 rfl rfl eC44 rfl (sd rfl (yB ty80 (cs := [.string (bs (([] : Str))), .string (bs (([] : Str))), .bool (false)]) rfl rfl ?_)))))
   intro b45 w46 hs47 hz48 hB49 hE50
   refine SeqR.u rfl rfl (yl_storeA (vs := [.string (bs ((p_rows.getD k12 d_Write).Key)), .string (bs ((p_rows.getD k12 d_Write).Val)), .bool ((p_rows.getD k12 d_Write).Gone)]) ty80 rfl rfl rfl rfl rfl rfl hB49 rfl ?_)
   intro w51 hB52 hO53
   have hO53z := hO53.size
   refine dn (cR (sd rfl (yl_fieldAddr fd80_0 rfl rfl (sd rfl (yl_load1 ty9 rfl rfl ((hB52.cell 0).trans rfl) (sM rfl (sd rfl (yl_seql (a := ((p_rows.getD k12 d_Write).Key)) (b := p_key) rfl rfl rfl (SeqR.done ?_)))))))))
   refine tn (bcase (((p_rows.getD k12 d_Write).Key) == p_key) (fun hb54 => ?_) (fun hb54 => ?_))
   ·refine CW.cond_t rfl hb54 (cR (sM rfl (sd rfl (yl_fieldAddr fd80_1 rfl rfl (sd rfl (yl_load1 ty9 rfl rfl ((hB52.cell 1).trans rfl) (sd rfl (yl_build (cs := [.string (bs (p_key)), .string (bs ((p_rows.getD k12 d_Write).Val)), .bool (true)]) rfl (oc rfl (oc rfl (oc rfl oz))) (by kernel_rfl) (SeqR.u rfl rfl (yl_storeA (vs := [.string (bs (p_key)), .string (bs ((p_rows.getD k12 d_Write).Val)), .bool (true)]) ty170 rfl rfl rfl rfl rfl rfl (Box.only (Box.ex hf39 hE50) hO53 oM) rfl ?_))))))))))
    intro w57 hB58 hO59
    have hO59z := hO59.size
    refine dn (CW.ret (br (tr (tr ?_))))
    have hB61 : B_s_l5Tell_0 p_rows p_key k12 () = .ret (⟨p_key, (p_rows.getD k12 d_Write).Val, true⟩ : DGot) := by simp only [B_s_l5Tell_0, hb54, cL]
    have hL60 : loopM (B_s_l5Tell_0 p_rows p_key) (p_rows.length - 0) 0 () = .ret (⟨p_key, (p_rows.getD k12 d_Write).Val, true⟩ : DGot) := hI36.symm.trans (loopM.ret hlt43 hB61)
    refine br (tr (rr rfl (.cons ⟨_, rfl, run_loadN ty170 (cs := [.string (bs (p_key)), .string (bs ((p_rows.getD k12 d_Write).Val)), .bool (true)]) rfl (hB58.cells (n := 3) rfl)⟩ .nil) ?_))
    rw [show (s_l5Tell p_rows p_key) = ((⟨p_key, (p_rows.getD k12 d_Write).Val, true⟩ : DGot)) by simp only [s_l5Tell, hb54, hL60, cL]]
    exact ⟨rfl, ⟨o3, (okL.getD o2 ok_d_Write _).2⟩, (Below.only (Below.only (Ex.trans hf41 hE50) hO53 oM) hO59 oM)⟩
   ·refine CW.cond_f rfl hb54 (CW.skip (bn (tn (CW.region (sd rfl (yl_inc rfl rfl rfl oM (sM rfl (dn ?_))))))))
    have hB66 : B_s_l5Tell_0 p_rows p_key k12 () = .cont () := by simp only [B_s_l5Tell_0, hb54, cL]
    exact ⟨p_rows.length - (k12 + 1), oM, k12 + 1, rfl, hlt43, oM, (sR rfl), (Box.only (Box.ex hf39 hE50) hO53 oM), (RdS.only gW (RdS.ex gW hf40 hE50) hO53 iV), (Below.only (Ex.trans hf41 hE50) hO53 oM), (loopM.cont hlt43 hB66).symm.trans hI36⟩
  ·refine cR (sd rfl (yl_lss rfl rfl rfl (dn (CW.seq (CW.cond_f rfl (lt_f hlt43) (CW.exit (tx ?_)))))))
   refine tx ?_
   have hL73 : loopM (B_s_l5Tell_0 p_rows p_key) (p_rows.length - 0) 0 () = .done () := hI36.symm.trans (loopM.stop hlt43)
   refine bx (tn (cR (sM rfl (sd rfl (yl_build (cs := [.string (bs (p_key)), .string (bs (([] : Str))), .bool (false)]) rfl (oc rfl oz) (by kernel_rfl) (SeqR.u rfl rfl (yl_storeA (vs := [.string (bs (p_key)), .string (bs (([] : Str))), .bool (false)]) ty170 rfl rfl rfl rfl rfl rfl hf39 rfl ?_)))))))
   intro w74 hB75 hO76
   have hO76z := hO76.size
   refine dn (CW.ret (rr rfl (.cons ⟨_, rfl, run_loadN ty170 (cs := [.string (bs (p_key)), .string (bs (([] : Str))), .bool (false)]) rfl (hB75.cells (n := 3) rfl)⟩ .nil) ?_))
   rw [show (s_l5Tell p_rows p_key) = ((⟨p_key, ([] : Str), false⟩ : DGot)) by simp only [s_l5Tell, hL73, cL]]
   exact ⟨rfl, ⟨o3, (okS.lit rfl)⟩, (Below.only hf41 hO76 oM)⟩
theorem c_s_l5Alone {A1 : Option Addr} {c1 : Nat} {A3 : Option Addr} {c3 : Nat} {w : World} (p_rows : List DWrite) (p_l : List DOp) (h1 : RdS w (Iv 0 w.heap.size) (RF e_Write) 3 A1 p_rows.length c1 p_rows) (h3 : RdS w (Iv 0 w.heap.size) (RF e_Op) 4 A3 p_l.length c3 p_l) (o2 : (okL ok_Write) p_rows) (o4 : (okL ok_Op) p_l) (pre0 : ∀ y ∈ p_l, y.Kind ≠ 4) (pre1 : p_l.length ≤ 100) : Cal Tryz.prog 123 #[.slice A1 p_rows.length c1, .slice A3 p_l.length c3] w fun v w' => ∃ A_1 c_1 A_2 c_2, v = .tuple #[.slice A_1 (((s_l5Alone p_rows p_l).1).length) c_1, .slice A_2 (((s_l5Alone p_rows p_l).2.1).length) c_2, .bool ((s_l5Alone p_rows p_l).2.2)] ∧ RdS w' (Iv w.heap.size w'.heap.size) (RF e_Got) 3 A_1 ((s_l5Alone p_rows p_l).1).length c_1 ((s_l5Alone p_rows p_l).1) ∧ RdS w' (Iv w.heap.size w'.heap.size) (RF e_Write) 3 A_2 ((s_l5Alone p_rows p_l).2.1).length c_2 ((s_l5Alone p_rows p_l).2.1) ∧ (okL ok_Got) ((s_l5Alone p_rows p_l).1) ∧ (okL ok_Write) ((s_l5Alone p_rows p_l).2.1) ∧ ((s_l5Alone p_rows p_l).2.1).length ≤ p_l.length ∧ Ex w w' := by
 have hol5 := o2.1
 have hol6 := o4.1
 refine Cal.of func123 rfl ntmps123 rfl (cR (sA rfl (sA rfl (sA rfl (dn (CW.seq ?_))))))
 refine CW.region (sA rfl (dn (CW.block (CW.loop (fun m45 L46 w47 => ∃ (x40 : List DGot) (A41 : Option Addr) (c42 : Nat) (u43 : Nat) (lo44 : Nat), ((p_l.filter fun o => !((x40 : List DGot).any fun g => g.Key == o.Key)).length) < m45 ∧ w.heap.size ≤ w47.heap.size ∧ Sub [(0, .slice A1 p_rows.length c1), (1, .slice A3 p_l.length c3), (7, .slice A41 x40.length c42)] L46 ∧ RdS w47 (Iv 0 w.heap.size) (RF e_Write) 3 A1 p_rows.length c1 p_rows ∧ RdS w47 (Iv 0 w.heap.size) (RF e_Op) 4 A3 p_l.length c3 p_l ∧ OwnL w47 lo44 u43 170 3 (RF e_Got) A41 x40.length c42 x40 ∧ Ex w w47 ∧ (w.heap.size ≤ lo44 ∧ lo44 ≤ u43 ∧ u43 ≤ w47.heap.size) ∧ x40.length + 1 * ((p_l.filter fun o => !((x40 : List DGot).any fun g => g.Key == o.Key)).length) ≤ 0 + 1 * ((p_l.filter fun o => !(([] : List DGot).any fun g => g.Key == o.Key)).length) ∧ (∀ y ∈ x40, ok_Got y) ∧ (x40.length + ((p_l.filter fun o => !((x40 : List DGot).any fun g => g.Key == o.Key)).length) ≤ p_l.length) ∧ loopW (B_s_l5Alone_0 p_rows p_l) m45 (x40) = loopW (B_s_l5Alone_0 p_rows p_l) (((p_l.filter fun o => !(([] : List DGot).any fun g => g.Key == o.Key)).length) + 1) (([] : List DGot))) (((p_l.filter fun o => !(([] : List DGot).any fun g => g.Key == o.Key)).length) + 1) ?_ ?_))))
 ·exact ⟨([] : List DGot), none, 0, w.heap.size, w.heap.size, Nat.lt_succ_self _, Nat.le_refl _, (sR rfl), h1, h3, (OwnL.nil w w.heap.size w.heap.size 170 3 (RF e_Got)), (Ex.refl w), oM, (by first | (simp; done) | (first | omega | (simp only [lN, toS_length]; omega))), okE.nil, (by first | exact asks_0 _ | omega), rfl⟩
 ·rintro m48 L49 w50 ⟨x40, A41, c42, u43, lo44, hk51, hsz53, hl54, hf55, hf56, hf57, hf58, hu59, hln60, hok61, hv62, hI52⟩
  refine CW.sub hl54 ?_
  have hf58z := Ex.size hf58
  refine CW.block (cR (sM rfl (sM rfl (sd rfl (yC en170 rfl (oc rfl (oc rfl oz)) (Cal.mono (c_s_l5Step p_l x40 (RdS.up hf56 good_Op) (RdS.up (OwnL.rd good_Got hf57) good_Got) o4 (okL.mk (xs := x40) Bl hok61) Bo Bo) ?_))))))
  rintro v69 w64 ⟨A65, c65, lo65, hi65, rfl, h65, ho66, ho67, hp68, hrn71, hE70⟩
  have hE70z := Ex.size hE70
  refine sM rfl (sd rfl (yl_extract rfl rfl rfl (sd rfl (yl_extract rfl rfl rfl (sd rfl (yl_extract rfl rfl rfl (sA rfl (sA rfl (sA rfl (dn ?_))))))))))
  refine CW.seq (cR (sM rfl (sd rfl (yl_neq rfl rfl rfl (dn (bcD (q := ((s_l5Step p_l x40).1) = 1) (fun hb72 hb72p => ?_) (fun hb72 hb72p => ?_)))))))
  ·refine CW.cond_f rfl (not_t hb72) (CW.skip (tn (CW.region (sM rfl (sM rfl (sM rfl ?_))))))
   have q73 := RdS.ex gW hf55 hE70
   refine sd rfl (yC en171 rfl (oc rfl (oc rfl oz)) (Cal.mono (c_s_l5Tell p_rows ((s_l5Step p_l x40).2.1) (RdS.up q73 gW) o2 ho66) ?_))
   rintro v76 w74 ⟨rfl, ho75, hE77⟩
   have hE77z := Ex.size hE77
   refine sd rfl (yl_buildSlice (cs := [.string (bs ((s_l5Tell p_rows ((s_l5Step p_l x40).2.1)).Key)), .string (bs ((s_l5Tell p_rows ((s_l5Step p_l x40).2.1)).Val)), .bool ((s_l5Tell p_rows ((s_l5Step p_l x40).2.1)).There)]) un117 ty170 (by decide) rfl (oc rfl oz) (by kernel_rfl) ?_)
   intro b78 w79 hs80 hz81 hB82 hE83
   have hO84 : OwnL w79 b78 (b78 + 1) 170 3 (RF e_Got) (some ⟨b78, 0, none⟩) 1 1 ([(s_l5Tell p_rows ((s_l5Step p_l x40).2.1))] : List DGot) := OwnL.of_box (S := fun _ => False) hB82 (Nat.le_refl _) (Nat.lt_succ_self _) (EncL.cons (c := [.string (bs ((s_l5Tell p_rows ((s_l5Step p_l x40).2.1)).Key)), .string (bs ((s_l5Tell p_rows ((s_l5Step p_l x40).2.1)).Val)), .bool ((s_l5Tell p_rows ((s_l5Step p_l x40).2.1)).There)]) rfl rfl EncL.nil) (nb rfl) (fun h => h) (fun _ h => False.elim h)
   refine sd rfl (yl_appendP (S := fun _ => False) (lo := lo44) (hi := u43) (xs := x40) (ys := ([(s_l5Tell p_rows ((s_l5Step p_l x40).2.1))] : List DGot)) un117 ty170 rfl (nb rfl) (fun _ => rfl) rfl rfl rfl (OwnL.ex good_Got (OwnL.ex good_Got (OwnL.ex good_Got hf57 hE70) hE77) hE83) (EncL.cons (c := [.string (bs ((s_l5Tell p_rows ((s_l5Step p_l x40).2.1)).Key)), .string (bs ((s_l5Tell p_rows ((s_l5Step p_l x40).2.1)).Val)), .bool ((s_l5Tell p_rows ((s_l5Step p_l x40).2.1)).There)]) rfl rfl EncL.nil) (Or.inr ⟨_, _, rfl, rfl, hB82.cells (o := 0) (n := 3) rfl⟩) rfl Bl Bl oM oM oM ?_)
   intro A88 c89 w90 row91 lp92 hp93 hO94 hG95 hrg96 hdj97
   have hG95z := hG95.size
   refine sA rfl (SeqR.done (bn (tn ?_)))
   have hB98 : B_s_l5Alone_0 p_rows p_l (x40) = .cont ((x40 ++ ([(s_l5Tell p_rows ((s_l5Step p_l x40).2.1))] : List DGot))) := by simp only [B_s_l5Alone_0, hb72, cL]
   have hmu110 : ((p_l.filter fun o => !(((x40 ++ ([(s_l5Tell p_rows ((s_l5Step p_l x40).2.1))] : List DGot)) : List DGot).any fun g => g.Key == o.Key)).length) < ((p_l.filter fun o => !((x40 : List DGot).any fun g => g.Key == o.Key)).length) := by (have hq := ask_less (rows := p_rows) (l := p_l) (got := x40) (by first | assumption | exact of_decide_eq_true (by assumption) | omega); first | exact hq | (simp only [lN]; omega))
   exact ⟨m48 - 1, oM, (x40 ++ ([(s_l5Tell p_rows ((s_l5Step p_l x40).2.1))] : List DGot)), A88, c89, hp93, lp92, oM, oM, (sR rfl), (RdS.grown gW (RdS.ex gW (RdS.ex gW q73 hE77) hE83) hG95 (hV hrg96)), (RdS.grown good_Op (RdS.ex good_Op (RdS.ex good_Op (RdS.ex good_Op hf56 hE70) hE77) hE83) hG95 (hV hrg96)), hO94, (Below.grown (Ex.trans (Ex.trans (Ex.trans hf58 hE70) hE77) hE83) hG95 oM (hW hrg96)), oM, Bl, (okE.append hok61 ((okL.mk (nb rfl) (okE.cons ho75 okE.nil))).2), (by (have hq := ask_less (rows := p_rows) (l := p_l) (got := x40) (by first | assumption | exact of_decide_eq_true (by assumption) | omega); first | exact hq | (simp only [lN]; omega))), (loopW.cont hk51 hB98).symm.trans hI52⟩
  ·refine CW.cond_t rfl (not_f hb72) (cR (sM rfl (sM rfl (sM rfl (sd rfl (yl_eql rfl rfl rfl (sA rfl (sA rfl ?_))))))))
   refine sA rfl (dn (CW.ret (tr (br (tr ?_)))))
   have hB112 : B_s_l5Alone_0 p_rows p_l (x40) = .ret (x40, (s_l5Step p_l x40).2.2, decide (((s_l5Step p_l x40).1) = 3)) := by simp only [B_s_l5Alone_0, hb72, cL]
   have hL111 : loopW (B_s_l5Alone_0 p_rows p_l) (((p_l.filter fun o => !(([] : List DGot).any fun g => g.Key == o.Key)).length) + 1) (([] : List DGot)) = .ret (x40, (s_l5Step p_l x40).2.2, decide (((s_l5Step p_l x40).1) = 3)) := hI52.symm.trans (loopW.ret hk51 hB112)
   refine br (rr rfl (.cons rfl (.cons rfl (.cons rfl .nil))) ?_)
   rw [show (s_l5Alone p_rows p_l) = ((x40, (s_l5Step p_l x40).2.2, decide (((s_l5Step p_l x40).1) = 3))) by simp only [s_l5Alone, hb72, hL111, cL]]
   exact ⟨A41, c42, A65, c65, rfl, (RdS.wideI good_Got (OwnL.rd good_Got (OwnL.ex good_Got hf57 hE70)) oM), (RdS.wideI gW (OwnL.rd gW h65) oM), (okL.mk (xs := x40) Bl hok61), ho67, (by (try dsimp only); first | omega | assumption), (Ex.trans hf58 hE70)⟩
theorem c_s_l5PutRows {A1 : Option Addr} {c1 : Nat} {A3 : Option Addr} {c3 : Nat} {w : World} (p_rows : List DWrite) (p_w : List DWrite) (h1 : RdS w (Iv 0 w.heap.size) (RF e_Write) 3 A1 p_rows.length c1 p_rows) (h3 : RdS w (Iv 0 w.heap.size) (RF e_Write) 3 A3 p_w.length c3 p_w) (o2 : (okL ok_Write) p_rows) (o4 : (okL ok_Write) p_w) (pre0 : p_rows.length ≤ 100) (pre1 : p_w.length ≤ 100) : Cal Tryz.prog 124 #[.slice A1 p_rows.length c1, .slice A3 p_w.length c3] w fun v w' => ∃ A_1 c_1 lo_1 hi_1, v = .slice A_1 ((s_l5PutRows p_rows p_w).length) c_1 ∧ OwnL w' lo_1 hi_1 80 3 (RF e_Write) A_1 ((s_l5PutRows p_rows p_w).length) c_1 (s_l5PutRows p_rows p_w) ∧ (okL ok_Write) (s_l5PutRows p_rows p_w) ∧ (w.heap.size ≤ lo_1 ∧ lo_1 ≤ hi_1 ∧ hi_1 ≤ w'.heap.size) ∧ Ex w w' := by
 have hol5 := o2.1
 have hol6 := o4.1
 refine Cal.of func124 rfl ntmps124 rfl (cR (sA rfl (dn (cR (sd rfl (yl_buildSlice (cs := []) un34 ty80 (by decide) rfl opvs_nil (by kernel_rfl) ?_))))))
 intro b7 w8 hs9 hz10 hB11 hE12
 have hO13 : OwnL w8 b7 (b7 + 1) 80 3 (RF e_Write) (some ⟨b7, 0, none⟩) 0 0 ([] : List DWrite) := oB hB11
 refine sM rfl ?_
 obtain ⟨nw15, he16, hs17⟩ := RdS.src (RdS.ex gW h1 hE12)
 have hol18 : p_rows.length ≤ 2147483648 := o2.1
 refine sd rfl (yl_appendP (S := fun _ => False) (lo := b7) (hi := (b7 + 1)) (xs := ([] : List DWrite)) (ys := p_rows) un34 ty80 rfl (nb rfl) (fun _ => rfl) rfl rfl rfl hO13 he16 hs17 rfl Bl Bl oM oM oM ?_)
 intro A19 c20 w21 row22 lp23 hp24 hO25 hG26 hrg27 hdj28
 have hG26z := hG26.size
 refine sA rfl (dn (CW.seq (cR (sM rfl (sd rfl (yL un34 rfl rfl (sM rfl ?_)))))))
 refine dn (CW.block (CW.loop (fun m73 L74 w75 => ∃ (k29 : Nat) (x68 : List DWrite) (A69 : Option Addr) (c70 : Nat) (u71 : Nat) (lo72 : Nat), m73 = p_w.length - k29 ∧ k29 ≤ p_w.length ∧ w21.heap.size ≤ w75.heap.size ∧ Sub [(5, .slice A69 x68.length c70), (14, .slice A3 p_w.length c3), (15, .int .i64 ((p_w.length : Int))), (16, .int .i64 ((k29 : Int)))] L74 ∧ OwnL w75 lo72 u71 80 3 (RF e_Write) A69 x68.length c70 x68 ∧ RdS w75 (Iv 0 w.heap.size) (RF e_Write) 3 A3 p_w.length c3 p_w ∧ Ex w w75 ∧ (lp23 ≤ lo72 ∧ lo72 ≤ u71 ∧ u71 ≤ w75.heap.size) ∧ x68.length ≤ 0 + p_rows.length + 1 * (k29 - 0) ∧ (∀ y ∈ x68, ok_Write y) ∧ loopM (B_s_l5PutRows_0 p_rows p_w) (p_w.length - k29) k29 (x68) = loopM (B_s_l5PutRows_0 p_rows p_w) (p_w.length - 0) 0 ((([] : List DWrite) ++ p_rows))) (p_w.length - 0) ?_ ?_))
 ·exact ⟨0, (([] : List DWrite) ++ p_rows), A19, c20, hp24, lp23, rfl, oM, Nat.le_refl _, (sR rfl), hO25, (RdS.grown gW (RdS.ex gW h3 hE12) hG26 (hV hrg27)), (Below.grown (Ex.trans (Ex.refl w) hE12) hG26 oM (hW hrg27)), oM, (by first | (simp; done) | (first | omega | (simp only [lN, toS_length]; omega))), (okE.append okE.nil (o2).2), rfl⟩
 ·rintro m80 L81 w82 ⟨k29, x68, A69, c70, u71, lo72, rfl, hk83, hsz85, hl86, hf87, hf88, hf89, hu90, hln91, hok92, hI84⟩
  refine CW.sub hl86 ?_
  have hf89z := Ex.size hf89
  have hbg93 := RdS.big hf88
  rcases Nat.lt_or_ge k29 p_w.length with hlt94 | hlt94
  ·refine cR (sd rfl (yl_lss rfl rfl rfl (dn (CW.seq (CW.cond_t rfl (lt_t hlt94) (CW.skip (tn ?_)))))))
   refine CW.seq (CW.block (cR ?_))
   obtain ⟨_, _, _, eA95, _, ebl95, _, eR95, eC95⟩ := RdS.atD hf88 d_Write (i := k29) Bq
   obtain rfl := eR95
   refine sd rfl (yl_indexAddrN un34 ty80 rfl rfl rfl eA95 Bq (sd rfl (yl_loadN ty80 rfl rfl eC95 rfl (sd rfl (yB ty80 (cs := [.string (bs (([] : Str))), .string (bs (([] : Str))), .bool (false)]) rfl rfl ?_)))))
   intro b96 w97 hs98 hz99 hB100 hE101
   refine SeqR.u rfl rfl (yl_storeA (vs := [.string (bs ((p_w.getD k29 d_Write).Key)), .string (bs ((p_w.getD k29 d_Write).Val)), .bool ((p_w.getD k29 d_Write).Gone)]) ty80 rfl rfl rfl rfl rfl rfl hB100 rfl ?_)
   intro w102 hB103 hO104
   have hO104z := hO104.size
   refine dn (CW.region (sM rfl (sd rfl (yl_loadN ty80 rfl rfl (hB103.cells (n := 3) rfl) rfl (sd rfl (yC en172 rfl (oc rfl (oc rfl oz)) (Cal.mono (c_s_l5PutW x68 (p_w.getD k29 d_Write) (RdS.up (OwnL.rd gW (OwnL.only gW (OwnL.ex gW hf87 hE101) hO104 oM)) gW) (okL.mk (xs := x68) Bl hok92) (okL.getD o4 ok_d_Write _) Bq) ?_)))))))
   rintro v112 w108 ⟨A109, c109, lo109, hi109, rfl, h109, ho110, hp111, hrn114, hE113⟩
   have hE113z := Ex.size hE113
   refine sA rfl (SeqR.done (bn (tn (CW.region (sd rfl (yl_inc rfl rfl rfl oM (sM rfl (dn ?_))))))))
   have hB115 : B_s_l5PutRows_0 p_rows p_w k29 (x68) = .cont ((s_l5PutW x68 (p_w.getD k29 d_Write))) := by simp only [B_s_l5PutRows_0, cL]
   exact ⟨p_w.length - (k29 + 1), oM, k29 + 1, (s_l5PutW x68 (p_w.getD k29 d_Write)), A109, c109, hi109, lo109, rfl, hlt94, oM, (sR rfl), h109, (RdS.ex gW (RdS.only gW (RdS.ex gW hf88 hE101) hO104 iV) hE113), (Ex.trans (Below.only (Ex.trans hf89 hE101) hO104 oM) hE113), oM, Bl, (ho110).2, (loopM.cont hlt94 hB115).symm.trans hI84⟩
  ·refine cR (sd rfl (yl_lss rfl rfl rfl (dn (CW.seq (CW.cond_f rfl (lt_f hlt94) (CW.exit (tx ?_)))))))
   refine tx ?_
   have hL122 : loopM (B_s_l5PutRows_0 p_rows p_w) (p_w.length - 0) 0 ((([] : List DWrite) ++ p_rows)) = .done (x68) := hI84.symm.trans (loopM.stop hlt94)
   refine bx (tn (cR (sA rfl (dn (CW.seq (CW.seq ?_))))))
   refine CW.region (sM rfl (sd rfl (yL un34 rfl rfl (sM rfl (dn (CW.block (CW.loop (fun m185 L186 w187 => ∃ (k123 : Nat) (x180 : List DWrite) (A181 : Option Addr) (c182 : Nat) (u183 : Nat) (lo184 : Nat), m185 = x68.length - k123 ∧ k123 ≤ x68.length ∧ w82.heap.size ≤ w187.heap.size ∧ Sub [(8, .slice A181 x180.length c182), (24, .slice A69 x68.length c70), (25, .int .i64 ((x68.length : Int))), (26, .int .i64 ((k123 : Int)))] L186 ∧ OwnL w187 lo184 u183 80 3 (RF e_Write) A181 x180.length c182 x180 ∧ OwnL w187 lo72 u71 80 3 (RF e_Write) A69 x68.length c70 x68 ∧ Ex w w187 ∧ (w82.heap.size ≤ lo184 ∧ lo184 ≤ u183 ∧ u183 ≤ w187.heap.size ∧ (u71 ≤ lo184 ∨ u183 ≤ lo72)) ∧ x180.length ≤ 0 + 1 * (k123 - 0) ∧ (∀ y ∈ x180, ok_Write y) ∧ loopM (B_s_l5PutRows_1 p_rows p_w x68) (x68.length - k123) k123 (x180) = loopM (B_s_l5PutRows_1 p_rows p_w x68) (x68.length - 0) 0 (([] : List DWrite))) (x68.length - 0) ?_ ?_)))))))
   ·exact ⟨0, ([] : List DWrite), none, 0, w82.heap.size, w82.heap.size, rfl, oM, Nat.le_refl _, (sR rfl), (OwnL.nil w82 w82.heap.size w82.heap.size 80 3 (RF e_Write)), hf87, hf89, oM, (by first | (simp; done) | (first | omega | (simp only [lN, toS_length]; omega))), okE.nil, rfl⟩
   ·rintro m188 L189 w190 ⟨k123, x180, A181, c182, u183, lo184, rfl, hk191, hsz193, hl194, hf195, hf196, hf197, hu198, hln199, hok200, hI192⟩
    refine CW.sub hl194 ?_
    have hf197z := Ex.size hf197
    have hbg201 := RdS.big (OwnL.rd gW hf196)
    rcases Nat.lt_or_ge k123 x68.length with hlt203 | hlt203
    ·refine cR (sd rfl (yl_lss rfl rfl rfl (dn (CW.seq (CW.cond_t rfl (lt_t hlt203) (CW.skip (tn ?_)))))))
     refine CW.seq (CW.block (cR ?_))
     obtain ⟨_, _, _, eA205, _, ebl205, _, eR205, eC205⟩ := RdS.atD (OwnL.rd gW hf196) d_Write (i := k123) Bq
     obtain rfl := eR205
     refine sd rfl (yl_indexAddrN un34 ty80 rfl rfl rfl eA205 Bq (sd rfl (yl_loadN ty80 rfl rfl eC205 rfl (sd rfl (yB ty80 (cs := [.string (bs (([] : Str))), .string (bs (([] : Str))), .bool (false)]) rfl rfl ?_)))))
     intro b206 w207 hs208 hz209 hB210 hE211
     refine SeqR.u rfl rfl (yl_storeA (vs := [.string (bs ((x68.getD k123 d_Write).Key)), .string (bs ((x68.getD k123 d_Write).Val)), .bool ((x68.getD k123 d_Write).Gone)]) ty80 rfl rfl rfl rfl rfl rfl hB210 rfl ?_)
     intro w212 hB213 hO214
     have hO214z := hO214.size
     refine dn (cR (sd rfl (yl_fieldAddr fd80_2 rfl rfl (sd rfl (yl_load1 ty4 rfl rfl ((hB213.cell 2).trans rfl) (sd rfl (yl_not rfl rfl (dn ?_))))))))
     refine bcase ((x68.getD k123 d_Write).Gone) (fun hb215 => ?_) (fun hb215 => ?_)
     ·refine CW.cond_f rfl (not_t hb215) (CW.skip (bn (tn (CW.region (sd rfl (yl_inc rfl rfl rfl oM (sM rfl (dn ?_))))))))
      have hB216 : B_s_l5PutRows_1 p_rows p_w x68 k123 (x180) = .cont (x180) := by simp only [B_s_l5PutRows_1, hb215, hL122, cL]
      exact ⟨x68.length - (k123 + 1), oM, k123 + 1, x180, A181, c182, u183, lo184, rfl, hlt203, oM, (sR rfl), (OwnL.only gW (OwnL.ex gW hf195 hE211) hO214 oM), (OwnL.only gW (OwnL.ex gW hf196 hE211) hO214 oM), (Below.only (Ex.trans hf197 hE211) hO214 oM), oM, Bl, hok200, (loopM.cont hlt203 hB216).symm.trans hI192⟩
     ·refine CW.cond_t rfl (not_f hb215) (CW.region (sM rfl (sd rfl (yl_loadN ty80 rfl rfl (hB213.cells (n := 3) rfl) rfl (sd rfl (yl_buildSlice (cs := [.string (bs ((x68.getD k123 d_Write).Key)), .string (bs ((x68.getD k123 d_Write).Val)), .bool ((x68.getD k123 d_Write).Gone)]) un34 ty80 (by decide) rfl (oc rfl oz) (by kernel_rfl) ?_))))))
      intro b223 w224 hs225 hz226 hB227 hE228
      have hO229 : OwnL w224 b223 (b223 + 1) 80 3 (RF e_Write) (some ⟨b223, 0, none⟩) 1 1 ([(x68.getD k123 d_Write)] : List DWrite) := OwnL.of_box (S := fun _ => False) hB227 (Nat.le_refl _) (Nat.lt_succ_self _) (EncL.cons (c := [.string (bs ((x68.getD k123 d_Write).Key)), .string (bs ((x68.getD k123 d_Write).Val)), .bool ((x68.getD k123 d_Write).Gone)]) rfl rfl EncL.nil) (nb rfl) (fun h => h) (fun _ h => False.elim h)
      refine sd rfl (yl_appendP (S := fun _ => False) (lo := lo184) (hi := u183) (xs := x180) (ys := ([(x68.getD k123 d_Write)] : List DWrite)) un34 ty80 rfl (nb rfl) (fun _ => rfl) rfl rfl rfl (OwnL.ex gW (OwnL.only gW (OwnL.ex gW hf195 hE211) hO214 oM) hE228) (EncL.cons (c := [.string (bs ((x68.getD k123 d_Write).Key)), .string (bs ((x68.getD k123 d_Write).Val)), .bool ((x68.getD k123 d_Write).Gone)]) rfl rfl EncL.nil) (Or.inr ⟨_, _, rfl, rfl, hB227.cells (o := 0) (n := 3) rfl⟩) rfl Bl Bl oM oM oM ?_)
      intro A233 c234 w235 row236 lp237 hp238 hO239 hG240 hrg241 hdj242
      have hG240z := hG240.size
      refine sA rfl (SeqR.done (bn (tn (CW.region (sd rfl (yl_inc rfl rfl rfl oM (sM rfl (dn ?_))))))))
      have hB243 : B_s_l5PutRows_1 p_rows p_w x68 k123 (x180) = .cont ((x180 ++ ([(x68.getD k123 d_Write)] : List DWrite))) := by simp only [B_s_l5PutRows_1, hb215, hL122, cL]
      exact ⟨x68.length - (k123 + 1), oM, k123 + 1, (x180 ++ ([(x68.getD k123 d_Write)] : List DWrite)), A233, c234, hp238, lp237, rfl, hlt203, oM, (sR rfl), hO239, (OwnL.grown gW (OwnL.ex gW (OwnL.only gW (OwnL.ex gW hf196 hE211) hO214 oM) hE228) hG240 (hW hrg241)), (Below.grown (Ex.trans (Below.only (Ex.trans hf197 hE211) hO214 oM) hE228) hG240 oM (hW hrg241)), oM, Bl, (okE.append hok200 ((okL.mk (nb rfl) (okE.cons (okL.getD (okL.mk (xs := x68) Bl hok92) ok_d_Write _) okE.nil))).2), (loopM.cont hlt203 hB243).symm.trans hI192⟩
    ·refine cR (sd rfl (yl_lss rfl rfl rfl (dn (CW.seq (CW.cond_f rfl (lt_f hlt203) (CW.exit (tx ?_)))))))
     refine tx ?_
     have hL252 : loopM (B_s_l5PutRows_1 p_rows p_w x68) (x68.length - 0) 0 (([] : List DWrite)) = .done (x180) := hI192.symm.trans (loopM.stop hlt203)
     refine bx (tn (cR (sM rfl (sA rfl (dn (CW.ret ?_))))))
     refine rr rfl (.cons rfl .nil) ?_
     rw [show (s_l5PutRows p_rows p_w) = (x180) by simp only [s_l5PutRows, hL122, hL252, cL]]
     exact ⟨A181, c182, lo184, u183, rfl, hf195, (okL.mk (xs := x180) Bl hok200), oM, hf197⟩
theorem c_s_RunInTurn {A1 : Option Addr} {c1 : Nat} {A3 : Option Addr} {c3 : Nat} {w : World} (p_0 : List DWrite) (p_1 : List (List DOp)) (h1 : RdS w (Iv 0 w.heap.size) (RF e_Write) 3 A1 p_0.length c1 p_0) (h3 : RdS w (Iv 0 w.heap.size) R_LOp 1 A3 p_1.length c3 p_1) (o2 : (okL ok_Write) p_0) (o4 : (okL (okL ok_Op)) p_1) (pre0 : ∀ x ∈ p_1, x.length ≤ 100 ∧ ∀ y ∈ x, y.Kind ≠ 4) : Cal Tryz.prog 73 #[.slice A1 p_0.length c1, .slice A3 p_1.length c3] w fun v w' => ∃ A_1 c_1 lo_1 hi_1 A_2 c_2 lo_2 hi_2, v = .tuple #[.slice A_1 (((s_RunInTurn p_0 p_1).1).length) c_1, .slice A_2 (((s_RunInTurn p_0 p_1).2.1).length) c_2, .bool ((s_RunInTurn p_0 p_1).2.2)] ∧ OwnL w' lo_1 hi_1 80 3 (RF e_Write) A_1 (((s_RunInTurn p_0 p_1).1).length) c_1 ((s_RunInTurn p_0 p_1).1) ∧ OwnL w' lo_2 hi_2 4 1 (RF e_Bool) A_2 (((s_RunInTurn p_0 p_1).2.1).length) c_2 ((s_RunInTurn p_0 p_1).2.1) ∧ (okL ok_Write) ((s_RunInTurn p_0 p_1).1) ∧ (okL okT) ((s_RunInTurn p_0 p_1).2.1) ∧ (w.heap.size ≤ lo_1 ∧ lo_1 ≤ hi_1 ∧ hi_1 ≤ w'.heap.size) ∧ (w.heap.size ≤ lo_2 ∧ lo_2 ≤ hi_2 ∧ hi_2 ≤ w'.heap.size) ∧ (hi_1 ≤ lo_2 ∨ hi_2 ≤ lo_1) ∧ Ex w w' := by
 have hol5 := o2.1
 have hol6 := o4.1
 refine Cal.of func73 rfl ntmps73 rfl (cR (sA rfl (sA rfl (sA rfl (dn (CW.seq ?_))))))
 refine cR (sM rfl (sd rfl (yC en40 rfl (oc rfl oz) (Cal.mono (c_s_l5Rows p_0 (RdS.up h1 gW) o2) ?_))))
 rintro v8 w7 ⟨rfl, hE9⟩
 have hE9z := Ex.size hE9
 refine sd rfl (yl_not rfl rfl (sM rfl (bcase (s_l5Rows p_0) (fun hb10 => ?_) (fun hb10 => ?_))))
 ·have hb10p := l5Rows_len hb10
  refine sy rfl rfl (not_t hb10) (yM rfl rfl (sy rfl rfl (not_t hb10) (yL un110 rfl rfl (sy rfl rfl (not_t hb10) (yl_gtr rfl rfl rfl (sd rfl (yl_pick_f rfl rfl (not_t hb10) rfl (dn (bcD (q := 20 < (p_1.length : Int)) (fun hb11 hb11p => ?_) (fun hb11 hb11p => ?_))))))))))
  ·refine CW.cond_t rfl hb11 (cR (sA rfl (sA rfl (sA rfl (dn (CW.ret ?_))))))
   refine tr (rr rfl (.cons rfl (.cons rfl (.cons rfl .nil))) ?_)
   rw [show (s_RunInTurn p_0 p_1) = ((([] : List DWrite), ([] : List Bool), false)) by simp only [s_RunInTurn, hb10, hb11, cL]]
   exact ⟨none, 0, w7.heap.size, w7.heap.size, none, 0, w7.heap.size, w7.heap.size, rfl, (OwnL.nil _ _ _ _ _ _), (OwnL.nil _ _ _ _ _ _), (okL.nil _), (okL.nil _), oM, oM, oM, (Ex.trans (Ex.refl w) hE9)⟩
  ·refine CW.cond_f rfl hb11 (CW.skip (tn (CW.seq (cR (sM rfl (sd rfl (yL un110 rfl rfl (sM rfl ?_))))))))
   refine dn (CW.block (CW.loop (fun m15 L16 w17 => ∃ (k14 : Nat), m15 = p_1.length - k14 ∧ k14 ≤ p_1.length ∧ w7.heap.size ≤ w17.heap.size ∧ Sub [(0, .slice A1 p_0.length c1), (1, .slice A3 p_1.length c3), (25, .slice A3 p_1.length c3), (26, .int .i64 ((p_1.length : Int))), (27, .int .i64 ((k14 : Int)))] L16 ∧ RdS w17 (Iv 0 w.heap.size) (RF e_Write) 3 A1 p_0.length c1 p_0 ∧ RdS w17 (Iv 0 w.heap.size) R_LOp 1 A3 p_1.length c3 p_1 ∧ Ex w w17 ∧ loopM (B_s_RunInTurn_0 p_0 p_1) (p_1.length - k14) k14 () = loopM (B_s_RunInTurn_0 p_0 p_1) (p_1.length - 0) 0 ()) (p_1.length - 0) ?_ ?_))
   ·exact ⟨0, rfl, oM, Nat.le_refl _, (sR rfl), (RdS.ex gW h1 hE9), (RdS.ex good_LOp h3 hE9), (Ex.trans (Ex.refl w) hE9), rfl⟩
   ·rintro m21 L22 w23 ⟨k14, rfl, hk24, hsz26, hl27, hf28, hf29, hf30, hI25⟩
    refine CW.sub hl27 ?_
    have hf30z := Ex.size hf30
    have hbg31 := RdS.big hf29
    rcases Nat.lt_or_ge k14 p_1.length with hlt32 | hlt32
    ·refine cR (sd rfl (yl_lss rfl rfl rfl (dn (CW.seq (CW.cond_t rfl (lt_t hlt32) (CW.skip (tn ?_)))))))
     refine CW.seq (CW.block (cR ?_))
     obtain ⟨_, _, _, eA33, _, ebl33, _, eR33, eC33⟩ := RdS.atD hf29 d_LOp (i := k14) Bo
     obtain ⟨A34, c34, rfl, h34⟩ := eR33
     refine sd rfl (yl_ixN un110 ty77 rfl rfl rfl eA33 (sd rfl (yl_load1 ty77 rfl rfl (eC33 0 _ rfl) (sA rfl (dn (cR (sM rfl (sd rfl (yC en122 rfl (oc rfl oz) (Cal.mono (c_s_l5Good (p_1.getD k14 d_LOp) (RdS.up h34 good_Op) (okL.getD o4 ok_d_LOp _)) ?_))))))))))
     rintro v36 w35 ⟨rfl, hE37⟩
     have hE37z := Ex.size hE37
     refine sd rfl (yl_not rfl rfl (dn (bcase (s_l5Good (p_1.getD k14 d_LOp)) (fun hb38 => ?_) (fun hb38 => ?_))))
     ·refine CW.cond_f rfl (not_t hb38) (CW.skip (bn (tn (CW.region (sd rfl (yl_inc rfl rfl rfl oM (sM rfl (dn ?_))))))))
      have hB39 : B_s_RunInTurn_0 p_0 p_1 k14 () = .cont () := by simp only [B_s_RunInTurn_0, hb10, hb11, hb38, cL]
      exact ⟨p_1.length - (k14 + 1), oM, k14 + 1, rfl, hlt32, oM, (sR rfl), (RdS.ex gW hf28 hE37), (RdS.ex good_LOp hf29 hE37), (Ex.trans hf30 hE37), (loopM.cont hlt32 hB39).symm.trans hI25⟩
     ·refine CW.cond_t rfl (not_f hb38) (cR (sA rfl (sA rfl (sA rfl (dn (CW.ret ?_))))))
      refine br (tr (tr ?_))
      have hB44 : B_s_RunInTurn_0 p_0 p_1 k14 () = .ret (([] : List DWrite), ([] : List Bool), false) := by simp only [B_s_RunInTurn_0, hb10, hb11, hb38, cL]
      have hL43 : loopM (B_s_RunInTurn_0 p_0 p_1) (p_1.length - 0) 0 () = .ret (([] : List DWrite), ([] : List Bool), false) := hI25.symm.trans (loopM.ret hlt32 hB44)
      refine br (tr (rr rfl (.cons rfl (.cons rfl (.cons rfl .nil))) ?_))
      rw [show (s_RunInTurn p_0 p_1) = ((([] : List DWrite), ([] : List Bool), false)) by simp only [s_RunInTurn, hb10, hb11, hb38, hL43, cL]]
      exact ⟨none, 0, w35.heap.size, w35.heap.size, none, 0, w35.heap.size, w35.heap.size, rfl, (OwnL.nil _ _ _ _ _ _), (OwnL.nil _ _ _ _ _ _), (okL.nil _), (okL.nil _), oM, oM, oM, (Ex.trans hf30 hE37)⟩
    ·refine cR (sd rfl (yl_lss rfl rfl rfl (dn (CW.seq (CW.cond_f rfl (lt_f hlt32) (CW.exit (tx ?_)))))))
     refine tx ?_
     have hL47 : loopM (B_s_RunInTurn_0 p_0 p_1) (p_1.length - 0) 0 () = .done () := hI25.symm.trans (loopM.stop hlt32)
     refine bx (tn (cR (sd rfl (yl_buildSlice (cs := []) un34 ty80 (by decide) rfl opvs_nil (by kernel_rfl) ?_))))
     intro b48 w49 hs50 hz51 hB52 hE53
     have hO54 : OwnL w49 b48 (b48 + 1) 80 3 (RF e_Write) (some ⟨b48, 0, none⟩) 0 0 ([] : List DWrite) := oB hB52
     refine sM rfl ?_
     obtain ⟨nw56, he57, hs58⟩ := RdS.src (RdS.ex gW hf28 hE53)
     have hol59 : p_0.length ≤ 2147483648 := o2.1
     refine sd rfl (yl_appendP (S := fun _ => False) (lo := b48) (hi := (b48 + 1)) (xs := ([] : List DWrite)) (ys := p_0) un34 ty80 rfl (nb rfl) (fun _ => rfl) rfl rfl rfl hO54 he57 hs58 rfl Bl Bl oM oM oM ?_)
     intro A60 c61 w62 row63 lp64 hp65 hO66 hG67 hrg68 hdj69
     have hG67z := hG67.size
     refine sA rfl (dn (cR (sA rfl (dn (CW.seq ?_)))))
     refine cR (sM rfl (sd rfl (yL un110 rfl rfl (sM rfl (dn (CW.block (CW.loop (fun m161 L162 w163 => ∃ (k70 : Nat) (x151 : List DWrite) (x156 : List Bool) (A152 : Option Addr) (c153 : Nat) (u154 : Nat) (lo155 : Nat) (A157 : Option Addr) (c158 : Nat) (u159 : Nat) (lo160 : Nat), m161 = p_1.length - k70 ∧ k70 ≤ p_1.length ∧ w62.heap.size ≤ w163.heap.size ∧ Sub [(9, .slice A152 x151.length c153), (10, .slice A157 x156.length c158), (38, .slice A3 p_1.length c3), (39, .int .i64 ((p_1.length : Int))), (40, .int .i64 ((k70 : Int)))] L162 ∧ OwnL w163 lo155 u154 80 3 (RF e_Write) A152 x151.length c153 x151 ∧ OwnL w163 lo160 u159 4 1 (RF e_Bool) A157 x156.length c158 x156 ∧ RdS w163 (Iv 0 w.heap.size) R_LOp 1 A3 p_1.length c3 p_1 ∧ Ex w w163 ∧ (lp64 ≤ lo155 ∧ lo155 ≤ u154 ∧ u154 ≤ w163.heap.size ∧ (u159 ≤ lo155 ∨ u154 ≤ lo160)) ∧ (w62.heap.size ≤ lo160 ∧ lo160 ≤ u159 ∧ u159 ≤ w163.heap.size ∧ (u154 ≤ lo160 ∨ u159 ≤ lo155)) ∧ x151.length ≤ 0 + p_0.length + 24 * (k70 - 0) ∧ x156.length ≤ 0 + 24 * (k70 - 0) ∧ (∀ y ∈ x151, ok_Write y) ∧ x151.length ≤ 24 ∧ loopM (B_s_RunInTurn_1 p_0 p_1) (p_1.length - k70) k70 (x151, x156) = loopM (B_s_RunInTurn_1 p_0 p_1) (p_1.length - 0) 0 ((([] : List DWrite) ++ p_0), ([] : List Bool))) (p_1.length - 0) ?_ ?_)))))))
     ·exact ⟨0, (([] : List DWrite) ++ p_0), ([] : List Bool), A60, c61, hp65, lp64, none, 0, w62.heap.size, w62.heap.size, rfl, oM, Nat.le_refl _, (sR rfl), hO66, (OwnL.nil w62 w62.heap.size w62.heap.size 4 1 (RF e_Bool)), (RdS.grown good_LOp (RdS.ex good_LOp hf29 hE53) hG67 (hV hrg68)), (Below.grown (Ex.trans hf30 hE53) hG67 oM (hW hrg68)), oM, oM, (by first | (simp; done) | (first | omega | (simp only [lN, toS_length]; omega))), (by first | (simp; done) | (first | omega | (simp only [lN, toS_length]; omega))), (okE.append okE.nil (o2).2), (by first | omega | (simp only [List.length_append, List.length_nil]; omega)), rfl⟩
     ·rintro m168 L169 w170 ⟨k70, x151, x156, A152, c153, u154, lo155, A157, c158, u159, lo160, rfl, hk171, hsz173, hl174, hf175, hf176, hf177, hf178, hu179, hu180, hln181, hln182, hok183, hv184, hI172⟩
      refine CW.sub hl174 ?_
      have hf178z := Ex.size hf178
      have hbg185 := RdS.big hf177
      rcases Nat.lt_or_ge k70 p_1.length with hlt186 | hlt186
      ·have hkd := pre0 _ (getD_mem (d := d_LOp) hlt186)
       have hkd1 := hkd.1
       have hkd2 := hkd.2
       refine cR (sd rfl (yl_lss rfl rfl rfl (dn (CW.seq (CW.cond_t rfl (lt_t hlt186) (CW.skip (tn ?_)))))))
       refine CW.seq (CW.block (cR ?_))
       obtain ⟨_, _, _, eA187, _, ebl187, _, eR187, eC187⟩ := RdS.atD hf177 d_LOp (i := k70) Bo
       obtain ⟨A188, c188, rfl, h188⟩ := eR187
       refine sd rfl (yl_ixN un110 ty77 rfl rfl rfl eA187 (sd rfl (yl_load1 ty77 rfl rfl (eC187 0 _ rfl) (sA rfl (dn (cR (sM rfl (sM rfl ?_))))))))
       refine sd rfl (yC en123 rfl (oc rfl (oc rfl oz)) (Cal.mono (c_s_l5Alone x151 (p_1.getD k70 d_LOp) (RdS.up (OwnL.rd gW hf175) gW) (RdS.up h188 good_Op) (okL.mk (xs := x151) Bl hok183) (okL.getD o4 ok_d_LOp _) Bo Bo) ?_))
       rintro v196 w190 ⟨A191, c191, A192, c192, rfl, h191, h192, ho193, ho194, hp195, hE197⟩
       have hE197z := Ex.size hE197
       refine sM rfl (sd rfl (yl_extract rfl rfl rfl (sd rfl (yl_extract rfl rfl rfl (sd rfl (yl_extract rfl rfl rfl (sA rfl (sA rfl (sA rfl (dn ?_))))))))))
       refine cR (sM rfl (sM rfl ?_))
       have q199 := OwnL.ex gW hf175 hE197
       refine sd rfl (yC en124 rfl (oc rfl (oc rfl oz)) (Cal.mono (c_s_l5PutRows x151 ((s_l5Alone x151 (p_1.getD k70 d_LOp)).2.1) (RdS.up (OwnL.rd gW q199) gW) (RdS.up h192 gW) (okL.mk (xs := x151) Bl hok183) ho194 Bo Bo) ?_))
       rintro v203 w200 ⟨A201, c201, lo201, hi201, rfl, h201, ho202, hrn205, hE204⟩
       have hE204z := Ex.size hE204
       refine sA rfl (dn (cR (sM rfl (sM rfl (bcase ((s_l5Alone x151 (p_1.getD k70 d_LOp)).2.2) (fun hb206 => ?_) (fun hb206 => ?_))))))
       ·refine sy rfl rfl hb206 (yM rfl rfl (sy rfl rfl hb206 (yC en40 rfl (oc rfl oz) (Cal.mono (c_s_l5Rows (s_l5PutRows x151 ((s_l5Alone x151 (p_1.getD k70 d_LOp)).2.1)) (RdS.up (OwnL.rd gW h201) gW) ho202) ?_))))
        rintro v209 w208 ⟨rfl, hE210⟩
        have hE210z := Ex.size hE210
        refine sd rfl (yl_pick_t rfl rfl hb206 rfl (sA rfl (dn (CW.seq (cR (sM rfl (SeqR.done ?_)))))))
        refine tn (bcase (s_l5Rows (s_l5PutRows x151 ((s_l5Alone x151 (p_1.getD k70 d_LOp)).2.1))) (fun hb211 => ?_) (fun hb211 => ?_))
        ·have hb211p := l5Rows_len hb211
         refine CW.cond_t rfl hb211 (CW.region (sM rfl (sA rfl (dn (CW.region (sM rfl (sM rfl ?_)))))))
         refine sd rfl (yl_buildSlice (cs := [.bool ((s_l5Rows (s_l5PutRows x151 ((s_l5Alone x151 (p_1.getD k70 d_LOp)).2.1))))]) un107 ty4 (by decide) rfl (oc rfl oz) (by kernel_rfl) ?_)
         intro b212 w213 hs214 hz215 hB216 hE217
         have hO218 : OwnL w213 b212 (b212 + 1) 4 1 (RF e_Bool) (some ⟨b212, 0, none⟩) 1 1 ([(s_l5Rows (s_l5PutRows x151 ((s_l5Alone x151 (p_1.getD k70 d_LOp)).2.1)))] : List Bool) := OwnL.of_box (S := fun _ => False) hB216 (Nat.le_refl _) (Nat.lt_succ_self _) (EncL.cons (c := [.bool ((s_l5Rows (s_l5PutRows x151 ((s_l5Alone x151 (p_1.getD k70 d_LOp)).2.1))))]) rfl rfl EncL.nil) (nb rfl) (fun h => h) (fun _ h => False.elim h)
         refine sd rfl (yl_appendP (S := fun _ => False) (lo := lo160) (hi := u159) (xs := x156) (ys := ([(s_l5Rows (s_l5PutRows x151 ((s_l5Alone x151 (p_1.getD k70 d_LOp)).2.1)))] : List Bool)) un107 ty4 rfl (nb rfl) (fun _ => rfl) rfl rfl rfl (OwnL.ex good_Bool (OwnL.ex good_Bool (OwnL.ex good_Bool (OwnL.ex good_Bool hf176 hE197) hE204) hE210) hE217) (EncL.cons (c := [.bool ((s_l5Rows (s_l5PutRows x151 ((s_l5Alone x151 (p_1.getD k70 d_LOp)).2.1))))]) rfl rfl EncL.nil) (Or.inr ⟨_, _, rfl, rfl, hB216.cells (o := 0) (n := 1) rfl⟩) rfl Bl Bl oM oM oM ?_)
         intro A223 c224 w225 row226 lp227 hp228 hO229 hG230 hrg231 hdj232
         have hG230z := hG230.size
         refine sA rfl (SeqR.done (bn (tn (CW.region (sd rfl (yl_inc rfl rfl rfl oM (sM rfl (dn ?_))))))))
         have hB233 : B_s_RunInTurn_1 p_0 p_1 k70 (x151, x156) = .cont ((s_l5PutRows x151 ((s_l5Alone x151 (p_1.getD k70 d_LOp)).2.1)), (x156 ++ ([(s_l5Rows (s_l5PutRows x151 ((s_l5Alone x151 (p_1.getD k70 d_LOp)).2.1)))] : List Bool))) := by simp only [B_s_RunInTurn_1, hb10, hb11, hb206, hb211, hL47, cL]
         exact ⟨p_1.length - (k70 + 1), oM, k70 + 1, (s_l5PutRows x151 ((s_l5Alone x151 (p_1.getD k70 d_LOp)).2.1)), (x156 ++ ([(s_l5Rows (s_l5PutRows x151 ((s_l5Alone x151 (p_1.getD k70 d_LOp)).2.1)))] : List Bool)), A201, c201, hi201, lo201, A223, c224, hp228, lp227, rfl, hlt186, oM, (sR rfl), (OwnL.grown gW (OwnL.ex gW (OwnL.ex gW h201 hE210) hE217) hG230 (hW hrg231)), hO229, (RdS.grown good_LOp (RdS.ex good_LOp (RdS.ex good_LOp (RdS.ex good_LOp (RdS.ex good_LOp hf177 hE197) hE204) hE210) hE217) hG230 (hV hrg231)), (Below.grown (Ex.trans (Ex.trans (Ex.trans (Ex.trans hf178 hE197) hE204) hE210) hE217) hG230 oM (hW hrg231)), oM, oM, Bl, Bl, (ho202).2, (by first | omega | (simp only [List.length_append, List.length_nil]; omega)), (loopM.cont hlt186 hB233).symm.trans hI172⟩
        ·refine CW.cond_f rfl hb211 (CW.skip (tn (CW.region (sM rfl (sM rfl (sd rfl (yl_buildSlice (cs := [.bool ((s_l5Rows (s_l5PutRows x151 ((s_l5Alone x151 (p_1.getD k70 d_LOp)).2.1))))]) un107 ty4 (by decide) rfl (oc rfl oz) (by kernel_rfl) ?_)))))))
         intro b247 w248 hs249 hz250 hB251 hE252
         have hO253 : OwnL w248 b247 (b247 + 1) 4 1 (RF e_Bool) (some ⟨b247, 0, none⟩) 1 1 ([(s_l5Rows (s_l5PutRows x151 ((s_l5Alone x151 (p_1.getD k70 d_LOp)).2.1)))] : List Bool) := OwnL.of_box (S := fun _ => False) hB251 (Nat.le_refl _) (Nat.lt_succ_self _) (EncL.cons (c := [.bool ((s_l5Rows (s_l5PutRows x151 ((s_l5Alone x151 (p_1.getD k70 d_LOp)).2.1))))]) rfl rfl EncL.nil) (nb rfl) (fun h => h) (fun _ h => False.elim h)
         refine sd rfl (yl_appendP (S := fun _ => False) (lo := lo160) (hi := u159) (xs := x156) (ys := ([(s_l5Rows (s_l5PutRows x151 ((s_l5Alone x151 (p_1.getD k70 d_LOp)).2.1)))] : List Bool)) un107 ty4 rfl (nb rfl) (fun _ => rfl) rfl rfl rfl (OwnL.ex good_Bool (OwnL.ex good_Bool (OwnL.ex good_Bool (OwnL.ex good_Bool hf176 hE197) hE204) hE210) hE252) (EncL.cons (c := [.bool ((s_l5Rows (s_l5PutRows x151 ((s_l5Alone x151 (p_1.getD k70 d_LOp)).2.1))))]) rfl rfl EncL.nil) (Or.inr ⟨_, _, rfl, rfl, hB251.cells (o := 0) (n := 1) rfl⟩) rfl Bl Bl oM oM oM ?_)
         intro A258 c259 w260 row261 lp262 hp263 hO264 hG265 hrg266 hdj267
         have hG265z := hG265.size
         refine sA rfl (SeqR.done (bn (tn (CW.region (sd rfl (yl_inc rfl rfl rfl oM (sM rfl (dn ?_))))))))
         have hB268 : B_s_RunInTurn_1 p_0 p_1 k70 (x151, x156) = .cont (x151, (x156 ++ ([(s_l5Rows (s_l5PutRows x151 ((s_l5Alone x151 (p_1.getD k70 d_LOp)).2.1)))] : List Bool))) := by simp only [B_s_RunInTurn_1, hb10, hb11, hb206, hb211, hL47, cL]
         exact ⟨p_1.length - (k70 + 1), oM, k70 + 1, x151, (x156 ++ ([(s_l5Rows (s_l5PutRows x151 ((s_l5Alone x151 (p_1.getD k70 d_LOp)).2.1)))] : List Bool)), A152, c153, u154, lo155, A258, c259, hp263, lp262, rfl, hlt186, oM, (sR rfl), (OwnL.grown gW (OwnL.ex gW (OwnL.ex gW (OwnL.ex gW q199 hE204) hE210) hE252) hG265 (hW hrg266)), hO264, (RdS.grown good_LOp (RdS.ex good_LOp (RdS.ex good_LOp (RdS.ex good_LOp (RdS.ex good_LOp hf177 hE197) hE204) hE210) hE252) hG265 (hV hrg266)), (Below.grown (Ex.trans (Ex.trans (Ex.trans (Ex.trans hf178 hE197) hE204) hE210) hE252) hG265 oM (hW hrg266)), oM, oM, Bl, Bl, hok183, (by first | omega | (simp only [List.length_append, List.length_nil]; omega)), (loopM.cont hlt186 hB268).symm.trans hI172⟩
       ·refine sz rfl rfl hb206 (sz rfl rfl hb206 (sd rfl (yl_pick_f rfl rfl hb206 rfl (sA rfl (dn (CW.seq (cR ?_)))))))
        refine sM rfl (dn (CW.cond_f rfl rfl (CW.skip (tn (CW.region (sM rfl (sM rfl ?_)))))))
        refine sd rfl (yl_buildSlice (cs := [.bool (false)]) un107 ty4 (by decide) rfl (oc rfl oz) (by kernel_rfl) ?_)
        intro b283 w284 hs285 hz286 hB287 hE288
        have hO289 : OwnL w284 b283 (b283 + 1) 4 1 (RF e_Bool) (some ⟨b283, 0, none⟩) 1 1 ([false] : List Bool) := OwnL.of_box (S := fun _ => False) hB287 (Nat.le_refl _) (Nat.lt_succ_self _) (EncL.cons (c := [.bool (false)]) rfl rfl EncL.nil) (nb rfl) (fun h => h) (fun _ h => False.elim h)
        refine sd rfl (yl_appendP (S := fun _ => False) (lo := lo160) (hi := u159) (xs := x156) (ys := ([false] : List Bool)) un107 ty4 rfl (nb rfl) (fun _ => rfl) rfl rfl rfl (OwnL.ex good_Bool (OwnL.ex good_Bool (OwnL.ex good_Bool hf176 hE197) hE204) hE288) (EncL.cons (c := [.bool (false)]) rfl rfl EncL.nil) (Or.inr ⟨_, _, rfl, rfl, hB287.cells (o := 0) (n := 1) rfl⟩) rfl Bl Bl oM oM oM ?_)
        intro A293 c294 w295 row296 lp297 hp298 hO299 hG300 hrg301 hdj302
        have hG300z := hG300.size
        refine sA rfl (SeqR.done (bn (tn (CW.region (sd rfl (yl_inc rfl rfl rfl oM (sM rfl (dn ?_))))))))
        have hB303 : B_s_RunInTurn_1 p_0 p_1 k70 (x151, x156) = .cont (x151, (x156 ++ ([false] : List Bool))) := by simp only [B_s_RunInTurn_1, hb10, hb11, hb206, hL47, cL]
        exact ⟨p_1.length - (k70 + 1), oM, k70 + 1, x151, (x156 ++ ([false] : List Bool)), A152, c153, u154, lo155, A293, c294, hp298, lp297, rfl, hlt186, oM, (sR rfl), (OwnL.grown gW (OwnL.ex gW (OwnL.ex gW q199 hE204) hE288) hG300 (hW hrg301)), hO299, (RdS.grown good_LOp (RdS.ex good_LOp (RdS.ex good_LOp (RdS.ex good_LOp hf177 hE197) hE204) hE288) hG300 (hV hrg301)), (Below.grown (Ex.trans (Ex.trans (Ex.trans hf178 hE197) hE204) hE288) hG300 oM (hW hrg301)), oM, oM, Bl, Bl, hok183, (by first | omega | (simp only [List.length_append, List.length_nil]; omega)), (loopM.cont hlt186 hB303).symm.trans hI172⟩
      ·refine cR (sd rfl (yl_lss rfl rfl rfl (dn (CW.seq (CW.cond_f rfl (lt_f hlt186) (CW.exit (tx ?_)))))))
       refine tx ?_
       have hL315 : loopM (B_s_RunInTurn_1 p_0 p_1) (p_1.length - 0) 0 ((([] : List DWrite) ++ p_0), ([] : List Bool)) = .done (x151, x156) := hI172.symm.trans (loopM.stop hlt186)
       refine bx (tn (cR (sM rfl (sM rfl (sA rfl (sA rfl (sA rfl ?_)))))))
       refine dn (CW.ret (rr rfl (.cons rfl (.cons rfl (.cons rfl .nil))) ?_))
       rw [show (s_RunInTurn p_0 p_1) = ((x151, x156, true)) by simp only [s_RunInTurn, hb10, hb11, hL47, hL315, cL]]
       exact ⟨A152, c153, lo155, u154, A157, c158, lo160, u159, rfl, hf175, hf176, (okL.mk (xs := x151) Bl hok183), (okL.mk (xs := x156) (by first | omega | (simp only [lN]; omega)) fun _ _ => trivial), oM, oM, oM, hf178⟩
 ·refine sz rfl rfl (not_f hb10) (sz rfl rfl (not_f hb10) (sz rfl rfl (not_f hb10) (sd rfl (yl_pick_t rfl rfl (not_f hb10) rfl (dn (CW.cond_t rfl rfl (cR ?_)))))))
  refine sA rfl (sA rfl (sA rfl (dn (CW.ret (tr (rr rfl (.cons rfl (.cons rfl (.cons rfl .nil))) ?_))))))
  rw [show (s_RunInTurn p_0 p_1) = ((([] : List DWrite), ([] : List Bool), false)) by simp only [s_RunInTurn, hb10, cL]]
  exact ⟨none, 0, w7.heap.size, w7.heap.size, none, 0, w7.heap.size, w7.heap.size, rfl, (OwnL.nil _ _ _ _ _ _), (OwnL.nil _ _ _ _ _ _), (okL.nil _), (okL.nil _), oM, oM, oM, (Ex.trans (Ex.refl w) hE9)⟩
theorem c_s_l26Do {A1 : Option Addr} {c1 : Nat} {A3 : Option Addr} {c3 : Nat} {w : World} (ps : List DWrite) (p_ops : List DOp) (h1 : RdS w (Iv 0 w.heap.size) (RF e_Write) 3 A1 ps.length c1 ps) (h3 : RdS w (Iv 0 w.heap.size) (RF e_Op) 4 A3 p_ops.length c3 p_ops) (o2 : (okL ok_Write) ps) (o4 : (okL ok_Op) p_ops) (pre0 : p_ops.length ≤ 100) (pre1 : ∀ y ∈ p_ops, y.Kind ≠ 4) : Cal Tryz.prog 41 #[.slice A1 ps.length c1, .slice A3 p_ops.length c3] w fun v w' => ∃ A_1 c_1 lo_1 hi_1, v = .tuple #[.slice A_1 (((s_l26Do ps p_ops).1).length) c_1, .bool ((s_l26Do ps p_ops).2)] ∧ OwnL w' lo_1 hi_1 80 3 (RF e_Write) A_1 (((s_l26Do ps p_ops).1).length) c_1 ((s_l26Do ps p_ops).1) ∧ (okL ok_Write) ((s_l26Do ps p_ops).1) ∧ (w.heap.size ≤ lo_1 ∧ lo_1 ≤ hi_1 ∧ hi_1 ≤ w'.heap.size) ∧ Ex w w' := by
 have hol5 := o2.1
 have hol6 := o4.1
 refine Cal.of func41 rfl ntmps41 rfl (cR (sA rfl (sA rfl (dn (cR ?_)))))
 refine sM rfl (sM rfl (sd rfl (yl_buildSlice (cs := [.slice A3 p_ops.length c3]) un110 ty77 (by decide) rfl (oc rfl oz) (by kernel_rfl) ?_)))
 intro b7 w8 hs9 hz10 hB11 hE12
 have hO13 : OwnL w8 0 (b7 + 1) 77 1 R_LOp (some ⟨b7, 0, none⟩) 1 1 ([p_ops] : List (List DOp)) := OwnL.of_box (S := Iv 0 b7) hB11 oM (Nat.lt_succ_self _) (EncL.cons (c := [.slice A3 p_ops.length c3]) rfl ⟨A3, c3, rfl, (RdS.ex good_Op (RdS.wide good_Op h3 (fun b hh hl => ⟨by first | exact Nat.zero_le _ | (have := hh.1; omega), by omega⟩)) hE12)⟩ EncL.nil) (nb rfl) (fun h => Nat.lt_irrefl _ h.2) (fun _ h => ⟨h.1, Nat.lt_succ_of_lt h.2⟩)
 have hle15 := OwnL.len hO13
 refine sd rfl (yC en73 rfl (oc rfl (oc rfl oz)) (Cal.mono (Cal.args (by rw [← hle15] <;> rfl) (c_s_RunInTurn ps ([p_ops] : List (List DOp)) (RdS.up (RdS.ex gW h1 hE12) gW) (RdS.fix (RdS.up (OwnL.rd good_LOp hO13) good_LOp)) o2 (okL.mk (nb rfl) (okE.cons o4 okE.nil)) (noadd_100 pre0 pre1))) ?_))
 rintro v22 w17 ⟨A18, c18, lo18, hi18, A19, c19, lo19, hi19, rfl, h18, h19, ho20, ho21, hrn24, hrn25, hrn26, hE23⟩
 have hE23z := Ex.size hE23
 refine sM rfl (sd rfl (yl_extract rfl rfl rfl (sd rfl (yl_extract rfl rfl rfl (sd rfl (yl_extract rfl rfl rfl (sA rfl (sA rfl (sA rfl (dn ?_))))))))))
 refine CW.seq (bcD (q := (((s_RunInTurn ps ([p_ops] : List (List DOp))).2.1).length : Int) = 1) (fun hb27 hb27p => ?_) (fun hb27 hb27p => ?_))
 ·obtain ⟨eb29, eo29, _, eA29, _, ebl29, _, eR29, eC29⟩ := RdS.aD (OwnL.rd good_Bool h19) d_Bool (i := 0)
  obtain rfl := eR29
  refine drJ 11 [.slice A18 (((s_RunInTurn ps ([p_ops] : List (List DOp))).1).length) c18, .slice A19 (((s_RunInTurn ps ([p_ops] : List (List DOp))).2.1).length) c19, .int .i64 ((((s_RunInTurn ps ([p_ops] : List (List DOp))).2.1).length : Int)), .bool (decide ((((s_RunInTurn ps ([p_ops] : List (List DOp))).2.1).length : Int) = 1)), .bool (decide ((((s_RunInTurn ps ([p_ops] : List (List DOp))).2.1).length : Int) = 1)), .slice A19 (((s_RunInTurn ps ([p_ops] : List (List DOp))).2.1).length) c19, .pointer (some ⟨eb29, eo29 + 0 * 1, none⟩), .bool ((((s_RunInTurn ps ([p_ops] : List (List DOp))).2.1).getD 0 d_Bool)), .bool ((((s_RunInTurn ps ([p_ops] : List (List DOp))).2.1).getD 0 d_Bool)), .slice A18 (((s_RunInTurn ps ([p_ops] : List (List DOp))).1).length) c18, .bool ((((s_RunInTurn ps ([p_ops] : List (List DOp))).2.1).getD 0 d_Bool))] Tryz.follows rfl ⟨oI rfl fun h => yM rfl (h.g 6 rfl) kI, oI rfl fun h => yM rfl (h.g 7 rfl) kI, oI rfl fun h => yL un107 rfl (h.g 18 rfl) kI, oI rfl fun h => yl_eql rfl (h.g 19 rfl) rfl kI, oI rfl fun h => yM rfl (h.g 20 rfl) kI, oW rfl rfl rfl rfl hb27 fun h => yM rfl (h.g 7 rfl) kI, ?_, oW rfl rfl rfl rfl hb27 fun h => yl_load1 ty4 rfl (h.g 23 rfl) ((Cells.ex eC29 h.ex) 0 _ rfl) kI, oI rfl fun h => yl_pick_t rfl (h.g 21 rfl) hb27 (h.g 24 rfl) kI, oI rfl fun h => yA rfl (h.g 17 rfl) kI, oI rfl fun h => yA rfl (h.g 25 rfl) kI, trivial⟩ ?_
  ·intro L61 w62 hi63
   have hE64 := hi63.ex
   have hE64z := Ex.size hE64
   exact OpR.want rfl rfl (hi63.g 21 rfl) hb27 (Yl.sameI (yl_ixN un107 ty4 rfl (hi63.g 22 rfl) rfl eA29 kI))
  ·intro fl93 fh94 L90 w91 hp92
   have hE95 := hp92.ex
   have hE95z := Ex.size hE95
   refine dn (CW.sub (hp92.ss [4, 5] rfl) (CW.ret (rr rfl (.cons rfl (.cons rfl .nil)) ?_)))
   rw [show (s_l26Do ps p_ops) = (((s_RunInTurn ps ([p_ops] : List (List DOp))).1, (((s_RunInTurn ps ([p_ops] : List (List DOp))).2.1).getD 0 d_Bool))) by simp only [s_l26Do, hb27, cL]]
   exact ⟨A18, c18, lo18, hi18, rfl, (OwnL.ex gW h18 hE95), ho20, oM, (Ex.trans (Ex.trans (Ex.trans (Ex.refl w) hE12) hE23) hE95)⟩
 ·refine drJ 11 [.slice A18 (((s_RunInTurn ps ([p_ops] : List (List DOp))).1).length) c18, .slice A19 (((s_RunInTurn ps ([p_ops] : List (List DOp))).2.1).length) c19, .int .i64 ((((s_RunInTurn ps ([p_ops] : List (List DOp))).2.1).length : Int)), .bool (decide ((((s_RunInTurn ps ([p_ops] : List (List DOp))).2.1).length : Int) = 1)), .bool (decide ((((s_RunInTurn ps ([p_ops] : List (List DOp))).2.1).length : Int) = 1)), undef, undef, undef, .bool (false), .slice A18 (((s_RunInTurn ps ([p_ops] : List (List DOp))).1).length) c18, .bool (false)] Tryz.follows rfl ⟨oI rfl fun h => yM rfl (h.g 6 rfl) kI, oI rfl fun h => yM rfl (h.g 7 rfl) kI, oI rfl fun h => yL un107 rfl (h.g 18 rfl) kI, oI rfl fun h => yl_eql rfl (h.g 19 rfl) rfl kI, oI rfl fun h => yM rfl (h.g 20 rfl) kI, oS rfl rfl rfl rfl rfl hb27, oS rfl rfl rfl rfl rfl hb27, oS rfl rfl rfl rfl rfl hb27, oI rfl fun h => yl_pick_f rfl (h.g 21 rfl) hb27 rfl kI, oI rfl fun h => yA rfl (h.g 17 rfl) kI, oI rfl fun h => yA rfl (h.g 25 rfl) kI, trivial⟩ ?_
  ·intro fl162 fh163 L159 w160 hp161
   have hE164 := hp161.ex
   have hE164z := Ex.size hE164
   refine dn (CW.sub (hp161.ss [4, 5] rfl) (CW.ret (rr rfl (.cons rfl (.cons rfl .nil)) ?_)))
   rw [show (s_l26Do ps p_ops) = (((s_RunInTurn ps ([p_ops] : List (List DOp))).1, false)) by simp only [s_l26Do, hb27, cL]]
   exact ⟨A18, c18, lo18, hi18, rfl, (OwnL.ex gW h18 hE164), ho20, oM, (Ex.trans (Ex.trans (Ex.trans (Ex.refl w) hE12) hE23) hE164)⟩
theorem c_s_l1Split {w : World} (p_s : Str) (p_b : Int) (o1 : okS p_s) : Cal Tryz.prog 149 #[.string (bs (p_s)), .int .u8 (p_b)] w fun v w' => ∃ A_1 c_1 lo_1 hi_1, v = .slice A_1 ((s_l1Split p_s p_b).length) c_1 ∧ OwnL w' lo_1 hi_1 9 1 (RF e_Str) A_1 ((s_l1Split p_s p_b).length) c_1 (s_l1Split p_s p_b) ∧ (okL okS) (s_l1Split p_s p_b) ∧ (w.heap.size ≤ lo_1 ∧ lo_1 ≤ hi_1 ∧ hi_1 ≤ w'.heap.size) ∧ Ex w w' := by
 have hol2 : p_s.length ≤ 1073741824 := o1
 refine Cal.of func149 rfl ntmps149 rfl (cR (sA rfl (dn (cR (sA rfl ?_)))))
 refine dn (cR (sA rfl (dn (CW.seq (CW.seq ?_)))))
 refine CW.region (sA rfl (dn (CW.block (CW.loop (fun m26 L27 w28 => ∃ (k3 : Nat) (x21 : List Str) (x25 : Int) (A22 : Option Addr) (c23 : Nat) (u24 : Nat), m26 = p_s.length - k3 ∧ k3 ≤ p_s.length ∧ w.heap.size ≤ w28.heap.size ∧ Sub [(0, .string (bs (p_s))), (1, .int .u8 (p_b)), (5, .slice A22 x21.length c23), (6, .int .i64 (x25)), (7, .int .i64 ((k3 : Int)))] L27 ∧ OwnL w28 w.heap.size u24 9 1 (RF e_Str) A22 x21.length c23 x21 ∧ Ex w w28 ∧ (w.heap.size ≤ u24 ∧ u24 ≤ w28.heap.size) ∧ x21.length ≤ 0 + 1 * (k3 - 0) ∧ (∀ y ∈ x21, okS y) ∧ 0 ≤ x25 ∧ x25 ≤ (k3 : Int) ∧ loopM (B_s_l1Split_0 p_s p_b) (p_s.length - k3) k3 (x21, x25) = loopM (B_s_l1Split_0 p_s p_b) (p_s.length - 0) 0 (([] : List Str), 0)) (p_s.length - 0) ?_ ?_))))
 ·exact ⟨0, ([] : List Str), 0, none, 0, w.heap.size, rfl, oM, Nat.le_refl _, (sR rfl), (OwnL.nil w w.heap.size w.heap.size 9 1 (RF e_Str)), (Ex.refl w), oM, (by first | (simp; done) | (first | omega | (simp only [lN, toS_length]; omega))), okE.nil, Bo, Bo, rfl⟩
 ·rintro m29 L30 w31 ⟨k3, x21, x25, A22, c23, u24, rfl, hk32, hsz34, hl35, hf36, hf37, hu38, hln39, hok40, hv41, hv42, hI33⟩
  refine CW.sub hl35 ?_
  have hf37z := Ex.size hf37
  have hbg43 : p_s.length ≤ 1073741824 := o1
  rcases Nat.lt_or_ge k3 p_s.length with hlt44 | hlt44
  ·refine CW.seq (cR (sM rfl (sM rfl (sd rfl (yl_slen un9 (a := p_s) rfl rfl (sd rfl (yl_lss rfl rfl rfl (dn ?_))))))))
   refine CW.cond_t rfl (lt_t hlt44) (CW.skip (tn (CW.seq (CW.block (cR (sM rfl (sM rfl ?_)))))))
   refine sd rfl (yl_sindexN un9 (a := p_s) rfl rfl rfl Bo (sM rfl (sd rfl (yl_eql rfl rfl rfl (dn (bcD (q := ((p_s.getD k3 0).toNat : Int) = p_b) (fun hb45 hb45p => ?_) (fun hb45 hb45p => ?_)))))))
   ·refine CW.cond_t rfl hb45 (cR (sM rfl (sM rfl (sM rfl (sM rfl (sd rfl (yl_sslice_lh un9 (a := p_s) (l := (x25).toNat) (h := k3) rfl rfl (toNat_op rfl oM) rfl oM oM (sd rfl (yl_buildSlice (cs := [.string (bs (((p_s.take k3).drop ((x25).toNat))))]) un22 ty9 (by decide) rfl (oc rfl oz) (by kernel_rfl) ?_)))))))))
    intro b46 w47 hs48 hz49 hB50 hE51
    have hO52 : OwnL w47 b46 (b46 + 1) 9 1 (RF e_Str) (some ⟨b46, 0, none⟩) 1 1 ([((p_s.take k3).drop ((x25).toNat))] : List Str) := OwnL.of_box (S := fun _ => False) hB50 (Nat.le_refl _) (Nat.lt_succ_self _) (EncL.cons (c := [.string (bs (((p_s.take k3).drop ((x25).toNat))))]) rfl rfl EncL.nil) (nb rfl) (fun h => h) (fun _ h => False.elim h)
    refine sd rfl (yl_appendL (S := (fun _ => False)) (lo := w.heap.size) (hi := u24) (xs := x21) (ys := ([((p_s.take k3).drop ((x25).toNat))] : List Str)) gS un22 ty9 rfl (nb rfl) rfl rfl rfl (OwnL.ex gS hf36 hE51) (EncL.cons (c := [.string (bs (((p_s.take k3).drop ((x25).toNat))))]) rfl rfl EncL.nil) (Or.inr ⟨_, _, rfl, rfl, hB50.cells (o := 0) (n := 1) rfl⟩) rfl Bl Bl oM oM (fun _ h _ => False.elim h) oM ?_)
    intro A54 c55 w56 row57 hO58 hG59 hrg60
    have hG59z := hG59.size
    refine sA rfl (dn (CW.region (sM rfl (sd rfl (yl_inc rfl rfl rfl oM (sA rfl (SeqR.done (bn ?_))))))))
    refine tn (CW.region (sM rfl (sd rfl (yl_inc rfl rfl rfl oM (sA rfl (dn ?_))))))
    have hB61 : B_s_l1Split_0 p_s p_b k3 (x21, x25) = .cont ((x21 ++ ([((p_s.take k3).drop ((x25).toNat))] : List Str)), ((k3 + 1 : Nat) : Int)) := by simp only [B_s_l1Split_0, hb45, cL]
    exact ⟨p_s.length - (k3 + 1), oM, k3 + 1, (x21 ++ ([((p_s.take k3).drop ((x25).toNat))] : List Str)), ((k3 + 1 : Nat) : Int), A54, c55, w56.heap.size, rfl, hlt44, oM, (sR rfl), hO58, (Below.grown (Ex.trans hf37 hE51) hG59 oM (hW hrg60)), oM, Bl, (okE.append hok40 ((okL.mk (nb rfl) (okE.cons (okS.drop (okS.take o1 _) _) okE.nil))).2), Bo, Bo, (loopM.cont hlt44 hB61).symm.trans hI33⟩
   ·refine CW.cond_f rfl hb45 (CW.skip (bn (tn (CW.region (sM rfl (sd rfl (yl_inc rfl rfl rfl oM (sA rfl (SeqR.done ?_)))))))))
    refine tn ?_
    have hB64 : B_s_l1Split_0 p_s p_b k3 (x21, x25) = .cont (x21, x25) := by simp only [B_s_l1Split_0, hb45, cL]
    exact ⟨p_s.length - (k3 + 1), oM, k3 + 1, x21, x25, A22, c23, u24, rfl, hlt44, oM, (sR rfl), hf36, hf37, oM, Bl, hok40, Bo, Bo, (loopM.cont hlt44 hB64).symm.trans hI33⟩
  ·refine CW.seq (cR (sM rfl (sM rfl (sd rfl (yl_slen un9 (a := p_s) rfl rfl (sd rfl (yl_lss rfl rfl rfl (dn ?_))))))))
   refine CW.cond_f rfl (lt_f hlt44) (CW.exit (tx (tx ?_)))
   have hL65 : loopM (B_s_l1Split_0 p_s p_b) (p_s.length - 0) 0 (([] : List Str), 0) = .done (x21, x25) := hI33.symm.trans (loopM.stop hlt44)
   refine bx (tn (cR (sM rfl (sM rfl (sM rfl (sd rfl (yl_sslice_lo un9 (a := p_s) (l := (x25).toNat) rfl rfl (toNat_op rfl oM) oM (sd rfl (yl_buildSlice (cs := [.string (bs ((p_s.drop ((x25).toNat))))]) un22 ty9 (by decide) rfl (oc rfl oz) (by kernel_rfl) ?_)))))))))
   intro b66 w67 hs68 hz69 hB70 hE71
   have hO72 : OwnL w67 b66 (b66 + 1) 9 1 (RF e_Str) (some ⟨b66, 0, none⟩) 1 1 ([(p_s.drop ((x25).toNat))] : List Str) := OwnL.of_box (S := fun _ => False) hB70 (Nat.le_refl _) (Nat.lt_succ_self _) (EncL.cons (c := [.string (bs ((p_s.drop ((x25).toNat))))]) rfl rfl EncL.nil) (nb rfl) (fun h => h) (fun _ h => False.elim h)
   refine sd rfl (yl_appendL (S := (fun _ => False)) (lo := w.heap.size) (hi := u24) (xs := x21) (ys := ([(p_s.drop ((x25).toNat))] : List Str)) gS un22 ty9 rfl (nb rfl) rfl rfl rfl (OwnL.ex gS hf36 hE71) (EncL.cons (c := [.string (bs ((p_s.drop ((x25).toNat))))]) rfl rfl EncL.nil) (Or.inr ⟨_, _, rfl, rfl, hB70.cells (o := 0) (n := 1) rfl⟩) rfl Bl Bl oM oM (fun _ h _ => False.elim h) oM ?_)
   intro A74 c75 w76 row77 hO78 hG79 hrg80
   have hG79z := hG79.size
   refine sA rfl (dn (CW.ret (rr rfl (.cons rfl .nil) ?_)))
   rw [show (s_l1Split p_s p_b) = ((x21 ++ ([(p_s.drop ((x25).toNat))] : List Str))) by simp only [s_l1Split, hL65, cL]]
   exact ⟨A74, c75, w.heap.size, w76.heap.size, rfl, hO78, (okL.mk (xs := (x21 ++ ([(p_s.drop ((x25).toNat))] : List Str))) Bl (okE.append hok40 ((okL.mk (nb rfl) (okE.cons (okS.drop o1 _) okE.nil))).2)), oM, (Below.grown (Ex.trans hf37 hE71) hG79 oM (hW hrg80))⟩
theorem c_s_l25Field {w : World} (p_s : Str) (o1 : okS p_s) : Cal Tryz.prog 167 #[.string (bs (p_s))] w fun v w' => v = .bool ((s_l25Field p_s)) ∧ Ex w w' := by
 refine Cal.of func167 rfl ntmps167 rfl (cR (sA rfl (dn (cR (sM rfl ?_)))))
 refine sd rfl (yl_slen un9 (a := p_s) rfl rfl (sd rfl (yC en91 rfl (oc rfl (oc rfl (oc rfl oz))) (Cal.mono (c_s_l1In (p_s.length : Int) 1 3) ?_))))
 rintro v4 w3 ⟨rfl, hE5⟩
 refine sM rfl (bcase (s_l1In (p_s.length : Int) 1 3) (fun hb6 => ?_) (fun hb6 => ?_))
 ·have hb6p := f_l1In hb6
  refine sy rfl rfl hb6 (yM rfl rfl (sy rfl rfl hb6 (yC en139 rfl (oc rfl (oc rfl oz)) (Cal.mono (c_s_l3Bytes p_s ([] : Str) o1 (okS.lit rfl)) ?_))))
  rintro v8 w7 ⟨rfl, hE9⟩
  refine sd rfl (yl_pick_t rfl rfl hb6 rfl (sA rfl (dn (CW.ret (rr rfl (.cons rfl .nil) ?_)))))
  rw [show (s_l25Field p_s) = ((s_l3Bytes p_s ([] : Str))) by simp only [s_l25Field, hb6, cL]]
  exact ⟨rfl, (Ex.trans (Ex.trans (Ex.refl w) hE5) hE9)⟩
 ·refine sz rfl rfl hb6 (sz rfl rfl hb6 (sd rfl (yl_pick_f rfl rfl hb6 rfl (sA rfl (dn (CW.ret (rr rfl (.cons rfl .nil) ?_)))))))
  rw [show (s_l25Field p_s) = (false) by simp only [s_l25Field, hb6, cL]]
  exact ⟨rfl, (Ex.trans (Ex.refl w) hE5)⟩
theorem c_s_l25ReadEntry {A1 : Option Addr} {c1 : Nat} {A2 : Option Addr} {c2 : Nat} {w : World} (p_t : DTable) (pn : Str) (p_key : Str) (h1 : RdS w (Iv 0 w.heap.size) (RF e_Str) 1 A1 p_t.Cols.length c1 p_t.Cols) (h2 : RdS w (Iv 0 w.heap.size) (RF e_Idx) 3 A2 p_t.Idxs.length c2 p_t.Idxs) (o3 : ok_Table p_t) (o4 : okS pn) (o5 : okS p_key) : Cal Tryz.prog 140 #[.agg #[.string (bs (p_t.Name)), .slice A1 p_t.Cols.length c1, .slice A2 p_t.Idxs.length c2], .string (bs (pn)), .string (bs (p_key))] w fun v w' => v = .tuple #[.string (bs ((s_l25ReadEntry p_t pn p_key).1)), .string (bs ((s_l25ReadEntry p_t pn p_key).2.1)), .bool ((s_l25ReadEntry p_t pn p_key).2.2)] ∧ okS ((s_l25ReadEntry p_t pn p_key).1) ∧ okS ((s_l25ReadEntry p_t pn p_key).2.1) ∧ Ex w w' := by
 have hol6 : p_t.Name.length ≤ 1073741824 := o3.1
 have hol7 := o3.2.1.1
 have hol8 := o3.2.2.1
 have hol9 : pn.length ≤ 1073741824 := o4
 have hol10 : p_key.length ≤ 1073741824 := o5
 refine Cal.of func140 rfl ntmps140 rfl (cR (sd rfl (yl_box rfl rfl rfl ?_)))
 intro b11 w12 hs13 hz14 hB15 hE16
 refine sA rfl (sA rfl (sA rfl (dn (cR (sM rfl (sd rfl (yC en149 rfl (oc rfl (oc rfl oz)) (Cal.mono (c_s_l1Split p_key 47 o5) ?_))))))))
 rintro v20 w17 ⟨A18, c18, lo18, hi18, rfl, h18, ho19, hrn22, hE21⟩
 have hE21z := Ex.size hE21
 have hrf23 := rf_l1Split p_key 47
 refine sA rfl (dn (CW.seq (CW.seq (bcD (q := ((s_l1Split p_key 47).length : Int) = 3) (fun hb24 hb24p => ?_) (fun hb24 hb24p => ?_)))))
 ·obtain ⟨eb26, eo26, _, eA26, _, ebl26, _, eR26, eC26⟩ := RdS.aD (OwnL.rd gS h18) d_Str (i := 0)
  obtain rfl := eR26
  have hol28 : p_t.Name.length ≤ 1073741824 := o3.1
  have hol29 : p_t.Name.length ≤ 1073741824 := o3.1
  have hol30 : pn.length ≤ 1073741824 := o4
  refine drJ 12 [.slice A18 ((s_l1Split p_key 47).length) c18, .int .i64 (((s_l1Split p_key 47).length : Int)), .bool (!(decide (((s_l1Split p_key 47).length : Int) = 3))), .bool (!(decide (((s_l1Split p_key 47).length : Int) = 3))), .slice A18 ((s_l1Split p_key 47).length) c18, .pointer (some ⟨eb26, eo26 + 0 * 1, none⟩), .string (bs (((s_l1Split p_key 47).getD 0 d_Str))), .pointer (some ⟨b11, 0 + 0, none⟩), .string (bs (p_t.Name)), .string (bs (p_t.Name ++ ([46] : Str))), .string (bs (pn)), .string (bs ((p_t.Name ++ ([46] : Str)) ++ pn))] Tryz.follows rfl ⟨oI rfl fun h => yM rfl (h.g 9 rfl) kI, oI rfl fun h => yL un22 rfl (h.g 12 rfl) kI, oI rfl fun h => yl_neq rfl (h.g 13 rfl) rfl kI, oI rfl fun h => yM rfl (h.g 14 rfl) kI, oW rfl rfl rfl rfl (not_t hb24) fun h => yM rfl (h.g 9 rfl) kI, ?_, oW rfl rfl rfl rfl (not_t hb24) fun h => yl_load1 ty9 rfl (h.g 17 rfl) ((Cells.ex eC26 h.ex) 0 _ rfl) kI, oW rfl rfl rfl rfl (not_t hb24) fun h => yl_fieldAddr fd39_0 rfl (h.g 3 rfl) kI, oW rfl rfl rfl rfl (not_t hb24) fun h => yl_load1 ty9 rfl (h.g 19 rfl) (((Box.ex (Box.ex hB15 hE21) h.ex).cell 0).trans rfl) kI, ?_, oW rfl rfl rfl rfl (not_t hb24) fun h => yM rfl (h.g 1 rfl) kI, ?_, trivial⟩ ?_
  ·intro L57 w58 hi59
   have hE60 := hi59.ex
   have hE60z := Ex.size hE60
   exact OpR.want rfl rfl (hi59.g 15 rfl) (not_t hb24) (Yl.sameI (yl_ixN un22 ty9 rfl (hi59.g 16 rfl) rfl eA26 kI))
  ·intro L83 w84 hi85
   have hE86 := hi85.ex
   have hE86z := Ex.size hE86
   have hol89 : p_t.Name.length ≤ 1073741824 := o3.1
   exact OpR.want rfl rfl (hi85.g 15 rfl) (not_t hb24) (Yl.sameI (yl_sadd (a := p_t.Name) (b := ([46] : Str)) rfl (hi85.g 20 rfl) rfl Bl kI))
  ·intro L96 w97 hi98
   have hE99 := hi98.ex
   have hE99z := Ex.size hE99
   have hol103 : p_t.Name.length ≤ 1073741824 := o3.1
   have hol104 : pn.length ≤ 1073741824 := o4
   exact OpR.want rfl rfl (hi98.g 15 rfl) (not_t hb24) (Yl.sameI (yl_sadd (a := (p_t.Name ++ ([46] : Str))) (b := pn) rfl (hi98.g 21 rfl) (hi98.g 22 rfl) Bl kI))
  ·intro fl108 fh109 L105 w106 hp107
   have hE110 := hp107.ex
   have hE110z := Ex.size hE110
   have hx111 := hp107.old 9 _ rfl rfl
   have hx112 := hp107.nt 3 15 rfl rfl rfl
   refine sy rfl hx112 (not_t hb24) (yl_sneq (a := ((s_l1Split p_key 47).getD 0 d_Str)) (b := ((p_t.Name ++ ([46] : Str)) ++ pn)) rfl (hp107.nt 6 18 rfl rfl rfl) (hp107.nt 11 23 rfl rfl rfl) (sd rfl (yl_pick_f rfl hx112 (not_t hb24) rfl (sM rfl (bcase (((s_l1Split p_key 47).getD 0 d_Str) == ((p_t.Name ++ ([46] : Str)) ++ pn)) (fun hb115 => ?_) (fun hb115 => ?_))))))
   ·refine sy rfl rfl (not_t hb115) (yM rfl hx111 ?_)
    have q117 := OwnL.ex gS h18 hE110
    obtain ⟨eb118, eo118, _, eA118, _, ebl118, _, eR118, eC118⟩ := RdS.aD (OwnL.rd gS q117) d_Str (i := 1)
    obtain rfl := eR118
    refine sy rfl rfl (not_t hb115) (yl_ixN un22 ty9 rfl rfl rfl eA118 (sy rfl rfl (not_t hb115) (yl_load1 ty9 rfl rfl (eC118 0 _ rfl) (sy rfl rfl (not_t hb115) (yC en167 rfl (oc rfl oz) (Cal.mono (c_s_l25Field ((s_l1Split p_key 47).getD 1 d_Str) (okS_l1Split o5 _ _)) ?_))))))
    rintro v120 w119 ⟨rfl, hE121⟩
    have hE121z := Ex.size hE121
    have y0 := Ex.trans (Ex.trans (Ex.trans (Ex.trans (Ex.refl w) hE16) hE21) hE110) hE121
    refine sy rfl rfl (not_t hb115) (yl_not rfl rfl (sd rfl (yl_pick_f rfl rfl (not_t hb115) rfl (sM rfl (bcase (s_l25Field ((s_l1Split p_key 47).getD 1 d_Str)) (fun hb122 => ?_) (fun hb122 => ?_))))))
    ·refine sy rfl rfl (not_t hb122) (yM rfl hx111 ?_)
     obtain ⟨eb125, eo125, _, eA125, _, ebl125, _, eR125, eC125⟩ := RdS.atD (OwnL.rd gS (OwnL.ex gS q117 hE121)) d_Str (i := 2) (by first | omega | assumption)
     obtain rfl := eR125
     refine sy rfl rfl (not_t hb122) (yl_ixN un22 ty9 rfl rfl rfl eA125 (sy rfl rfl (not_t hb122) (yl_load1 ty9 rfl rfl (eC125 0 _ rfl) (sy rfl rfl (not_t hb122) (yC en167 rfl (oc rfl oz) (Cal.mono (c_s_l25Field ((s_l1Split p_key 47).getD 2 d_Str) (okS_l1Split o5 _ _)) ?_))))))
     rintro v127 w126 ⟨rfl, hE128⟩
     have hE128z := Ex.size hE128
     refine sy rfl rfl (not_t hb122) (yl_not rfl rfl (sd rfl (yl_pick_f rfl rfl (not_t hb122) rfl (dn (CW.sub (sC 9 hx111 (sC 39 rfl (Sub.nil _))) (bcase (s_l25Field ((s_l1Split p_key 47).getD 2 d_Str)) (fun hb129 => ?_) (fun hb129 => ?_)))))))
     ·refine CW.cond_f rfl (not_t hb129) (CW.skip (tn (CW.seq (drJ 9 [.slice A18 ((s_l1Split p_key 47).length) c18, .pointer (some ⟨eb118, eo118 + 1 * 1, none⟩), .string (bs (((s_l1Split p_key 47).getD 1 d_Str))), .slice A18 ((s_l1Split p_key 47).length) c18, .pointer (some ⟨eb125, eo125 + 2 * 1, none⟩), .string (bs (((s_l1Split p_key 47).getD 2 d_Str))), .string (bs (((s_l1Split p_key 47).getD 1 d_Str))), .string (bs (((s_l1Split p_key 47).getD 2 d_Str))), .bool (true)] Tryz.follows rfl ⟨?_, ?_, ?_, ?_, ?_, ?_, ?_, ?_, ?_, trivial⟩ ?_))))
      ·exact oI rfl fun h => yM rfl (h.g 9 rfl) kI
      ·intro L138 w139 hi140
       have hE141 := hi140.ex
       have hE141z := Ex.size hE141
       exact os rfl ((yl_ixN un22 ty9 rfl (hi140.g 40 rfl) rfl eA118 kI))
      ·exact oI rfl fun h => yl_load1 ty9 rfl (h.g 41 rfl) ((Cells.ex (Cells.ex (Cells.ex eC118 hE121) hE128) h.ex) 0 _ rfl) kI
      ·exact oI rfl fun h => yM rfl (h.g 9 rfl) kI
      ·intro L154 w155 hi156
       have hE157 := hi156.ex
       have hE157z := Ex.size hE157
       exact os rfl ((yl_ixN un22 ty9 rfl (hi156.g 43 rfl) rfl eA125 kI))
      ·exact oI rfl fun h => yl_load1 ty9 rfl (h.g 44 rfl) ((Cells.ex (Cells.ex eC125 hE128) h.ex) 0 _ rfl) kI
      ·exact oI rfl fun h => yA rfl (h.g 42 rfl) kI
      ·exact oI rfl fun h => yA rfl (h.g 45 rfl) kI
      ·exact oI rfl fun _ => yA rfl rfl kI
      ·intro fl182 fh183 L179 w180 hp181
       have hE184 := hp181.ex
       have hE184z := Ex.size hE184
       refine dn (CW.sub (hp181.ss [6, 7, 8] rfl) (CW.ret (rr rfl (.cons rfl (.cons rfl (.cons rfl .nil))) ?_)))
       rw [show (s_l25ReadEntry p_t pn p_key) = ((((s_l1Split p_key 47).getD 1 d_Str), ((s_l1Split p_key 47).getD 2 d_Str), true)) by simp only [s_l25ReadEntry, hb24, hb115, hb122, hb129, cL]]
       exact ⟨rfl, (okS_l1Split o5 _ _), (okS_l1Split o5 _ _), (Ex.trans (Ex.trans y0 hE128) hE184)⟩
     ·refine CW.cond_t rfl (not_f hb129) (cR (sA rfl (sA rfl (sA rfl (dn (CW.ret ?_))))))
      refine tr (rr rfl (.cons rfl (.cons rfl (.cons rfl .nil))) ?_)
      rw [show (s_l25ReadEntry p_t pn p_key) = ((([] : Str), ([] : Str), false)) by simp only [s_l25ReadEntry, hb24, hb115, hb122, hb129, cL]]
      exact ⟨rfl, (okS.lit rfl), (okS.lit rfl), (Ex.trans y0 hE128)⟩
    ·refine sz rfl rfl (not_f hb122) (sz rfl rfl (not_f hb122) (sz rfl rfl (not_f hb122) (sz rfl rfl (not_f hb122) (sz rfl rfl (not_f hb122) (sd rfl (yl_pick_t rfl rfl (not_f hb122) rfl (dn (CW.sub (sC 9 hx111 (sC 39 rfl (Sub.nil _))) ?_))))))))
     refine CW.cond_t rfl rfl (cR (sA rfl (sA rfl (sA rfl (dn (CW.ret ?_))))))
     refine tr (rr rfl (.cons rfl (.cons rfl (.cons rfl .nil))) ?_)
     rw [show (s_l25ReadEntry p_t pn p_key) = ((([] : Str), ([] : Str), false)) by simp only [s_l25ReadEntry, hb24, hb115, hb122, cL]]
     exact ⟨rfl, (okS.lit rfl), (okS.lit rfl), y0⟩
   ·refine sz rfl rfl (not_f hb115) (sz rfl rfl (not_f hb115) (sz rfl rfl (not_f hb115) (sz rfl rfl (not_f hb115) (sz rfl rfl (not_f hb115) (sd rfl (yl_pick_t rfl rfl (not_f hb115) rfl (sM rfl (sz rfl rfl rfl (sz rfl rfl rfl ?_)))))))))
    refine sz rfl rfl rfl (sz rfl rfl rfl (sz rfl rfl rfl (sd rfl (yl_pick_t rfl rfl rfl rfl (dn (CW.sub (sC 9 hx111 (sC 39 rfl (Sub.nil _))) (CW.cond_t rfl rfl (CW.seq ?_))))))))
    refine CW.region (sA rfl (sA rfl (sA rfl (dn (CW.ret (tr (rr rfl (.cons rfl (.cons rfl (.cons rfl .nil))) ?_)))))))
    rw [show (s_l25ReadEntry p_t pn p_key) = ((([] : Str), ([] : Str), false)) by simp only [s_l25ReadEntry, hb24, hb115, cL]]
    exact ⟨rfl, (okS.lit rfl), (okS.lit rfl), (Ex.trans (Ex.trans (Ex.trans (Ex.refl w) hE16) hE21) hE110)⟩
 ·refine drJ 12 [.slice A18 ((s_l1Split p_key 47).length) c18, .int .i64 (((s_l1Split p_key 47).length : Int)), .bool (!(decide (((s_l1Split p_key 47).length : Int) = 3))), .bool (!(decide (((s_l1Split p_key 47).length : Int) = 3))), undef, undef, undef, undef, undef, undef, undef, undef] Tryz.follows rfl ⟨oI rfl fun h => yM rfl (h.g 9 rfl) kI, oI rfl fun h => yL un22 rfl (h.g 12 rfl) kI, oI rfl fun h => yl_neq rfl (h.g 13 rfl) rfl kI, oI rfl fun h => yM rfl (h.g 14 rfl) kI, oS rfl rfl rfl rfl rfl (not_f hb24), oS rfl rfl rfl rfl rfl (not_f hb24), oS rfl rfl rfl rfl rfl (not_f hb24), oS rfl rfl rfl rfl rfl (not_f hb24), oS rfl rfl rfl rfl rfl (not_f hb24), oS rfl rfl rfl rfl rfl (not_f hb24), oS rfl rfl rfl rfl rfl (not_f hb24), oS rfl rfl rfl rfl rfl (not_f hb24), trivial⟩ ?_
  ·intro fl273 fh274 L270 w271 hp272
   have hE275 := hp272.ex
   have hE275z := Ex.size hE275
   have hx277 := hp272.nt 3 15 rfl rfl rfl
   refine sz rfl hx277 (not_f hb24) (sd rfl (yl_pick_t rfl hx277 (not_f hb24) rfl (sM rfl (sz rfl rfl rfl (sz rfl rfl rfl (sz rfl rfl rfl (sz rfl rfl rfl (sz rfl rfl rfl (sd rfl (yl_pick_t rfl rfl rfl rfl ?_))))))))))
   refine sM rfl (sz rfl rfl rfl (sz rfl rfl rfl (sz rfl rfl rfl (sz rfl rfl rfl (sz rfl rfl rfl (sd rfl (yl_pick_t rfl rfl rfl rfl (dn ?_))))))))
   refine CW.sub (sC 9 (hp272.old 9 _ rfl rfl) (sC 39 rfl (Sub.nil _))) (CW.cond_t rfl rfl (cR (sA rfl (sA rfl (sA rfl (dn ?_))))))
   refine CW.ret (tr (rr rfl (.cons rfl (.cons rfl (.cons rfl .nil))) ?_))
   rw [show (s_l25ReadEntry p_t pn p_key) = ((([] : Str), ([] : Str), false)) by simp only [s_l25ReadEntry, hb24, cL]]
   exact ⟨rfl, (okS.lit rfl), (okS.lit rfl), (Ex.trans (Ex.trans (Ex.trans (Ex.refl w) hE16) hE21) hE275)⟩
theorem c_s_l25Entries {A1 : Option Addr} {c1 : Nat} {A2 : Option Addr} {c2 : Nat} {A5 : Option Addr} {c5 : Nat} {w : World} (p_t : DTable) (pn : Str) (ps : List DWrite) (h1 : RdS w (Iv 0 w.heap.size) (RF e_Str) 1 A1 p_t.Cols.length c1 p_t.Cols) (h2 : RdS w (Iv 0 w.heap.size) (RF e_Idx) 3 A2 p_t.Idxs.length c2 p_t.Idxs) (h5 : RdS w (Iv 0 w.heap.size) (RF e_Write) 3 A5 ps.length c5 ps) (o3 : ok_Table p_t) (o4 : okS pn) (o6 : (okL ok_Write) ps) : Cal Tryz.prog 92 #[.agg #[.string (bs (p_t.Name)), .slice A1 p_t.Cols.length c1, .slice A2 p_t.Idxs.length c2], .string (bs (pn)), .slice A5 ps.length c5] w fun v w' => ∃ A_1 c_1 lo_1 hi_1, v = .slice A_1 ((s_l25Entries p_t pn ps).length) c_1 ∧ OwnL w' lo_1 hi_1 9 1 (RF e_Str) A_1 ((s_l25Entries p_t pn ps).length) c_1 (s_l25Entries p_t pn ps) ∧ (okL okS) (s_l25Entries p_t pn ps) ∧ (w.heap.size ≤ lo_1 ∧ lo_1 ≤ hi_1 ∧ hi_1 ≤ w'.heap.size) ∧ Ex w w' := by
 have hol7 : p_t.Name.length ≤ 1073741824 := o3.1
 have hol8 := o3.2.1.1
 have hol9 := o3.2.2.1
 have hol10 : pn.length ≤ 1073741824 := o4
 have hol11 := o6.1
 refine Cal.of func92 rfl ntmps92 rfl (cR (sd rfl (yl_box rfl rfl rfl ?_)))
 intro b12 w13 hs14 hz15 hB16 hE17
 refine sA rfl (dn (cR (sA rfl (dn (CW.seq ?_)))))
 refine cR (sM rfl (sd rfl (yL un34 rfl rfl (sM rfl (dn (CW.block (CW.loop (fun m84 L85 w86 => ∃ (k18 : Nat) (x80 : List Str) (A81 : Option Addr) (c82 : Nat) (u83 : Nat), m84 = ps.length - k18 ∧ k18 ≤ ps.length ∧ w13.heap.size ≤ w86.heap.size ∧ Sub [(1, .string (bs (pn))), (3, .pointer (some ⟨b12, 0, none⟩)), (7, .slice A81 x80.length c82), (13, .slice A5 ps.length c5), (14, .int .i64 ((ps.length : Int))), (15, .int .i64 ((k18 : Int)))] L85 ∧ Box w86 b12 39 [.string (bs (p_t.Name)), .slice A1 p_t.Cols.length c1, .slice A2 p_t.Idxs.length c2] ∧ RdS w86 (Iv 0 w.heap.size) (RF e_Str) 1 A1 p_t.Cols.length c1 p_t.Cols ∧ RdS w86 (Iv 0 w.heap.size) (RF e_Idx) 3 A2 p_t.Idxs.length c2 p_t.Idxs ∧ OwnL w86 w13.heap.size u83 9 1 (RF e_Str) A81 x80.length c82 x80 ∧ RdS w86 (Iv 0 w.heap.size) (RF e_Write) 3 A5 ps.length c5 ps ∧ Ex w w86 ∧ (w13.heap.size ≤ u83 ∧ u83 ≤ w86.heap.size) ∧ x80.length ≤ 0 + 1 * (k18 - 0) ∧ (∀ y ∈ x80, okS y) ∧ loopM (B_s_l25Entries_0 p_t pn ps) (ps.length - k18) k18 (x80) = loopM (B_s_l25Entries_0 p_t pn ps) (ps.length - 0) 0 (([] : List Str))) (ps.length - 0) ?_ ?_)))))))
 ·exact ⟨0, ([] : List Str), none, 0, w13.heap.size, rfl, oM, Nat.le_refl _, (sR rfl), hB16, (RdS.ex gS h1 hE17), (RdS.ex gI h2 hE17), (OwnL.nil w13 w13.heap.size w13.heap.size 9 1 (RF e_Str)), (RdS.ex gW h5 hE17), (Ex.trans (Ex.refl w) hE17), oM, (by first | (simp; done) | (first | omega | (simp only [lN, toS_length]; omega))), okE.nil, rfl⟩
 ·rintro m91 L92 w93 ⟨k18, x80, A81, c82, u83, rfl, hk94, hsz96, hl97, hf98, hf99, hf100, hf101, hf102, hf103, hu104, hln105, hok106, hI95⟩
  refine CW.sub hl97 ?_
  have hf98z := Box.lt hf98
  have hf103z := Ex.size hf103
  have hbg107 := RdS.big hf102
  rcases Nat.lt_or_ge k18 ps.length with hlt108 | hlt108
  ·refine cR (sd rfl (yl_lss rfl rfl rfl (dn (CW.seq (CW.cond_t rfl (lt_t hlt108) (CW.skip (tn ?_)))))))
   refine CW.seq (CW.block (cR ?_))
   obtain ⟨_, _, _, eA109, _, ebl109, _, eR109, eC109⟩ := RdS.aD hf102 d_Write (i := k18)
   obtain rfl := eR109
   refine sd rfl (yl_ixN un34 ty80 rfl rfl rfl eA109 (sd rfl (yl_loadN ty80 rfl rfl eC109 rfl (sd rfl (yB ty80 (cs := [.string (bs (([] : Str))), .string (bs (([] : Str))), .bool (false)]) rfl rfl ?_)))))
   intro b110 w111 hs112 hz113 hB114 hE115
   refine SeqR.u rfl rfl (yl_storeA (vs := [.string (bs ((ps.getD k18 d_Write).Key)), .string (bs ((ps.getD k18 d_Write).Val)), .bool ((ps.getD k18 d_Write).Gone)]) ty80 rfl rfl rfl rfl rfl rfl hB114 rfl ?_)
   intro w116 hB117 hO118
   have hO118z := hO118.size
   refine dn (cR ?_)
   have q120 := Box.only (Box.ex hf98 hE115) hO118 oM
   refine sd rfl (yl_loadN ty39 rfl rfl (q120.cells (n := 3) rfl) rfl (sM rfl (sd rfl (yl_fieldAddr fd80_0 rfl rfl (sd rfl (yl_load1 ty9 rfl rfl ((hB117.cell 0).trans rfl) ?_))))))
   have q122 := RdS.only gS (RdS.ex gS hf99 hE115) hO118 iV
   have q124 := RdS.only gI (RdS.ex gI hf100 hE115) hO118 iV
   refine sd rfl (yC en140 rfl (oc rfl (oc rfl (oc rfl oz))) (Cal.mono (c_s_l25ReadEntry p_t pn ((ps.getD k18 d_Write).Key) (RdS.up q122 gS) (RdS.up q124 gI) o3 o4 ((okL.getD o6 ok_d_Write _).1)) ?_))
   rintro v128 w125 ⟨rfl, ho126, ho127, hE129⟩
   have hE129z := Ex.size hE129
   refine sM rfl (sd rfl (yl_extract rfl rfl rfl (sd rfl (yl_extract rfl rfl rfl (sd rfl (yl_extract rfl rfl rfl (sA rfl (sA rfl (sA rfl (dn ?_))))))))))
   refine cR (sM rfl (dn (bcase ((s_l25ReadEntry p_t pn ((ps.getD k18 d_Write).Key)).2.2) (fun hb130 => ?_) (fun hb130 => ?_))))
   ·refine CW.cond_t rfl hb130 (CW.region (sM rfl (sd rfl (yl_fieldAddr fd80_0 rfl rfl (sd rfl (yl_load1 ty9 rfl rfl (((Box.ex hB117 hE129).cell 0).trans rfl) (sd rfl (yl_buildSlice (cs := [.string (bs ((ps.getD k18 d_Write).Key))]) un22 ty9 (by decide) rfl (oc rfl oz) (by kernel_rfl) ?_))))))))
    intro b132 w133 hs134 hz135 hB136 hE137
    have hO138 : OwnL w133 b132 (b132 + 1) 9 1 (RF e_Str) (some ⟨b132, 0, none⟩) 1 1 ([(ps.getD k18 d_Write).Key] : List Str) := OwnL.of_box (S := fun _ => False) hB136 (Nat.le_refl _) (Nat.lt_succ_self _) (EncL.cons (c := [.string (bs ((ps.getD k18 d_Write).Key))]) rfl rfl EncL.nil) (nb rfl) (fun h => h) (fun _ h => False.elim h)
    refine sd rfl (yl_appendL (S := (fun _ => False)) (lo := w13.heap.size) (hi := u83) (xs := x80) (ys := ([(ps.getD k18 d_Write).Key] : List Str)) gS un22 ty9 rfl (nb rfl) rfl rfl rfl (OwnL.ex gS (OwnL.ex gS (OwnL.only gS (OwnL.ex gS hf101 hE115) hO118 oM) hE129) hE137) (EncL.cons (c := [.string (bs ((ps.getD k18 d_Write).Key))]) rfl rfl EncL.nil) (Or.inr ⟨_, _, rfl, rfl, hB136.cells (o := 0) (n := 1) rfl⟩) rfl Bl Bl oM oM (fun _ h _ => False.elim h) oM ?_)
    intro A143 c144 w145 row146 hO147 hG148 hrg149
    have hG148z := hG148.size
    refine sA rfl (SeqR.done (bn (tn (CW.region (sd rfl (yl_inc rfl rfl rfl oM (sM rfl (dn ?_))))))))
    have hB150 : B_s_l25Entries_0 p_t pn ps k18 (x80) = .cont ((x80 ++ ([(ps.getD k18 d_Write).Key] : List Str))) := by simp only [B_s_l25Entries_0, hb130, cL]
    exact ⟨ps.length - (k18 + 1), oM, k18 + 1, (x80 ++ ([(ps.getD k18 d_Write).Key] : List Str)), A143, c144, w145.heap.size, rfl, hlt108, oM, (sR rfl), (Box.grown (Box.ex (Box.ex q120 hE129) hE137) hG148 (hW hrg149)), (RdS.grown gS (RdS.ex gS (RdS.ex gS q122 hE129) hE137) hG148 (hV hrg149)), (RdS.grown gI (RdS.ex gI (RdS.ex gI q124 hE129) hE137) hG148 (hV hrg149)), hO147, (RdS.grown gW (RdS.ex gW (RdS.ex gW (RdS.only gW (RdS.ex gW hf102 hE115) hO118 iV) hE129) hE137) hG148 (hV hrg149)), (Below.grown (Ex.trans (Ex.trans (Below.only (Ex.trans hf103 hE115) hO118 oM) hE129) hE137) hG148 oM (hW hrg149)), oM, Bl, (okE.append hok106 ((okL.mk (nb rfl) (okE.cons (okL.getD o6 ok_d_Write _).1 okE.nil))).2), (loopM.cont hlt108 hB150).symm.trans hI95⟩
   ·refine CW.cond_f rfl hb130 (CW.skip (bn (tn (CW.region (sd rfl (yl_inc rfl rfl rfl oM (sM rfl (dn ?_))))))))
    have hB170 : B_s_l25Entries_0 p_t pn ps k18 (x80) = .cont (x80) := by simp only [B_s_l25Entries_0, hb130, cL]
    exact ⟨ps.length - (k18 + 1), oM, k18 + 1, x80, A81, c82, u83, rfl, hlt108, oM, (sR rfl), (Box.ex q120 hE129), (RdS.ex gS q122 hE129), (RdS.ex gI q124 hE129), (OwnL.ex gS (OwnL.only gS (OwnL.ex gS hf101 hE115) hO118 oM) hE129), (RdS.ex gW (RdS.only gW (RdS.ex gW hf102 hE115) hO118 iV) hE129), (Ex.trans (Below.only (Ex.trans hf103 hE115) hO118 oM) hE129), oM, Bl, hok106, (loopM.cont hlt108 hB170).symm.trans hI95⟩
  ·refine cR (sd rfl (yl_lss rfl rfl rfl (dn (CW.seq (CW.cond_f rfl (lt_f hlt108) (CW.exit (tx ?_)))))))
   refine tx ?_
   have hL183 : loopM (B_s_l25Entries_0 p_t pn ps) (ps.length - 0) 0 (([] : List Str)) = .done (x80) := hI95.symm.trans (loopM.stop hlt108)
   refine bx (tn (cR (sM rfl (sA rfl (dn (CW.ret ?_))))))
   refine rr rfl (.cons rfl .nil) ?_
   rw [show (s_l25Entries p_t pn ps) = (x80) by simp only [s_l25Entries, hL183, cL]]
   exact ⟨A81, c82, w13.heap.size, u83, rfl, hf101, (okL.mk (xs := x80) Bl hok106), oM, hf103⟩
theorem c_s_l29Left {A1 : Option Addr} {c1 : Nat} {w : World} (p_keys : List Str) (p_last : Str) (h1 : RdS w (Iv 0 w.heap.size) (RF e_Str) 1 A1 p_keys.length c1 p_keys) (o2 : (okL okS) p_keys) (o3 : okS p_last) : Cal Tryz.prog 93 #[.slice A1 p_keys.length c1, .string (bs (p_last))] w fun v w' => v = .bool ((s_l29Left p_keys p_last)) ∧ Ex w w' := by
 have hol4 := o2.1
 have hol5 : p_last.length ≤ 1073741824 := o3
 refine Cal.of func93 rfl ntmps93 rfl (cR (sA rfl (dn (CW.seq (cR ?_)))))
 refine sM rfl (sd rfl (yL un22 rfl rfl (sM rfl (dn (CW.block (CW.loop (fun m7 L8 w9 => ∃ (k6 : Nat), m7 = p_keys.length - k6 ∧ k6 ≤ p_keys.length ∧ w.heap.size ≤ w9.heap.size ∧ Sub [(1, .string (bs (p_last))), (7, .slice A1 p_keys.length c1), (8, .int .i64 ((p_keys.length : Int))), (9, .int .i64 ((k6 : Int)))] L8 ∧ RdS w9 (Iv 0 w.heap.size) (RF e_Str) 1 A1 p_keys.length c1 p_keys ∧ Ex w w9 ∧ loopM (B_s_l29Left_0 p_keys p_last) (p_keys.length - k6) k6 () = loopM (B_s_l29Left_0 p_keys p_last) (p_keys.length - 0) 0 ()) (p_keys.length - 0) ?_ ?_))))))
 ·exact ⟨0, rfl, oM, Nat.le_refl _, (sR rfl), h1, (Ex.refl w), rfl⟩
 ·rintro m10 L11 w12 ⟨k6, rfl, hk13, hsz15, hl16, hf17, hf18, hI14⟩
  refine CW.sub hl16 ?_
  have hf18z := Ex.size hf18
  have hbg19 := RdS.big hf17
  rcases Nat.lt_or_ge k6 p_keys.length with hlt20 | hlt20
  ·refine cR (sd rfl (yl_lss rfl rfl rfl (dn (CW.seq (CW.cond_t rfl (lt_t hlt20) (CW.skip (tn ?_)))))))
   refine CW.seq (CW.block (cR ?_))
   obtain ⟨_, _, _, eA21, _, ebl21, _, eR21, eC21⟩ := RdS.aD hf17 d_Str (i := k6)
   obtain rfl := eR21
   refine sd rfl (yl_ixN un22 ty9 rfl rfl rfl eA21 (sd rfl (yl_load1 ty9 rfl rfl (eC21 0 _ rfl) (sA rfl (dn (cR (sM rfl (sM rfl ?_))))))))
   refine sd rfl (yl_sgtr (a := (p_keys.getD k6 d_Str)) (b := p_last) rfl rfl rfl (dn (bcase (sLe (p_keys.getD k6 d_Str) p_last) (fun hb22 => ?_) (fun hb22 => ?_))))
   ·refine CW.cond_f rfl (not_t hb22) (CW.skip (bn (tn (CW.region (sd rfl (yl_inc rfl rfl rfl oM (sM rfl (dn ?_))))))))
    have hB23 : B_s_l29Left_0 p_keys p_last k6 () = .cont () := by simp only [B_s_l29Left_0, hb22, cL]
    exact ⟨p_keys.length - (k6 + 1), oM, k6 + 1, rfl, hlt20, oM, (sR rfl), hf17, hf18, (loopM.cont hlt20 hB23).symm.trans hI14⟩
   ·refine CW.cond_t rfl (not_f hb22) (cR (sA rfl (dn (CW.ret (br (tr ?_))))))
    refine tr ?_
    have hB25 : B_s_l29Left_0 p_keys p_last k6 () = .ret true := by simp only [B_s_l29Left_0, hb22, cL]
    have hL24 : loopM (B_s_l29Left_0 p_keys p_last) (p_keys.length - 0) 0 () = .ret true := hI14.symm.trans (loopM.ret hlt20 hB25)
    refine br (tr (rr rfl (.cons rfl .nil) ?_))
    rw [show (s_l29Left p_keys p_last) = (true) by simp only [s_l29Left, hb22, hL24, cL]]
    exact ⟨rfl, hf18⟩
  ·refine cR (sd rfl (yl_lss rfl rfl rfl (dn (CW.seq (CW.cond_f rfl (lt_f hlt20) (CW.exit (tx ?_)))))))
   refine tx ?_
   have hL27 : loopM (B_s_l29Left_0 p_keys p_last) (p_keys.length - 0) 0 () = .done () := hI14.symm.trans (loopM.stop hlt20)
   refine bx (tn (cR (sA rfl (dn (CW.ret (rr rfl (.cons rfl .nil) ?_))))))
   rw [show (s_l29Left p_keys p_last) = (false) by simp only [s_l29Left, hL27, cL]]
   exact ⟨rfl, hf18⟩
theorem c_s_l29Clear {A1 : Option Addr} {c1 : Nat} {A2 : Option Addr} {c2 : Nat} {A5 : Option Addr} {c5 : Nat} {w : World} (p_t : DTable) (pn : Str) (ps : List DWrite) (p_f : DFill) (p_many : Int) (h1 : RdS w (Iv 0 w.heap.size) (RF e_Str) 1 A1 p_t.Cols.length c1 p_t.Cols) (h2 : RdS w (Iv 0 w.heap.size) (RF e_Idx) 3 A2 p_t.Idxs.length c2 p_t.Idxs) (h5 : RdS w (Iv 0 w.heap.size) (RF e_Write) 3 A5 ps.length c5 ps) (o3 : ok_Table p_t) (o4 : okS pn) (o6 : (okL ok_Write) ps) (o7 : ok_Fill p_f) (pre0 : s_l25Asked p_t pn ps = true) : Cal Tryz.prog 59 #[.agg #[.string (bs (p_t.Name)), .slice A1 p_t.Cols.length c1, .slice A2 p_t.Idxs.length c2], .string (bs (pn)), .slice A5 ps.length c5, .agg #[.string (bs (p_f.Last)), .bool (p_f.Over)], .int .i64 (p_many)] w fun v w' => ∃ A_1 c_1 lo_1 hi_1, v = .tuple #[.slice A_1 (((s_l29Clear p_t pn ps p_f p_many).1).length) c_1, .agg #[.string (bs ((s_l29Clear p_t pn ps p_f p_many).2.Last)), .bool ((s_l29Clear p_t pn ps p_f p_many).2.Over)]] ∧ OwnL w' lo_1 hi_1 80 3 (RF e_Write) A_1 (((s_l29Clear p_t pn ps p_f p_many).1).length) c_1 ((s_l29Clear p_t pn ps p_f p_many).1) ∧ (okL ok_Write) ((s_l29Clear p_t pn ps p_f p_many).1) ∧ ok_Fill ((s_l29Clear p_t pn ps p_f p_many).2) ∧ (w.heap.size ≤ lo_1 ∧ lo_1 ≤ hi_1 ∧ hi_1 ≤ w'.heap.size) ∧ Ex w w' := by
 have hol8 : p_t.Name.length ≤ 1073741824 := o3.1
 have hol9 := o3.2.1.1
 have hol10 := o3.2.2.1
 have hol11 : pn.length ≤ 1073741824 := o4
 have hol12 := o6.1
 have hol13 : p_f.Last.length ≤ 1073741824 := o7
 have hst := asked_len pre0
 have hel := entries_le p_t pn ps
 refine Cal.of func59 rfl ntmps59 rfl (cR (sd rfl (yl_box rfl rfl rfl ?_)))
 intro b14 w15 hs16 hz17 hB18 hE19
 refine sd rfl (yl_box rfl rfl rfl ?_)
 intro b20 w21 hs22 hz23 hB24 hE25
 refine sA rfl (sd rfl (yB ty56 (cs := [.string (bs (([] : Str))), .bool (false)]) rfl rfl ?_))
 intro b26 w27 hs28 hz29 hB30 hE31
 refine dn (cR (sd rfl (yl_buildSlice (cs := []) un34 ty80 (by decide) rfl opvs_nil (by kernel_rfl) ?_)))
 intro b32 w33 hs34 hz35 hB36 hE37
 have hO38 : OwnL w33 b32 (b32 + 1) 80 3 (RF e_Write) (some ⟨b32, 0, none⟩) 0 0 ([] : List DWrite) := oB hB36
 refine sM rfl ?_
 have q42 := RdS.ex gW (RdS.ex gW (RdS.ex gW (RdS.ex gW h5 hE19) hE25) hE31) hE37
 obtain ⟨nw43, he44, hs45⟩ := RdS.src q42
 have hol46 : ps.length ≤ 2147483648 := o6.1
 refine sd rfl (yl_appendP (S := fun _ => False) (lo := b32) (hi := (b32 + 1)) (xs := ([] : List DWrite)) (ys := ps) un34 ty80 rfl (nb rfl) (fun _ => rfl) rfl rfl rfl hO38 he44 hs45 rfl Bl Bl oM oM oM ?_)
 intro A47 c48 w49 row50 lp51 hp52 hO53 hG54 hrg55 hdj56
 have hG54z := hG54.size
 refine sA rfl (dn (CW.seq (cR ?_)))
 have q60 := Box.grown (Box.ex (Box.ex (Box.ex hB18 hE25) hE31) hE37) hG54 (hW hrg55)
 refine sd rfl (yl_loadN ty39 rfl rfl (q60.cells (n := 3) rfl) rfl (sM rfl (sM rfl ?_)))
 have q65 := RdS.grown gS (RdS.ex gS (RdS.ex gS (RdS.ex gS (RdS.ex gS h1 hE19) hE25) hE31) hE37) hG54 (hV hrg55)
 have q70 := RdS.grown gI (RdS.ex gI (RdS.ex gI (RdS.ex gI (RdS.ex gI h2 hE19) hE25) hE31) hE37) hG54 (hV hrg55)
 refine sd rfl (yC en92 rfl (oc rfl (oc rfl (oc rfl oz))) (Cal.mono (c_s_l25Entries p_t pn ps (RdS.up q65 gS) (RdS.up q70 gI) (RdS.up (RdS.grown gW q42 hG54 (hV hrg55)) gW) o3 o4 o6) ?_))
 rintro v75 w72 ⟨A73, c73, lo73, hi73, rfl, h73, ho74, hrn77, hE76⟩
 have hE76z := Ex.size hE76
 refine sd rfl (yL un22 rfl rfl (sM rfl (dn (CW.block (CW.loop (fun m136 L137 w138 => ∃ (k78 : Nat) (x129 : Int) (x130 : List DWrite) (x135 : Str) (A131 : Option Addr) (c132 : Nat) (u133 : Nat) (lo134 : Nat), m136 = (s_l25Entries p_t pn ps).length - k78 ∧ k78 ≤ (s_l25Entries p_t pn ps).length ∧ w72.heap.size ≤ w138.heap.size ∧ Sub [(1, .string (bs (pn))), (4, .int .i64 (x129)), (5, .pointer (some ⟨b14, 0, none⟩)), (8, .pointer (some ⟨b20, 0, none⟩)), (11, .pointer (some ⟨b26, 0, none⟩)), (12, .slice A131 x130.length c132), (21, .slice A73 ((s_l25Entries p_t pn ps).length) c73), (22, .int .i64 (((s_l25Entries p_t pn ps).length : Int))), (23, .int .i64 ((k78 : Int)))] L137 ∧ Box w138 b14 39 [.string (bs (p_t.Name)), .slice A1 p_t.Cols.length c1, .slice A2 p_t.Idxs.length c2] ∧ RdS w138 (Iv 0 w.heap.size) (RF e_Str) 1 A1 p_t.Cols.length c1 p_t.Cols ∧ RdS w138 (Iv 0 w.heap.size) (RF e_Idx) 3 A2 p_t.Idxs.length c2 p_t.Idxs ∧ Box w138 b20 56 [.string (bs (x135)), .bool (p_f.Over)] ∧ Box w138 b26 56 [.string (bs (([] : Str))), .bool (false)] ∧ OwnL w138 lo134 u133 80 3 (RF e_Write) A131 x130.length c132 x130 ∧ OwnL w138 lo73 hi73 9 1 (RF e_Str) A73 ((s_l25Entries p_t pn ps).length) c73 (s_l25Entries p_t pn ps) ∧ Ex w w138 ∧ (lp51 ≤ lo134 ∧ lo134 ≤ u133 ∧ u133 ≤ w138.heap.size ∧ (b14 < lo134 ∨ u133 ≤ b14) ∧ (b20 < lo134 ∨ u133 ≤ b20) ∧ (b26 < lo134 ∨ u133 ≤ b26) ∧ (hi73 ≤ lo134 ∨ u133 ≤ lo73)) ∧ x130.length ≤ 0 + ps.length + 24 * (k78 - 0) ∧ (∀ y ∈ x130, ok_Write y) ∧ okS x135 ∧ loopM (B_s_l29Clear_0 p_t pn ps p_f p_many) ((s_l25Entries p_t pn ps).length - k78) k78 (x129, x130, x135) = loopM (B_s_l29Clear_0 p_t pn ps p_f p_many) ((s_l25Entries p_t pn ps).length - 0) 0 (p_many, (([] : List DWrite) ++ ps), p_f.Last)) ((s_l25Entries p_t pn ps).length - 0) ?_ ?_)))))
 ·exact ⟨0, p_many, (([] : List DWrite) ++ ps), p_f.Last, A47, c48, hp52, lp51, rfl, oM, Nat.le_refl _, (sR rfl), (Box.ex q60 hE76), (RdS.ex gS q65 hE76), (RdS.ex gI q70 hE76), (Box.ex (Box.grown (Box.ex (Box.ex hB24 hE31) hE37) hG54 (hW hrg55)) hE76), (Box.ex (Box.grown (Box.ex hB30 hE37) hG54 (hW hrg55)) hE76), (OwnL.ex gW hO53 hE76), h73, (Ex.trans (Below.grown (Ex.trans (Ex.trans (Ex.trans (Ex.trans (Ex.refl w) hE19) hE25) hE31) hE37) hG54 oM (hW hrg55)) hE76), oM, (by first | (simp; done) | (first | omega | (simp only [lN, toS_length]; omega))), (okE.append okE.nil (o6).2), o7, rfl⟩
 ·rintro m156 L157 w158 ⟨k78, x129, x130, x135, A131, c132, u133, lo134, rfl, hk159, hsz161, hl162, hf163, hf164, hf165, hf166, hf167, hf168, hf169, hf170, hu171, hln172, hok173, hok174, hI160⟩
  refine CW.sub hl162 ?_
  have hf163z := Box.lt hf163
  have hf166z := Box.lt hf166
  have hf167z := Box.lt hf167
  have hf170z := Ex.size hf170
  have hbg175 := RdS.big (OwnL.rd gS hf169)
  rcases Nat.lt_or_ge k78 ((s_l25Entries p_t pn ps).length) with hlt177 | hlt177
  ·refine cR (sd rfl (yl_lss rfl rfl rfl (dn (CW.seq (CW.cond_t rfl (lt_t hlt177) (CW.skip (tn ?_)))))))
   refine CW.seq (CW.block (cR ?_))
   obtain ⟨_, _, _, eA179, _, ebl179, _, eR179, eC179⟩ := RdS.aD (OwnL.rd gS hf169) d_Str (i := k78)
   obtain rfl := eR179
   refine sd rfl (yl_ixN un22 ty9 rfl rfl rfl eA179 (sd rfl (yl_load1 ty9 rfl rfl (eC179 0 _ rfl) (sA rfl (dn (CW.seq (cR (sM rfl ?_))))))))
   refine sd rfl (yl_eql rfl rfl rfl (sM rfl (bcD (q := x129 = 0) (fun hb180 hb180p => ?_) (fun hb180 hb180p => ?_))))
   ·refine sz rfl rfl hb180 (sz rfl rfl hb180 (sz rfl rfl hb180 (sz rfl rfl hb180 (sd rfl (yl_pick_t rfl rfl hb180 rfl (dn (CW.cond_t rfl rfl (CW.exit ?_))))))))
    refine tx (bx (tn (CW.region (sd rfl (yl_inc rfl rfl rfl oM (sM rfl (dn ?_)))))))
    have hB181 : B_s_l29Clear_0 p_t pn ps p_f p_many k78 (x129, x130, x135) = .cont (x129, x130, x135) := by simp only [B_s_l29Clear_0, hb180, cL]
    exact ⟨(s_l25Entries p_t pn ps).length - (k78 + 1), oM, k78 + 1, x129, x130, x135, A131, c132, u133, lo134, rfl, hlt177, oM, (sR rfl), hf163, hf164, hf165, hf166, hf167, hf168, hf169, hf170, oM, Bl, hok173, hok174, (loopM.cont hlt177 hB181).symm.trans hI160⟩
   ·refine sy rfl rfl hb180 (yM rfl rfl (sy rfl rfl hb180 (yl_fieldAddr fd56_0 rfl rfl (sy rfl rfl hb180 (yl_load1 ty9 rfl rfl ((hf166.cell 0).trans rfl) (sy rfl rfl hb180 (yl_sleq (a := ((s_l25Entries p_t pn ps).getD k78 d_Str)) (b := x135) rfl rfl rfl (sd rfl (yl_pick_f rfl rfl hb180 rfl (dn (bcase (sLe ((s_l25Entries p_t pn ps).getD k78 d_Str) x135) (fun hb182 => ?_) (fun hb182 => ?_))))))))))))
    ·refine CW.cond_t rfl hb182 (CW.exit (tx (bx (tn (CW.region (sd rfl (yl_inc rfl rfl rfl oM (sM rfl (SeqR.done ?_)))))))))
     refine tn ?_
     have hB183 : B_s_l29Clear_0 p_t pn ps p_f p_many k78 (x129, x130, x135) = .cont (x129, x130, x135) := by simp only [B_s_l29Clear_0, hb180, hb182, cL]
     exact ⟨(s_l25Entries p_t pn ps).length - (k78 + 1), oM, k78 + 1, x129, x130, x135, A131, c132, u133, lo134, rfl, hlt177, oM, (sR rfl), hf163, hf164, hf165, hf166, hf167, hf168, hf169, hf170, oM, Bl, hok173, hok174, (loopM.cont hlt177 hB183).symm.trans hI160⟩
    ·refine CW.cond_f rfl hb182 (CW.skip (tn (cR (sM rfl (sM rfl (sd rfl (yl_build (cs := [.int .i64 (3), .string (bs (((s_l25Entries p_t pn ps).getD k78 d_Str))), .string (bs (([] : Str))), .int .i64 (0)]) rfl (oc rfl (oc rfl oz)) (by kernel_rfl) (sd rfl (yl_buildSlice (cs := [.int .i64 (3), .string (bs (((s_l25Entries p_t pn ps).getD k78 d_Str))), .string (bs (([] : Str))), .int .i64 (0)]) un77 ty122 (by decide) rfl (oc rfl oz) (by kernel_rfl) ?_)))))))))
     intro b184 w185 hs186 hz187 hB188 hE189
     have hO190 : OwnL w185 b184 (b184 + 1) 122 4 (RF e_Op) (some ⟨b184, 0, none⟩) 1 1 ([(⟨3, ((s_l25Entries p_t pn ps).getD k78 d_Str), ([] : Str), 0⟩ : DOp)] : List DOp) := OwnL.of_box (S := fun _ => False) hB188 (Nat.le_refl _) (Nat.lt_succ_self _) (EncL.cons (c := [.int .i64 (3), .string (bs (((s_l25Entries p_t pn ps).getD k78 d_Str))), .string (bs (([] : Str))), .int .i64 (0)]) rfl rfl EncL.nil) (nb rfl) (fun h => h) (fun _ h => False.elim h)
     have hle193 := OwnL.len hO190
     refine sd rfl (yC en41 rfl (oc rfl (oc rfl oz)) (Cal.mono (Cal.args (by rw [← hle193] <;> rfl) (c_s_l26Do x130 ([(⟨3, ((s_l25Entries p_t pn ps).getD k78 d_Str), ([] : Str), 0⟩ : DOp)] : List DOp) (RdS.up (OwnL.rd gW (OwnL.ex gW hf168 hE189)) gW) (RdS.fix (RdS.up (OwnL.rd good_Op hO190) good_Op)) (okL.mk (xs := x130) Bl hok173) (okL.mk (nb rfl) (okE.cons ⟨(okL.getD ho74 ok_d_Str _), (okS.lit rfl)⟩ okE.nil)) (nb rfl) (noadd_drop _))) ?_))
     rintro v198 w195 ⟨A196, c196, lo196, hi196, rfl, h196, ho197, hrn200, hE199⟩
     have hE199z := Ex.size hE199
     have hrf201 := l26Do_len x130 ([(⟨3, ((s_l25Entries p_t pn ps).getD k78 d_Str), ([] : Str), 0⟩ : DOp)] : List DOp)
     refine sM rfl (sd rfl (yl_extract rfl rfl rfl (sd rfl (yl_extract rfl rfl rfl (sA rfl (dn (cR (sM rfl ?_))))))))
     refine sd rfl (yl_fieldAddr fd56_0 rfl rfl (SeqR.u rfl rfl (yl_store (vs := [.string (bs (((s_l25Entries p_t pn ps).getD k78 d_Str)))]) ty9 rfl rfl rfl rfl rfl rfl (Box.ex (Box.ex hf166 hE189) hE199) (nb rfl) ?_)))
     intro w204 hB205 hO206
     have hB205 : Box w204 b20 56 [.string (bs (((s_l25Entries p_t pn ps).getD k78 d_Str))), .bool (p_f.Over)] := hB205
     have hO206z := hO206.size
     refine dn (CW.region (sM rfl (sd rfl (yl_sub rfl rfl rfl (sA rfl (SeqR.done (bn (tn ?_))))))))
     refine CW.region (sd rfl (yl_inc rfl rfl rfl oM (sM rfl (dn ?_))))
     have hB207 : B_s_l29Clear_0 p_t pn ps p_f p_many k78 (x129, x130, x135) = .cont (IntKind.wrap .i64 (x129 - 1), (s_l26Do x130 ([(⟨3, ((s_l25Entries p_t pn ps).getD k78 d_Str), ([] : Str), 0⟩ : DOp)] : List DOp)).1, ((s_l25Entries p_t pn ps).getD k78 d_Str)) := by simp only [B_s_l29Clear_0, hb180, hb182, cL]
     exact ⟨(s_l25Entries p_t pn ps).length - (k78 + 1), oM, k78 + 1, IntKind.wrap .i64 (x129 - 1), (s_l26Do x130 ([(⟨3, ((s_l25Entries p_t pn ps).getD k78 d_Str), ([] : Str), 0⟩ : DOp)] : List DOp)).1, ((s_l25Entries p_t pn ps).getD k78 d_Str), A196, c196, hi196, lo196, rfl, hlt177, oM, (sR rfl), (Box.only (Box.ex (Box.ex hf163 hE189) hE199) hO206 oM), (RdS.only gS (RdS.ex gS (RdS.ex gS hf164 hE189) hE199) hO206 iV), (RdS.only gI (RdS.ex gI (RdS.ex gI hf165 hE189) hE199) hO206 iV), hB205, (Box.only (Box.ex (Box.ex hf167 hE189) hE199) hO206 oM), (OwnL.only gW h196 hO206 oM), (OwnL.only gS (OwnL.ex gS (OwnL.ex gS hf169 hE189) hE199) hO206 oM), (Below.only (Ex.trans (Ex.trans hf170 hE189) hE199) hO206 oM), oM, Bl, (ho197).2, (okL.getD ho74 ok_d_Str _), (loopM.cont hlt177 hB207).symm.trans hI160⟩
  ·refine cR (sd rfl (yl_lss rfl rfl rfl (dn (CW.seq (CW.cond_f rfl (lt_f hlt177) (CW.exit (tx ?_)))))))
   refine tx ?_
   have hL227 : loopM (B_s_l29Clear_0 p_t pn ps p_f p_many) ((s_l25Entries p_t pn ps).length - 0) 0 (p_many, (([] : List DWrite) ++ ps), p_f.Last) = .done (x129, x130, x135) := hI160.symm.trans (loopM.stop hlt177)
   refine bx (tn (CW.seq (bcase (p_f.Over) (fun hb228 => ?_) (fun hb228 => ?_))))
   ·refine drJ 9 [.pointer (some ⟨b20, 0 + 1, none⟩), .bool (p_f.Over), .bool (p_f.Over), undef, undef, undef, undef, undef, undef] Tryz.follows rfl ⟨oI rfl fun h => yl_fieldAddr fd56_1 rfl (h.g 8 rfl) kI, oI rfl fun h => yl_load1 ty4 rfl (h.g 48 rfl) (((Box.ex hf166 h.ex).cell 1).trans rfl) kI, oI rfl fun h => yM rfl (h.g 49 rfl) kI, oS rfl rfl rfl rfl rfl hb228, oS rfl rfl rfl rfl rfl hb228, oS rfl rfl rfl rfl rfl hb228, oS rfl rfl rfl rfl rfl hb228, oS rfl rfl rfl rfl rfl hb228, oS rfl rfl rfl rfl rfl hb228, trivial⟩ ?_
    ·intro fl278 fh279 L275 w276 hp277
     have hE280 := hp277.ex
     have hE280z := Ex.size hE280
     have hx281 := hp277.old 8 _ rfl rfl
     have hx284 := hp277.nt 2 50 rfl rfl rfl
     refine sz rfl hx284 hb228 (sz rfl hx284 hb228 (sd rfl (yl_pick_t rfl hx284 hb228 rfl (sd rfl (yl_fieldAddr fd56_1 rfl hx281 (SeqR.u rfl rfl (yl_store (vs := [.bool (true)]) ty4 rfl rfl rfl rfl rfl rfl (Box.ex hf166 hE280) (nb rfl) ?_)))))))
     intro w288 hB289 hO290
     have hB289 : Box w288 b20 56 [.string (bs (x135)), .bool (true)] := hB289
     have hO290z := hO290.size
     refine dn (CW.sub (sC 8 hx281 (sC 11 (hp277.old 11 _ rfl rfl) (sC 12 (hp277.old 12 _ rfl rfl) (Sub.nil _)))) (CW.seq (drJ 3 [.slice A131 x130.length c132, .agg #[.string (bs (x135)), .bool (true)], .slice A131 x130.length c132] Tryz.follows rfl ⟨?_, ?_, ?_, trivial⟩ ?_)))
     ·exact oI rfl fun h => yM rfl (h.g 12 rfl) kI
     ·exact oI rfl fun h => yl_loadN ty56 rfl (h.g 8 rfl) ((Box.ex hB289 h.ex).cells (n := 2) rfl) rfl kI
     ·exact oI rfl fun h => yA rfl (h.g 61 rfl) kI
     ·intro fl310 fh311 L307 w308 hp309
      have hE312 := hp309.ex
      have hE312z := Ex.size hE312
      have hx313 := hp309.old 11 _ rfl rfl
      refine SeqR.u rfl rfl (yl_storeA (vs := [.string (bs (x135)), .bool (true)]) ty56 rfl hx313 (hp309.nt 1 62 rfl rfl rfl) rfl rfl rfl (Box.ex (Box.only (Box.ex hf167 hE280) hO290 oM) hE312) rfl ?_)
      intro w319 hB320 hO321
      have hO321z := hO321.size
      refine dn (CW.sub (sC 10 (hp309.nt 2 10 rfl rfl rfl) (sC 11 hx313 (Sub.nil _))) (CW.ret (rr rfl (.cons rfl (.cons ⟨_, rfl, run_loadN ty56 (cs := [.string (bs (x135)), .bool (true)]) rfl (hB320.cells (n := 2) rfl)⟩ .nil)) ?_)))
      rw [show (s_l29Clear p_t pn ps p_f p_many) = ((x130, (⟨x135, true⟩ : DFill))) by simp only [s_l29Clear, hb228, hL227, cL]]
      exact ⟨A131, c132, lo134, u133, rfl, (OwnL.only gW (OwnL.ex gW (OwnL.only gW (OwnL.ex gW hf168 hE280) hO290 oM) hE312) hO321 oM), (okL.mk (xs := x130) Bl hok173), hok174, oM, (Below.only (Ex.trans (Below.only (Ex.trans hf170 hE280) hO290 oM) hE312) hO321 oM)⟩
   ·refine CW.drawsI 9 (vgetI [DetI (.pointer (some ⟨b20, 0 + 1, none⟩)), DetI (.bool (p_f.Over)), DetI (.bool (p_f.Over)), DetI (.agg #[.string (bs (p_t.Name)), .slice A1 p_t.Cols.length c1, .slice A2 p_t.Idxs.length c2]), DetI (.string (bs (pn))), DetI (.slice A131 x130.length c132), fun lo hi v wq => ∃ A333 c333 lo333 hi333, v = .slice A333 ((s_l25Entries p_t pn x130).length) c333 ∧ OwnL wq lo333 hi333 9 1 (RF e_Str) A333 ((s_l25Entries p_t pn x130).length) c333 (s_l25Entries p_t pn x130) ∧ (okL okS) (s_l25Entries p_t pn x130) ∧ (lo ≤ lo333 ∧ lo333 ≤ hi333 ∧ hi333 ≤ hi), DetI (.pointer (some ⟨b20, 0 + 0, none⟩)), DetI (.string (bs (x135)))]) Tryz.follows rfl rfl rfl rfl rfl rfl (vgetI_stable ⟨StableI.det _, StableI.det _, StableI.det _, StableI.det _, StableI.det _, StableI.det _, (fun _ _ _ _ _ ⟨A333, c333, lo333, hi333, hv, h333, ho334, hr0⟩ e => ⟨A333, c333, lo333, hi333, hv, OwnL.ex gS h333 e, ho334, hr0⟩), StableI.det _, StableI.det _, trivial⟩) ⟨?_, ?_, ?_, ?_, ?_, ?_, ?_, ?_, ?_, trivial⟩ ?_
    ·exact oI rfl fun h => yl_fieldAddr fd56_1 rfl (h.old 8 _ rfl rfl) kI
    ·exact oI rfl fun h => yl_load1 ty4 rfl (h.dt 0 48 rfl rfl rfl) (((Box.ex hf166 h.ex).cell 1).trans rfl) kI
    ·exact oI rfl fun h => yM rfl (h.dt 1 49 rfl rfl rfl) kI
    ·exact oW rfl rfl rfl rfl hb228 fun h => yl_loadN ty39 rfl (h.old 5 _ rfl rfl) ((Box.ex hf163 h.ex).cells (n := 3) rfl) rfl kI
    ·exact oW rfl rfl rfl rfl hb228 fun h => yM rfl (h.old 1 _ rfl rfl) kI
    ·exact oW rfl rfl rfl rfl hb228 fun h => yM rfl (h.old 12 _ rfl rfl) kI
    ·intro L370 w371 hi372
     have hE373 := hi372.ex
     have hE373z := Ex.size hE373
     refine OpR.want rfl rfl (hi372.dt 2 50 rfl rfl rfl) hb228 (yC en92 rfl (oc (hi372.dt 3 51 rfl rfl rfl) (oc (hi372.dt 4 52 rfl rfl rfl) (oc (hi372.dt 5 53 rfl rfl rfl) oz))) (Cal.mono (c_s_l25Entries p_t pn x130 (RdS.up (RdS.ex gS hf164 hE373) gS) (RdS.up (RdS.ex gI hf165 hE373) gI) (RdS.up (OwnL.rd gW (OwnL.ex gW hf168 hE373)) gW) o3 o4 (okL.mk (xs := x130) Bl hok173)) ?_))
     rintro v385 w382 ⟨A383, c383, lo383, hi383, rfl, h383, ho384, hrn387, hE386⟩
     exact ⟨⟨A383, c383, lo383, hi383, rfl, h383, ho384, hrn387⟩, hE386⟩
    ·exact oW rfl rfl rfl rfl hb228 fun h => yl_fieldAddr fd56_0 rfl (h.old 8 _ rfl rfl) kI
    ·exact oW rfl rfl rfl rfl hb228 fun h => yl_load1 ty9 rfl (h.dt 7 55 rfl rfl rfl) (((Box.ex hf166 h.ex).cell 0).trans rfl) kI
    ·intro fl404 fh405 L401 w402 hp403
     have hE406 := hp403.ex
     have hE406z := Ex.size hE406
     have hx407 := hp403.old 8 _ rfl rfl
     have hx410 := hp403.nt 2 50 rfl rfl rfl
     have hr412 := hp403.rng 6 rfl
     obtain ⟨_, hx411, A333_413, c333_414, lo333_415, hi333_416, rfl, h417, h418, hrn419⟩ := hp403.new 6 54 rfl rfl
     refine sy rfl hx410 hb228 (yC en93 rfl (oc hx411 (oc (hp403.nt 8 56 rfl rfl rfl) oz)) (Cal.mono (c_s_l29Left (s_l25Entries p_t pn x130) x135 (RdS.up (OwnL.rd gS h417) gS) h418 hok174) ?_))
     rintro v423 w422 ⟨rfl, hE424⟩
     have hE424z := Ex.size hE424
     refine sy rfl hx410 hb228 (yl_not rfl rfl (sd rfl (yl_pick_f rfl hx410 hb228 rfl (sd rfl (yl_fieldAddr fd56_1 rfl hx407 (SeqR.u rfl rfl (yl_store (vs := [.bool (!(s_l29Left (s_l25Entries p_t pn x130) x135))]) ty4 rfl rfl rfl rfl rfl rfl (Box.ex (Box.ex hf166 hE406) hE424) (nb rfl) ?_)))))))
     intro w427 hB428 hO429
     have hB428 : Box w427 b20 56 [.string (bs (x135)), .bool (!(s_l29Left (s_l25Entries p_t pn x130) x135))] := hB428
     have hO429z := hO429.size
     refine dn (CW.sub (sC 8 hx407 (sC 11 (hp403.old 11 _ rfl rfl) (sC 12 (hp403.old 12 _ rfl rfl) (Sub.nil _)))) (CW.seq (drJ 3 [.slice A131 x130.length c132, .agg #[.string (bs (x135)), .bool (!(s_l29Left (s_l25Entries p_t pn x130) x135))], .slice A131 x130.length c132] Tryz.follows rfl ⟨?_, ?_, ?_, trivial⟩ ?_)))
     ·exact oI rfl fun h => yM rfl (h.g 12 rfl) kI
     ·exact oI rfl fun h => yl_loadN ty56 rfl (h.g 8 rfl) ((Box.ex hB428 h.ex).cells (n := 2) rfl) rfl kI
     ·exact oI rfl fun h => yA rfl (h.g 61 rfl) kI
     ·intro fl449 fh450 L446 w447 hp448
      have hE451 := hp448.ex
      have hE451z := Ex.size hE451
      have hx452 := hp448.old 11 _ rfl rfl
      refine SeqR.u rfl rfl (yl_storeA (vs := [.string (bs (x135)), .bool (!(s_l29Left (s_l25Entries p_t pn x130) x135))]) ty56 rfl hx452 (hp448.nt 1 62 rfl rfl rfl) rfl rfl rfl (Box.ex (Box.only (Box.ex (Box.ex hf167 hE406) hE424) hO429 oM) hE451) rfl ?_)
      intro w459 hB460 hO461
      have hO461z := hO461.size
      refine dn (CW.sub (sC 10 (hp448.nt 2 10 rfl rfl rfl) (sC 11 hx452 (Sub.nil _))) (CW.ret (rr rfl (.cons rfl (.cons ⟨_, rfl, run_loadN ty56 (cs := [.string (bs (x135)), .bool (!(s_l29Left (s_l25Entries p_t pn x130) x135))]) rfl (hB460.cells (n := 2) rfl)⟩ .nil)) ?_)))
      rw [show (s_l29Clear p_t pn ps p_f p_many) = ((x130, (⟨x135, !(s_l29Left (s_l25Entries p_t pn x130) x135)⟩ : DFill))) by simp only [s_l29Clear, hb228, hL227, cL]]
      exact ⟨A131, c132, lo134, u133, rfl, (OwnL.only gW (OwnL.ex gW (OwnL.only gW (OwnL.ex gW (OwnL.ex gW hf168 hE406) hE424) hO429 oM) hE451) hO461 oM), (okL.mk (xs := x130) Bl hok173), hok174, oM, (Below.only (Ex.trans (Below.only (Ex.trans (Ex.trans hf170 hE406) hE424) hO429 oM) hE451) hO461 oM)⟩
theorem c_s_ClearPiece {A1 : Option Addr} {c1 : Nat} {A2 : Option Addr} {c2 : Nat} {A5 : Option Addr} {c5 : Nat} {w : World} (p_t : DTable) (pn : Str) (ps : List DWrite) (p_f : DFill) (p_many : Int) (h1 : RdS w (Iv 0 w.heap.size) (RF e_Str) 1 A1 p_t.Cols.length c1 p_t.Cols) (h2 : RdS w (Iv 0 w.heap.size) (RF e_Idx) 3 A2 p_t.Idxs.length c2 p_t.Idxs) (h5 : RdS w (Iv 0 w.heap.size) (RF e_Write) 3 A5 ps.length c5 ps) (o3 : ok_Table p_t) (o4 : okS pn) (o6 : (okL ok_Write) ps) (o7 : ok_Fill p_f) : Cal Tryz.prog 23 #[.agg #[.string (bs (p_t.Name)), .slice A1 p_t.Cols.length c1, .slice A2 p_t.Idxs.length c2], .string (bs (pn)), .slice A5 ps.length c5, .agg #[.string (bs (p_f.Last)), .bool (p_f.Over)], .int .i64 (p_many)] w fun v w' => ∃ A_1 c_1 lo_1 hi_1, v = .tuple #[.slice A_1 (((s_ClearPiece p_t pn ps p_f p_many).1).length) c_1, .agg #[.string (bs ((s_ClearPiece p_t pn ps p_f p_many).2.1.Last)), .bool ((s_ClearPiece p_t pn ps p_f p_many).2.1.Over)], .bool ((s_ClearPiece p_t pn ps p_f p_many).2.2)] ∧ OwnL w' lo_1 hi_1 80 3 (RF e_Write) A_1 (((s_ClearPiece p_t pn ps p_f p_many).1).length) c_1 ((s_ClearPiece p_t pn ps p_f p_many).1) ∧ (okL ok_Write) ((s_ClearPiece p_t pn ps p_f p_many).1) ∧ ok_Fill ((s_ClearPiece p_t pn ps p_f p_many).2.1) ∧ (w.heap.size ≤ lo_1 ∧ lo_1 ≤ hi_1 ∧ hi_1 ≤ w'.heap.size) ∧ Ex w w' := by
 have hol8 : p_t.Name.length ≤ 1073741824 := o3.1
 have hol9 := o3.2.1.1
 have hol10 := o3.2.2.1
 have hol11 : pn.length ≤ 1073741824 := o4
 have hol12 := o6.1
 have hol13 : p_f.Last.length ≤ 1073741824 := o7
 refine Cal.of func23 rfl ntmps23 rfl (cR (sd rfl (yl_box rfl rfl rfl ?_)))
 intro b14 w15 hs16 hz17 hB18 hE19
 refine sd rfl (yl_box rfl rfl rfl ?_)
 intro b20 w21 hs22 hz23 hB24 hE25
 refine sA rfl (sd rfl (yB ty56 (cs := [.string (bs (([] : Str))), .bool (false)]) rfl rfl ?_))
 intro b26 w27 hs28 hz29 hB30 hE31
 refine sA rfl (dn (CW.seq (cR ?_)))
 have q33 := Box.ex (Box.ex hB18 hE25) hE31
 refine sd rfl (yl_loadN ty39 rfl rfl (q33.cells (n := 3) rfl) rfl (sM rfl (sM rfl ?_)))
 have q36 := RdS.ex gS (RdS.ex gS (RdS.ex gS h1 hE19) hE25) hE31
 have q39 := RdS.ex gI (RdS.ex gI (RdS.ex gI h2 hE19) hE25) hE31
 have q42 := RdS.ex gW (RdS.ex gW (RdS.ex gW h5 hE19) hE25) hE31
 refine sd rfl (yC en56 rfl (oc rfl (oc rfl (oc rfl oz))) (Cal.mono (c_s_l25Asked p_t pn ps (RdS.up q36 gS) (RdS.up q39 gI) (RdS.up q42 gW) o3 o4 o6) ?_))
 rintro v44 w43 ⟨rfl, hE45⟩
 have hE45z := Ex.size hE45
 have y0 := Ex.trans (Ex.trans (Ex.trans (Ex.trans (Ex.refl w) hE19) hE25) hE31) hE45
 refine sd rfl (yl_not rfl rfl (sM rfl (bcase (s_l25Asked p_t pn ps) (fun hb46 => ?_) (fun hb46 => ?_))))
 ·have q48 := Box.ex (Box.ex hB24 hE31) hE45
  refine sy rfl rfl (not_t hb46) (yl_loadN ty56 rfl rfl (q48.cells (n := 2) rfl) rfl (sy rfl rfl (not_t hb46) (yC en57 rfl (oc rfl oz) (Cal.mono (c_s_GoodFill p_f o7) ?_))))
  rintro v50 w49 ⟨rfl, hE51⟩
  have hE51z := Ex.size hE51
  refine sy rfl rfl (not_t hb46) (yl_not rfl rfl (sd rfl (yl_pick_f rfl rfl (not_t hb46) rfl (sM rfl (bcase (s_GoodFill p_f) (fun hb52 => ?_) (fun hb52 => ?_))))))
  ·refine sy rfl rfl (not_t hb52) (yM rfl rfl (sy rfl rfl (not_t hb52) (yC en58 rfl (oc rfl oz) (Cal.mono (c_s_l29Many p_many) ?_))))
   rintro v54 w53 ⟨rfl, hE55⟩
   have hE55z := Ex.size hE55
   refine sy rfl rfl (not_t hb52) (yl_not rfl rfl (sd rfl (yl_pick_f rfl rfl (not_t hb52) rfl (dn (bcase (s_l29Many p_many) (fun hb56 => ?_) (fun hb56 => ?_))))))
   ·refine CW.cond_f rfl (not_t hb56) (CW.skip (tn (cR (sd rfl (yl_loadN ty39 rfl rfl ((Box.ex (Box.ex (Box.ex q33 hE45) hE51) hE55).cells (n := 3) rfl) rfl (sM rfl (sM rfl ?_)))))))
    have q61 := Box.ex (Box.ex q48 hE51) hE55
    refine sd rfl (yl_loadN ty56 rfl rfl (q61.cells (n := 2) rfl) rfl (sM rfl (sd rfl (yC en59 rfl (oc rfl (oc rfl (oc rfl (oc rfl (oc rfl oz))))) (Cal.mono (c_s_l29Clear p_t pn ps p_f p_many (RdS.up (RdS.ex gS (RdS.ex gS (RdS.ex gS q36 hE45) hE51) hE55) gS) (RdS.up (RdS.ex gI (RdS.ex gI (RdS.ex gI q39 hE45) hE51) hE55) gI) (RdS.up (RdS.ex gW (RdS.ex gW (RdS.ex gW q42 hE45) hE51) hE55) gW) o3 o4 o6 o7 hb46) ?_)))))
    rintro v75 w71 ⟨A72, c72, lo72, hi72, rfl, h72, ho73, ho74, hrn77, hE76⟩
    have hE76z := Ex.size hE76
    refine sM rfl (sd rfl (yl_extract rfl rfl rfl (sd rfl (yl_extract rfl rfl rfl (sA rfl (SeqR.u rfl rfl (yl_storeA (vs := [.string (bs ((s_l29Clear p_t pn ps p_f p_many).2.Last)), .bool ((s_l29Clear p_t pn ps p_f p_many).2.Over)]) ty56 rfl rfl rfl rfl rfl rfl (Box.ex q61 hE76) rfl ?_)))))))
    intro w79 hB80 hO81
    have hO81z := hO81.size
    refine dn (CW.seq (drJ 3 [.slice A72 (((s_l29Clear p_t pn ps p_f p_many).1).length) c72, .agg #[.string (bs ((s_l29Clear p_t pn ps p_f p_many).2.Last)), .bool ((s_l29Clear p_t pn ps p_f p_many).2.Over)], .slice A72 (((s_l29Clear p_t pn ps p_f p_many).1).length) c72] Tryz.follows rfl ⟨?_, ?_, ?_, trivial⟩ ?_))
    ·exact oI rfl fun h => yM rfl (h.g 13 rfl) kI
    ·exact oI rfl fun h => yl_loadN ty56 rfl (h.g 8 rfl) ((Box.ex hB80 h.ex).cells (n := 2) rfl) rfl kI
    ·exact oI rfl fun h => yA rfl (h.g 39 rfl) kI
    ·intro fl101 fh102 L98 w99 hp100
     have hE103 := hp100.ex
     have hE103z := Ex.size hE103
     have hx104 := hp100.old 11 _ rfl rfl
     refine SeqR.u rfl rfl (yl_storeA (vs := [.string (bs ((s_l29Clear p_t pn ps p_f p_many).2.Last)), .bool ((s_l29Clear p_t pn ps p_f p_many).2.Over)]) ty56 rfl hx104 (hp100.nt 1 40 rfl rfl rfl) rfl rfl rfl (Box.ex (Box.only (Box.ex (Box.ex (Box.ex (Box.ex hB30 hE45) hE51) hE55) hE76) hO81 oM) hE103) rfl ?_)
     intro w113 hB114 hO115
     have hO115z := hO115.size
     refine sA rfl (dn (CW.sub (sC 10 (hp100.nt 2 10 rfl rfl rfl) (sC 11 hx104 (sC 12 rfl (Sub.nil _)))) (CW.ret (rr rfl (.cons rfl (.cons ⟨_, rfl, run_loadN ty56 (cs := [.string (bs ((s_l29Clear p_t pn ps p_f p_many).2.Last)), .bool ((s_l29Clear p_t pn ps p_f p_many).2.Over)]) rfl (hB114.cells (n := 2) rfl)⟩ (.cons rfl .nil))) ?_))))
     rw [show (s_ClearPiece p_t pn ps p_f p_many) = (((s_l29Clear p_t pn ps p_f p_many).1, (s_l29Clear p_t pn ps p_f p_many).2, true)) by simp only [s_ClearPiece, hb46, hb52, hb56, cL]]
     exact ⟨A72, c72, lo72, hi72, rfl, (OwnL.only gW (OwnL.ex gW (OwnL.only gW h72 hO81 oM) hE103) hO115 oM), ho73, ho74, oM, (Below.only (Ex.trans (Below.only (Ex.trans (Ex.trans (Ex.trans y0 hE51) hE55) hE76) hO81 oM) hE103) hO115 oM)⟩
   ·refine CW.cond_t rfl (not_f hb56) (cR (sd rfl (yl_build (cs := [.string (bs (([] : Str))), .bool (false)]) rfl opvs_nil (by kernel_rfl) (sA rfl (SeqR.u rfl rfl (yl_storeA (vs := [.string (bs (([] : Str))), .bool (false)]) ty56 rfl rfl rfl rfl rfl rfl (Box.ex (Box.ex (Box.ex hB30 hE45) hE51) hE55) rfl ?_))))))
    intro w133 hB134 hO135
    have hO135z := hO135.size
    refine sA rfl (dn (CW.ret (tr (rr rfl (.cons rfl (.cons ⟨_, rfl, run_loadN ty56 (cs := [.string (bs (([] : Str))), .bool (false)]) rfl (hB134.cells (n := 2) rfl)⟩ (.cons rfl .nil))) ?_))))
    rw [show (s_ClearPiece p_t pn ps p_f p_many) = ((([] : List DWrite), (⟨([] : Str), false⟩ : DFill), false)) by simp only [s_ClearPiece, hb46, hb52, hb56, cL]]
    exact ⟨none, 0, w133.heap.size, w133.heap.size, rfl, (OwnL.nil _ _ _ _ _ _), (okL.nil _), (okS.lit rfl), oM, (Below.only (Ex.trans (Ex.trans y0 hE51) hE55) hO135 oM)⟩
  ·refine sz rfl rfl (not_f hb52) (sz rfl rfl (not_f hb52) (sz rfl rfl (not_f hb52) (sd rfl (yl_pick_t rfl rfl (not_f hb52) rfl (dn (CW.cond_t rfl rfl (cR ?_)))))))
   refine sd rfl (yl_build (cs := [.string (bs (([] : Str))), .bool (false)]) rfl opvs_nil (by kernel_rfl) (sA rfl (SeqR.u rfl rfl (yl_storeA (vs := [.string (bs (([] : Str))), .bool (false)]) ty56 rfl rfl rfl rfl rfl rfl (Box.ex (Box.ex hB30 hE45) hE51) rfl ?_))))
   intro w146 hB147 hO148
   have hO148z := hO148.size
   refine sA rfl (dn (CW.ret (tr (rr rfl (.cons rfl (.cons ⟨_, rfl, run_loadN ty56 (cs := [.string (bs (([] : Str))), .bool (false)]) rfl (hB147.cells (n := 2) rfl)⟩ (.cons rfl .nil))) ?_))))
   rw [show (s_ClearPiece p_t pn ps p_f p_many) = ((([] : List DWrite), (⟨([] : Str), false⟩ : DFill), false)) by simp only [s_ClearPiece, hb46, hb52, cL]]
   exact ⟨none, 0, w146.heap.size, w146.heap.size, rfl, (OwnL.nil _ _ _ _ _ _), (okL.nil _), (okS.lit rfl), oM, (Below.only (Ex.trans y0 hE51) hO148 oM)⟩
 ·refine sz rfl rfl (not_f hb46) (sz rfl rfl (not_f hb46) (sz rfl rfl (not_f hb46) (sd rfl (yl_pick_t rfl rfl (not_f hb46) rfl (sM rfl (sz rfl rfl rfl (sz rfl rfl rfl (sz rfl rfl rfl (sd rfl (yl_pick_t rfl rfl rfl rfl ?_))))))))))
  refine dn (CW.cond_t rfl rfl (cR (sd rfl (yl_build (cs := [.string (bs (([] : Str))), .bool (false)]) rfl opvs_nil (by kernel_rfl) (sA rfl (SeqR.u rfl rfl (yl_storeA (vs := [.string (bs (([] : Str))), .bool (false)]) ty56 rfl rfl rfl rfl rfl rfl (Box.ex hB30 hE45) rfl ?_)))))))
  intro w157 hB158 hO159
  have hO159z := hO159.size
  refine sA rfl (dn (CW.ret (tr (rr rfl (.cons rfl (.cons ⟨_, rfl, run_loadN ty56 (cs := [.string (bs (([] : Str))), .bool (false)]) rfl (hB158.cells (n := 2) rfl)⟩ (.cons rfl .nil))) ?_))))
  rw [show (s_ClearPiece p_t pn ps p_f p_many) = ((([] : List DWrite), (⟨([] : Str), false⟩ : DFill), false)) by simp only [s_ClearPiece, hb46, cL]]
  exact ⟨none, 0, w157.heap.size, w157.heap.size, rfl, (OwnL.nil _ _ _ _ _ _), (okL.nil _), (okS.lit rfl), oM, (Below.only y0 hO159 oM)⟩
theorem c_l_toFill {w : World} (p_a : DFill) (o1 : ok_Fill p_a) : Cal Tryz.prog 24 #[.agg #[.string (bs (p_a.Last)), .bool (p_a.Over)]] w fun v w' => v = .agg #[.string (bs (p_a.Last)), .bool (p_a.Over)] ∧ Ex w w' := by
 have hol2 : p_a.Last.length ≤ 1073741824 := o1
 refine Cal.of func24 rfl ntmps24 rfl (cR (sd rfl (yl_box rfl rfl rfl ?_)))
 intro b3 w4 hs5 hz6 hB7 hE8
 refine sd rfl (yB ty56 (cs := [.string (bs (([] : Str))), .bool (false)]) rfl rfl ?_)
 intro b9 w10 hs11 hz12 hB13 hE14
 refine dn (cR (sd rfl (yB ty56 (cs := [.string (bs (([] : Str))), .bool (false)]) rfl rfl ?_)))
 intro b15 w16 hs17 hz18 hB19 hE20
 refine dn (cR (sd rfl (yl_fieldAddr fd54_0 rfl rfl ?_)))
 have q22 := Box.ex (Box.ex hB7 hE14) hE20
 refine sd rfl (yl_load1 ty9 rfl rfl ((q22.cell 0).trans rfl) (sd rfl (yl_fieldAddr fd56_0 rfl rfl (SeqR.u rfl rfl (yl_store (vs := [.string (bs (p_a.Last))]) ty9 rfl rfl rfl rfl rfl rfl hB19 (nb rfl) ?_)))))
 intro w23 hB24 hO25
 have hB24 : Box w23 b15 56 [.string (bs (p_a.Last)), .bool (false)] := hB24
 have hO25z := hO25.size
 refine dn (cR (sd rfl (yl_fieldAddr fd54_1 rfl rfl (sd rfl (yl_load1 ty4 rfl rfl (((Box.only q22 hO25 oM).cell 1).trans rfl) (sd rfl (yl_fieldAddr fd56_1 rfl rfl (SeqR.u rfl rfl (yl_store (vs := [.bool (p_a.Over)]) ty4 rfl rfl rfl rfl rfl rfl hB24 (nb rfl) ?_)))))))))
 intro w27 hB28 hO29
 have hB28 : Box w27 b15 56 [.string (bs (p_a.Last)), .bool (p_a.Over)] := hB28
 have hO29z := hO29.size
 refine dn (cR (sd rfl (yl_loadN ty56 rfl rfl (hB28.cells (n := 2) rfl) rfl (SeqR.u rfl rfl (yl_storeA (vs := [.string (bs (p_a.Last)), .bool (p_a.Over)]) ty56 rfl rfl rfl rfl rfl rfl (Box.only (Box.only (Box.ex hB13 hE20) hO25 oM) hO29 oM) rfl ?_)))))
 intro w33 hB34 hO35
 have hO35z := hO35.size
 refine dn (CW.ret (rr rfl (.cons ⟨_, rfl, run_loadN ty56 (cs := [.string (bs (p_a.Last)), .bool (p_a.Over)]) rfl (hB34.cells (n := 2) rfl)⟩ .nil) ?_))
 have hM36 : p_a = (p_a) := (to_Fill _).symm.trans <| by simp only [l_toFill, cL]
 rw [hM36]
 exact ⟨rfl, (Below.only (Below.only (Below.only (Ex.trans (Ex.trans (Ex.trans (Ex.refl w) hE8) hE14) hE20) hO25 oM) hO29 oM) hO35 oM)⟩
theorem c_g_slices_IndexFunc_Write {A1 : Option Addr} {c1 : Nat} {g3 : Nat} {cp4 : List Value} {w : World} (p_s : List DWrite) (p_f : DWrite → Bool) (h1 : RdS w (Iv 0 w.heap.size) (RF e_Write) 3 A1 p_s.length c1 p_s) (hen5 : Go.X.Enters Tryz.prog g3) (hfn6 : ∀ (w1 : World) (y0 : DWrite), Ex w w1 → y0 ∈ p_s → ok_Write y0 → Cal Tryz.prog g3 (([.agg #[.string (bs (y0.Key)), .string (bs (y0.Val)), .bool (y0.Gone)]] : List Value) ++ cp4).toArray w1 fun v w2 => v = .bool (p_f y0) ∧ Ex w1 w2) (o2 : (okL ok_Write) p_s) : Cal Tryz.prog 131 #[.slice A1 p_s.length c1, .func (.func g3) #[] cp4.toArray] w fun v w' => v = .int .i64 ((g_slices_IndexFunc_Write p_s p_f)) ∧ Ex w w' := by
 have hol7 := o2.1
 refine Cal.of func131 rfl ntmps131 rfl (cR (sA rfl (dn (CW.seq (cR ?_)))))
 refine sM rfl (sd rfl (yL un34 rfl rfl (sM rfl (dn (CW.block (CW.loop (fun m9 L10 w11 => ∃ (k8 : Nat), m9 = p_s.length - k8 ∧ k8 ≤ p_s.length ∧ w.heap.size ≤ w11.heap.size ∧ Sub [(0, .slice A1 p_s.length c1), (1, .func (.func g3) #[] cp4.toArray), (7, .int .i64 ((p_s.length : Int))), (8, .int .i64 ((k8 : Int)))] L10 ∧ RdS w11 (Iv 0 w.heap.size) (RF e_Write) 3 A1 p_s.length c1 p_s ∧ Ex w w11 ∧ loopM (B_g_slices_IndexFunc_Write_0 p_s p_f) (p_s.length - k8) k8 () = loopM (B_g_slices_IndexFunc_Write_0 p_s p_f) (p_s.length - 0) 0 ()) (p_s.length - 0) ?_ ?_))))))
 ·exact ⟨0, rfl, oM, Nat.le_refl _, (sR rfl), h1, (Ex.refl w), rfl⟩
 ·rintro m12 L13 w14 ⟨k8, rfl, hk15, hsz17, hl18, hf19, hf20, hI16⟩
  refine CW.sub hl18 ?_
  have hf20z := Ex.size hf20
  have hbg21 := RdS.big hf19
  rcases Nat.lt_or_ge k8 p_s.length with hlt22 | hlt22
  ·refine cR (sd rfl (yl_lss rfl rfl rfl (dn (CW.seq (CW.cond_t rfl (lt_t hlt22) (CW.skip (tn ?_)))))))
   refine CW.seq (CW.block (cR (sM rfl (sA rfl (dn (CW.seq ?_))))))
   refine CW.region (sM rfl (sM rfl (sM rfl ?_)))
   obtain ⟨_, _, _, eA23, _, ebl23, _, eR23, eC23⟩ := RdS.aD hf19 d_Write (i := k8)
   obtain rfl := eR23
   refine sd rfl (yl_ixN un34 ty80 rfl rfl rfl eA23 (sd rfl (yl_loadN ty80 rfl rfl eC23 rfl (sd rfl (yl_callv hen5 rfl rfl (oc rfl oz) (Cal.mono (hfn6 w14 (p_s.getD k8 d_Write) hf20 (getD_mem oM) (okL.getD o2 ok_d_Write _)) ?_))))))
   rintro v25 w24 ⟨rfl, hE26⟩
   have hE26z := Ex.size hE26
   refine dn (bcase (p_f (p_s.getD k8 d_Write)) (fun hb27 => ?_) (fun hb27 => ?_))
   ·refine CW.cond_t rfl hb27 (cR (sM rfl (sA rfl (dn (CW.ret (br ?_))))))
    refine tr (tr ?_)
    have hB29 : B_g_slices_IndexFunc_Write_0 p_s p_f k8 () = .ret (k8 : Int) := by simp only [B_g_slices_IndexFunc_Write_0, hb27, cL]
    have hL28 : loopM (B_g_slices_IndexFunc_Write_0 p_s p_f) (p_s.length - 0) 0 () = .ret (k8 : Int) := hI16.symm.trans (loopM.ret hlt22 hB29)
    refine br (tr (rr rfl (.cons rfl .nil) ?_))
    rw [show (g_slices_IndexFunc_Write p_s p_f) = ((k8 : Int)) by simp only [g_slices_IndexFunc_Write, hb27, hL28, cL]]
    exact ⟨rfl, (Ex.trans hf20 hE26)⟩
   ·refine CW.cond_f rfl hb27 (CW.skip (bn (tn (CW.region (sd rfl (yl_inc rfl rfl rfl oM (sM rfl (dn ?_))))))))
    have hB32 : B_g_slices_IndexFunc_Write_0 p_s p_f k8 () = .cont () := by simp only [B_g_slices_IndexFunc_Write_0, hb27, cL]
    exact ⟨p_s.length - (k8 + 1), oM, k8 + 1, rfl, hlt22, oM, (sR rfl), (RdS.ex gW hf19 hE26), (Ex.trans hf20 hE26), (loopM.cont hlt22 hB32).symm.trans hI16⟩
  ·refine cR (sd rfl (yl_lss rfl rfl rfl (dn (CW.seq (CW.cond_f rfl (lt_f hlt22) (CW.exit (tx ?_)))))))
   refine tx ?_
   have hL35 : loopM (B_g_slices_IndexFunc_Write_0 p_s p_f) (p_s.length - 0) 0 () = .done () := hI16.symm.trans (loopM.stop hlt22)
   refine bx (tn (cR (sA rfl (dn (CW.ret (rr rfl (.cons rfl .nil) ?_))))))
   rw [show (g_slices_IndexFunc_Write p_s p_f) = (-1) by simp only [g_slices_IndexFunc_Write, hL35, cL]]
   exact ⟨rfl, hf20⟩
theorem c_g_slices_ContainsFunc_Write {A1 : Option Addr} {c1 : Nat} {g3 : Nat} {cp4 : List Value} {w : World} (p_s : List DWrite) (p_f : DWrite → Bool) (h1 : RdS w (Iv 0 w.heap.size) (RF e_Write) 3 A1 p_s.length c1 p_s) (hen5 : Go.X.Enters Tryz.prog g3) (hfn6 : ∀ (w1 : World) (y0 : DWrite), Ex w w1 → y0 ∈ p_s → ok_Write y0 → Cal Tryz.prog g3 (([.agg #[.string (bs (y0.Key)), .string (bs (y0.Val)), .bool (y0.Gone)]] : List Value) ++ cp4).toArray w1 fun v w2 => v = .bool (p_f y0) ∧ Ex w1 w2) (o2 : (okL ok_Write) p_s) : Cal Tryz.prog 79 #[.slice A1 p_s.length c1, .func (.func g3) #[] cp4.toArray] w fun v w' => v = .bool ((g_slices_ContainsFunc_Write p_s p_f)) ∧ Ex w w' := by
 refine Cal.of func79 rfl ntmps79 rfl (cR (sA rfl (dn (cR (sM rfl ?_)))))
 refine sM rfl (sd rfl (yC en131 rfl (oc rfl (oc rfl oz)) (Cal.mono (c_g_slices_IndexFunc_Write p_s p_f (RdS.up h1 gW) hen5 (fun w1 y0 => fun hE => hfn6 w1 y0 (Ex.trans (Ex.refl w) hE)) o2) ?_)))
 rintro v9 w8 ⟨rfl, hE10⟩
 refine sd rfl (yl_geq rfl rfl rfl (sA rfl (dn (CW.ret (rr rfl (.cons rfl .nil) ?_)))))
 rw [show (g_slices_ContainsFunc_Write p_s p_f) = (decide (0 ≤ (g_slices_IndexFunc_Write p_s p_f))) by simp only [g_slices_ContainsFunc_Write, cL]]
 exact ⟨rfl, (Ex.trans (Ex.refl w) hE10)⟩
theorem c_i_within {w : World} (p_n : Int) (p_low : Int) (p_high : Int) : Cal Tryz.prog 96 #[.int .i64 (p_n), .int .i64 (p_low), .int .i64 (p_high)] w fun v w' => v = .bool ((i_within p_n p_low p_high)) ∧ Ex w w' := by
 refine Cal.of func96 rfl ntmps96 rfl (cR (sA rfl (dn (cR (sM rfl ?_)))))
 refine sM rfl (sd rfl (yl_geq rfl rfl rfl (sM rfl (bcD (q := p_low ≤ p_n) (fun hb1 hb1p => ?_) (fun hb1 hb1p => ?_)))))
 ·refine sy rfl rfl hb1 (yM rfl rfl (sy rfl rfl hb1 (yM rfl rfl (sy rfl rfl hb1 (yl_leq rfl rfl rfl (sd rfl (yl_pick_t rfl rfl hb1 rfl (sA rfl (dn (CW.ret (rr rfl (.cons rfl .nil) ?_)))))))))))
  rw [show (i_within p_n p_low p_high) = (decide (p_n ≤ p_high)) by simp only [i_within, hb1, cL]]
  exact ⟨rfl, (Ex.refl w)⟩
 ·refine sz rfl rfl hb1 (sz rfl rfl hb1 (sz rfl rfl hb1 (sd rfl (yl_pick_f rfl rfl hb1 rfl (sA rfl (dn (CW.ret (rr rfl (.cons rfl .nil) ?_))))))))
  rw [show (i_within p_n p_low p_high) = (false) by simp only [i_within, hb1, cL]]
  exact ⟨rfl, (Ex.refl w)⟩
theorem c_i_isLowerOrDigit {w : World} (p_b : Int) : Cal Tryz.prog 212 #[.int .u8 (p_b)] w fun v w' => v = .bool ((i_isLowerOrDigit p_b)) ∧ Ex w w' := by
 refine Cal.of func212 rfl ntmps212 rfl (cR (sA rfl (dn (cR (sM rfl ?_)))))
 refine sd rfl (yl_geq rfl rfl rfl (sM rfl (bcD (q := 97 ≤ p_b) (fun hb1 hb1p => ?_) (fun hb1 hb1p => ?_))))
 ·refine sy rfl rfl hb1 (yM rfl rfl (sy rfl rfl hb1 (yl_leq rfl rfl rfl (sd rfl (yl_pick_t rfl rfl hb1 rfl (sM rfl (bcD (q := p_b ≤ 122) (fun hb2 hb2p => ?_) (fun hb2 hb2p => ?_))))))))
  ·refine sz rfl rfl hb2 (sz rfl rfl hb2 (sz rfl rfl hb2 (sq rfl rfl (sq rfl rfl (sz rfl rfl hb2 (sd rfl (yl_pick_t rfl rfl hb2 rfl (sA rfl (SeqR.done ?_)))))))))
   refine tn (CW.ret (rr rfl (.cons rfl .nil) ?_))
   rw [show (i_isLowerOrDigit p_b) = (true) by simp only [i_isLowerOrDigit, hb1, hb2, cL]]
   exact ⟨rfl, (Ex.refl w)⟩
  ·refine sy rfl rfl hb2 (yM rfl rfl (sy rfl rfl hb2 (yl_geq rfl rfl rfl (sy rfl rfl hb2 (yM rfl rfl (bcD (q := 48 ≤ p_b) (fun hb4 hb4p => ?_) (fun hb4 hb4p => ?_)))))))
   ·refine sy rfl rfl hb4 (yM rfl rfl (sy rfl rfl hb4 (yl_leq rfl rfl rfl (sy rfl rfl hb2 (yl_pick_t rfl rfl hb4 rfl (sd rfl (yl_pick_f rfl rfl hb2 rfl (sA rfl (dn (CW.ret (rr rfl (.cons rfl .nil) ?_)))))))))))
    rw [show (i_isLowerOrDigit p_b) = (decide (p_b ≤ 57)) by simp only [i_isLowerOrDigit, hb1, hb2, hb4, cL]]
    exact ⟨rfl, (Ex.refl w)⟩
   ·refine sz rfl rfl hb4 (sz rfl rfl hb4 (sy rfl rfl hb2 (yl_pick_f rfl rfl hb4 rfl (sd rfl (yl_pick_f rfl rfl hb2 rfl (sA rfl (dn (CW.ret (rr rfl (.cons rfl .nil) ?_)))))))))
    rw [show (i_isLowerOrDigit p_b) = (false) by simp only [i_isLowerOrDigit, hb1, hb2, hb4, cL]]
    exact ⟨rfl, (Ex.refl w)⟩
 ·refine sz rfl rfl hb1 (sz rfl rfl hb1 (sd rfl (yl_pick_f rfl rfl hb1 rfl (sM rfl (sy rfl rfl rfl (yM rfl rfl (sy rfl rfl rfl (yl_geq rfl rfl rfl (sy rfl rfl rfl (yM rfl rfl (bcD (q := 48 ≤ p_b) (fun hb7 hb7p => ?_) (fun hb7 hb7p => ?_))))))))))))
  ·refine sy rfl rfl hb7 (yM rfl rfl (sy rfl rfl hb7 (yl_leq rfl rfl rfl (sy rfl rfl rfl (yl_pick_t rfl rfl hb7 rfl (sd rfl (yl_pick_f rfl rfl rfl rfl (sA rfl (dn (CW.ret (rr rfl (.cons rfl .nil) ?_)))))))))))
   rw [show (i_isLowerOrDigit p_b) = (decide (p_b ≤ 57)) by simp only [i_isLowerOrDigit, hb1, hb7, cL]]
   exact ⟨rfl, (Ex.refl w)⟩
  ·refine sz rfl rfl hb7 (sz rfl rfl hb7 (sy rfl rfl rfl (yl_pick_f rfl rfl hb7 rfl (sd rfl (yl_pick_f rfl rfl rfl rfl (sA rfl (dn (CW.ret (rr rfl (.cons rfl .nil) ?_)))))))))
   rw [show (i_isLowerOrDigit p_b) = (false) by simp only [i_isLowerOrDigit, hb1, hb7, cL]]
   exact ⟨rfl, (Ex.refl w)⟩
theorem c_g_internal_stringslite_IndexByte {w : World} (p_s : Str) (p_c : Int) (o1 : okS p_s) : Cal Tryz.prog 236 #[.string (bs (p_s)), .int .u8 (p_c)] w fun v w' => v = .int .i64 ((g_internal_stringslite_IndexByte p_s p_c)) ∧ Ex w w' := by
 refine Cal.of func236 rfl ntmps236 rfl (cR (sA rfl (dn (cR (sM rfl ?_)))))
 refine sM rfl (sd rfl (yl_idxB (s := p_s) (c := p_c) Tryz.ex254 rfl (oc rfl (oc rfl oz)) (sA rfl (dn (CW.ret (rr rfl (.cons rfl .nil) ?_))))))
 rw [show (g_internal_stringslite_IndexByte p_s p_c) = (idxB p_s p_c) by simp only [g_internal_stringslite_IndexByte, cL]]
 exact ⟨rfl, (Ex.refl w)⟩
theorem c_g_strings_IndexByte {w : World} (p_s : Str) (p_c : Int) (o1 : okS p_s) : Cal Tryz.prog 213 #[.string (bs (p_s)), .int .u8 (p_c)] w fun v w' => v = .int .i64 ((g_strings_IndexByte p_s p_c)) ∧ Ex w w' := by
 refine Cal.of func213 rfl ntmps213 rfl (cR (sA rfl (dn (cR (sM rfl ?_)))))
 refine sM rfl (sd rfl (yC en236 rfl (oc rfl (oc rfl oz)) (Cal.mono (c_g_internal_stringslite_IndexByte p_s p_c o1) ?_)))
 rintro v4 w3 ⟨rfl, hE5⟩
 refine sA rfl (dn (CW.ret (rr rfl (.cons rfl .nil) ?_)))
 rw [show (g_strings_IndexByte p_s p_c) = ((g_internal_stringslite_IndexByte p_s p_c)) by simp only [g_strings_IndexByte, cL]]
 exact ⟨rfl, (Ex.trans (Ex.refl w) hE5)⟩
theorem c_i_hasBytes {w : World} (p_s : Str) (p_others : Str) (o1 : okS p_s) (o2 : okS p_others) : Cal Tryz.prog 184 #[.string (bs (p_s)), .string (bs (p_others))] w fun v w' => v = .bool ((i_hasBytes p_s p_others)) ∧ Ex w w' := by
 have hol3 : p_s.length ≤ 1073741824 := o1
 have hol4 : p_others.length ≤ 1073741824 := o2
 refine Cal.of func184 rfl ntmps184 rfl (cR (sA rfl (dn (CW.seq (cR ?_)))))
 refine sM rfl (sd rfl (yl_slen un9 (a := p_s) rfl rfl (sM rfl (dn (CW.block (CW.loop (fun m6 L7 w8 => ∃ (k5 : Nat), m6 = p_s.length - k5 ∧ k5 ≤ p_s.length ∧ w.heap.size ≤ w8.heap.size ∧ Sub [(0, .string (bs (p_s))), (1, .string (bs (p_others))), (7, .int .i64 ((p_s.length : Int))), (8, .int .i64 ((k5 : Int)))] L7 ∧ Ex w w8 ∧ loopM (B_i_hasBytes_0 p_s p_others) (p_s.length - k5) k5 () = loopM (B_i_hasBytes_0 p_s p_others) (p_s.length - 0) 0 ()) (p_s.length - 0) ?_ ?_))))))
 ·exact ⟨0, rfl, oM, Nat.le_refl _, (sR rfl), (Ex.refl w), rfl⟩
 ·rintro m9 L10 w11 ⟨k5, rfl, hk12, hsz14, hl15, hf16, hI13⟩
  refine CW.sub hl15 ?_
  have hf16z := Ex.size hf16
  have hbg17 : p_s.length ≤ 1073741824 := o1
  rcases Nat.lt_or_ge k5 p_s.length with hlt18 | hlt18
  ·refine cR (sd rfl (yl_lss rfl rfl rfl (dn (CW.seq (CW.cond_t rfl (lt_t hlt18) (CW.skip (tn ?_)))))))
   refine CW.seq (CW.block (cR (sM rfl (sA rfl (dn (CW.seq ?_))))))
   refine CW.region (sM rfl (sM rfl (sd rfl (yl_sindexN un9 (a := p_s) rfl rfl rfl Bo (sd rfl (yC en212 rfl (oc rfl oz) (Cal.mono (c_i_isLowerOrDigit ((p_s.getD k5 0).toNat : Int)) ?_)))))))
   rintro v20 w19 ⟨rfl, hE21⟩
   have hE21z := Ex.size hE21
   refine sd rfl (yl_not rfl rfl (sM rfl (bcase (i_isLowerOrDigit ((p_s.getD k5 0).toNat : Int)) (fun hb22 => ?_) (fun hb22 => ?_))))
   ·refine sz rfl rfl (not_t hb22) (sz rfl rfl (not_t hb22) (sz rfl rfl (not_t hb22) (sz rfl rfl (not_t hb22) (sz rfl rfl (not_t hb22) (sz rfl rfl (not_t hb22) (sd rfl (yl_pick_f rfl rfl (not_t hb22) rfl (dn ?_))))))))
    refine CW.cond_f rfl rfl (CW.skip (bn (tn (CW.region (sd rfl (yl_inc rfl rfl rfl oM (sM rfl (dn ?_))))))))
    have hB23 : B_i_hasBytes_0 p_s p_others k5 () = .cont () := by simp only [B_i_hasBytes_0, hb22, cL]
    exact ⟨p_s.length - (k5 + 1), oM, k5 + 1, rfl, hlt18, oM, (sR rfl), (Ex.trans hf16 hE21), (loopM.cont hlt18 hB23).symm.trans hI13⟩
   ·refine sy rfl rfl (not_f hb22) (yM rfl rfl (sy rfl rfl (not_f hb22) (yM rfl rfl (sy rfl rfl (not_f hb22) (yM rfl rfl (sy rfl rfl (not_f hb22) (yl_sindexN un9 (a := p_s) rfl rfl rfl Bo (sy rfl rfl (not_f hb22) (yC en213 rfl (oc rfl (oc rfl oz)) (Cal.mono (c_g_strings_IndexByte p_others ((p_s.getD k5 0).toNat : Int) o2) ?_))))))))))
    rintro v26 w25 ⟨rfl, hE27⟩
    have hE27z := Ex.size hE27
    refine sy rfl rfl (not_f hb22) (yl_lss rfl rfl rfl (sd rfl (yl_pick_t rfl rfl (not_f hb22) rfl (dn (bcD (q := (g_strings_IndexByte p_others ((p_s.getD k5 0).toNat : Int)) < 0) (fun hb28 hb28p => ?_) (fun hb28 hb28p => ?_))))))
    ·refine CW.cond_t rfl hb28 (cR (sA rfl (dn (CW.ret (br (tr ?_))))))
     refine tr ?_
     have hB30 : B_i_hasBytes_0 p_s p_others k5 () = .ret false := by simp only [B_i_hasBytes_0, hb22, hb28, cL]
     have hL29 : loopM (B_i_hasBytes_0 p_s p_others) (p_s.length - 0) 0 () = .ret false := hI13.symm.trans (loopM.ret hlt18 hB30)
     refine br (tr (rr rfl (.cons rfl .nil) ?_))
     rw [show (i_hasBytes p_s p_others) = (false) by simp only [i_hasBytes, hb22, hb28, hL29, cL]]
     exact ⟨rfl, (Ex.trans (Ex.trans hf16 hE21) hE27)⟩
    ·refine CW.cond_f rfl hb28 (CW.skip (bn (tn (CW.region (sd rfl (yl_inc rfl rfl rfl oM (sM rfl (dn ?_))))))))
     have hB34 : B_i_hasBytes_0 p_s p_others k5 () = .cont () := by simp only [B_i_hasBytes_0, hb22, hb28, cL]
     exact ⟨p_s.length - (k5 + 1), oM, k5 + 1, rfl, hlt18, oM, (sR rfl), (Ex.trans (Ex.trans hf16 hE21) hE27), (loopM.cont hlt18 hB34).symm.trans hI13⟩
  ·refine cR (sd rfl (yl_lss rfl rfl rfl (dn (CW.seq (CW.cond_f rfl (lt_f hlt18) (CW.exit (tx ?_)))))))
   refine tx ?_
   have hL37 : loopM (B_i_hasBytes_0 p_s p_others) (p_s.length - 0) 0 () = .done () := hI13.symm.trans (loopM.stop hlt18)
   refine bx (tn (cR (sA rfl (dn (CW.ret (rr rfl (.cons rfl .nil) ?_))))))
   rw [show (i_hasBytes p_s p_others) = (true) by simp only [i_hasBytes, hL37, cL]]
   exact ⟨rfl, hf16⟩
theorem c_i_GoodKey {w : World} (p_s : Str) (o1 : okS p_s) : Cal Tryz.prog 142 #[.string (bs (p_s))] w fun v w' => v = .bool ((i_GoodKey p_s)) ∧ Ex w w' := by
 refine Cal.of func142 rfl ntmps142 rfl (cR (sA rfl (dn (cR (sM rfl ?_)))))
 refine sd rfl (yl_slen un9 (a := p_s) rfl rfl (sd rfl (yC en96 rfl (oc rfl (oc rfl (oc rfl oz))) (Cal.mono (c_i_within (p_s.length : Int) 1 12) ?_))))
 rintro v4 w3 ⟨rfl, hE5⟩
 refine sM rfl (bcase (i_within (p_s.length : Int) 1 12) (fun hb6 => ?_) (fun hb6 => ?_))
 ·have hb6p := f_within hb6
  refine sy rfl rfl hb6 (yM rfl rfl (sy rfl rfl hb6 (yC en184 rfl (oc rfl (oc rfl oz)) (Cal.mono (c_i_hasBytes p_s ([46, 47] : Str) o1 (okS.lit rfl)) ?_))))
  rintro v8 w7 ⟨rfl, hE9⟩
  refine sd rfl (yl_pick_t rfl rfl hb6 rfl (sA rfl (dn (CW.ret (rr rfl (.cons rfl .nil) ?_)))))
  rw [show (i_GoodKey p_s) = ((i_hasBytes p_s ([46, 47] : Str))) by simp only [i_GoodKey, hb6, cL]]
  exact ⟨rfl, (Ex.trans (Ex.trans (Ex.refl w) hE5) hE9)⟩
 ·refine sz rfl rfl hb6 (sz rfl rfl hb6 (sd rfl (yl_pick_f rfl rfl hb6 rfl (sA rfl (dn (CW.ret (rr rfl (.cons rfl .nil) ?_)))))))
  rw [show (i_GoodKey p_s) = (false) by simp only [i_GoodKey, hb6, cL]]
  exact ⟨rfl, (Ex.trans (Ex.refl w) hE5)⟩
end Go.Proofs.YtoimdjojffkefaaGreatDoor
