/- Fn Fill Ops: what each call returns, part 4. -/
import Derived.Test.YtfcofekfcmidoaaGreatDoorFnFillOpsC3
set_option maxRecDepth 100000
set_option maxHeartbeats 2000000
open Go.Proofs.Tryz Go.Proofs.YtfcofekfcmidoaaGreatDoor.Tryz
set_option linter.unusedVariables false
set_option linter.unusedSimpArgs false
namespace Go.Proofs.YtfcofekfcmidoaaGreatDoor
open Go.RowKit Go.X
theorem c_s_l5PutW {A1 : Option Addr} {c1 : Nat} {w : World} (p_l : List DWrite) (p_w : DWrite) (h1 : RdS w (Iv 0 w.heap.size) (RF e_Write) 3 A1 p_l.length c1 p_l) (o2 : (okL ok_Write) p_l) (o3 : ok_Write p_w) (pre0 : p_l.length ≤ 1000000) : Cal Tryz.prog 53 #[.slice A1 p_l.length c1, .agg #[.string (bs (p_w.Key)), .string (bs (p_w.Val)), .bool (p_w.Gone)]] w fun v w' => ∃ A_1 c_1 lo_1 hi_1, v = .slice A_1 ((s_l5PutW p_l p_w).length) c_1 ∧ OwnL w' lo_1 hi_1 39 3 (RF e_Write) A_1 ((s_l5PutW p_l p_w).length) c_1 (s_l5PutW p_l p_w) ∧ (okL ok_Write) (s_l5PutW p_l p_w) ∧ (s_l5PutW p_l p_w).length ≤ p_l.length + 1 ∧ (w.heap.size ≤ lo_1 ∧ lo_1 ≤ hi_1 ∧ hi_1 ≤ w'.heap.size) ∧ Ex w w' := by
 have hol4 := o2.1
 have hol5 : p_w.Key.length ≤ 1073741824 := o3.1
 have hol6 : p_w.Val.length ≤ 1073741824 := o3.2
 refine Cal.of func53 rfl ntmps53 rfl (cR (sd rfl (yl_box rfl rfl rfl ?_)))
 intro b7 w8 hs9 hz10 hB11 hE12
 refine sA rfl (dn (cR (sM rfl (sd rfl (yL un42 rfl rfl (sA rfl (SeqR.done ?_)))))))
 refine tn (CW.seq (CW.block (CW.loop (fun m15 L16 w17 => ∃ (x14 : Int), ((x14).toNat) < m15 ∧ w8.heap.size ≤ w17.heap.size ∧ lkp L16 0 = some (.slice A1 p_l.length c1) ∧ lkp L16 3 = some (.pointer (some ⟨b7, 0, none⟩)) ∧ lkp L16 5 = some (.int .i64 (x14)) ∧ RdS w17 (Iv 0 w.heap.size) (RF e_Write) 3 A1 p_l.length c1 p_l ∧ Box w17 b7 39 [.string (bs (p_w.Key)), .string (bs (p_w.Val)), .bool (p_w.Gone)] ∧ Ex w w17 ∧ (0 ≤ x14 ∧ x14 ≤ (p_l.length : Int)) ∧ loopW (B_s_l5PutW_0 p_l p_w) m15 (x14) = loopW (B_s_l5PutW_0 p_l p_w) ((((p_l.length : Int)).toNat) + 1) ((p_l.length : Int))) ((((p_l.length : Int)).toNat) + 1) ?_ ?_)))
 ·exact ⟨(p_l.length : Int), Nat.lt_succ_self _, Nat.le_refl _, rfl, rfl, rfl, (RdS.ex gW h1 hE12), hB11, (Ex.trans (Ex.refl w) hE12), Bo, rfl⟩
 ·rintro m20 L21 w22 ⟨x14, hk23, hsz25, hl26, hl27, hl28, hf29, hf30, hf31, hv32, hI24⟩
  refine CW.sub (Sub.cons hl26 (Sub.cons hl27 (Sub.cons hl28 (Sub.nil _)))) ?_
  have hf30z := Box.lt hf30
  have hf31z := Ex.size hf31
  refine CW.seq (CW.seq (bcase (decide (0 < x14)) (fun hb33 => ?_) (fun hb33 => ?_)))
  ·have hb33p := dec_t hb33
   obtain ⟨eb34, eo34, _, eA34, _, ebl34, _, eR34, eC34⟩ := RdS.atD hf29 d_Write (i := (IntKind.wrap .i64 (x14 - 1)).toNat) (by first | omega | assumption | (simp only [wI] at *; omega) | (simp only [List.length_append, List.length_nil, wI] at *; omega))
   obtain rfl := eR34
   have eC34 : Cells w22 eb34 (eo34 + ((IntKind.wrap .i64 (x14 - 1)).toNat) * 3) [.string (bs ((p_l.getD ((IntKind.wrap .i64 (x14 - 1)).toNat) d_Write).Key)), .string (bs ((p_l.getD ((IntKind.wrap .i64 (x14 - 1)).toNat) d_Write).Val)), .bool ((p_l.getD ((IntKind.wrap .i64 (x14 - 1)).toNat) d_Write).Gone)] := eC34
   refine drI 13 [.int .i64 (x14), .bool (decide (0 < x14)), .bool (decide (0 < x14)), .slice A1 p_l.length c1, .int .i64 (x14), .int .i64 (IntKind.wrap .i64 (x14 - 1)), .pointer (some ⟨eb34, eo34 + ((IntKind.wrap .i64 (x14 - 1)).toNat) * 3, none⟩), .pointer (some ⟨eb34, eo34 + ((IntKind.wrap .i64 (x14 - 1)).toNat) * 3 + 0, none⟩), .string (bs ((p_l.getD ((IntKind.wrap .i64 (x14 - 1)).toNat) d_Write).Key)), .pointer (some ⟨b7, 0 + 0, none⟩), .string (bs (p_w.Key)), .bool (!(sLe ((p_l.getD ((IntKind.wrap .i64 (x14 - 1)).toNat) d_Write).Key) p_w.Key)), .bool (!(sLe ((p_l.getD ((IntKind.wrap .i64 (x14 - 1)).toNat) d_Write).Key) p_w.Key))] Tryz.follows rfl ⟨?_, ?_, ?_, ?_, ?_, ?_, ?_, ?_, ?_, ?_, ?_, ?_, ?_, trivial⟩ ?_
   ·exact oI rfl fun h => yM rfl (h.old 5 _ rfl rfl) kI
   ·exact oI rfl fun h => yl_gtr rfl (h.dt 0 10 rfl rfl rfl) rfl kI
   ·exact oI rfl fun h => yM rfl (h.dt 1 11 rfl rfl rfl) kI
   ·exact oW rfl rfl rfl rfl hb33 fun h => yM rfl (h.old 0 _ rfl rfl) kI
   ·exact oW rfl rfl rfl rfl hb33 fun h => yM rfl (h.old 5 _ rfl rfl) kI
   ·exact oW rfl rfl rfl rfl hb33 fun h => yl_sub rfl (h.dt 4 14 rfl rfl rfl) rfl kI
   ·intro L68 w69 hi70
    have hE71 := hi70.ex
    have hE71z := Ex.size hE71
    exact OpR.want rfl rfl (hi70.dt 2 12 rfl rfl rfl) hb33 (Yl.sameI (yl_indexAddr un42 ty39 rfl (hi70.dt 3 13 rfl rfl rfl) (hi70.dt 5 15 rfl rfl rfl) eA34 (by first | omega | assumption | (simp only [wI] at *; omega) | (simp only [List.length_append, List.length_nil, wI] at *; omega)) (by first | omega | assumption | (simp only [wI] at *; omega) | (simp only [List.length_append, List.length_nil, wI] at *; omega)) kI))
   ·exact oW rfl rfl rfl rfl hb33 fun h => yl_fieldAddr fd39_0 rfl (h.dt 6 16 rfl rfl rfl) kI
   ·exact oW rfl rfl rfl rfl hb33 fun h => yl_load1 ty9 rfl (h.dt 7 17 rfl rfl rfl) ((Cells.ex eC34 h.ex) 0 _ rfl) kI
   ·exact oW rfl rfl rfl rfl hb33 fun h => yl_fieldAddr fd39_0 rfl (h.old 3 _ rfl rfl) kI
   ·exact oW rfl rfl rfl rfl hb33 fun h => yl_load1 ty9 rfl (h.dt 9 19 rfl rfl rfl) (((Box.ex hf30 h.ex).cell 0).trans rfl) kI
   ·exact oW rfl rfl rfl rfl hb33 fun h => yl_sgtr (a := ((p_l.getD ((IntKind.wrap .i64 (x14 - 1)).toNat) d_Write).Key)) (b := p_w.Key) rfl (h.dt 8 18 rfl rfl rfl) (h.dt 10 20 rfl rfl rfl) kI
   ·exact oI rfl fun h => yl_pick_t rfl (h.dt 2 12 rfl rfl rfl) hb33 (h.dt 11 21 rfl rfl rfl) kI
   ·intro fl117 fh118 L114 w115 hp116
    have hE119 := hp116.ex
    have hE119z := Ex.size hE119
    refine dn (CW.sub (sC 0 (hp116.old 0 _ rfl rfl) (sC 3 (hp116.old 3 _ rfl rfl) (sC 5 (hp116.old 5 _ rfl rfl) (sC 13 (hp116.nt 3 13 rfl rfl rfl) (sC 14 (hp116.nt 4 14 rfl rfl rfl) (sC 15 (hp116.nt 5 15 rfl rfl rfl) (sC 16 (hp116.nt 6 16 rfl rfl rfl) (sC 17 (hp116.nt 7 17 rfl rfl rfl) (sC 18 (hp116.nt 8 18 rfl rfl rfl) (sC 19 (hp116.nt 9 19 rfl rfl rfl) (sC 20 (hp116.nt 10 20 rfl rfl rfl) (sC 21 (hp116.nt 11 21 rfl rfl rfl) (sC 22 (hp116.nt 12 22 rfl rfl rfl) (Sub.nil _)))))))))))))) (bcase (sLe ((p_l.getD ((IntKind.wrap .i64 (x14 - 1)).toNat) d_Write).Key) p_w.Key) (fun hb133 => ?_) (fun hb133 => ?_)))
    ·refine CW.cond_f rfl (not_t hb133) (CW.exit (tx (tx ?_)))
     have hB135 : B_s_l5PutW_0 p_l p_w (x14) = .brk (x14) := by simp only [B_s_l5PutW_0, hb33, hb133, cL]
     have hL134 : loopW (B_s_l5PutW_0 p_l p_w) ((((p_l.length : Int)).toNat) + 1) ((p_l.length : Int)) = .done (x14) := hI24.symm.trans (loopW.brk hk23 hB135)
     refine bx (tn (CW.seq (CW.seq ?_)))
     have q137 := Box.ex hf30 hE119
     refine drI 13 [.int .i64 (x14), .bool (decide (0 < x14)), .bool (decide (0 < x14)), .slice A1 p_l.length c1, .int .i64 (x14), .int .i64 (IntKind.wrap .i64 (x14 - 1)), .pointer (some ⟨eb34, eo34 + ((IntKind.wrap .i64 (x14 - 1)).toNat) * 3, none⟩), .pointer (some ⟨eb34, eo34 + ((IntKind.wrap .i64 (x14 - 1)).toNat) * 3 + 0, none⟩), .string (bs ((p_l.getD ((IntKind.wrap .i64 (x14 - 1)).toNat) d_Write).Key)), .pointer (some ⟨b7, 0 + 0, none⟩), .string (bs (p_w.Key)), .bool (((p_l.getD ((IntKind.wrap .i64 (x14 - 1)).toNat) d_Write).Key) == p_w.Key), .bool (((p_l.getD ((IntKind.wrap .i64 (x14 - 1)).toNat) d_Write).Key) == p_w.Key)] Tryz.follows rfl ⟨?_, ?_, ?_, ?_, ?_, ?_, ?_, ?_, ?_, ?_, ?_, ?_, ?_, trivial⟩ ?_
     ·exact oI rfl fun h => yM rfl (h.old 5 _ rfl rfl) kI
     ·exact oI rfl fun h => yl_gtr rfl (h.dt 0 25 rfl rfl rfl) rfl kI
     ·exact oI rfl fun h => yM rfl (h.dt 1 26 rfl rfl rfl) kI
     ·exact oW rfl rfl rfl rfl hb33 fun h => yM rfl (h.old 0 _ rfl rfl) kI
     ·exact oW rfl rfl rfl rfl hb33 fun h => yM rfl (h.old 5 _ rfl rfl) kI
     ·exact oW rfl rfl rfl rfl hb33 fun h => yl_sub rfl (h.dt 4 29 rfl rfl rfl) rfl kI
     ·intro L171 w172 hi173
      have hE174 := hi173.ex
      have hE174z := Ex.size hE174
      exact OpR.want rfl rfl (hi173.dt 2 27 rfl rfl rfl) hb33 (Yl.sameI (yl_indexAddr un42 ty39 rfl (hi173.dt 3 28 rfl rfl rfl) (hi173.dt 5 30 rfl rfl rfl) eA34 (by first | omega | assumption | (simp only [wI] at *; omega) | (simp only [List.length_append, List.length_nil, wI] at *; omega)) (by first | omega | assumption | (simp only [wI] at *; omega) | (simp only [List.length_append, List.length_nil, wI] at *; omega)) kI))
     ·exact oW rfl rfl rfl rfl hb33 fun h => yl_fieldAddr fd39_0 rfl (h.dt 6 31 rfl rfl rfl) kI
     ·exact oW rfl rfl rfl rfl hb33 fun h => yl_load1 ty9 rfl (h.dt 7 32 rfl rfl rfl) ((Cells.ex (Cells.ex eC34 hE119) h.ex) 0 _ rfl) kI
     ·exact oW rfl rfl rfl rfl hb33 fun h => yl_fieldAddr fd39_0 rfl (h.old 3 _ rfl rfl) kI
     ·exact oW rfl rfl rfl rfl hb33 fun h => yl_load1 ty9 rfl (h.dt 9 34 rfl rfl rfl) (((Box.ex q137 h.ex).cell 0).trans rfl) kI
     ·exact oW rfl rfl rfl rfl hb33 fun h => yl_seql (a := ((p_l.getD ((IntKind.wrap .i64 (x14 - 1)).toNat) d_Write).Key)) (b := p_w.Key) rfl (h.dt 8 33 rfl rfl rfl) (h.dt 10 35 rfl rfl rfl) kI
     ·exact oI rfl fun h => yl_pick_t rfl (h.dt 2 27 rfl rfl rfl) hb33 (h.dt 11 36 rfl rfl rfl) kI
     ·intro fl220 fh221 L217 w218 hp219
      have hE222 := hp219.ex
      have hE222z := Ex.size hE222
      refine dn (CW.sub (sC 0 (hp219.old 0 _ rfl rfl) (sC 3 (hp219.old 3 _ rfl rfl) (sC 5 (hp219.old 5 _ rfl rfl) (sC 37 (hp219.nt 12 37 rfl rfl rfl) (Sub.nil _))))) (bcase (((p_l.getD ((IntKind.wrap .i64 (x14 - 1)).toNat) d_Write).Key) == p_w.Key) (fun hb227 => ?_) (fun hb227 => ?_)))
      ·refine CW.cond_t rfl hb227 (cR (sd rfl (yl_buildSlice (cs := []) un42 ty39 (by decide) rfl opvs_nil (by kernel_rfl) ?_)))
       intro b228 w229 hs230 hz231 hB232 hE233
       have hO234 : OwnL w229 b228 (b228 + 1) 39 3 (RF e_Write) (some ⟨b228, 0, none⟩) 0 0 ([] : List DWrite) := OwnL.of_box (S := fun _ => False) hB232 (Nat.le_refl _) (Nat.lt_succ_self _) EncL.nil (nb rfl) (fun h => h) (fun _ h => False.elim h)
       refine sM rfl ?_
       obtain ⟨nw238, he239, hs240⟩ := RdS.src (RdS.ex gW (RdS.ex gW (RdS.ex gW hf29 hE119) hE222) hE233)
       have hol241 : p_l.length ≤ 2147483648 := o2.1
       refine sd rfl (yl_appendL (S := (fun _ => False)) (lo := b228) (hi := (b228 + 1)) (xs := ([] : List DWrite)) (ys := p_l) gW un42 ty39 rfl (nb rfl) rfl rfl rfl hO234 he239 hs240 rfl Bl Bl oM oM (fun _ h _ => False.elim h) oM ?_)
       intro A242 c243 w244 row245 hO246 hG247 hrg248
       have hG247z := hG247.size
       refine sA rfl (dn (cR (sM rfl (sM rfl (sd rfl (yl_sub rfl rfl rfl (sd rfl (yl_loadN ty39 rfl rfl ((Box.grown (Box.ex (Box.ex q137 hE222) hE233) hG247 (fun k hk => by have := hrg248 k hk; omega)).cells (n := 3) rfl) rfl ?_))))))))
       obtain ⟨eb253, eo253, _, eA253, _, ebl253, _, eR253, eC253⟩ := RdS.atD (OwnL.rd gW hO246) d_Write (i := (IntKind.wrap .i64 (x14 - 1)).toNat) (by first | omega | assumption | (simp only [wI] at *; omega) | (simp only [List.length_append, List.length_nil, wI] at *; omega))
       obtain rfl := eR253
       have eC253 : Cells w244 eb253 (eo253 + ((IntKind.wrap .i64 (x14 - 1)).toNat) * 3) [.string (bs (((([] : List DWrite) ++ p_l).getD ((IntKind.wrap .i64 (x14 - 1)).toNat) d_Write).Key)), .string (bs (((([] : List DWrite) ++ p_l).getD ((IntKind.wrap .i64 (x14 - 1)).toNat) d_Write).Val)), .bool (((([] : List DWrite) ++ p_l).getD ((IntKind.wrap .i64 (x14 - 1)).toNat) d_Write).Gone)] := eC253
       refine sd rfl (yl_indexAddr un42 ty39 rfl rfl rfl eA253 (by first | omega | assumption | (simp only [wI] at *; omega) | (simp only [List.length_append, List.length_nil, wI] at *; omega)) (by first | omega | assumption | (simp only [wI] at *; omega) | (simp only [List.length_append, List.length_nil, wI] at *; omega)) ?_)
       have hrg254 := OwnL.rng hO246 (i := (IntKind.wrap .i64 (x14 - 1)).toNat) (by first | omega | assumption | (simp only [wI] at *; omega) | (simp only [List.length_append, List.length_nil, wI] at *; omega)) eb253 (by rw [eA253]; rfl)
       refine SeqR.u rfl rfl (yl_storeF (off := eo253) (i := (IntKind.wrap .i64 (x14 - 1)).toNat) (d := 0) (dx := d_Write) (x' := p_w) (vs := [.string (bs (p_w.Key)), .string (bs (p_w.Val)), .bool (p_w.Gone)]) ty39 rfl hO246 eA253 rfl rfl rfl rfl rfl (by first | omega | assumption | (simp only [wI] at *; omega) | (simp only [List.length_append, List.length_nil, wI] at *; omega)) (nb rfl) rfl rfl ?_)
       intro w255 hB256 hO257
       have hO257z := hO257.size
       refine dn (cR (sM rfl (sA rfl (dn (CW.ret ?_)))))
       refine tr (rr rfl (.cons rfl .nil) ?_)
       have hM258 : (s_l5PutW p_l p_w) = (((([] : List DWrite) ++ p_l).set ((IntKind.wrap .i64 (x14 - 1)).toNat) p_w)) := by simp only [s_l5PutW, hb33, hb133, hb227, hL134, cL]
       have hfx259 := (hB256).1
       have hol260 : p_l.length ≤ 2147483648 := o2.1
       rw [hM258]
       exact ⟨A242, c243, b228, w244.heap.size, (by first | rfl | (simp only [List.length_replicate, List.length_set]; done) | (simp only [List.length_replicate, List.length_set]; rfl) | rw [hfx259]), (OwnL.fix hB256), (okL.mk (xs := ((([] : List DWrite) ++ p_l).set ((IntKind.wrap .i64 (x14 - 1)).toNat) p_w)) Bl (okE.set (okE.append okE.nil (o2).2) o3)), (by (try dsimp only); first | omega | (simp only [List.length_append, List.length_take, List.length_drop, List.length_set, List.length_cons, List.length_nil]; omega)), oM, (Below.only (Below.grown (Ex.trans (Ex.trans (Ex.trans hf31 hE119) hE222) hE233) hG247 oM (fun k hk => by have := hrg248 k hk; omega)) hO257 oM)⟩
      ·refine CW.cond_f rfl hb227 (CW.skip (tn (cR (sd rfl (yl_buildSlice (cs := []) un42 ty39 (by decide) rfl opvs_nil (by kernel_rfl) ?_)))))
       intro b266 w267 hs268 hz269 hB270 hE271
       have hO272 : OwnL w267 b266 (b266 + 1) 39 3 (RF e_Write) (some ⟨b266, 0, none⟩) 0 0 ([] : List DWrite) := OwnL.of_box (S := fun _ => False) hB270 (Nat.le_refl _) (Nat.lt_succ_self _) EncL.nil (nb rfl) (fun h => h) (fun _ h => False.elim h)
       refine sM rfl (sM rfl ?_)
       have q275 := RdS.ex gW (RdS.ex gW (RdS.ex gW hf29 hE119) hE222) hE271
       obtain ⟨A276, c277, he280, h279⟩ := RdS.sl (RdS.drop q275 (k := (x14).toNat) (by first | omega | assumption | (simp only [wI] at *; omega) | (simp only [List.length_append, List.length_nil, wI] at *; omega)))
       have hrc281 := (q275).2.1
       refine sd rfl (yl_sliceR (kh := .i64) (l := (x14).toNat) (h := p_l.length) un42 ty39 rfl rfl (.inr ⟨_, rfl, (toNat_op rfl (by first | omega | assumption | (simp only [wI] at *; omega) | (simp only [List.length_append, List.length_nil, wI] at *; omega)))⟩) (.inl ⟨rfl, rfl⟩) (by first | omega | assumption | (simp only [wI] at *; omega) | (simp only [List.length_append, List.length_nil, wI] at *; omega)) (by first | omega | assumption | (simp only [wI] at *; omega) | (simp only [List.length_append, List.length_nil, wI] at *; omega)) he280 ?_)
       obtain ⟨nw282, he283, hs284⟩ := RdS.src h279
       have hol285 : (p_l.drop ((x14).toNat)).length ≤ 2147483648 := (okL.drop o2 _).1
       refine sd rfl (yl_appendL (S := (fun _ => False)) (lo := b266) (hi := (b266 + 1)) (xs := ([] : List DWrite)) (ys := (p_l.drop ((x14).toNat))) gW un42 ty39 rfl (nb rfl) rfl rfl rfl hO272 he283 hs284 rfl Bl Bl oM oM (fun _ h _ => False.elim h) oM ?_)
       intro A286 c287 w288 row289 hO290 hG291 hrg292
       have hG291z := hG291.size
       refine sA rfl (dn (CW.seq ?_))
       have q296 := RdS.grown gW q275 hG291 (fun k hk => by have := hrg292 k hk; simp only [Iv]; omega)
       obtain ⟨A297, c298, he301, h300⟩ := RdS.sl (RdS.drop (RdS.take q296 (k := (x14).toNat) (by first | omega | assumption | (simp only [wI] at *; omega) | (simp only [List.length_append, List.length_nil, wI] at *; omega))) (k := 0) (by first | omega | assumption | (simp only [wI] at *; omega) | (simp only [List.length_append, List.length_nil, wI] at *; omega)))
       have hrc302 := (q296).2.1
       refine CW.drawsG 9 (fun _ _ => False) (fun i G b => (i = 7 ∧ (G.fl 4) ≤ b ∧ b < (G.fh 4))) (vgetG [fun G v wq => ∃ A293, v = .slice A293 0 0 ∧ OwnL wq w288.heap.size w288.heap.size 39 3 (RF e_Write) A293 0 0 ([] : List DWrite), DetG (.slice A1 p_l.length c1), DetG (.int .i64 (x14)), fun G v wq => ∃ A297 c298, v = .slice A297 ((p_l.take ((x14).toNat)).length) c298 ∧ RdS wq (Iv 0 w.heap.size) (RF e_Write) 3 A297 (p_l.take ((x14).toNat)).length c298 (p_l.take ((x14).toNat)), fun G v wq => ∃ A304 c305, v = .slice A304 ((([] : List DWrite) ++ (p_l.take ((x14).toNat))).length) c305 ∧ (G.dn 7 = false → OwnL wq (G.fl 4) (G.fh 4) 39 3 (RF e_Write) A304 ((([] : List DWrite) ++ (p_l.take ((x14).toNat))).length) c305 (([] : List DWrite) ++ (p_l.take ((x14).toNat)))), DetG (.agg #[.string (bs (p_w.Key)), .string (bs (p_w.Val)), .bool (p_w.Gone)]), fun G v wq => ∃ A310, v = .slice A310 1 1 ∧ OwnL wq (G.fl 6) (G.fh 6) 39 3 (RF e_Write) A310 1 1 ([p_w] : List DWrite), fun G v wq => ∃ A313 c314, v = .slice A313 (((([] : List DWrite) ++ (p_l.take ((x14).toNat))) ++ ([p_w] : List DWrite)).length) c314 ∧ OwnL wq (G.fl 4) (G.fh 7) 39 3 (RF e_Write) A313 (((([] : List DWrite) ++ (p_l.take ((x14).toNat))) ++ ([p_w] : List DWrite)).length) c314 ((([] : List DWrite) ++ (p_l.take ((x14).toNat))) ++ ([p_w] : List DWrite)), DetG (.slice A286 ((([] : List DWrite) ++ (p_l.drop ((x14).toNat))).length) c287)]) Tryz.follows rfl rfl rfl rfl rfl rfl (fun _ _ _ _ _ h => h) (fun i G w lo hi b K hn hh hp => by exact (match hp with | ⟨e, q1, q2⟩ => by subst e; exact .inr (by have := K.rng 4 (hh 4 rfl); omega))) (vgetG_kept ⟨(by rintro i G v w w' K hn hh hj ⟨A293, hv, h0⟩ e; exact ⟨A293, hv, (by exact OwnL.chg gW h0 e (fun b hb hp => by obtain ⟨rfl, q1, q2⟩ := hp; have := K.rng 4 (hh 4 rfl); skip; omega))⟩), (KeptG.det _), (KeptG.det _), (by rintro i G v w w' K hn hh hj ⟨A297, c298, hv, h0⟩ e; exact ⟨A297, c298, hv, (by exact RdS.chg gW h0 e (fun b hb hp hS => by have hS1 := hS.1; have hS2 := hS.2; obtain ⟨rfl, q1, q2⟩ := hp; have := K.rng 4 (hh 4 rfl); skip; omega))⟩), (by rintro i G v w w' K hn hh hj ⟨A304, c305, hv, h0⟩ e; have d4 : G.dn 4 = true := hj; have u4 := Gh.ufl (lo := w.heap.size) (hi := w'.heap.size) d4 hn; have t4 := Gh.ufh (lo := w.heap.size) (hi := w'.heap.size) d4 hn; exact ⟨A304, c305, hv, (by intro hd; simp only [u4, t4]; exact OwnL.chg gW (h0 (Gh.off hd).2) e (fun b hb hp => by obtain ⟨rfl, q1, q2⟩ := hp; exact absurd rfl (Gh.off hd).1))⟩), (KeptG.det _), (by rintro i G v w w' K hn hh hj ⟨A310, hv, h0⟩ e; have d6 : G.dn 6 = true := hj; have u6 := Gh.ufl (lo := w.heap.size) (hi := w'.heap.size) d6 hn; have t6 := Gh.ufh (lo := w.heap.size) (hi := w'.heap.size) d6 hn; exact ⟨A310, hv, (by simp only [u6, t6]; exact OwnL.chg gW h0 e (fun b hb hp => by obtain ⟨rfl, q1, q2⟩ := hp; have := K.rng 4 (hh 4 rfl); have := K.rng 6 d6; have := K.sep 4 6 (hh 4 rfl) d6 rfl; skip; omega))⟩), (by rintro i G v w w' K hn hh hj ⟨A313, c314, hv, h0⟩ e; have d4 : G.dn 4 = true := K.cl 7 4 hj rfl; have u4 := Gh.ufl (lo := w.heap.size) (hi := w'.heap.size) d4 hn; have t4 := Gh.ufh (lo := w.heap.size) (hi := w'.heap.size) d4 hn; have d7 : G.dn 7 = true := hj; have u7 := Gh.ufl (lo := w.heap.size) (hi := w'.heap.size) d7 hn; have t7 := Gh.ufh (lo := w.heap.size) (hi := w'.heap.size) d7 hn; exact ⟨A313, c314, hv, (by simp only [u4, t4, u7, t7]; exact OwnL.chg gW h0 e (fun b hb hp => by obtain ⟨rfl, q1, q2⟩ := hp; rw [hj] at hn; cases hn))⟩), (KeptG.det _), trivial⟩) ⟨?_, ?_, ?_, ?_, ?_, ?_, ?_, ?_, ?_, trivial⟩ ?_
       ·intro L317 w318 G316 hgk319
        have hE320 := hgk319.st.ex.ex (fun b h => h.elim (fun h => h.elim) (fun h => h))
        have hE320z := Ex.size hE320
        refine OpR.op' rfl (yl_buildSlice (cs := []) un42 ty39 (by decide) rfl opvs_nil (by kernel_rfl) ?_)
        intro b321 w322 hs323 hz324 hB325 hE326
        have hO327 : OwnL w322 b321 (b321 + 1) 39 3 (RF e_Write) (some ⟨b321, 0, none⟩) 0 0 ([] : List DWrite) := OwnL.of_box (S := fun _ => False) hB325 (Nat.le_refl _) (Nat.lt_succ_self _) EncL.nil (nb rfl) (fun h => h) (fun _ h => False.elim h)
        exact ⟨Chg.of_ex hE326, _, rfl, OwnL.empty _ _ _ _ _ _ _⟩
       ·intro L329 w330 G328 hgk331
        have hE332 := hgk331.st.ex.ex (fun b h => h.elim (fun h => h.elim) (fun h => h))
        have hE332z := Ex.size hE332
        exact OpR.op' rfl (Yl.sameG (yM rfl (hgk331.old 0 _ rfl rfl) kI))
       ·intro L335 w336 G334 hgk337
        have hE338 := hgk337.st.ex.ex (fun b h => h.elim (fun h => h.elim) (fun h => h))
        have hE338z := Ex.size hE338
        exact OpR.op' rfl (Yl.sameG (yM rfl (hgk337.old 5 _ rfl rfl) kI))
       ·intro L341 w342 G340 hgk343
        have hE344 := hgk343.st.ex.ex (fun b h => h.elim (fun h => h.elim) (fun h => h))
        have hE344z := Ex.size hE344
        obtain ⟨_, hx345, rfl⟩ := hgk343.val 1 53 rfl rfl
        obtain ⟨_, hx346, rfl⟩ := hgk343.val 2 54 rfl rfl
        have q347 := RdS.ex gW q296 hE344
        obtain ⟨A348, c349, he352, h351⟩ := RdS.sl (RdS.drop (RdS.take q347 (k := (x14).toNat) (by first | omega | assumption | (simp only [wI] at *; omega) | (simp only [List.length_append, List.length_nil, wI] at *; omega))) (k := 0) (by first | omega | assumption | (simp only [wI] at *; omega) | (simp only [List.length_append, List.length_nil, wI] at *; omega)))
        have hrc353 := (q347).2.1
        exact OpR.op' rfl (Yl.sameG (yl_sliceR (kl := .i64) (l := 0) (h := (x14).toNat) un42 ty39 rfl hx345 (.inl ⟨rfl, rfl⟩) (.inr ⟨_, rfl, (toNat_op hx346 (by first | omega | assumption | (simp only [wI] at *; omega) | (simp only [List.length_append, List.length_nil, wI] at *; omega)))⟩) (by first | omega | assumption | (simp only [wI] at *; omega) | (simp only [List.length_append, List.length_nil, wI] at *; omega)) (by first | omega | assumption | (simp only [wI] at *; omega) | (simp only [List.length_append, List.length_nil, wI] at *; omega)) he352 ⟨fun _ _ => ⟨A348, c349, rfl, h351⟩, rfl⟩))
       ·intro L355 w356 G354 hgk357
        have hE358 := hgk357.st.ex.ex (fun b h => h.elim (fun h => h.elim) (fun h => h))
        have hE358z := Ex.size hE358
        obtain ⟨_, hx359, A293_360, rfl, h361⟩ := hgk357.val 0 52 rfl rfl
        obtain ⟨_, hx362, A297_363, c298_364, rfl, h365⟩ := hgk357.val 3 55 rfl rfl
        have hr366 := hgk357.st.rng 0 (hgk357.has 0 rfl)
        have hr367 := hgk357.st.rng 3 (hgk357.has 3 rfl)
        have hsp368 := hgk357.st.sep 0 3 (hgk357.has 0 rfl) (hgk357.has 3 rfl) rfl
        obtain ⟨nw369, he370, hs371⟩ := RdS.src h365
        have hol372 : (p_l.take ((x14).toNat)).length ≤ 2147483648 := (okL.take o2 _).1
        refine OpR.op' rfl (yl_appendL (S := (fun _ => False)) (lo := w356.heap.size) (hi := w356.heap.size) (xs := ([] : List DWrite)) (ys := (p_l.take ((x14).toNat))) gW un42 ty39 rfl (nb rfl) rfl hx359 hx362 (OwnL.empty w356 w356.heap.size w356.heap.size 39 3 (RF e_Write) A293_360) he370 hs371 rfl Bl Bl oM oM (fun _ h _ => False.elim h) oM ?_)
        intro A373 c374 w375 row376 hO377 hG378 hrg379
        have hG378z := hG378.size
        exact ⟨Chg.of_grown hG378 (fun k hk => by have hq := hrg379 k hk; exact absurd hq oM), A373, c374, rfl, fun _ => OwnL.more (lo' := w356.heap.size) (hi' := w375.heap.size) hO377 oM oM⟩
       ·intro L381 w382 G380 hgk383
        have hE384 := hgk383.st.ex.ex (fun b h => h.elim (fun h => h.elim) (fun h => h))
        have hE384z := Ex.size hE384
        exact OpR.op' rfl (Yl.sameG (yl_loadN ty39 rfl (hgk383.old 3 _ rfl rfl) ((Box.ex (Box.grown (Box.ex (Box.ex q137 hE222) hE271) hG291 (fun k hk => by have := hrg292 k hk; omega)) hE384).cells (n := 3) rfl) rfl kI))
       ·intro L388 w389 G387 hgk390
        have hE391 := hgk390.st.ex.ex (fun b h => h.elim (fun h => h.elim) (fun h => h))
        have hE391z := Ex.size hE391
        obtain ⟨_, hx392, rfl⟩ := hgk390.val 5 57 rfl rfl
        refine OpR.op' rfl (yl_buildSlice (cs := [.string (bs (p_w.Key)), .string (bs (p_w.Val)), .bool (p_w.Gone)]) un42 ty39 (by decide) rfl (oc hx392 oz) (by kernel_rfl) ?_)
        intro b393 w394 hs395 hz396 hB397 hE398
        have hO399 : OwnL w394 b393 (b393 + 1) 39 3 (RF e_Write) (some ⟨b393, 0, none⟩) 1 1 ([p_w] : List DWrite) := OwnL.of_box (S := fun _ => False) hB397 (Nat.le_refl _) (Nat.lt_succ_self _) (EncL.cons (c := [.string (bs (p_w.Key)), .string (bs (p_w.Val)), .bool (p_w.Gone)]) rfl rfl EncL.nil) (nb rfl) (fun h => h) (fun _ h => False.elim h)
        exact ⟨Chg.of_ex hE398, (some ⟨b393, 0, none⟩), rfl, OwnL.more (lo' := w389.heap.size) (hi' := w394.heap.size) hO399 oM oM⟩
       ·intro L401 w402 G400 hgk403
        have hE404 := hgk403.st.ex.ex (fun b h => h.elim (fun h => h.elim) (fun h => h))
        have hE404z := Ex.size hE404
        obtain ⟨_, hx405, A304_406, c305_407, rfl, h408⟩ := hgk403.val 4 56 rfl rfl
        have h408 := h408 hgk403.new
        obtain ⟨_, hx409, A310_410, rfl, h411⟩ := hgk403.val 6 58 rfl rfl
        have hr412 := hgk403.st.rng 4 (hgk403.has 4 rfl)
        have hr413 := hgk403.st.rng 6 (hgk403.has 6 rfl)
        have hsp414 := hgk403.st.sep 4 6 (hgk403.has 4 rfl) (hgk403.has 6 rfl) rfl
        have q415 := OwnL.rd gW h411
        obtain ⟨nw416, he417, hs418⟩ := RdS.src q415
        have hol419 : (p_l.take ((x14).toNat)).length ≤ 2147483648 := (okL.take o2 _).1
        refine OpR.op' rfl (yl_appendL (S := (fun _ => False)) (lo := (G400.fl 4)) (hi := (G400.fh 4)) (xs := (([] : List DWrite) ++ (p_l.take ((x14).toNat)))) (ys := ([p_w] : List DWrite)) gW un42 ty39 rfl (nb rfl) rfl hx405 hx409 h408 he417 hs418 (RdS.len q415) Bl Bl oM oM (fun _ h _ => False.elim h) oM ?_)
        intro A420 c421 w422 row423 hO424 hG425 hrg426
        have hG425z := hG425.size
        exact ⟨Chg.of_grown hG425 (fun k hk => by have hq := hrg426 k hk; exact (⟨rfl, oM, by omega⟩)), A420, c421, rfl, OwnL.more (lo' := (G400.fl 4)) (hi' := w422.heap.size) hO424 oM oM⟩
       ·intro L428 w429 G427 hgk430
        have hE431 := hgk430.st.ex.ex (fun b h => h.elim (fun h => h.elim) (fun h => h))
        have hE431z := Ex.size hE431
        exact OpR.op' rfl (Yl.sameG (yM rfl (hgk430.old 7 _ rfl rfl) kI))
       ·intro G433 L434 w435 hgp436
        have hE437 := hgp436.st.ex.ex (fun b h => h.elim (fun h => h.elim) (fun h => h))
        have hE437z := Ex.size hE437
        obtain ⟨_, hx438, A293_439, rfl, h440⟩ := hgp436.val 0 52 rfl rfl
        obtain ⟨_, hx441, A297_442, c298_443, rfl, h444⟩ := hgp436.val 3 55 rfl rfl
        obtain ⟨_, hx445, A310_446, rfl, h447⟩ := hgp436.val 6 58 rfl rfl
        obtain ⟨_, hx448, A313_449, c314_450, rfl, h451⟩ := hgp436.val 7 59 rfl rfl
        obtain ⟨_, hx452, rfl⟩ := hgp436.val 8 60 rfl rfl
        have hr453 := hgp436.st.rng 0 (hgp436.has 0 rfl)
        have hr454 := hgp436.st.rng 3 (hgp436.has 3 rfl)
        have hr455 := hgp436.st.rng 4 (hgp436.has 4 rfl)
        have hr456 := hgp436.st.rng 6 (hgp436.has 6 rfl)
        have hr457 := hgp436.st.rng 7 (hgp436.has 7 rfl)
        have hsp458 := hgp436.st.sep 0 3 (hgp436.has 0 rfl) (hgp436.has 3 rfl) rfl
        have hsp459 := hgp436.st.ord 4 0 (hgp436.has 4 rfl) rfl
        have hsp460 := hgp436.st.sep 0 6 (hgp436.has 0 rfl) (hgp436.has 6 rfl) rfl
        have hsp461 := hgp436.st.ord 7 0 (hgp436.has 7 rfl) rfl
        have hsp462 := hgp436.st.ord 4 3 (hgp436.has 4 rfl) rfl
        have hsp463 := hgp436.st.sep 3 6 (hgp436.has 3 rfl) (hgp436.has 6 rfl) rfl
        have hsp464 := hgp436.st.ord 7 3 (hgp436.has 7 rfl) rfl
        have hsp465 := hgp436.st.sep 4 6 (hgp436.has 4 rfl) (hgp436.has 6 rfl) rfl
        have hsp466 := hgp436.st.ord 7 4 (hgp436.has 7 rfl) rfl
        have hsp467 := hgp436.st.ord 7 6 (hgp436.has 7 rfl) rfl
        obtain ⟨nw470, he471, hs472⟩ := RdS.src (OwnL.rd gW (OwnL.ex gW hO290 hE437))
        have hol473 : (p_l.take ((x14).toNat)).length ≤ 2147483648 := (okL.take o2 _).1
        have hol474 : (p_l.drop ((x14).toNat)).length ≤ 2147483648 := (okL.drop o2 _).1
        refine sd rfl (yl_appendL (S := (fun _ => False)) (lo := (G433.fl 4)) (hi := (G433.fh 7)) (xs := ((([] : List DWrite) ++ (p_l.take ((x14).toNat))) ++ ([p_w] : List DWrite))) (ys := (([] : List DWrite) ++ (p_l.drop ((x14).toNat)))) gW un42 ty39 rfl (nb rfl) rfl hx448 hx452 h451 he471 hs472 rfl Bl Bl oM oM (fun _ h _ => False.elim h) oM ?_)
        intro A475 c476 w477 row478 hO479 hG480 hrg481
        have hG480z := hG480.size
        refine sA rfl (dn (CW.sub (sC 4 rfl (Sub.nil _)) (CW.ret (rr rfl (.cons rfl .nil) ?_))))
        have hM482 : (s_l5PutW p_l p_w) = ((((([] : List DWrite) ++ (p_l.take ((x14).toNat))) ++ ([p_w] : List DWrite)) ++ (([] : List DWrite) ++ (p_l.drop ((x14).toNat))))) := by simp only [s_l5PutW, hb33, hb133, hb227, hL134, cL]
        have hol483 : (p_l.take ((x14).toNat)).length ≤ 2147483648 := (okL.take o2 _).1
        have hol484 : (p_l.drop ((x14).toNat)).length ≤ 2147483648 := (okL.drop o2 _).1
        rw [hM482]
        exact ⟨A475, c476, (G433.fl 4), w477.heap.size, rfl, hO479, (okL.mk (xs := (((([] : List DWrite) ++ (p_l.take ((x14).toNat))) ++ ([p_w] : List DWrite)) ++ (([] : List DWrite) ++ (p_l.drop ((x14).toNat))))) Bl (okE.append (okE.append (okE.append okE.nil ((okL.take o2 _)).2) ((okL.mk (nb rfl) (okE.cons o3 okE.nil))).2) (okE.append okE.nil ((okL.drop o2 _)).2))), (by (try dsimp only); first | omega | (simp only [List.length_append, List.length_take, List.length_drop, List.length_set, List.length_cons, List.length_nil]; omega)), oM, (Below.grown (Ex.trans (Below.grown (Ex.trans (Ex.trans (Ex.trans hf31 hE119) hE222) hE271) hG291 oM (fun k hk => by have := hrg292 k hk; omega)) hE437) hG480 oM (fun k hk => by have := hrg481 k hk; omega))⟩
    ·refine CW.cond_t rfl (not_f hb133) (CW.skip (tn (CW.block (CW.region (sM rfl (sd rfl (yl_sub rfl rfl rfl (sA rfl (SeqR.done ?_)))))))))
     refine bn (tn ?_)
     have hB491 : B_s_l5PutW_0 p_l p_w (x14) = .cont (IntKind.wrap .i64 (x14 - 1)) := by simp only [B_s_l5PutW_0, hb33, hb133, cL]
     have hmu495 : ((IntKind.wrap .i64 (x14 - 1)).toNat) < ((x14).toNat) := by first | omega | assumption | (simp only [wI] at *; omega)
     exact ⟨m20 - 1, oM, IntKind.wrap .i64 (x14 - 1), oM, oM, rfl, rfl, rfl, (RdS.ex gW hf29 hE119), (Box.ex hf30 hE119), (Ex.trans hf31 hE119), Bo, (loopW.cont hk23 hB491).symm.trans hI24⟩
  ·have hb33p := dec_f hb33
   refine drI 13 [.int .i64 (x14), .bool (decide (0 < x14)), .bool (decide (0 < x14)), undef, undef, undef, undef, undef, undef, undef, undef, undef, .bool (false)] Tryz.follows rfl ⟨?_, ?_, ?_, ?_, ?_, ?_, ?_, ?_, ?_, ?_, ?_, ?_, ?_, trivial⟩ ?_
   ·exact oI rfl fun h => yM rfl (h.old 5 _ rfl rfl) kI
   ·exact oI rfl fun h => yl_gtr rfl (h.dt 0 10 rfl rfl rfl) rfl kI
   ·exact oI rfl fun h => yM rfl (h.dt 1 11 rfl rfl rfl) kI
   ·exact oS rfl rfl rfl rfl rfl hb33
   ·exact oS rfl rfl rfl rfl rfl hb33
   ·exact oS rfl rfl rfl rfl rfl hb33
   ·exact oS rfl rfl rfl rfl rfl hb33
   ·exact oS rfl rfl rfl rfl rfl hb33
   ·exact oS rfl rfl rfl rfl rfl hb33
   ·exact oS rfl rfl rfl rfl rfl hb33
   ·exact oS rfl rfl rfl rfl rfl hb33
   ·exact oS rfl rfl rfl rfl rfl hb33
   ·exact oI rfl fun h => yl_pick_f rfl (h.dt 2 12 rfl rfl rfl) hb33 rfl kI
   ·intro fl565 fh566 L562 w563 hp564
    have hE567 := hp564.ex
    have hE567z := Ex.size hE567
    refine dn (CW.sub (sC 0 (hp564.old 0 _ rfl rfl) (sC 3 (hp564.old 3 _ rfl rfl) (sC 5 (hp564.old 5 _ rfl rfl) (sC 13 (hp564.nt 3 13 rfl rfl rfl) (sC 14 (hp564.nt 4 14 rfl rfl rfl) (sC 15 (hp564.nt 5 15 rfl rfl rfl) (sC 16 (hp564.nt 6 16 rfl rfl rfl) (sC 17 (hp564.nt 7 17 rfl rfl rfl) (sC 18 (hp564.nt 8 18 rfl rfl rfl) (sC 19 (hp564.nt 9 19 rfl rfl rfl) (sC 20 (hp564.nt 10 20 rfl rfl rfl) (sC 21 (hp564.nt 11 21 rfl rfl rfl) (sC 22 (hp564.nt 12 22 rfl rfl rfl) (Sub.nil _)))))))))))))) (CW.cond_f rfl rfl (CW.exit (tx (tx ?_)))))
    have hB582 : B_s_l5PutW_0 p_l p_w (x14) = .brk (x14) := by simp only [B_s_l5PutW_0, hb33, cL]
    have hL581 : loopW (B_s_l5PutW_0 p_l p_w) ((((p_l.length : Int)).toNat) + 1) ((p_l.length : Int)) = .done (x14) := hI24.symm.trans (loopW.brk hk23 hB582)
    refine bx (tn (CW.seq (CW.seq (drI 13 [.int .i64 (x14), .bool (decide (0 < x14)), .bool (decide (0 < x14)), undef, undef, undef, undef, undef, undef, undef, undef, undef, .bool (false)] Tryz.follows rfl ⟨?_, ?_, ?_, ?_, ?_, ?_, ?_, ?_, ?_, ?_, ?_, ?_, ?_, trivial⟩ ?_))))
    ·exact oI rfl fun h => yM rfl (h.old 5 _ rfl rfl) kI
    ·exact oI rfl fun h => yl_gtr rfl (h.dt 0 25 rfl rfl rfl) rfl kI
    ·exact oI rfl fun h => yM rfl (h.dt 1 26 rfl rfl rfl) kI
    ·exact oS rfl rfl rfl rfl rfl hb33
    ·exact oS rfl rfl rfl rfl rfl hb33
    ·exact oS rfl rfl rfl rfl rfl hb33
    ·exact oS rfl rfl rfl rfl rfl hb33
    ·exact oS rfl rfl rfl rfl rfl hb33
    ·exact oS rfl rfl rfl rfl rfl hb33
    ·exact oS rfl rfl rfl rfl rfl hb33
    ·exact oS rfl rfl rfl rfl rfl hb33
    ·exact oS rfl rfl rfl rfl rfl hb33
    ·exact oI rfl fun h => yl_pick_f rfl (h.dt 2 27 rfl rfl rfl) hb33 rfl kI
    ·intro fl652 fh653 L649 w650 hp651
     have hE654 := hp651.ex
     have hE654z := Ex.size hE654
     refine dn (CW.sub (sC 0 (hp651.old 0 _ rfl rfl) (sC 3 (hp651.old 3 _ rfl rfl) (sC 5 (hp651.old 5 _ rfl rfl) (sC 37 (hp651.nt 12 37 rfl rfl rfl) (Sub.nil _))))) (CW.cond_f rfl rfl (CW.skip (tn (cR (sd rfl (yl_buildSlice (cs := []) un42 ty39 (by decide) rfl opvs_nil (by kernel_rfl) ?_)))))))
     intro b659 w660 hs661 hz662 hB663 hE664
     have hO665 : OwnL w660 b659 (b659 + 1) 39 3 (RF e_Write) (some ⟨b659, 0, none⟩) 0 0 ([] : List DWrite) := OwnL.of_box (S := fun _ => False) hB663 (Nat.le_refl _) (Nat.lt_succ_self _) EncL.nil (nb rfl) (fun h => h) (fun _ h => False.elim h)
     refine sM rfl (sM rfl ?_)
     have q668 := RdS.ex gW (RdS.ex gW (RdS.ex gW hf29 hE567) hE654) hE664
     obtain ⟨A669, c670, he673, h672⟩ := RdS.sl (RdS.drop q668 (k := (x14).toNat) (by first | omega | assumption | (simp only [wI] at *; omega) | (simp only [List.length_append, List.length_nil, wI] at *; omega)))
     have hrc674 := (q668).2.1
     refine sd rfl (yl_sliceR (kh := .i64) (l := (x14).toNat) (h := p_l.length) un42 ty39 rfl rfl (.inr ⟨_, rfl, (toNat_op rfl (by first | omega | assumption | (simp only [wI] at *; omega) | (simp only [List.length_append, List.length_nil, wI] at *; omega)))⟩) (.inl ⟨rfl, rfl⟩) (by first | omega | assumption | (simp only [wI] at *; omega) | (simp only [List.length_append, List.length_nil, wI] at *; omega)) (by first | omega | assumption | (simp only [wI] at *; omega) | (simp only [List.length_append, List.length_nil, wI] at *; omega)) he673 ?_)
     obtain ⟨nw675, he676, hs677⟩ := RdS.src h672
     have hol678 : (p_l.drop ((x14).toNat)).length ≤ 2147483648 := (okL.drop o2 _).1
     refine sd rfl (yl_appendL (S := (fun _ => False)) (lo := b659) (hi := (b659 + 1)) (xs := ([] : List DWrite)) (ys := (p_l.drop ((x14).toNat))) gW un42 ty39 rfl (nb rfl) rfl rfl rfl hO665 he676 hs677 rfl Bl Bl oM oM (fun _ h _ => False.elim h) oM ?_)
     intro A679 c680 w681 row682 hO683 hG684 hrg685
     have hG684z := hG684.size
     refine sA rfl (dn (CW.seq ?_))
     have q689 := RdS.grown gW q668 hG684 (fun k hk => by have := hrg685 k hk; simp only [Iv]; omega)
     obtain ⟨A690, c691, he694, h693⟩ := RdS.sl (RdS.drop (RdS.take q689 (k := (x14).toNat) (by first | omega | assumption | (simp only [wI] at *; omega) | (simp only [List.length_append, List.length_nil, wI] at *; omega))) (k := 0) (by first | omega | assumption | (simp only [wI] at *; omega) | (simp only [List.length_append, List.length_nil, wI] at *; omega)))
     have hrc695 := (q689).2.1
     refine CW.drawsG 9 (fun _ _ => False) (fun i G b => (i = 7 ∧ (G.fl 4) ≤ b ∧ b < (G.fh 4))) (vgetG [fun G v wq => ∃ A686, v = .slice A686 0 0 ∧ OwnL wq w681.heap.size w681.heap.size 39 3 (RF e_Write) A686 0 0 ([] : List DWrite), DetG (.slice A1 p_l.length c1), DetG (.int .i64 (x14)), fun G v wq => ∃ A690 c691, v = .slice A690 ((p_l.take ((x14).toNat)).length) c691 ∧ RdS wq (Iv 0 w.heap.size) (RF e_Write) 3 A690 (p_l.take ((x14).toNat)).length c691 (p_l.take ((x14).toNat)), fun G v wq => ∃ A697 c698, v = .slice A697 ((([] : List DWrite) ++ (p_l.take ((x14).toNat))).length) c698 ∧ (G.dn 7 = false → OwnL wq (G.fl 4) (G.fh 4) 39 3 (RF e_Write) A697 ((([] : List DWrite) ++ (p_l.take ((x14).toNat))).length) c698 (([] : List DWrite) ++ (p_l.take ((x14).toNat)))), DetG (.agg #[.string (bs (p_w.Key)), .string (bs (p_w.Val)), .bool (p_w.Gone)]), fun G v wq => ∃ A704, v = .slice A704 1 1 ∧ OwnL wq (G.fl 6) (G.fh 6) 39 3 (RF e_Write) A704 1 1 ([p_w] : List DWrite), fun G v wq => ∃ A707 c708, v = .slice A707 (((([] : List DWrite) ++ (p_l.take ((x14).toNat))) ++ ([p_w] : List DWrite)).length) c708 ∧ OwnL wq (G.fl 4) (G.fh 7) 39 3 (RF e_Write) A707 (((([] : List DWrite) ++ (p_l.take ((x14).toNat))) ++ ([p_w] : List DWrite)).length) c708 ((([] : List DWrite) ++ (p_l.take ((x14).toNat))) ++ ([p_w] : List DWrite)), DetG (.slice A679 ((([] : List DWrite) ++ (p_l.drop ((x14).toNat))).length) c680)]) Tryz.follows rfl rfl rfl rfl rfl rfl (fun _ _ _ _ _ h => h) (fun i G w lo hi b K hn hh hp => by exact (match hp with | ⟨e, q1, q2⟩ => by subst e; exact .inr (by have := K.rng 4 (hh 4 rfl); omega))) (vgetG_kept ⟨(by rintro i G v w w' K hn hh hj ⟨A686, hv, h0⟩ e; exact ⟨A686, hv, (by exact OwnL.chg gW h0 e (fun b hb hp => by obtain ⟨rfl, q1, q2⟩ := hp; have := K.rng 4 (hh 4 rfl); skip; omega))⟩), (KeptG.det _), (KeptG.det _), (by rintro i G v w w' K hn hh hj ⟨A690, c691, hv, h0⟩ e; exact ⟨A690, c691, hv, (by exact RdS.chg gW h0 e (fun b hb hp hS => by have hS1 := hS.1; have hS2 := hS.2; obtain ⟨rfl, q1, q2⟩ := hp; have := K.rng 4 (hh 4 rfl); skip; omega))⟩), (by rintro i G v w w' K hn hh hj ⟨A697, c698, hv, h0⟩ e; have d4 : G.dn 4 = true := hj; have u4 := Gh.ufl (lo := w.heap.size) (hi := w'.heap.size) d4 hn; have t4 := Gh.ufh (lo := w.heap.size) (hi := w'.heap.size) d4 hn; exact ⟨A697, c698, hv, (by intro hd; simp only [u4, t4]; exact OwnL.chg gW (h0 (Gh.off hd).2) e (fun b hb hp => by obtain ⟨rfl, q1, q2⟩ := hp; exact absurd rfl (Gh.off hd).1))⟩), (KeptG.det _), (by rintro i G v w w' K hn hh hj ⟨A704, hv, h0⟩ e; have d6 : G.dn 6 = true := hj; have u6 := Gh.ufl (lo := w.heap.size) (hi := w'.heap.size) d6 hn; have t6 := Gh.ufh (lo := w.heap.size) (hi := w'.heap.size) d6 hn; exact ⟨A704, hv, (by simp only [u6, t6]; exact OwnL.chg gW h0 e (fun b hb hp => by obtain ⟨rfl, q1, q2⟩ := hp; have := K.rng 4 (hh 4 rfl); have := K.rng 6 d6; have := K.sep 4 6 (hh 4 rfl) d6 rfl; skip; omega))⟩), (by rintro i G v w w' K hn hh hj ⟨A707, c708, hv, h0⟩ e; have d4 : G.dn 4 = true := K.cl 7 4 hj rfl; have u4 := Gh.ufl (lo := w.heap.size) (hi := w'.heap.size) d4 hn; have t4 := Gh.ufh (lo := w.heap.size) (hi := w'.heap.size) d4 hn; have d7 : G.dn 7 = true := hj; have u7 := Gh.ufl (lo := w.heap.size) (hi := w'.heap.size) d7 hn; have t7 := Gh.ufh (lo := w.heap.size) (hi := w'.heap.size) d7 hn; exact ⟨A707, c708, hv, (by simp only [u4, t4, u7, t7]; exact OwnL.chg gW h0 e (fun b hb hp => by obtain ⟨rfl, q1, q2⟩ := hp; rw [hj] at hn; cases hn))⟩), (KeptG.det _), trivial⟩) ⟨?_, ?_, ?_, ?_, ?_, ?_, ?_, ?_, ?_, trivial⟩ ?_
     ·intro L711 w712 G710 hgk713
      have hE714 := hgk713.st.ex.ex (fun b h => h.elim (fun h => h.elim) (fun h => h))
      have hE714z := Ex.size hE714
      refine OpR.op' rfl (yl_buildSlice (cs := []) un42 ty39 (by decide) rfl opvs_nil (by kernel_rfl) ?_)
      intro b715 w716 hs717 hz718 hB719 hE720
      have hO721 : OwnL w716 b715 (b715 + 1) 39 3 (RF e_Write) (some ⟨b715, 0, none⟩) 0 0 ([] : List DWrite) := OwnL.of_box (S := fun _ => False) hB719 (Nat.le_refl _) (Nat.lt_succ_self _) EncL.nil (nb rfl) (fun h => h) (fun _ h => False.elim h)
      exact ⟨Chg.of_ex hE720, _, rfl, OwnL.empty _ _ _ _ _ _ _⟩
     ·intro L723 w724 G722 hgk725
      have hE726 := hgk725.st.ex.ex (fun b h => h.elim (fun h => h.elim) (fun h => h))
      have hE726z := Ex.size hE726
      exact OpR.op' rfl (Yl.sameG (yM rfl (hgk725.old 0 _ rfl rfl) kI))
     ·intro L729 w730 G728 hgk731
      have hE732 := hgk731.st.ex.ex (fun b h => h.elim (fun h => h.elim) (fun h => h))
      have hE732z := Ex.size hE732
      exact OpR.op' rfl (Yl.sameG (yM rfl (hgk731.old 5 _ rfl rfl) kI))
     ·intro L735 w736 G734 hgk737
      have hE738 := hgk737.st.ex.ex (fun b h => h.elim (fun h => h.elim) (fun h => h))
      have hE738z := Ex.size hE738
      obtain ⟨_, hx739, rfl⟩ := hgk737.val 1 53 rfl rfl
      obtain ⟨_, hx740, rfl⟩ := hgk737.val 2 54 rfl rfl
      have q741 := RdS.ex gW q689 hE738
      obtain ⟨A742, c743, he746, h745⟩ := RdS.sl (RdS.drop (RdS.take q741 (k := (x14).toNat) (by first | omega | assumption | (simp only [wI] at *; omega) | (simp only [List.length_append, List.length_nil, wI] at *; omega))) (k := 0) (by first | omega | assumption | (simp only [wI] at *; omega) | (simp only [List.length_append, List.length_nil, wI] at *; omega)))
      have hrc747 := (q741).2.1
      exact OpR.op' rfl (Yl.sameG (yl_sliceR (kl := .i64) (l := 0) (h := (x14).toNat) un42 ty39 rfl hx739 (.inl ⟨rfl, rfl⟩) (.inr ⟨_, rfl, (toNat_op hx740 (by first | omega | assumption | (simp only [wI] at *; omega) | (simp only [List.length_append, List.length_nil, wI] at *; omega)))⟩) (by first | omega | assumption | (simp only [wI] at *; omega) | (simp only [List.length_append, List.length_nil, wI] at *; omega)) (by first | omega | assumption | (simp only [wI] at *; omega) | (simp only [List.length_append, List.length_nil, wI] at *; omega)) he746 ⟨fun _ _ => ⟨A742, c743, rfl, h745⟩, rfl⟩))
     ·intro L749 w750 G748 hgk751
      have hE752 := hgk751.st.ex.ex (fun b h => h.elim (fun h => h.elim) (fun h => h))
      have hE752z := Ex.size hE752
      obtain ⟨_, hx753, A686_754, rfl, h755⟩ := hgk751.val 0 52 rfl rfl
      obtain ⟨_, hx756, A690_757, c691_758, rfl, h759⟩ := hgk751.val 3 55 rfl rfl
      have hr760 := hgk751.st.rng 0 (hgk751.has 0 rfl)
      have hr761 := hgk751.st.rng 3 (hgk751.has 3 rfl)
      have hsp762 := hgk751.st.sep 0 3 (hgk751.has 0 rfl) (hgk751.has 3 rfl) rfl
      obtain ⟨nw763, he764, hs765⟩ := RdS.src h759
      have hol766 : (p_l.take ((x14).toNat)).length ≤ 2147483648 := (okL.take o2 _).1
      refine OpR.op' rfl (yl_appendL (S := (fun _ => False)) (lo := w750.heap.size) (hi := w750.heap.size) (xs := ([] : List DWrite)) (ys := (p_l.take ((x14).toNat))) gW un42 ty39 rfl (nb rfl) rfl hx753 hx756 (OwnL.empty w750 w750.heap.size w750.heap.size 39 3 (RF e_Write) A686_754) he764 hs765 rfl Bl Bl oM oM (fun _ h _ => False.elim h) oM ?_)
      intro A767 c768 w769 row770 hO771 hG772 hrg773
      have hG772z := hG772.size
      exact ⟨Chg.of_grown hG772 (fun k hk => by have hq := hrg773 k hk; exact absurd hq oM), A767, c768, rfl, fun _ => OwnL.more (lo' := w750.heap.size) (hi' := w769.heap.size) hO771 oM oM⟩
     ·intro L775 w776 G774 hgk777
      have hE778 := hgk777.st.ex.ex (fun b h => h.elim (fun h => h.elim) (fun h => h))
      have hE778z := Ex.size hE778
      exact OpR.op' rfl (Yl.sameG (yl_loadN ty39 rfl (hgk777.old 3 _ rfl rfl) ((Box.ex (Box.grown (Box.ex (Box.ex (Box.ex hf30 hE567) hE654) hE664) hG684 (fun k hk => by have := hrg685 k hk; omega)) hE778).cells (n := 3) rfl) rfl kI))
     ·intro L782 w783 G781 hgk784
      have hE785 := hgk784.st.ex.ex (fun b h => h.elim (fun h => h.elim) (fun h => h))
      have hE785z := Ex.size hE785
      obtain ⟨_, hx786, rfl⟩ := hgk784.val 5 57 rfl rfl
      refine OpR.op' rfl (yl_buildSlice (cs := [.string (bs (p_w.Key)), .string (bs (p_w.Val)), .bool (p_w.Gone)]) un42 ty39 (by decide) rfl (oc hx786 oz) (by kernel_rfl) ?_)
      intro b787 w788 hs789 hz790 hB791 hE792
      have hO793 : OwnL w788 b787 (b787 + 1) 39 3 (RF e_Write) (some ⟨b787, 0, none⟩) 1 1 ([p_w] : List DWrite) := OwnL.of_box (S := fun _ => False) hB791 (Nat.le_refl _) (Nat.lt_succ_self _) (EncL.cons (c := [.string (bs (p_w.Key)), .string (bs (p_w.Val)), .bool (p_w.Gone)]) rfl rfl EncL.nil) (nb rfl) (fun h => h) (fun _ h => False.elim h)
      exact ⟨Chg.of_ex hE792, (some ⟨b787, 0, none⟩), rfl, OwnL.more (lo' := w783.heap.size) (hi' := w788.heap.size) hO793 oM oM⟩
     ·intro L795 w796 G794 hgk797
      have hE798 := hgk797.st.ex.ex (fun b h => h.elim (fun h => h.elim) (fun h => h))
      have hE798z := Ex.size hE798
      obtain ⟨_, hx799, A697_800, c698_801, rfl, h802⟩ := hgk797.val 4 56 rfl rfl
      have h802 := h802 hgk797.new
      obtain ⟨_, hx803, A704_804, rfl, h805⟩ := hgk797.val 6 58 rfl rfl
      have hr806 := hgk797.st.rng 4 (hgk797.has 4 rfl)
      have hr807 := hgk797.st.rng 6 (hgk797.has 6 rfl)
      have hsp808 := hgk797.st.sep 4 6 (hgk797.has 4 rfl) (hgk797.has 6 rfl) rfl
      have q809 := OwnL.rd gW h805
      obtain ⟨nw810, he811, hs812⟩ := RdS.src q809
      have hol813 : (p_l.take ((x14).toNat)).length ≤ 2147483648 := (okL.take o2 _).1
      refine OpR.op' rfl (yl_appendL (S := (fun _ => False)) (lo := (G794.fl 4)) (hi := (G794.fh 4)) (xs := (([] : List DWrite) ++ (p_l.take ((x14).toNat)))) (ys := ([p_w] : List DWrite)) gW un42 ty39 rfl (nb rfl) rfl hx799 hx803 h802 he811 hs812 (RdS.len q809) Bl Bl oM oM (fun _ h _ => False.elim h) oM ?_)
      intro A814 c815 w816 row817 hO818 hG819 hrg820
      have hG819z := hG819.size
      exact ⟨Chg.of_grown hG819 (fun k hk => by have hq := hrg820 k hk; exact (⟨rfl, oM, by omega⟩)), A814, c815, rfl, OwnL.more (lo' := (G794.fl 4)) (hi' := w816.heap.size) hO818 oM oM⟩
     ·intro L822 w823 G821 hgk824
      have hE825 := hgk824.st.ex.ex (fun b h => h.elim (fun h => h.elim) (fun h => h))
      have hE825z := Ex.size hE825
      exact OpR.op' rfl (Yl.sameG (yM rfl (hgk824.old 7 _ rfl rfl) kI))
     ·intro G827 L828 w829 hgp830
      have hE831 := hgp830.st.ex.ex (fun b h => h.elim (fun h => h.elim) (fun h => h))
      have hE831z := Ex.size hE831
      obtain ⟨_, hx832, A686_833, rfl, h834⟩ := hgp830.val 0 52 rfl rfl
      obtain ⟨_, hx835, A690_836, c691_837, rfl, h838⟩ := hgp830.val 3 55 rfl rfl
      obtain ⟨_, hx839, A704_840, rfl, h841⟩ := hgp830.val 6 58 rfl rfl
      obtain ⟨_, hx842, A707_843, c708_844, rfl, h845⟩ := hgp830.val 7 59 rfl rfl
      obtain ⟨_, hx846, rfl⟩ := hgp830.val 8 60 rfl rfl
      have hr847 := hgp830.st.rng 0 (hgp830.has 0 rfl)
      have hr848 := hgp830.st.rng 3 (hgp830.has 3 rfl)
      have hr849 := hgp830.st.rng 4 (hgp830.has 4 rfl)
      have hr850 := hgp830.st.rng 6 (hgp830.has 6 rfl)
      have hr851 := hgp830.st.rng 7 (hgp830.has 7 rfl)
      have hsp852 := hgp830.st.sep 0 3 (hgp830.has 0 rfl) (hgp830.has 3 rfl) rfl
      have hsp853 := hgp830.st.ord 4 0 (hgp830.has 4 rfl) rfl
      have hsp854 := hgp830.st.sep 0 6 (hgp830.has 0 rfl) (hgp830.has 6 rfl) rfl
      have hsp855 := hgp830.st.ord 7 0 (hgp830.has 7 rfl) rfl
      have hsp856 := hgp830.st.ord 4 3 (hgp830.has 4 rfl) rfl
      have hsp857 := hgp830.st.sep 3 6 (hgp830.has 3 rfl) (hgp830.has 6 rfl) rfl
      have hsp858 := hgp830.st.ord 7 3 (hgp830.has 7 rfl) rfl
      have hsp859 := hgp830.st.sep 4 6 (hgp830.has 4 rfl) (hgp830.has 6 rfl) rfl
      have hsp860 := hgp830.st.ord 7 4 (hgp830.has 7 rfl) rfl
      have hsp861 := hgp830.st.ord 7 6 (hgp830.has 7 rfl) rfl
      obtain ⟨nw864, he865, hs866⟩ := RdS.src (OwnL.rd gW (OwnL.ex gW hO683 hE831))
      have hol867 : (p_l.take ((x14).toNat)).length ≤ 2147483648 := (okL.take o2 _).1
      have hol868 : (p_l.drop ((x14).toNat)).length ≤ 2147483648 := (okL.drop o2 _).1
      refine sd rfl (yl_appendL (S := (fun _ => False)) (lo := (G827.fl 4)) (hi := (G827.fh 7)) (xs := ((([] : List DWrite) ++ (p_l.take ((x14).toNat))) ++ ([p_w] : List DWrite))) (ys := (([] : List DWrite) ++ (p_l.drop ((x14).toNat)))) gW un42 ty39 rfl (nb rfl) rfl hx842 hx846 h845 he865 hs866 rfl Bl Bl oM oM (fun _ h _ => False.elim h) oM ?_)
      intro A869 c870 w871 row872 hO873 hG874 hrg875
      have hG874z := hG874.size
      refine sA rfl (dn (CW.sub (sC 4 rfl (Sub.nil _)) (CW.ret (rr rfl (.cons rfl .nil) ?_))))
      have hM876 : (s_l5PutW p_l p_w) = ((((([] : List DWrite) ++ (p_l.take ((x14).toNat))) ++ ([p_w] : List DWrite)) ++ (([] : List DWrite) ++ (p_l.drop ((x14).toNat))))) := by simp only [s_l5PutW, hb33, hL581, cL]
      have hol877 : (p_l.take ((x14).toNat)).length ≤ 2147483648 := (okL.take o2 _).1
      have hol878 : (p_l.drop ((x14).toNat)).length ≤ 2147483648 := (okL.drop o2 _).1
      rw [hM876]
      exact ⟨A869, c870, (G827.fl 4), w871.heap.size, rfl, hO873, (okL.mk (xs := (((([] : List DWrite) ++ (p_l.take ((x14).toNat))) ++ ([p_w] : List DWrite)) ++ (([] : List DWrite) ++ (p_l.drop ((x14).toNat))))) Bl (okE.append (okE.append (okE.append okE.nil ((okL.take o2 _)).2) ((okL.mk (nb rfl) (okE.cons o3 okE.nil))).2) (okE.append okE.nil ((okL.drop o2 _)).2))), (by (try dsimp only); first | omega | (simp only [List.length_append, List.length_take, List.length_drop, List.length_set, List.length_cons, List.length_nil]; omega)), oM, (Below.grown (Ex.trans (Below.grown (Ex.trans (Ex.trans (Ex.trans hf31 hE567) hE654) hE664) hG684 oM (fun k hk => by have := hrg685 k hk; omega)) hE831) hG874 oM (fun k hk => by have := hrg875 k hk; omega))⟩
theorem c_s_l5Stands {A1 : Option Addr} {c1 : Nat} {A3 : Option Addr} {c3 : Nat} {w : World} (p_buf : List DWrite) (p_got : List DGot) (p_key : Str) (h1 : RdS w (Iv 0 w.heap.size) (RF e_Write) 3 A1 p_buf.length c1 p_buf) (h3 : RdS w (Iv 0 w.heap.size) (RF e_Got) 3 A3 p_got.length c3 p_got) (o2 : (okL ok_Write) p_buf) (o4 : (okL ok_Got) p_got) (o5 : okS p_key) : Cal Tryz.prog 83 #[.slice A1 p_buf.length c1, .slice A3 p_got.length c3, .string (bs (p_key))] w fun v w' => v = .tuple #[.string (bs ((s_l5Stands p_buf p_got p_key).1)), .bool ((s_l5Stands p_buf p_got p_key).2.1), .bool ((s_l5Stands p_buf p_got p_key).2.2)] ∧ okS ((s_l5Stands p_buf p_got p_key).1) ∧ Ex w w' := by
 have hol6 := o2.1
 have hol7 := o4.1
 have hol8 : p_key.length ≤ 1073741824 := o5
 refine Cal.of func83 rfl ntmps83 rfl (cR (sA rfl (sA rfl (sA rfl (dn (CW.seq ?_))))))
 refine cR (sM rfl (sd rfl (yL un42 rfl rfl (sM rfl (dn (CW.block (CW.loop (fun m21 L22 w23 => ∃ (k9 : Nat), m21 = p_buf.length - k9 ∧ k9 ≤ p_buf.length ∧ w.heap.size ≤ w23.heap.size ∧ lkp L22 1 = some (.slice A3 p_got.length c3) ∧ lkp L22 2 = some (.string (bs (p_key))) ∧ lkp L22 13 = some (.slice A1 p_buf.length c1) ∧ lkp L22 14 = some (.int .i64 ((p_buf.length : Int))) ∧ lkp L22 15 = some (.int .i64 ((k9 : Int))) ∧ RdS w23 (Iv 0 w.heap.size) (RF e_Got) 3 A3 p_got.length c3 p_got ∧ RdS w23 (Iv 0 w.heap.size) (RF e_Write) 3 A1 p_buf.length c1 p_buf ∧ Ex w w23 ∧ loopM (B_s_l5Stands_0 p_buf p_got p_key) (p_buf.length - k9) k9 () = loopM (B_s_l5Stands_0 p_buf p_got p_key) (p_buf.length - 0) 0 ()) (p_buf.length - 0) ?_ ?_)))))))
 ·exact ⟨0, rfl, oM, Nat.le_refl _, rfl, rfl, rfl, rfl, rfl, h3, h1, (Ex.refl w), rfl⟩
 ·rintro m24 L25 w26 ⟨k9, rfl, hk27, hsz29, hl30, hl31, hl32, hl33, hl34, hf35, hf36, hf37, hI28⟩
  refine CW.sub (Sub.cons hl30 (Sub.cons hl31 (Sub.cons hl32 (Sub.cons hl33 (Sub.cons hl34 (Sub.nil _)))))) ?_
  have hf37z := Ex.size hf37
  have hbg38 := RdS.big hf36
  rcases Nat.lt_or_ge k9 p_buf.length with hlt39 | hlt39
  ·refine cR (sd rfl (yl_lss rfl rfl rfl (dn (CW.seq (CW.cond_t rfl (lt_t hlt39) (CW.skip (tn ?_)))))))
   refine CW.seq (CW.block (cR ?_))
   obtain ⟨eb40, eo40, _, eA40, _, ebl40, _, eR40, eC40⟩ := RdS.aD hf36 d_Write (i := k9)
   obtain rfl := eR40
   have eC40 : Cells w26 eb40 (eo40 + k9 * 3) [.string (bs ((p_buf.getD k9 d_Write).Key)), .string (bs ((p_buf.getD k9 d_Write).Val)), .bool ((p_buf.getD k9 d_Write).Gone)] := eC40
   refine sd rfl (yl_ixN un42 ty39 rfl rfl rfl eA40 (sd rfl (yl_loadN ty39 rfl rfl eC40 rfl (sd rfl (yB ty39 (cs := [.string (bs (([] : Str))), .string (bs (([] : Str))), .bool (false)]) rfl rfl ?_)))))
   intro b41 w42 hs43 hz44 hB45 hE46
   refine SeqR.u rfl rfl (yl_store (vs := [.string (bs ((p_buf.getD k9 d_Write).Key)), .string (bs ((p_buf.getD k9 d_Write).Val)), .bool ((p_buf.getD k9 d_Write).Gone)]) ty39 rfl rfl rfl rfl rfl rfl hB45 (nb rfl) ?_)
   intro w47 hB48 hO49
   have hB48 : Box w47 b41 39 [.string (bs ((p_buf.getD k9 d_Write).Key)), .string (bs ((p_buf.getD k9 d_Write).Val)), .bool ((p_buf.getD k9 d_Write).Gone)] := hB48
   have hO49z := hO49.size
   refine dn (cR (sd rfl (yl_fieldAddr fd39_0 rfl rfl (sd rfl (yl_load1 ty9 rfl rfl ((hB48.cell 0).trans rfl) (sM rfl (sd rfl (yl_seql (a := ((p_buf.getD k9 d_Write).Key)) (b := p_key) rfl rfl rfl (SeqR.done ?_)))))))))
   refine tn (bcase (((p_buf.getD k9 d_Write).Key) == p_key) (fun hb50 => ?_) (fun hb50 => ?_))
   ·refine CW.cond_t rfl hb50 (CW.seq (drI 8 [.pointer (some ⟨b41, 0 + 1, none⟩), .string (bs ((p_buf.getD k9 d_Write).Val)), .pointer (some ⟨b41, 0 + 2, none⟩), .bool ((p_buf.getD k9 d_Write).Gone), .bool (!((p_buf.getD k9 d_Write).Gone)), .string (bs ((p_buf.getD k9 d_Write).Val)), .bool (!((p_buf.getD k9 d_Write).Gone)), .bool (true)] Tryz.follows rfl ⟨?_, ?_, ?_, ?_, ?_, ?_, ?_, ?_, trivial⟩ ?_))
    ·exact oI rfl fun h => yl_fieldAddr fd39_1 rfl (h.old 10 _ rfl rfl) kI
    ·exact oI rfl fun h => yl_load1 ty9 rfl (h.dt 0 23 rfl rfl rfl) (((Box.ex hB48 h.ex).cell 1).trans rfl) kI
    ·exact oI rfl fun h => yl_fieldAddr fd39_2 rfl (h.old 10 _ rfl rfl) kI
    ·exact oI rfl fun h => yl_load1 ty4 rfl (h.dt 2 25 rfl rfl rfl) (((Box.ex hB48 h.ex).cell 2).trans rfl) kI
    ·exact oI rfl fun h => yl_not rfl (h.dt 3 26 rfl rfl rfl) kI
    ·exact oI rfl fun h => yA rfl (h.dt 1 24 rfl rfl rfl) kI
    ·exact oI rfl fun h => yA rfl (h.dt 4 27 rfl rfl rfl) kI
    ·exact oI rfl fun _ => yA rfl rfl kI
    ·intro fl95 fh96 L92 w93 hp94
     have hE97 := hp94.ex
     have hE97z := Ex.size hE97
     refine dn (CW.sub (sC 6 (hp94.nt 5 6 rfl rfl rfl) (sC 7 (hp94.nt 6 7 rfl rfl rfl) (sC 8 (hp94.nt 7 8 rfl rfl rfl) (Sub.nil _)))) (CW.ret (br (tr (tr ?_)))))
     have hB102 : B_s_l5Stands_0 p_buf p_got p_key k9 () = .ret ((p_buf.getD k9 d_Write).Val, !((p_buf.getD k9 d_Write).Gone), true) := by simp only [B_s_l5Stands_0, hb50, cL]
     have hL101 : loopM (B_s_l5Stands_0 p_buf p_got p_key) (p_buf.length - 0) 0 () = .ret ((p_buf.getD k9 d_Write).Val, !((p_buf.getD k9 d_Write).Gone), true) := hI28.symm.trans (loopM.ret hlt39 hB102)
     refine br (tr (rr rfl (.cons rfl (.cons rfl (.cons rfl .nil))) ?_))
     have hM103 : (s_l5Stands p_buf p_got p_key) = (((p_buf.getD k9 d_Write).Val, !((p_buf.getD k9 d_Write).Gone), true)) := by simp only [s_l5Stands, hb50, hL101, cL]
     rw [hM103]
     exact ⟨rfl, (okL.getD o2 ok_d_Write _).2, (Ex.trans (Below.only (Ex.trans hf37 hE46) hO49 oM) hE97)⟩
   ·refine CW.cond_f rfl hb50 (CW.skip (bn (tn (CW.region (sd rfl (yl_inc rfl rfl rfl oM (sM rfl (dn ?_))))))))
    have hB107 : B_s_l5Stands_0 p_buf p_got p_key k9 () = .cont () := by simp only [B_s_l5Stands_0, hb50, cL]
    exact ⟨p_buf.length - (k9 + 1), oM, k9 + 1, rfl, hlt39, oM, rfl, rfl, rfl, rfl, rfl, (RdS.only good_Got (RdS.ex good_Got hf35 hE46) hO49 (by simp only [Iv]; omega)), (RdS.only gW (RdS.ex gW hf36 hE46) hO49 (by simp only [Iv]; omega)), (Below.only (Ex.trans hf37 hE46) hO49 oM), (loopM.cont hlt39 hB107).symm.trans hI28⟩
  ·refine cR (sd rfl (yl_lss rfl rfl rfl (dn (CW.seq (CW.cond_f rfl (lt_f hlt39) (CW.exit (tx ?_)))))))
   refine tx ?_
   have hL114 : loopM (B_s_l5Stands_0 p_buf p_got p_key) (p_buf.length - 0) 0 () = .done () := hI28.symm.trans (loopM.stop hlt39)
   refine bx (tn (CW.seq (cR (sM rfl (sd rfl (yL un65 rfl rfl (sM rfl (SeqR.done ?_))))))))
   refine tn (CW.block (CW.loop (fun m127 L128 w129 => ∃ (k115 : Nat), m127 = p_got.length - k115 ∧ k115 ≤ p_got.length ∧ w26.heap.size ≤ w129.heap.size ∧ lkp L128 2 = some (.string (bs (p_key))) ∧ lkp L128 29 = some (.slice A3 p_got.length c3) ∧ lkp L128 30 = some (.int .i64 ((p_got.length : Int))) ∧ lkp L128 31 = some (.int .i64 ((k115 : Int))) ∧ RdS w129 (Iv 0 w.heap.size) (RF e_Got) 3 A3 p_got.length c3 p_got ∧ Ex w w129 ∧ loopM (B_s_l5Stands_1 p_buf p_got p_key) (p_got.length - k115) k115 () = loopM (B_s_l5Stands_1 p_buf p_got p_key) (p_got.length - 0) 0 ()) (p_got.length - 0) ?_ ?_))
   ·exact ⟨0, rfl, oM, Nat.le_refl _, rfl, rfl, rfl, rfl, hf35, hf37, rfl⟩
   ·rintro m130 L131 w132 ⟨k115, rfl, hk133, hsz135, hl136, hl137, hl138, hl139, hf140, hf141, hI134⟩
    refine CW.sub (Sub.cons hl136 (Sub.cons hl137 (Sub.cons hl138 (Sub.cons hl139 (Sub.nil _))))) ?_
    have hf141z := Ex.size hf141
    have hbg142 := RdS.big hf140
    rcases Nat.lt_or_ge k115 p_got.length with hlt143 | hlt143
    ·refine cR (sd rfl (yl_lss rfl rfl rfl (dn (CW.seq (CW.cond_t rfl (lt_t hlt143) (CW.skip (tn ?_)))))))
     refine CW.seq (CW.block (cR ?_))
     obtain ⟨eb144, eo144, _, eA144, _, ebl144, _, eR144, eC144⟩ := RdS.aD hf140 d_Got (i := k115)
     obtain rfl := eR144
     have eC144 : Cells w132 eb144 (eo144 + k115 * 3) [.string (bs ((p_got.getD k115 d_Got).Key)), .string (bs ((p_got.getD k115 d_Got).Val)), .bool ((p_got.getD k115 d_Got).There)] := eC144
     refine sd rfl (yl_ixN un65 ty95 rfl rfl rfl eA144 (sd rfl (yl_loadN ty95 rfl rfl eC144 rfl (sd rfl (yB ty95 (cs := [.string (bs (([] : Str))), .string (bs (([] : Str))), .bool (false)]) rfl rfl ?_)))))
     intro b145 w146 hs147 hz148 hB149 hE150
     refine SeqR.u rfl rfl (yl_store (vs := [.string (bs ((p_got.getD k115 d_Got).Key)), .string (bs ((p_got.getD k115 d_Got).Val)), .bool ((p_got.getD k115 d_Got).There)]) ty95 rfl rfl rfl rfl rfl rfl hB149 (nb rfl) ?_)
     intro w151 hB152 hO153
     have hB152 : Box w151 b145 95 [.string (bs ((p_got.getD k115 d_Got).Key)), .string (bs ((p_got.getD k115 d_Got).Val)), .bool ((p_got.getD k115 d_Got).There)] := hB152
     have hO153z := hO153.size
     refine dn (cR (sd rfl (yl_fieldAddr fd95_0 rfl rfl (sd rfl (yl_load1 ty9 rfl rfl ((hB152.cell 0).trans rfl) (sM rfl (sd rfl (yl_seql (a := ((p_got.getD k115 d_Got).Key)) (b := p_key) rfl rfl rfl (SeqR.done ?_)))))))))
     refine tn (bcase (((p_got.getD k115 d_Got).Key) == p_key) (fun hb154 => ?_) (fun hb154 => ?_))
     ·refine CW.cond_t rfl hb154 (CW.seq (drI 7 [.pointer (some ⟨b145, 0 + 1, none⟩), .string (bs ((p_got.getD k115 d_Got).Val)), .pointer (some ⟨b145, 0 + 2, none⟩), .bool ((p_got.getD k115 d_Got).There), .string (bs ((p_got.getD k115 d_Got).Val)), .bool ((p_got.getD k115 d_Got).There), .bool (true)] Tryz.follows rfl ⟨?_, ?_, ?_, ?_, ?_, ?_, ?_, trivial⟩ ?_))
      ·exact oI rfl fun h => yl_fieldAddr fd95_1 rfl (h.old 12 _ rfl rfl) kI
      ·exact oI rfl fun h => yl_load1 ty9 rfl (h.dt 0 39 rfl rfl rfl) (((Box.ex hB152 h.ex).cell 1).trans rfl) kI
      ·exact oI rfl fun h => yl_fieldAddr fd95_2 rfl (h.old 12 _ rfl rfl) kI
      ·exact oI rfl fun h => yl_load1 ty4 rfl (h.dt 2 41 rfl rfl rfl) (((Box.ex hB152 h.ex).cell 2).trans rfl) kI
      ·exact oI rfl fun h => yA rfl (h.dt 1 40 rfl rfl rfl) kI
      ·exact oI rfl fun h => yA rfl (h.dt 3 42 rfl rfl rfl) kI
      ·exact oI rfl fun _ => yA rfl rfl kI
      ·intro fl194 fh195 L191 w192 hp193
       have hE196 := hp193.ex
       have hE196z := Ex.size hE196
       refine dn (CW.sub (sC 6 (hp193.nt 4 6 rfl rfl rfl) (sC 7 (hp193.nt 5 7 rfl rfl rfl) (sC 8 (hp193.nt 6 8 rfl rfl rfl) (Sub.nil _)))) (CW.ret (br (tr (tr ?_)))))
       have hB201 : B_s_l5Stands_1 p_buf p_got p_key k115 () = .ret ((p_got.getD k115 d_Got).Val, (p_got.getD k115 d_Got).There, true) := by simp only [B_s_l5Stands_1, hb154, hL114, cL]
       have hL200 : loopM (B_s_l5Stands_1 p_buf p_got p_key) (p_got.length - 0) 0 () = .ret ((p_got.getD k115 d_Got).Val, (p_got.getD k115 d_Got).There, true) := hI134.symm.trans (loopM.ret hlt143 hB201)
       refine br (tr (rr rfl (.cons rfl (.cons rfl (.cons rfl .nil))) ?_))
       have hM202 : (s_l5Stands p_buf p_got p_key) = (((p_got.getD k115 d_Got).Val, (p_got.getD k115 d_Got).There, true)) := by simp only [s_l5Stands, hb154, hL114, hL200, cL]
       rw [hM202]
       exact ⟨rfl, (okL.getD o4 ok_d_Got _).2, (Ex.trans (Below.only (Ex.trans hf141 hE150) hO153 oM) hE196)⟩
     ·refine CW.cond_f rfl hb154 (CW.skip (bn (tn (CW.region (sd rfl (yl_inc rfl rfl rfl oM (sM rfl (dn ?_))))))))
      have hB206 : B_s_l5Stands_1 p_buf p_got p_key k115 () = .cont () := by simp only [B_s_l5Stands_1, hb154, hL114, cL]
      exact ⟨p_got.length - (k115 + 1), oM, k115 + 1, rfl, hlt143, oM, rfl, rfl, rfl, rfl, (RdS.only good_Got (RdS.ex good_Got hf140 hE150) hO153 (by simp only [Iv]; omega)), (Below.only (Ex.trans hf141 hE150) hO153 oM), (loopM.cont hlt143 hB206).symm.trans hI134⟩
    ·refine cR (sd rfl (yl_lss rfl rfl rfl (dn (CW.seq (CW.cond_f rfl (lt_f hlt143) (CW.exit (tx ?_)))))))
     refine tx ?_
     have hL211 : loopM (B_s_l5Stands_1 p_buf p_got p_key) (p_got.length - 0) 0 () = .done () := hI134.symm.trans (loopM.stop hlt143)
     refine bx (tn (cR (sA rfl (sA rfl (sA rfl (dn ?_))))))
     refine CW.ret (rr rfl (.cons rfl (.cons rfl (.cons rfl .nil))) ?_)
     have hM212 : (s_l5Stands p_buf p_got p_key) = ((([] : Str), false, false)) := by simp only [s_l5Stands, hL114, hL211, cL]
     rw [hM212]
     exact ⟨rfl, (okS.lit rfl), hf141⟩
theorem c_s_l1Read {w : World} (p_s : Str) (o1 : okS p_s) : Cal Tryz.prog 105 #[.string (bs (p_s))] w fun v w' => v = .int .i64 ((s_l1Read p_s)) ∧ Ex w w' := by
 have hol2 : p_s.length ≤ 1073741824 := o1
 refine Cal.of func105 rfl ntmps105 rfl (cR (sA rfl (dn (CW.seq (cR ?_)))))
 refine sM rfl (sd rfl (yl_slen un9 (a := p_s) rfl rfl (sd rfl (yC en75 rfl (oc rfl (oc rfl (oc rfl oz))) (Cal.mono (c_s_l1In (p_s.length : Int) 1 6) ?_)))))
 rintro v4 w3 ⟨rfl, hE5⟩
 have hE5z := Ex.size hE5
 refine sd rfl (yl_not rfl rfl (sM rfl (bcase (s_l1In (p_s.length : Int) 1 6) (fun hb6 => ?_) (fun hb6 => ?_))))
 ·have hb6p := f_l1In hb6
  refine sy rfl rfl (not_t hb6) (yM rfl rfl (sy rfl rfl (not_t hb6) (yl_sindexN un9 (a := p_s) rfl rfl rfl Bo (sy rfl rfl (not_t hb6) (yl_eql rfl rfl rfl (sy rfl rfl (not_t hb6) (yM rfl rfl (bcase (decide (((p_s.getD 0 0).toNat : Int) = 48)) (fun hb7 => ?_) (fun hb7 => ?_)))))))))
  ·have hb7p := dec_t hb7
   refine sy rfl rfl hb7 (yM rfl rfl (sy rfl rfl hb7 (yl_slen un9 (a := p_s) rfl rfl (sy rfl rfl hb7 (yl_gtr rfl rfl rfl (sy rfl rfl (not_t hb6) (yl_pick_t rfl rfl hb7 rfl (sd rfl (yl_pick_f rfl rfl (not_t hb6) rfl (dn (bcase (decide (1 < (p_s.length : Int))) (fun hb8 => ?_) (fun hb8 => ?_))))))))))))
   ·have hb8p := dec_t hb8
    refine CW.cond_t rfl hb8 (cR (sA rfl (dn (CW.ret (tr (rr rfl (.cons rfl .nil) ?_))))))
    have hM9 : (s_l1Read p_s) = (-1) := by simp only [s_l1Read, hb6, hb7, hb8, cL]
    rw [hM9]
    exact ⟨rfl, (Ex.trans (Ex.refl w) hE5)⟩
   ·have hb8p := dec_f hb8
    refine CW.cond_f rfl hb8 (CW.skip (tn (cR (sA rfl (dn (CW.seq ?_))))))
    refine cR (sA rfl (dn (CW.block (CW.loop (fun m13 L14 w15 => ∃ (k11 : Nat) (x12 : Int), m13 = p_s.length - k11 ∧ k11 ≤ p_s.length ∧ w3.heap.size ≤ w15.heap.size ∧ lkp L14 0 = some (.string (bs (p_s))) ∧ lkp L14 3 = some (.int .i64 (x12)) ∧ lkp L14 4 = some (.int .i64 ((k11 : Int))) ∧ Ex w w15 ∧ loopM (B_s_l1Read_0 p_s) (p_s.length - k11) k11 (x12) = loopM (B_s_l1Read_0 p_s) (p_s.length - 0) 0 (0)) (p_s.length - 0) ?_ ?_))))
    ·exact ⟨0, 0, rfl, oM, Nat.le_refl _, rfl, rfl, rfl, (Ex.trans (Ex.refl w) hE5), rfl⟩
    ·rintro m17 L18 w19 ⟨k11, x12, rfl, hk20, hsz22, hl23, hl24, hl25, hf26, hI21⟩
     refine CW.sub (Sub.cons hl23 (Sub.cons hl24 (Sub.cons hl25 (Sub.nil _)))) ?_
     have hf26z := Ex.size hf26
     have hbg27 : p_s.length ≤ 1073741824 := o1
     rcases Nat.lt_or_ge k11 p_s.length with hlt28 | hlt28
     ·refine CW.seq (cR (sM rfl (sM rfl (sd rfl (yl_slen un9 (a := p_s) rfl rfl (sd rfl (yl_lss rfl rfl rfl (dn ?_))))))))
      refine CW.cond_t rfl (lt_t hlt28) (CW.skip (tn (CW.seq (CW.block (CW.seq (cR (sM rfl ?_)))))))
      refine sM rfl (sd rfl (yl_sindexN un9 (a := p_s) rfl rfl rfl Bo (sd rfl (yl_lss rfl rfl rfl (sM rfl (bcase (decide (((p_s.getD k11 0).toNat : Int) < 48)) (fun hb29 => ?_) (fun hb29 => ?_)))))))
      ·have hb29p := dec_t hb29
       refine sz rfl rfl hb29 (sz rfl rfl hb29 (sz rfl rfl hb29 (sz rfl rfl hb29 (sd rfl (yl_pick_t rfl rfl hb29 rfl (dn (CW.cond_t rfl rfl (CW.seq ?_))))))))
       refine CW.region (sA rfl (dn (CW.ret (tr (br (tr (tr ?_)))))))
       have hB31 : B_s_l1Read_0 p_s k11 (x12) = .ret (-1) := by simp only [B_s_l1Read_0, hb6, hb7, hb8, hb29, cL]
       have hL30 : loopM (B_s_l1Read_0 p_s) (p_s.length - 0) 0 (0) = .ret (-1) := hI21.symm.trans (loopM.ret hlt28 hB31)
       refine br (tr (rr rfl (.cons rfl .nil) ?_))
       have hM32 : (s_l1Read p_s) = (-1) := by simp only [s_l1Read, hb6, hb7, hb8, hb29, hL30, cL]
       rw [hM32]
       exact ⟨rfl, hf26⟩
      ·have hb29p := dec_f hb29
       refine sy rfl rfl hb29 (yM rfl rfl (sy rfl rfl hb29 (yM rfl rfl (sy rfl rfl hb29 (yl_sindexN un9 (a := p_s) rfl rfl rfl Bo (sy rfl rfl hb29 (yl_gtr rfl rfl rfl (sd rfl (yl_pick_f rfl rfl hb29 rfl (dn (bcase (decide (57 < ((p_s.getD k11 0).toNat : Int))) (fun hb33 => ?_) (fun hb33 => ?_))))))))))))
       ·have hb33p := dec_t hb33
        refine CW.cond_t rfl hb33 (cR (sA rfl (dn (CW.ret (tr (br ?_))))))
        refine tr (tr ?_)
        have hB35 : B_s_l1Read_0 p_s k11 (x12) = .ret (-1) := by simp only [B_s_l1Read_0, hb6, hb7, hb8, hb29, hb33, cL]
        have hL34 : loopM (B_s_l1Read_0 p_s) (p_s.length - 0) 0 (0) = .ret (-1) := hI21.symm.trans (loopM.ret hlt28 hB35)
        refine br (tr (rr rfl (.cons rfl .nil) ?_))
        have hM36 : (s_l1Read p_s) = (-1) := by simp only [s_l1Read, hb6, hb7, hb8, hb29, hb33, hL34, cL]
        rw [hM36]
        exact ⟨rfl, hf26⟩
       ·have hb33p := dec_f hb33
        refine CW.cond_f rfl hb33 (CW.skip (tn (CW.region (sM rfl (sd rfl (yl_mul rfl rfl rfl (sM rfl (sM rfl (sd rfl (yl_sindexN un9 (a := p_s) rfl rfl rfl Bo ?_))))))))))
        refine sd rfl (yl_sub rfl rfl rfl (sd rfl (yl_conv un5 un3 rfl rfl (sd rfl (yl_add rfl rfl rfl (sA rfl (SeqR.done (bn (tn (CW.region (sM rfl ?_)))))))))))
        refine sd rfl (yl_inc rfl rfl rfl oM (sA rfl (dn ?_)))
        have hB37 : B_s_l1Read_0 p_s k11 (x12) = .cont (IntKind.wrap .i64 ((IntKind.wrap .i64 (10 * x12)) + (IntKind.wrap .i64 (IntKind.wrap .u8 (((p_s.getD k11 0).toNat : Int) - 48))))) := by simp only [B_s_l1Read_0, hb6, hb7, hb8, hb29, hb33, cL]
        exact ⟨p_s.length - (k11 + 1), oM, k11 + 1, IntKind.wrap .i64 ((IntKind.wrap .i64 (10 * x12)) + (IntKind.wrap .i64 (IntKind.wrap .u8 (((p_s.getD k11 0).toNat : Int) - 48)))), rfl, hlt28, oM, rfl, rfl, rfl, hf26, (loopM.cont hlt28 hB37).symm.trans hI21⟩
     ·refine CW.seq (cR (sM rfl (sM rfl (sd rfl (yl_slen un9 (a := p_s) rfl rfl (sd rfl (yl_lss rfl rfl rfl (dn ?_))))))))
      refine CW.cond_f rfl (lt_f hlt28) (CW.exit (tx (tx ?_)))
      have hL38 : loopM (B_s_l1Read_0 p_s) (p_s.length - 0) 0 (0) = .done (x12) := hI21.symm.trans (loopM.stop hlt28)
      refine bx (tn (cR (sM rfl (sA rfl (dn (CW.ret ?_))))))
      refine rr rfl (.cons rfl .nil) ?_
      have hM39 : (s_l1Read p_s) = (x12) := by simp only [s_l1Read, hb6, hb7, hb8, hL38, cL]
      rw [hM39]
      exact ⟨rfl, hf26⟩
  ·have hb7p := dec_f hb7
   refine sz rfl rfl hb7 (sz rfl rfl hb7 (sz rfl rfl hb7 (sy rfl rfl (not_t hb6) (yl_pick_f rfl rfl hb7 rfl (sd rfl (yl_pick_f rfl rfl (not_t hb6) rfl (dn (CW.cond_f rfl rfl (CW.skip ?_)))))))))
   refine tn (cR (sA rfl (dn (CW.seq (cR ?_)))))
   refine sA rfl (dn (CW.block (CW.loop (fun m42 L43 w44 => ∃ (k40 : Nat) (x41 : Int), m42 = p_s.length - k40 ∧ k40 ≤ p_s.length ∧ w3.heap.size ≤ w44.heap.size ∧ lkp L43 0 = some (.string (bs (p_s))) ∧ lkp L43 3 = some (.int .i64 (x41)) ∧ lkp L43 4 = some (.int .i64 ((k40 : Int))) ∧ Ex w w44 ∧ loopM (B_s_l1Read_0 p_s) (p_s.length - k40) k40 (x41) = loopM (B_s_l1Read_0 p_s) (p_s.length - 0) 0 (0)) (p_s.length - 0) ?_ ?_)))
   ·exact ⟨0, 0, rfl, oM, Nat.le_refl _, rfl, rfl, rfl, (Ex.trans (Ex.refl w) hE5), rfl⟩
   ·rintro m46 L47 w48 ⟨k40, x41, rfl, hk49, hsz51, hl52, hl53, hl54, hf55, hI50⟩
    refine CW.sub (Sub.cons hl52 (Sub.cons hl53 (Sub.cons hl54 (Sub.nil _)))) ?_
    have hf55z := Ex.size hf55
    have hbg56 : p_s.length ≤ 1073741824 := o1
    rcases Nat.lt_or_ge k40 p_s.length with hlt57 | hlt57
    ·refine CW.seq (cR (sM rfl (sM rfl (sd rfl (yl_slen un9 (a := p_s) rfl rfl (sd rfl (yl_lss rfl rfl rfl (dn ?_))))))))
     refine CW.cond_t rfl (lt_t hlt57) (CW.skip (tn (CW.seq (CW.block (CW.seq (cR (sM rfl ?_)))))))
     refine sM rfl (sd rfl (yl_sindexN un9 (a := p_s) rfl rfl rfl Bo (sd rfl (yl_lss rfl rfl rfl (sM rfl (bcase (decide (((p_s.getD k40 0).toNat : Int) < 48)) (fun hb58 => ?_) (fun hb58 => ?_)))))))
     ·have hb58p := dec_t hb58
      refine sz rfl rfl hb58 (sz rfl rfl hb58 (sz rfl rfl hb58 (sz rfl rfl hb58 (sd rfl (yl_pick_t rfl rfl hb58 rfl (dn (CW.cond_t rfl rfl (CW.seq ?_))))))))
      refine CW.region (sA rfl (dn (CW.ret (tr (br (tr (tr ?_)))))))
      have hB60 : B_s_l1Read_0 p_s k40 (x41) = .ret (-1) := by simp only [B_s_l1Read_0, hb6, hb7, hb58, cL]
      have hL59 : loopM (B_s_l1Read_0 p_s) (p_s.length - 0) 0 (0) = .ret (-1) := hI50.symm.trans (loopM.ret hlt57 hB60)
      refine br (tr (rr rfl (.cons rfl .nil) ?_))
      have hM61 : (s_l1Read p_s) = (-1) := by simp only [s_l1Read, hb6, hb7, hb58, hL59, cL]
      rw [hM61]
      exact ⟨rfl, hf55⟩
     ·have hb58p := dec_f hb58
      refine sy rfl rfl hb58 (yM rfl rfl (sy rfl rfl hb58 (yM rfl rfl (sy rfl rfl hb58 (yl_sindexN un9 (a := p_s) rfl rfl rfl Bo (sy rfl rfl hb58 (yl_gtr rfl rfl rfl (sd rfl (yl_pick_f rfl rfl hb58 rfl (dn (bcase (decide (57 < ((p_s.getD k40 0).toNat : Int))) (fun hb62 => ?_) (fun hb62 => ?_))))))))))))
      ·have hb62p := dec_t hb62
       refine CW.cond_t rfl hb62 (cR (sA rfl (dn (CW.ret (tr (br ?_))))))
       refine tr (tr ?_)
       have hB64 : B_s_l1Read_0 p_s k40 (x41) = .ret (-1) := by simp only [B_s_l1Read_0, hb6, hb7, hb58, hb62, cL]
       have hL63 : loopM (B_s_l1Read_0 p_s) (p_s.length - 0) 0 (0) = .ret (-1) := hI50.symm.trans (loopM.ret hlt57 hB64)
       refine br (tr (rr rfl (.cons rfl .nil) ?_))
       have hM65 : (s_l1Read p_s) = (-1) := by simp only [s_l1Read, hb6, hb7, hb58, hb62, hL63, cL]
       rw [hM65]
       exact ⟨rfl, hf55⟩
      ·have hb62p := dec_f hb62
       refine CW.cond_f rfl hb62 (CW.skip (tn (CW.region (sM rfl (sd rfl (yl_mul rfl rfl rfl (sM rfl (sM rfl (sd rfl (yl_sindexN un9 (a := p_s) rfl rfl rfl Bo ?_))))))))))
       refine sd rfl (yl_sub rfl rfl rfl (sd rfl (yl_conv un5 un3 rfl rfl (sd rfl (yl_add rfl rfl rfl (sA rfl (SeqR.done (bn (tn (CW.region (sM rfl ?_)))))))))))
       refine sd rfl (yl_inc rfl rfl rfl oM (sA rfl (dn ?_)))
       have hB66 : B_s_l1Read_0 p_s k40 (x41) = .cont (IntKind.wrap .i64 ((IntKind.wrap .i64 (10 * x41)) + (IntKind.wrap .i64 (IntKind.wrap .u8 (((p_s.getD k40 0).toNat : Int) - 48))))) := by simp only [B_s_l1Read_0, hb6, hb7, hb58, hb62, cL]
       exact ⟨p_s.length - (k40 + 1), oM, k40 + 1, IntKind.wrap .i64 ((IntKind.wrap .i64 (10 * x41)) + (IntKind.wrap .i64 (IntKind.wrap .u8 (((p_s.getD k40 0).toNat : Int) - 48)))), rfl, hlt57, oM, rfl, rfl, rfl, hf55, (loopM.cont hlt57 hB66).symm.trans hI50⟩
    ·refine CW.seq (cR (sM rfl (sM rfl (sd rfl (yl_slen un9 (a := p_s) rfl rfl (sd rfl (yl_lss rfl rfl rfl (dn ?_))))))))
     refine CW.cond_f rfl (lt_f hlt57) (CW.exit (tx (tx ?_)))
     have hL67 : loopM (B_s_l1Read_0 p_s) (p_s.length - 0) 0 (0) = .done (x41) := hI50.symm.trans (loopM.stop hlt57)
     refine bx (tn (cR (sM rfl (sA rfl (dn (CW.ret ?_))))))
     refine rr rfl (.cons rfl .nil) ?_
     have hM68 : (s_l1Read p_s) = (x41) := by simp only [s_l1Read, hb6, hb7, hL67, cL]
     rw [hM68]
     exact ⟨rfl, hf55⟩
 ·refine sz rfl rfl (not_f hb6) (sz rfl rfl (not_f hb6) (sz rfl rfl (not_f hb6) (sz rfl rfl (not_f hb6) (sq rfl rfl (sq rfl rfl (sq rfl rfl (sz rfl rfl (not_f hb6) (sd rfl (yl_pick_t rfl rfl (not_f hb6) rfl ?_)))))))))
  refine dn (CW.cond_t rfl rfl (cR (sA rfl (dn (CW.ret ?_)))))
  refine tr (rr rfl (.cons rfl .nil) ?_)
  have hM69 : (s_l1Read p_s) = (-1) := by simp only [s_l1Read, hb6, cL]
  rw [hM69]
  exact ⟨rfl, (Ex.trans (Ex.refl w) hE5)⟩
theorem c_s_l5Num {w : World} (p_s : Str) (o1 : okS p_s) : Cal Tryz.prog 85 #[.string (bs (p_s))] w fun v w' => v = .tuple #[.int .i64 ((s_l5Num p_s).1), .bool ((s_l5Num p_s).2)] ∧ Ex w w' := by
 have hol2 : p_s.length ≤ 1073741824 := o1
 refine Cal.of func85 rfl ntmps85 rfl (cR (sA rfl (sA rfl (dn (cR ?_)))))
 refine sM rfl (sd rfl (yl_slen un9 (a := p_s) rfl rfl (sd rfl (yl_gtr rfl rfl rfl (sM rfl (bcase (decide (0 < (p_s.length : Int))) (fun hb3 => ?_) (fun hb3 => ?_)))))))
 ·have hb3p := dec_t hb3
  refine sy rfl rfl hb3 (yM rfl rfl (sy rfl rfl hb3 (yl_sindexN un9 (a := p_s) rfl rfl rfl Bo (sy rfl rfl hb3 (yl_eql rfl rfl rfl (sd rfl (yl_pick_t rfl rfl hb3 rfl (sA rfl (dn (cR ?_))))))))))
  refine sM rfl (sA rfl (dn (CW.seq (cR (sM rfl (SeqR.done ?_))))))
  refine tn (bcase (decide (((p_s.getD 0 0).toNat : Int) = 45)) (fun hb4 => ?_) (fun hb4 => ?_))
  ·have hb4p := dec_t hb4
   refine CW.cond_t rfl hb4 (CW.region (sM rfl (sd rfl (yl_sslice_lo un9 (a := p_s) (l := 1) rfl rfl rfl oM (sA rfl (dn (cR ?_)))))))
   refine sM rfl (sd rfl (yC en105 rfl (oc rfl oz) (Cal.mono (c_s_l1Read (p_s.drop 1) (okS.drop o1 _)) ?_)))
   rintro v6 w5 ⟨rfl, hE7⟩
   have hE7z := Ex.size hE7
   refine sA rfl (dn (CW.seq (cR (sM rfl (sd rfl (yl_lss rfl rfl rfl (sM rfl ?_)))))))
   refine bcase (decide ((s_l1Read (p_s.drop 1)) < 0)) (fun hb8 => ?_) (fun hb8 => ?_)
   ·have hb8p := dec_t hb8
    refine sz rfl rfl hb8 (sz rfl rfl hb8 (sq rfl rfl (sq rfl rfl (sz rfl rfl hb8 (sd rfl (yl_pick_t rfl rfl hb8 rfl (dn (CW.cond_t rfl rfl ?_))))))))
    refine cR (sA rfl (sA rfl (dn (CW.ret (tr (rr rfl (.cons rfl (.cons rfl .nil)) ?_))))))
    have hM9 : (s_l5Num p_s) = ((0, false)) := by simp only [s_l5Num, hb3, hb4, hb8, cL]
    rw [hM9]
    exact ⟨rfl, (Ex.trans (Ex.refl w) hE7)⟩
   ·have hb8p := dec_f hb8
    refine sy rfl rfl hb8 (yM rfl rfl (sy rfl rfl hb8 (yM rfl rfl (sy rfl rfl hb4 (yM rfl rfl (sy rfl rfl hb4 (yl_eql rfl rfl rfl (sy rfl rfl hb8 (yl_pick_t rfl rfl hb4 rfl (sd rfl (yl_pick_f rfl rfl hb8 rfl (dn (bcase (decide ((s_l1Read (p_s.drop 1)) = 0)) (fun hb11 => ?_) (fun hb11 => ?_))))))))))))))
    ·have hb11p := dec_t hb11
     refine CW.cond_t rfl hb11 (cR (sA rfl (sA rfl (dn (CW.ret (tr ?_))))))
     refine rr rfl (.cons rfl (.cons rfl .nil)) ?_
     have hM12 : (s_l5Num p_s) = ((0, false)) := by simp only [s_l5Num, hb3, hb4, hb8, hb11, cL]
     rw [hM12]
     exact ⟨rfl, (Ex.trans (Ex.refl w) hE7)⟩
    ·have hb11p := dec_f hb11
     refine CW.cond_f rfl hb11 (CW.skip (tn (CW.seq (cR (sM rfl (dn ?_))))))
     refine CW.cond_t rfl hb4 (cR (sM rfl (sd rfl (yl_neg rfl rfl (sA rfl (sA rfl (dn ?_)))))))
     refine CW.ret (tr (rr rfl (.cons rfl (.cons rfl .nil)) ?_))
     have hM14 : (s_l5Num p_s) = ((IntKind.wrap .i64 (0 - (s_l1Read (p_s.drop 1))), true)) := by simp only [s_l5Num, hb3, hb4, hb8, hb11, cL]
     rw [hM14]
     exact ⟨rfl, (Ex.trans (Ex.refl w) hE7)⟩
  ·have hb4p := dec_f hb4
   refine CW.cond_f rfl hb4 (CW.skip (tn (cR (sM rfl (sd rfl (yC en105 rfl (oc rfl oz) (Cal.mono (c_s_l1Read p_s o1) ?_)))))))
   rintro v17 w16 ⟨rfl, hE18⟩
   have hE18z := Ex.size hE18
   refine sA rfl (dn (CW.seq (cR (sM rfl (sd rfl (yl_lss rfl rfl rfl (sM rfl ?_)))))))
   refine bcase (decide ((s_l1Read p_s) < 0)) (fun hb19 => ?_) (fun hb19 => ?_)
   ·have hb19p := dec_t hb19
    refine sz rfl rfl hb19 (sz rfl rfl hb19 (sq rfl rfl (sq rfl rfl (sz rfl rfl hb19 (sd rfl (yl_pick_t rfl rfl hb19 rfl (dn (CW.cond_t rfl rfl ?_))))))))
    refine cR (sA rfl (sA rfl (dn (CW.ret (tr (rr rfl (.cons rfl (.cons rfl .nil)) ?_))))))
    have hM20 : (s_l5Num p_s) = ((0, false)) := by simp only [s_l5Num, hb3, hb4, hb19, cL]
    rw [hM20]
    exact ⟨rfl, (Ex.trans (Ex.refl w) hE18)⟩
   ·have hb19p := dec_f hb19
    refine sy rfl rfl hb19 (yM rfl rfl (sy rfl rfl hb19 (yM rfl rfl (sz rfl rfl hb4 (sz rfl rfl hb4 (sy rfl rfl hb19 (yl_pick_f rfl rfl hb4 rfl (sd rfl (yl_pick_f rfl rfl hb19 rfl (dn (CW.cond_f rfl rfl ?_)))))))))))
    refine CW.skip (tn (CW.seq (cR (sM rfl (dn (CW.cond_f rfl hb4 ?_))))))
    refine CW.skip (tn (cR (sM rfl (sA rfl (sA rfl (dn ?_))))))
    refine CW.ret (rr rfl (.cons rfl (.cons rfl .nil)) ?_)
    have hM22 : (s_l5Num p_s) = (((s_l1Read p_s), true)) := by simp only [s_l5Num, hb3, hb4, hb19, cL]
    rw [hM22]
    exact ⟨rfl, (Ex.trans (Ex.refl w) hE18)⟩
 ·have hb3p := dec_f hb3
  refine sz rfl rfl hb3 (sz rfl rfl hb3 (sz rfl rfl hb3 (sd rfl (yl_pick_f rfl rfl hb3 rfl (sA rfl (dn (cR ?_)))))))
  refine sM rfl (sA rfl (dn (CW.seq (cR (sM rfl (SeqR.done ?_))))))
  refine tn (CW.cond_f rfl rfl (CW.skip (tn (cR (sM rfl (sd rfl (yC en105 rfl (oc rfl oz) (Cal.mono (c_s_l1Read p_s o1) ?_))))))))
  rintro v25 w24 ⟨rfl, hE26⟩
  have hE26z := Ex.size hE26
  refine sA rfl (dn (CW.seq (cR (sM rfl (sd rfl (yl_lss rfl rfl rfl (sM rfl ?_)))))))
  refine bcase (decide ((s_l1Read p_s) < 0)) (fun hb27 => ?_) (fun hb27 => ?_)
  ·have hb27p := dec_t hb27
   refine sz rfl rfl hb27 (sz rfl rfl hb27 (sq rfl rfl (sq rfl rfl (sz rfl rfl hb27 (sd rfl (yl_pick_t rfl rfl hb27 rfl (dn (CW.cond_t rfl rfl ?_))))))))
   refine cR (sA rfl (sA rfl (dn (CW.ret (tr (rr rfl (.cons rfl (.cons rfl .nil)) ?_))))))
   have hM28 : (s_l5Num p_s) = ((0, false)) := by simp only [s_l5Num, hb3, hb27, cL]
   rw [hM28]
   exact ⟨rfl, (Ex.trans (Ex.refl w) hE26)⟩
  ·have hb27p := dec_f hb27
   refine sy rfl rfl hb27 (yM rfl rfl (sy rfl rfl hb27 (yM rfl rfl (sz rfl rfl rfl (sz rfl rfl rfl (sy rfl rfl hb27 (yl_pick_f rfl rfl rfl rfl (sd rfl (yl_pick_f rfl rfl hb27 rfl (dn (CW.cond_f rfl rfl ?_)))))))))))
   refine CW.skip (tn (CW.seq (cR (sM rfl (dn (CW.cond_f rfl rfl ?_))))))
   refine CW.skip (tn (cR (sM rfl (sA rfl (sA rfl (dn ?_))))))
   refine CW.ret (rr rfl (.cons rfl (.cons rfl .nil)) ?_)
   have hM30 : (s_l5Num p_s) = (((s_l1Read p_s), true)) := by simp only [s_l5Num, hb3, hb27, cL]
   rw [hM30]
   exact ⟨rfl, (Ex.trans (Ex.refl w) hE26)⟩
theorem c_s_l5Gives {w : World} (p_o : DOp) (p_val : Str) (p_there : Bool) (o1 : ok_Op p_o) (o2 : okS p_val) : Cal Tryz.prog 84 #[.agg #[.int .i64 (p_o.Kind), .string (bs (p_o.Key)), .string (bs (p_o.Val)), .int .i64 (p_o.By)], .string (bs (p_val)), .bool (p_there)] w fun v w' => v = .bool ((s_l5Gives p_o p_val p_there)) ∧ Ex w w' := by
 refine Cal.of func84 rfl ntmps84 rfl (cR (sd rfl (yl_box rfl rfl rfl ?_)))
 intro b6 w7 hs8 hz9 hB10 hE11
 refine sA rfl (dn (cR (sM rfl (sd rfl (yC en85 rfl (oc rfl oz) (Cal.mono (c_s_l5Num p_val o2) ?_))))))
 rintro v13 w12 ⟨rfl, hE14⟩
 refine sM rfl (sd rfl (yl_extract rfl rfl rfl (sd rfl (yl_extract rfl rfl rfl (sA rfl (sA rfl (dn (CW.seq (CW.seq ?_)))))))))
 refine CW.region (sd rfl (yl_fieldAddr fd61_0 rfl rfl ?_))
 have q15 := Box.ex hB10 hE14
 refine sd rfl (yl_load1 ty3 rfl rfl ((q15.cell 0).trans rfl) (dn (CW.block (cR (sd rfl (yl_eql rfl rfl rfl (sA rfl (SeqR.done ?_))))))))
 refine tn (bcase (decide (p_o.Kind = 4)) (fun hb16 => ?_) (fun hb16 => ?_))
 ·have hb16p := dec_t hb16
  refine CW.cond_t rfl hb16 (CW.seq (cR (sM rfl (sd rfl (yl_not rfl rfl (dn (bcase (p_there) (fun hb17 => ?_) (fun hb17 => ?_))))))))
  ·refine CW.cond_f rfl (not_t hb17) (CW.skip (tn (cR (sM rfl (sd rfl (yl_not rfl rfl (sM rfl (bcase ((s_l5Num p_val).2) (fun hb18 => ?_) (fun hb18 => ?_)))))))))
   ·refine sy rfl rfl (not_t hb18) (yM rfl rfl (sy rfl rfl (not_t hb18) (yl_fieldAddr fd61_3 rfl rfl (sy rfl rfl (not_t hb18) (yl_load1 ty3 rfl rfl ((q15.cell 3).trans rfl) (sy rfl rfl (not_t hb18) (yl_add rfl rfl rfl (sy rfl rfl (not_t hb18) (yC en75 rfl (oc rfl (oc rfl (oc rfl oz))) (Cal.mono (c_s_l1In (IntKind.wrap .i64 (((s_l5Num p_val).1) + p_o.By)) (-999999) 999999) ?_))))))))))
    rintro v20 w19 ⟨rfl, hE21⟩
    refine sy rfl rfl (not_t hb18) (yl_not rfl rfl (sd rfl (yl_pick_f rfl rfl (not_t hb18) rfl (sA rfl (dn (CW.ret (br (tr (rr rfl (.cons rfl .nil) ?_)))))))))
    have hM22 : (s_l5Gives p_o p_val p_there) = (!(s_l1In (IntKind.wrap .i64 (((s_l5Num p_val).1) + p_o.By)) (-999999) 999999)) := by simp only [s_l5Gives, hb16, hb17, hb18, cL]
    rw [hM22]
    exact ⟨rfl, (Ex.trans (Ex.trans (Ex.trans (Ex.refl w) hE11) hE14) hE21)⟩
   ·refine sz rfl rfl (not_f hb18) (sz rfl rfl (not_f hb18) (sz rfl rfl (not_f hb18) (sz rfl rfl (not_f hb18) (sz rfl rfl (not_f hb18) (sz rfl rfl (not_f hb18) (sd rfl (yl_pick_t rfl rfl (not_f hb18) rfl (sA rfl (SeqR.done ?_)))))))))
    refine tn (CW.ret (br (tr (rr rfl (.cons rfl .nil) ?_))))
    have hM26 : (s_l5Gives p_o p_val p_there) = (true) := by simp only [s_l5Gives, hb16, hb17, hb18, cL]
    rw [hM26]
    exact ⟨rfl, (Ex.trans (Ex.trans (Ex.refl w) hE11) hE14)⟩
  ·refine CW.cond_t rfl (not_f hb17) (cR (sA rfl (dn (CW.ret (tr (br ?_))))))
   refine tr (rr rfl (.cons rfl .nil) ?_)
   have hM29 : (s_l5Gives p_o p_val p_there) = (false) := by simp only [s_l5Gives, hb16, hb17, cL]
   rw [hM29]
   exact ⟨rfl, (Ex.trans (Ex.trans (Ex.refl w) hE11) hE14)⟩
 ·have hb16p := dec_f hb16
  refine CW.cond_f rfl hb16 (cR (sd rfl (yl_eql rfl rfl rfl (sA rfl (dn (bcase (decide (p_o.Kind = 5)) (fun hb32 => ?_) (fun hb32 => ?_)))))))
  ·have hb32p := dec_t hb32
   refine CW.cond_t rfl hb32 (cR (sM rfl (sd rfl (yl_not rfl rfl (sM rfl (bcase (p_there) (fun hb33 => ?_) (fun hb33 => ?_)))))))
   ·refine sy rfl rfl (not_t hb33) (yM rfl rfl (sy rfl rfl (not_t hb33) (yl_not rfl rfl (sd rfl (yl_pick_f rfl rfl (not_t hb33) rfl (sM rfl (bcase ((s_l5Num p_val).2) (fun hb34 => ?_) (fun hb34 => ?_))))))))
    ·refine sy rfl rfl (not_t hb34) (yM rfl rfl (sy rfl rfl (not_t hb34) (yl_fieldAddr fd61_3 rfl rfl (sy rfl rfl (not_t hb34) (yl_load1 ty3 rfl rfl ((q15.cell 3).trans rfl) (sy rfl rfl (not_t hb34) (yl_lss rfl rfl rfl (sd rfl (yl_pick_f rfl rfl (not_t hb34) rfl (sA rfl (dn (CW.ret ?_))))))))))))
     refine br (tr (rr rfl (.cons rfl .nil) ?_))
     have hM35 : (s_l5Gives p_o p_val p_there) = (decide (((s_l5Num p_val).1) < p_o.By)) := by simp only [s_l5Gives, hb16, hb32, hb33, hb34, cL]
     rw [hM35]
     exact ⟨rfl, (Ex.trans (Ex.trans (Ex.refl w) hE11) hE14)⟩
    ·refine sz rfl rfl (not_f hb34) (sz rfl rfl (not_f hb34) (sz rfl rfl (not_f hb34) (sz rfl rfl (not_f hb34) (sd rfl (yl_pick_t rfl rfl (not_f hb34) rfl (sA rfl (dn (CW.ret ?_))))))))
     refine br (tr (rr rfl (.cons rfl .nil) ?_))
     have hM38 : (s_l5Gives p_o p_val p_there) = (true) := by simp only [s_l5Gives, hb16, hb32, hb33, hb34, cL]
     rw [hM38]
     exact ⟨rfl, (Ex.trans (Ex.trans (Ex.refl w) hE11) hE14)⟩
   ·refine sz rfl rfl (not_f hb33) (sz rfl rfl (not_f hb33) (sd rfl (yl_pick_t rfl rfl (not_f hb33) rfl (sM rfl (sz rfl rfl rfl (sz rfl rfl rfl (sz rfl rfl rfl (sz rfl rfl rfl (sd rfl (yl_pick_t rfl rfl rfl rfl ?_))))))))))
    refine sA rfl (dn (CW.ret (br (tr (rr rfl (.cons rfl .nil) ?_)))))
    have hM41 : (s_l5Gives p_o p_val p_there) = (true) := by simp only [s_l5Gives, hb16, hb32, hb33, cL]
    rw [hM41]
    exact ⟨rfl, (Ex.trans (Ex.trans (Ex.refl w) hE11) hE14)⟩
  ·have hb32p := dec_f hb32
   refine CW.cond_f rfl hb32 (cR (sd rfl (yl_eql rfl rfl rfl (sA rfl (dn (bcase (decide (p_o.Kind = 6)) (fun hb44 => ?_) (fun hb44 => ?_)))))))
   ·have hb44p := dec_t hb44
    refine CW.cond_t rfl hb44 (cR (sM rfl (sA rfl (dn (CW.ret (br ?_))))))
    refine tr (rr rfl (.cons rfl .nil) ?_)
    have hM45 : (s_l5Gives p_o p_val p_there) = (p_there) := by simp only [s_l5Gives, hb16, hb32, hb44, cL]
    rw [hM45]
    exact ⟨rfl, (Ex.trans (Ex.trans (Ex.refl w) hE11) hE14)⟩
   ·have hb44p := dec_f hb44
    refine CW.cond_f rfl hb44 (cR (sd rfl (yl_eql rfl rfl rfl (sA rfl (dn (bcase (decide (p_o.Kind = 7)) (fun hb48 => ?_) (fun hb48 => ?_)))))))
    ·have hb48p := dec_t hb48
     refine CW.cond_t rfl hb48 (cR (sM rfl (sd rfl (yl_not rfl rfl (sM rfl (bcase (p_there) (fun hb49 => ?_) (fun hb49 => ?_)))))))
     ·refine sy rfl rfl (not_t hb49) (yM rfl rfl (sy rfl rfl (not_t hb49) (yl_fieldAddr fd61_2 rfl rfl (sy rfl rfl (not_t hb49) (yl_load1 ty9 rfl rfl ((q15.cell 2).trans rfl) (sy rfl rfl (not_t hb49) (yl_sneq (a := p_val) (b := p_o.Val) rfl rfl rfl (sd rfl (yl_pick_f rfl rfl (not_t hb49) rfl (sA rfl (dn (CW.ret ?_))))))))))))
      refine br (tr (rr rfl (.cons rfl .nil) ?_))
      have hM50 : (s_l5Gives p_o p_val p_there) = (!(p_val == p_o.Val)) := by simp only [s_l5Gives, hb16, hb32, hb44, hb48, hb49, cL]
      rw [hM50]
      exact ⟨rfl, (Ex.trans (Ex.trans (Ex.refl w) hE11) hE14)⟩
     ·refine sz rfl rfl (not_f hb49) (sz rfl rfl (not_f hb49) (sz rfl rfl (not_f hb49) (sz rfl rfl (not_f hb49) (sd rfl (yl_pick_t rfl rfl (not_f hb49) rfl (sA rfl (dn (CW.ret ?_))))))))
      refine br (tr (rr rfl (.cons rfl .nil) ?_))
      have hM53 : (s_l5Gives p_o p_val p_there) = (true) := by simp only [s_l5Gives, hb16, hb32, hb44, hb48, hb49, cL]
      rw [hM53]
      exact ⟨rfl, (Ex.trans (Ex.trans (Ex.refl w) hE11) hE14)⟩
    ·have hb48p := dec_f hb48
     refine CW.cond_f rfl hb48 (CW.skip (bn (tn (cR (sA rfl (dn ?_))))))
     refine CW.ret (rr rfl (.cons rfl .nil) ?_)
     have hM56 : (s_l5Gives p_o p_val p_there) = (false) := by simp only [s_l5Gives, hb16, hb32, hb44, hb48, cL]
     rw [hM56]
     exact ⟨rfl, (Ex.trans (Ex.trans (Ex.refl w) hE11) hE14)⟩
theorem c_s_l1Num {w : World} (p_n : Int) (pre0 : (0 ≤ p_n ∧ p_n ≤ 9)) : Cal Tryz.prog 106 #[.int .i64 (p_n)] w fun v w' => v = .string (bs ((s_l1Num p_n))) ∧ okS (s_l1Num p_n) ∧ Ex w w' := by
 refine Cal.of func106 rfl ntmps106 rfl (cR (sA rfl (dn (CW.seq (cR ?_)))))
 refine sM rfl (sd rfl (yl_lss rfl rfl rfl (dn (CW.cond_t rfl (decide_eq_true oM) (cR (sM rfl (sd rfl (yl_add rfl rfl rfl ?_))))))))
 refine sd rfl (yl_conv un3 un5 rfl rfl (sd rfl (yl_buildSlice (cs := [.int .u8 (IntKind.wrap .u8 (IntKind.wrap .i64 (48 + p_n)))]) un22 ty5 (by decide) rfl (oc rfl oz) (by kernel_rfl) ?_)))
 intro b1 w2 hs3 hz4 hB5 hE6
 have hO7 : OwnL w2 b1 (b1 + 1) 5 1 (RF e_U8) (some ⟨b1, 0, none⟩) 1 1 ([IntKind.wrap .u8 (IntKind.wrap .i64 (48 + p_n))] : List Int) := OwnL.of_box (S := fun _ => False) hB5 (Nat.le_refl _) (Nat.lt_succ_self _) (EncL.cons (c := [.int .u8 (IntKind.wrap .u8 (IntKind.wrap .i64 (48 + p_n)))]) rfl rfl EncL.nil) (nb rfl) (fun h => h) (fun _ h => False.elim h)
 refine sd rfl (yl_toS un22 un5 un9 rfl rfl (OwnL.rd gU hO7) (sA rfl (dn (CW.ret (tr (rr rfl (.cons rfl .nil) ?_))))))
 have hM9 : (s_l1Num p_n) = (toS ([IntKind.wrap .u8 (IntKind.wrap .i64 (48 + p_n))] : List Int)) := by simp only [s_l1Num, cL]
 rw [hM9]
 exact ⟨rfl, (okS_toS (nb rfl)), (Ex.trans (Ex.refl w) hE6)⟩
theorem c_s_l5Text {w : World} (p_n : Int) (pre0 : ((-9 : Int) ≤ p_n ∧ p_n ≤ 9)) : Cal Tryz.prog 86 #[.int .i64 (p_n)] w fun v w' => v = .string (bs ((s_l5Text p_n))) ∧ Ex w w' := by
 refine Cal.of func86 rfl ntmps86 rfl (cR (sA rfl (dn (CW.seq (cR ?_)))))
 refine sM rfl (sd rfl (yl_lss rfl rfl rfl (dn (bcase (decide (p_n < 0)) (fun hb1 => ?_) (fun hb1 => ?_)))))
 ·have hb1p := dec_t hb1
  refine CW.cond_t rfl hb1 (cR (sM rfl (sd rfl (yl_neg rfl rfl (sd rfl (yC en106 rfl (oc rfl oz) (Cal.mono (c_s_l1Num (IntKind.wrap .i64 (0 - p_n)) Bo) ?_)))))))
  rintro v4 w2 ⟨rfl, ho3, hE5⟩
  have hE5z := Ex.size hE5
  have hrf6 := rf_l1Num (IntKind.wrap .i64 (0 - p_n))
  have hol7 : (s_l1Num (IntKind.wrap .i64 (0 - p_n))).length ≤ 1073741824 := ho3
  refine sd rfl (yl_sadd (a := ([45] : Str)) (b := (s_l1Num (IntKind.wrap .i64 (0 - p_n)))) rfl rfl rfl Bl (sA rfl (dn (CW.ret (tr (rr rfl (.cons rfl .nil) ?_))))))
  have hM8 : (s_l5Text p_n) = (([45] : Str) ++ (s_l1Num (IntKind.wrap .i64 (0 - p_n)))) := by simp only [s_l5Text, hb1, cL]
  rw [hM8]
  exact ⟨rfl, (Ex.trans (Ex.refl w) hE5)⟩
 ·have hb1p := dec_f hb1
  refine CW.cond_f rfl hb1 (CW.skip (tn (cR (sM rfl (sd rfl (yC en106 rfl (oc rfl oz) (Cal.mono (c_s_l1Num p_n Bo) ?_)))))))
  rintro v12 w10 ⟨rfl, ho11, hE13⟩
  have hE13z := Ex.size hE13
  have hrf14 := rf_l1Num p_n
  refine sA rfl (dn (CW.ret (rr rfl (.cons rfl .nil) ?_)))
  have hM15 : (s_l5Text p_n) = ((s_l1Num p_n)) := by simp only [s_l5Text, hb1, cL]
  rw [hM15]
  exact ⟨rfl, (Ex.trans (Ex.refl w) hE13)⟩
theorem c_s_l5Step {A1 : Option Addr} {c1 : Nat} {A3 : Option Addr} {c3 : Nat} {w : World} (p_0 : List DOp) (p_1 : List DGot) (h1 : RdS w (Iv 0 w.heap.size) (RF e_Op) 4 A1 p_0.length c1 p_0) (h3 : RdS w (Iv 0 w.heap.size) (RF e_Got) 3 A3 p_1.length c3 p_1) (o2 : (okL ok_Op) p_0) (o4 : (okL ok_Got) p_1) (pre0 : ∀ y ∈ p_0, y.Kind ≠ 4) (pre1 : p_0.length ≤ 100) : Cal Tryz.prog 51 #[.slice A1 p_0.length c1, .slice A3 p_1.length c3] w fun v w' => ∃ A_1 c_1 lo_1 hi_1, v = .tuple #[.int .i64 ((s_l5Step p_0 p_1).1), .string (bs ((s_l5Step p_0 p_1).2.1)), .slice A_1 (((s_l5Step p_0 p_1).2.2).length) c_1] ∧ OwnL w' lo_1 hi_1 39 3 (RF e_Write) A_1 (((s_l5Step p_0 p_1).2.2).length) c_1 ((s_l5Step p_0 p_1).2.2) ∧ okS ((s_l5Step p_0 p_1).2.1) ∧ (okL ok_Write) ((s_l5Step p_0 p_1).2.2) ∧ ((s_l5Step p_0 p_1).2.2).length ≤ p_0.length ∧ (w.heap.size ≤ lo_1 ∧ lo_1 ≤ hi_1 ∧ hi_1 ≤ w'.heap.size) ∧ Ex w w' := by
 have hol5 := o2.1
 have hol6 := o4.1
 refine Cal.of func51 rfl ntmps51 rfl (cR (sA rfl (sA rfl (sA rfl (dn (CW.seq ?_))))))
 refine CW.region (sA rfl (dn (CW.seq (cR (sM rfl (sd rfl (yL un31 rfl rfl ?_)))))))
 refine sM rfl (dn (CW.block (CW.loop (fun m181 L182 w183 => ∃ (k7 : Nat) (x176 : List DWrite) (A177 : Option Addr) (c178 : Nat) (u179 : Nat) (lo180 : Nat), m181 = p_0.length - k7 ∧ k7 ≤ p_0.length ∧ w.heap.size ≤ w183.heap.size ∧ lkp L182 1 = some (.slice A3 p_1.length c3) ∧ lkp L182 7 = some (.slice A177 x176.length c178) ∧ lkp L182 15 = some (.slice A1 p_0.length c1) ∧ lkp L182 16 = some (.int .i64 ((p_0.length : Int))) ∧ lkp L182 17 = some (.int .i64 ((k7 : Int))) ∧ RdS w183 (Iv 0 w.heap.size) (RF e_Got) 3 A3 p_1.length c3 p_1 ∧ OwnL w183 lo180 u179 39 3 (RF e_Write) A177 x176.length c178 x176 ∧ RdS w183 (Iv 0 w.heap.size) (RF e_Op) 4 A1 p_0.length c1 p_0 ∧ Ex w w183 ∧ (w.heap.size ≤ lo180 ∧ lo180 ≤ u179 ∧ u179 ≤ w183.heap.size) ∧ x176.length ≤ 0 + 1 * (k7 - 0) ∧ (∀ y ∈ x176, ok_Write y) ∧ loopM (B_s_l5Step_0 p_0 p_1) (p_0.length - k7) k7 (x176) = loopM (B_s_l5Step_0 p_0 p_1) (p_0.length - 0) 0 (([] : List DWrite))) (p_0.length - 0) ?_ ?_)))
 ·exact ⟨0, ([] : List DWrite), none, 0, w.heap.size, w.heap.size, rfl, oM, Nat.le_refl _, rfl, rfl, rfl, rfl, rfl, h3, (OwnL.nil w w.heap.size w.heap.size 39 3 (RF e_Write)), h1, (Ex.refl w), oM, (by first | (simp; done) | (first | omega | (simp only [lN, toS_length]; omega))), okE.nil, rfl⟩
 ·rintro m184 L185 w186 ⟨k7, x176, A177, c178, u179, lo180, rfl, hk187, hsz189, hl190, hl191, hl192, hl193, hl194, hf195, hf196, hf197, hf198, hu199, hln200, hok201, hI188⟩
  refine CW.sub (Sub.cons hl190 (Sub.cons hl191 (Sub.cons hl192 (Sub.cons hl193 (Sub.cons hl194 (Sub.nil _)))))) ?_
  have hf198z := Ex.size hf198
  have hbg202 := RdS.big hf197
  rcases Nat.lt_or_ge k7 p_0.length with hlt203 | hlt203
  ·have hkd := pre0 _ (getD_mem (d := d_Op) hlt203)
   refine cR (sd rfl (yl_lss rfl rfl rfl (dn (CW.seq (CW.cond_t rfl (lt_t hlt203) (CW.skip (tn ?_)))))))
   refine CW.seq (CW.block (cR ?_))
   obtain ⟨eb204, eo204, _, eA204, _, ebl204, _, eR204, eC204⟩ := RdS.atD hf197 d_Op (i := k7) Bo
   obtain rfl := eR204
   have eC204 : Cells w186 eb204 (eo204 + k7 * 4) [.int .i64 ((p_0.getD k7 d_Op).Kind), .string (bs ((p_0.getD k7 d_Op).Key)), .string (bs ((p_0.getD k7 d_Op).Val)), .int .i64 ((p_0.getD k7 d_Op).By)] := eC204
   refine sd rfl (yl_ixN un31 ty61 rfl rfl rfl eA204 (sd rfl (yl_loadN ty61 rfl rfl eC204 rfl (sd rfl (yB ty61 (cs := [.int .i64 (0), .string (bs (([] : Str))), .string (bs (([] : Str))), .int .i64 (0)]) rfl rfl ?_)))))
   intro b205 w206 hs207 hz208 hB209 hE210
   refine SeqR.u rfl rfl (yl_store (vs := [.int .i64 ((p_0.getD k7 d_Op).Kind), .string (bs ((p_0.getD k7 d_Op).Key)), .string (bs ((p_0.getD k7 d_Op).Val)), .int .i64 ((p_0.getD k7 d_Op).By)]) ty61 rfl rfl rfl rfl rfl rfl hB209 (nb rfl) ?_)
   intro w211 hB212 hO213
   have hB212 : Box w211 b205 61 [.int .i64 ((p_0.getD k7 d_Op).Kind), .string (bs ((p_0.getD k7 d_Op).Key)), .string (bs ((p_0.getD k7 d_Op).Val)), .int .i64 ((p_0.getD k7 d_Op).By)] := hB212
   have hO213z := hO213.size
   refine dn (cR (sM rfl (sM rfl (sd rfl (yl_fieldAddr fd61_1 rfl rfl (sd rfl (yl_load1 ty9 rfl rfl ((hB212.cell 1).trans rfl) ?_)))))))
   have q216 := OwnL.only gW (OwnL.ex gW hf196 hE210) hO213 oM
   have q218 := RdS.only good_Got (RdS.ex good_Got hf195 hE210) hO213 (by simp only [Iv]; omega)
   refine sd rfl (yC en83 rfl (oc rfl (oc rfl (oc rfl oz))) (Cal.mono (c_s_l5Stands x176 p_1 ((p_0.getD k7 d_Op).Key) (RdS.up (OwnL.rd gW q216) gW) (RdS.up q218 good_Got) (okL.mk (xs := x176) Bl hok201) o4 ((okL.getD o2 ok_d_Op _).1)) ?_))
   rintro v221 w219 ⟨rfl, ho220, hE222⟩
   have hE222z := Ex.size hE222
   have y1 := RdS.ex good_Op (RdS.only good_Op (RdS.ex good_Op hf197 hE210) hO213 (by simp only [Iv]; omega)) hE222
   have y0 := Ex.trans (Below.only (Ex.trans hf198 hE210) hO213 oM) hE222
   refine sM rfl (sd rfl (yl_extract rfl rfl rfl (sd rfl (yl_extract rfl rfl rfl (sd rfl (yl_extract rfl rfl rfl (sA rfl (sA rfl (sA rfl (dn ?_))))))))))
   refine CW.seq (cR (sM rfl (sd rfl (yl_not rfl rfl (sM rfl (bcase ((s_l5Stands x176 p_1 ((p_0.getD k7 d_Op).Key)).2.2) (fun hb223 => ?_) (fun hb223 => ?_)))))))
   ·refine sz rfl rfl (not_t hb223) (sz rfl rfl (not_t hb223) (sz rfl rfl (not_t hb223) (sd rfl (yl_pick_f rfl rfl (not_t hb223) rfl (sM rfl (sz rfl rfl rfl (sz rfl rfl rfl (sz rfl rfl rfl (sd rfl (yl_pick_f rfl rfl rfl rfl ?_))))))))))
    refine dn (CW.cond_f rfl rfl (CW.skip (tn (CW.seq (cR ?_)))))
    have q224 := Box.ex hB212 hE222
    refine sd rfl (yl_loadN ty61 rfl rfl (q224.cells (n := 4) rfl) rfl (sM rfl (sM rfl (sd rfl (yC en84 rfl (oc rfl (oc rfl (oc rfl oz))) (Cal.mono (c_s_l5Gives (p_0.getD k7 d_Op) ((s_l5Stands x176 p_1 ((p_0.getD k7 d_Op).Key)).1) ((s_l5Stands x176 p_1 ((p_0.getD k7 d_Op).Key)).2.1) (okL.getD o2 ok_d_Op _) ho220) ?_))))))
    rintro v226 w225 ⟨rfl, hE227⟩
    have hE227z := Ex.size hE227
    refine dn (bcase (s_l5Gives (p_0.getD k7 d_Op) ((s_l5Stands x176 p_1 ((p_0.getD k7 d_Op).Key)).1) ((s_l5Stands x176 p_1 ((p_0.getD k7 d_Op).Key)).2.1)) (fun hb228 => ?_) (fun hb228 => ?_))
    ·refine CW.cond_t rfl hb228 (cR (sA rfl (sA rfl (sA rfl (dn (CW.ret ?_))))))
     refine tr (br (tr (tr ?_)))
     have hB230 : B_s_l5Step_0 p_0 p_1 k7 (x176) = .ret (2, ([] : Str), ([] : List DWrite)) := by simp only [B_s_l5Step_0, hb223, hb228, cL]
     have hL229 : loopM (B_s_l5Step_0 p_0 p_1) (p_0.length - 0) 0 (([] : List DWrite)) = .ret (2, ([] : Str), ([] : List DWrite)) := hI188.symm.trans (loopM.ret hlt203 hB230)
     refine br (tr (rr rfl (.cons rfl (.cons rfl (.cons rfl .nil))) ?_))
     have hM231 : (s_l5Step p_0 p_1) = ((2, ([] : Str), ([] : List DWrite))) := by simp only [s_l5Step, hb223, hb228, hL229, cL]
     rw [hM231]
     exact ⟨none, 0, w225.heap.size, w225.heap.size, rfl, (OwnL.nil _ _ _ _ _ _), (okS.lit rfl), (okL.nil _), (by (try dsimp only); first | omega | exact Nat.zero_le _ | (simp only [List.length_nil]; omega)), oM, (Ex.trans y0 hE227)⟩
    ·refine CW.cond_f rfl hb228 (CW.skip (tn (cR (sd rfl (yl_fieldAddr fd61_0 rfl rfl ?_)))))
     have q236 := Box.ex q224 hE227
     refine sd rfl (yl_load1 ty3 rfl rfl ((q236.cell 0).trans rfl) (dn (CW.block (cR (sd rfl (yl_eql rfl rfl rfl (sA rfl (SeqR.done ?_))))))))
     refine tn (bcase (decide (((p_0.getD k7 d_Op).Kind) = 2)) (fun hb237 => ?_) (fun hb237 => ?_))
     ·have hb237p := dec_t hb237
      refine CW.cond_t rfl hb237 (CW.region (sM rfl (sd rfl (yl_fieldAddr fd61_1 rfl rfl (sd rfl (yl_load1 ty9 rfl rfl ((q236.cell 1).trans rfl) (sd rfl (yl_fieldAddr fd61_2 rfl rfl (sd rfl (yl_load1 ty9 rfl rfl ((q236.cell 2).trans rfl) (sd rfl (yl_build (cs := [.string (bs ((p_0.getD k7 d_Op).Key)), .string (bs ((p_0.getD k7 d_Op).Val)), .bool (false)]) rfl (oc rfl (oc rfl oz)) (by kernel_rfl) (sd rfl (yC en53 rfl (oc rfl (oc rfl oz)) (Cal.mono (c_s_l5PutW x176 (⟨(p_0.getD k7 d_Op).Key, (p_0.getD k7 d_Op).Val, false⟩ : DWrite) (RdS.up (OwnL.rd gW (OwnL.ex gW (OwnL.ex gW q216 hE222) hE227)) gW) (okL.mk (xs := x176) Bl hok201) (⟨(okL.getD o2 ok_d_Op _).1, (okL.getD o2 ok_d_Op _).2⟩) Bo) ?_)))))))))))))))
      rintro v245 w241 ⟨A242, c242, lo242, hi242, rfl, h242, ho243, hp244, hrn247, hE246⟩
      have hE246z := Ex.size hE246
      refine sA rfl (SeqR.done (bn (bn (tn (CW.region (sd rfl (yl_inc rfl rfl rfl oM (sM rfl (SeqR.done ?_)))))))))
      refine tn ?_
      have hB248 : B_s_l5Step_0 p_0 p_1 k7 (x176) = .cont ((s_l5PutW x176 (⟨(p_0.getD k7 d_Op).Key, (p_0.getD k7 d_Op).Val, false⟩ : DWrite))) := by simp only [B_s_l5Step_0, hb223, hb228, hb237, cL]
      exact ⟨p_0.length - (k7 + 1), oM, k7 + 1, (s_l5PutW x176 (⟨(p_0.getD k7 d_Op).Key, (p_0.getD k7 d_Op).Val, false⟩ : DWrite)), A242, c242, hi242, lo242, rfl, hlt203, oM, rfl, rfl, rfl, rfl, rfl, (RdS.ex good_Got (RdS.ex good_Got (RdS.ex good_Got q218 hE222) hE227) hE246), h242, (RdS.ex good_Op (RdS.ex good_Op y1 hE227) hE246), (Ex.trans (Ex.trans y0 hE227) hE246), oM, Bl, (ho243).2, (loopM.cont hlt203 hB248).symm.trans hI188⟩
     ·have hb237p := dec_f hb237
      refine CW.cond_f rfl hb237 (cR (sd rfl (yl_eql rfl rfl rfl (sA rfl (dn (bcase (decide (((p_0.getD k7 d_Op).Kind) = 3)) (fun hb262 => ?_) (fun hb262 => ?_)))))))
      ·have hb262p := dec_t hb262
       refine CW.cond_t rfl hb262 (CW.region (sM rfl (sd rfl (yl_fieldAddr fd61_1 rfl rfl (sd rfl (yl_load1 ty9 rfl rfl ((q236.cell 1).trans rfl) (sd rfl (yl_build (cs := [.string (bs ((p_0.getD k7 d_Op).Key)), .string (bs (([] : Str))), .bool (true)]) rfl (oc rfl (oc rfl oz)) (by kernel_rfl) (sd rfl (yC en53 rfl (oc rfl (oc rfl oz)) (Cal.mono (c_s_l5PutW x176 (⟨(p_0.getD k7 d_Op).Key, ([] : Str), true⟩ : DWrite) (RdS.up (OwnL.rd gW (OwnL.ex gW (OwnL.ex gW q216 hE222) hE227)) gW) (okL.mk (xs := x176) Bl hok201) (⟨(okL.getD o2 ok_d_Op _).1, (okS.lit rfl)⟩) Bo) ?_)))))))))))
       rintro v270 w266 ⟨A267, c267, lo267, hi267, rfl, h267, ho268, hp269, hrn272, hE271⟩
       have hE271z := Ex.size hE271
       refine sA rfl (SeqR.done (bn (bn (tn (CW.region (sd rfl (yl_inc rfl rfl rfl oM (sM rfl (SeqR.done ?_)))))))))
       refine tn ?_
       have hB273 : B_s_l5Step_0 p_0 p_1 k7 (x176) = .cont ((s_l5PutW x176 (⟨(p_0.getD k7 d_Op).Key, ([] : Str), true⟩ : DWrite))) := by simp only [B_s_l5Step_0, hb223, hb228, hb237, hb262, cL]
       exact ⟨p_0.length - (k7 + 1), oM, k7 + 1, (s_l5PutW x176 (⟨(p_0.getD k7 d_Op).Key, ([] : Str), true⟩ : DWrite)), A267, c267, hi267, lo267, rfl, hlt203, oM, rfl, rfl, rfl, rfl, rfl, (RdS.ex good_Got (RdS.ex good_Got (RdS.ex good_Got q218 hE222) hE227) hE271), h267, (RdS.ex good_Op (RdS.ex good_Op y1 hE227) hE271), (Ex.trans (Ex.trans y0 hE227) hE271), oM, Bl, (ho268).2, (loopM.cont hlt203 hB273).symm.trans hI188⟩
      ·have hb262p := dec_f hb262
       refine CW.cond_f rfl hb262 (cR (sd rfl (yl_eql rfl rfl rfl (sA rfl (dn (bcase (decide (((p_0.getD k7 d_Op).Kind) = 4)) (fun hb287 => ?_) (fun hb287 => ?_)))))))
       ·have hb287p := dec_t hb287
        refine CW.cond_t rfl hb287 (cR (sM rfl (sd rfl (yC en85 rfl (oc rfl oz) (Cal.mono (c_s_l5Num ((s_l5Stands x176 p_1 ((p_0.getD k7 d_Op).Key)).1) ho220) ?_)))))
        rintro v289 w288 ⟨rfl, hE290⟩
        have hE290z := Ex.size hE290
        refine sM rfl (sd rfl (yl_extract rfl rfl rfl (sd rfl (yl_extract rfl rfl rfl (sA rfl (sA rfl (dn (CW.seq (CW.seq ?_)))))))))
        refine CW.region (sM rfl (sd rfl (yl_not rfl rfl (dn (bcase ((s_l5Stands x176 p_1 ((p_0.getD k7 d_Op).Key)).2.1) (fun hb291 => ?_) (fun hb291 => ?_))))))
        ·refine CW.cond_f rfl (not_t hb291) (CW.skip (tn ?_))
         have q292 := Box.ex q236 hE290
         have hrf294 := rf_l5Text (IntKind.wrap .i64 (((s_l5Num ((s_l5Stands x176 p_1 ((p_0.getD k7 d_Op).Key)).1)).1) + ((p_0.getD k7 d_Op).By)))
         refine drI 9 [.slice A177 x176.length c178, .pointer (some ⟨b205, 0 + 1, none⟩), .string (bs ((p_0.getD k7 d_Op).Key)), .int .i64 ((s_l5Num ((s_l5Stands x176 p_1 ((p_0.getD k7 d_Op).Key)).1)).1), .pointer (some ⟨b205, 0 + 3, none⟩), .int .i64 ((p_0.getD k7 d_Op).By), .int .i64 (IntKind.wrap .i64 (((s_l5Num ((s_l5Stands x176 p_1 ((p_0.getD k7 d_Op).Key)).1)).1) + ((p_0.getD k7 d_Op).By))), .string (bs ((s_l5Text (IntKind.wrap .i64 (((s_l5Num ((s_l5Stands x176 p_1 ((p_0.getD k7 d_Op).Key)).1)).1) + ((p_0.getD k7 d_Op).By)))))), .agg #[.string (bs ((p_0.getD k7 d_Op).Key)), .string (bs ((s_l5Text (IntKind.wrap .i64 (((s_l5Num ((s_l5Stands x176 p_1 ((p_0.getD k7 d_Op).Key)).1)).1) + ((p_0.getD k7 d_Op).By)))))), .bool (false)]] Tryz.follows rfl ⟨?_, ?_, ?_, ?_, ?_, ?_, ?_, ?_, ?_, trivial⟩ ?_
         ·exact oI rfl fun h => yM rfl (h.old 7 _ rfl rfl) kI
         ·exact oI rfl fun h => yl_fieldAddr fd61_1 rfl (h.old 9 _ rfl rfl) kI
         ·exact oI rfl fun h => yl_load1 ty9 rfl (h.dt 1 76 rfl rfl rfl) (((Box.ex q292 h.ex).cell 1).trans rfl) kI
         ·exact oI rfl fun h => yM rfl (h.old 13 _ rfl rfl) kI
         ·exact oI rfl fun h => yl_fieldAddr fd61_3 rfl (h.old 9 _ rfl rfl) kI
         ·exact oI rfl fun h => yl_load1 ty3 rfl (h.dt 4 79 rfl rfl rfl) (((Box.ex q292 h.ex).cell 3).trans rfl) kI
         ·exact oI rfl fun h => yl_add rfl (h.dt 3 78 rfl rfl rfl) (h.dt 5 80 rfl rfl rfl) kI
         ·intro L333 w334 hi335
          have hE336 := hi335.ex
          have hE336z := Ex.size hE336
          exact OpR.op' rfl (yC en86 rfl (oc (hi335.dt 6 81 rfl rfl rfl) oz) (Cal.mono (c_s_l5Text (IntKind.wrap .i64 (((s_l5Num ((s_l5Stands x176 p_1 ((p_0.getD k7 d_Op).Key)).1)).1) + ((p_0.getD k7 d_Op).By))) Bo) fun _ _ h => h))
         ·exact oI rfl fun h => yl_build (cs := [.string (bs ((p_0.getD k7 d_Op).Key)), .string (bs ((s_l5Text (IntKind.wrap .i64 (((s_l5Num ((s_l5Stands x176 p_1 ((p_0.getD k7 d_Op).Key)).1)).1) + ((p_0.getD k7 d_Op).By)))))), .bool (false)]) rfl (oc (h.dt 2 77 rfl rfl rfl) (oc (h.dt 7 82 rfl rfl rfl) oz)) (by kernel_rfl) kI
         ·intro fl350 fh351 L347 w348 hp349
          have hE352 := hp349.ex
          have hE352z := Ex.size hE352
          refine sd rfl (yC en53 rfl (oc (hp349.nt 0 75 rfl rfl rfl) (oc (hp349.nt 8 83 rfl rfl rfl) oz)) (Cal.mono (c_s_l5PutW x176 (⟨(p_0.getD k7 d_Op).Key, (s_l5Text (IntKind.wrap .i64 (((s_l5Num ((s_l5Stands x176 p_1 ((p_0.getD k7 d_Op).Key)).1)).1) + ((p_0.getD k7 d_Op).By)))), false⟩ : DWrite) (RdS.up (OwnL.rd gW (OwnL.ex gW (OwnL.ex gW (OwnL.ex gW (OwnL.ex gW q216 hE222) hE227) hE290) hE352)) gW) (okL.mk (xs := x176) Bl hok201) (⟨(okL.getD o2 ok_d_Op _).1, (ok_l5Text _)⟩) Bo) ?_))
          rintro v374 w370 ⟨A371, c371, lo371, hi371, rfl, h371, ho372, hp373, hrn376, hE375⟩
          have hE375z := Ex.size hE375
          refine sA rfl (SeqR.done (bn (bn (tn (CW.sub (sC 1 (hp349.old 1 _ rfl rfl) (sC 7 rfl (sC 15 (hp349.old 15 _ rfl rfl) (sC 16 (hp349.old 16 _ rfl rfl) (sC 17 (hp349.old 17 _ rfl rfl) (sC 33 (hp349.old 33 _ rfl rfl) (sC 34 (hp349.old 34 _ rfl rfl) (sC 35 (hp349.old 35 _ rfl rfl) (sC 38 (hp349.old 38 _ rfl rfl) (sC 39 (hp349.old 39 _ rfl rfl) (sC 40 (hp349.old 40 _ rfl rfl) (Sub.nil _)))))))))))) (CW.region (sd rfl (yl_inc rfl rfl rfl oM (sM rfl ?_)))))))))
          refine dn ?_
          have hB377 : B_s_l5Step_0 p_0 p_1 k7 (x176) = .cont ((s_l5PutW x176 (⟨(p_0.getD k7 d_Op).Key, (s_l5Text (IntKind.wrap .i64 (((s_l5Num ((s_l5Stands x176 p_1 ((p_0.getD k7 d_Op).Key)).1)).1) + ((p_0.getD k7 d_Op).By)))), false⟩ : DWrite))) := by first | (simp only [B_s_l5Step_0, hb223, hb228, hb237, hb262, hb287, hb291, cL]; done) | (simp only [B_s_l5Step_0, hb228, cL] <;> simp only [hb223, hb237, hb262, hb287, hb291, cL])
          exact ⟨p_0.length - (k7 + 1), oM, k7 + 1, (s_l5PutW x176 (⟨(p_0.getD k7 d_Op).Key, (s_l5Text (IntKind.wrap .i64 (((s_l5Num ((s_l5Stands x176 p_1 ((p_0.getD k7 d_Op).Key)).1)).1) + ((p_0.getD k7 d_Op).By)))), false⟩ : DWrite)), A371, c371, hi371, lo371, rfl, hlt203, oM, rfl, rfl, rfl, rfl, rfl, (RdS.ex good_Got (RdS.ex good_Got (RdS.ex good_Got (RdS.ex good_Got (RdS.ex good_Got q218 hE222) hE227) hE290) hE352) hE375), h371, (RdS.ex good_Op (RdS.ex good_Op (RdS.ex good_Op (RdS.ex good_Op y1 hE227) hE290) hE352) hE375), (Ex.trans (Ex.trans (Ex.trans (Ex.trans y0 hE227) hE290) hE352) hE375), oM, Bl, (ho372).2, (loopM.cont hlt203 hB377).symm.trans hI188⟩
        ·refine CW.cond_t rfl (not_f hb291) (CW.region (sA rfl (dn ?_)))
         have q397 := Box.ex q236 hE290
         have hrf399 := rf_l5Text (IntKind.wrap .i64 (0 + ((p_0.getD k7 d_Op).By)))
         refine drI 9 [.slice A177 x176.length c178, .pointer (some ⟨b205, 0 + 1, none⟩), .string (bs ((p_0.getD k7 d_Op).Key)), .int .i64 (0), .pointer (some ⟨b205, 0 + 3, none⟩), .int .i64 ((p_0.getD k7 d_Op).By), .int .i64 (IntKind.wrap .i64 (0 + ((p_0.getD k7 d_Op).By))), .string (bs ((s_l5Text (IntKind.wrap .i64 (0 + ((p_0.getD k7 d_Op).By)))))), .agg #[.string (bs ((p_0.getD k7 d_Op).Key)), .string (bs ((s_l5Text (IntKind.wrap .i64 (0 + ((p_0.getD k7 d_Op).By)))))), .bool (false)]] Tryz.follows rfl ⟨?_, ?_, ?_, ?_, ?_, ?_, ?_, ?_, ?_, trivial⟩ ?_
         ·exact oI rfl fun h => yM rfl (h.old 7 _ rfl rfl) kI
         ·exact oI rfl fun h => yl_fieldAddr fd61_1 rfl (h.old 9 _ rfl rfl) kI
         ·exact oI rfl fun h => yl_load1 ty9 rfl (h.dt 1 76 rfl rfl rfl) (((Box.ex q397 h.ex).cell 1).trans rfl) kI
         ·exact oI rfl fun h => yM rfl (h.old 13 _ rfl rfl) kI
         ·exact oI rfl fun h => yl_fieldAddr fd61_3 rfl (h.old 9 _ rfl rfl) kI
         ·exact oI rfl fun h => yl_load1 ty3 rfl (h.dt 4 79 rfl rfl rfl) (((Box.ex q397 h.ex).cell 3).trans rfl) kI
         ·exact oI rfl fun h => yl_add rfl (h.dt 3 78 rfl rfl rfl) (h.dt 5 80 rfl rfl rfl) kI
         ·intro L438 w439 hi440
          have hE441 := hi440.ex
          have hE441z := Ex.size hE441
          exact OpR.op' rfl (yC en86 rfl (oc (hi440.dt 6 81 rfl rfl rfl) oz) (Cal.mono (c_s_l5Text (IntKind.wrap .i64 (0 + ((p_0.getD k7 d_Op).By))) Bo) fun _ _ h => h))
         ·exact oI rfl fun h => yl_build (cs := [.string (bs ((p_0.getD k7 d_Op).Key)), .string (bs ((s_l5Text (IntKind.wrap .i64 (0 + ((p_0.getD k7 d_Op).By)))))), .bool (false)]) rfl (oc (h.dt 2 77 rfl rfl rfl) (oc (h.dt 7 82 rfl rfl rfl) oz)) (by kernel_rfl) kI
         ·intro fl455 fh456 L452 w453 hp454
          have hE457 := hp454.ex
          have hE457z := Ex.size hE457
          refine sd rfl (yC en53 rfl (oc (hp454.nt 0 75 rfl rfl rfl) (oc (hp454.nt 8 83 rfl rfl rfl) oz)) (Cal.mono (c_s_l5PutW x176 (⟨(p_0.getD k7 d_Op).Key, (s_l5Text (IntKind.wrap .i64 (0 + ((p_0.getD k7 d_Op).By)))), false⟩ : DWrite) (RdS.up (OwnL.rd gW (OwnL.ex gW (OwnL.ex gW (OwnL.ex gW (OwnL.ex gW q216 hE222) hE227) hE290) hE457)) gW) (okL.mk (xs := x176) Bl hok201) (⟨(okL.getD o2 ok_d_Op _).1, (ok_l5Text _)⟩) Bo) ?_))
          rintro v479 w475 ⟨A476, c476, lo476, hi476, rfl, h476, ho477, hp478, hrn481, hE480⟩
          have hE480z := Ex.size hE480
          refine sA rfl (SeqR.done (bn (bn (tn (CW.sub (sC 1 (hp454.old 1 _ rfl rfl) (sC 7 rfl (sC 15 (hp454.old 15 _ rfl rfl) (sC 16 (hp454.old 16 _ rfl rfl) (sC 17 (hp454.old 17 _ rfl rfl) (sC 33 (hp454.old 33 _ rfl rfl) (sC 34 (hp454.old 34 _ rfl rfl) (sC 35 (hp454.old 35 _ rfl rfl) (sC 38 (hp454.old 38 _ rfl rfl) (sC 39 (hp454.old 39 _ rfl rfl) (sC 40 (hp454.old 40 _ rfl rfl) (Sub.nil _)))))))))))) (CW.region (sd rfl (yl_inc rfl rfl rfl oM (sM rfl ?_)))))))))
          refine dn ?_
          have hB482 : B_s_l5Step_0 p_0 p_1 k7 (x176) = .cont ((s_l5PutW x176 (⟨(p_0.getD k7 d_Op).Key, (s_l5Text (IntKind.wrap .i64 (0 + ((p_0.getD k7 d_Op).By)))), false⟩ : DWrite))) := by first | (simp only [B_s_l5Step_0, hb223, hb228, hb237, hb262, hb287, hb291, cL]; done) | (simp only [B_s_l5Step_0, hb228, cL] <;> simp only [hb223, hb237, hb262, hb287, hb291, cL])
          exact ⟨p_0.length - (k7 + 1), oM, k7 + 1, (s_l5PutW x176 (⟨(p_0.getD k7 d_Op).Key, (s_l5Text (IntKind.wrap .i64 (0 + ((p_0.getD k7 d_Op).By)))), false⟩ : DWrite)), A476, c476, hi476, lo476, rfl, hlt203, oM, rfl, rfl, rfl, rfl, rfl, (RdS.ex good_Got (RdS.ex good_Got (RdS.ex good_Got (RdS.ex good_Got (RdS.ex good_Got q218 hE222) hE227) hE290) hE457) hE480), h476, (RdS.ex good_Op (RdS.ex good_Op (RdS.ex good_Op (RdS.ex good_Op y1 hE227) hE290) hE457) hE480), (Ex.trans (Ex.trans (Ex.trans (Ex.trans y0 hE227) hE290) hE457) hE480), oM, Bl, (ho477).2, (loopM.cont hlt203 hB482).symm.trans hI188⟩
       ·have hb287p := dec_f hb287
        refine CW.cond_f rfl hb287 (CW.skip (bn (bn (tn (CW.region (sd rfl (yl_inc rfl rfl rfl oM (sM rfl (SeqR.done ?_)))))))))
        refine tn ?_
        have hB502 : B_s_l5Step_0 p_0 p_1 k7 (x176) = .cont (x176) := by simp only [B_s_l5Step_0, hb223, hb228, hb237, hb262, hb287, cL]
        exact ⟨p_0.length - (k7 + 1), oM, k7 + 1, x176, A177, c178, u179, lo180, rfl, hlt203, oM, rfl, rfl, rfl, rfl, rfl, (RdS.ex good_Got (RdS.ex good_Got q218 hE222) hE227), (OwnL.ex gW (OwnL.ex gW q216 hE222) hE227), (RdS.ex good_Op y1 hE227), (Ex.trans y0 hE227), oM, Bl, hok201, (loopM.cont hlt203 hB502).symm.trans hI188⟩
   ·refine sy rfl rfl (not_f hb223) (yl_fieldAddr fd61_0 rfl rfl ?_)
    have q515 := Box.ex hB212 hE222
    refine sy rfl rfl (not_f hb223) (yl_load1 ty3 rfl rfl ((q515.cell 0).trans rfl) (sy rfl rfl (not_f hb223) (yl_neq rfl rfl rfl (sd rfl (yl_pick_t rfl rfl (not_f hb223) rfl (sM rfl (bcase (decide (((p_0.getD k7 d_Op).Kind) = 2)) (fun hb516 => ?_) (fun hb516 => ?_))))))))
    ·have hb516p := dec_t hb516
     refine sz rfl rfl (not_t hb516) (sz rfl rfl (not_t hb516) (sz rfl rfl (not_t hb516) (sd rfl (yl_pick_f rfl rfl (not_t hb516) rfl (dn (CW.cond_f rfl rfl (CW.skip (tn ?_))))))))
     refine CW.seq (cR (sd rfl (yl_loadN ty61 rfl rfl (q515.cells (n := 4) rfl) rfl (sM rfl (sM rfl (sd rfl (yC en84 rfl (oc rfl (oc rfl (oc rfl oz))) (Cal.mono (c_s_l5Gives (p_0.getD k7 d_Op) ((s_l5Stands x176 p_1 ((p_0.getD k7 d_Op).Key)).1) ((s_l5Stands x176 p_1 ((p_0.getD k7 d_Op).Key)).2.1) (okL.getD o2 ok_d_Op _) ho220) ?_))))))))
     rintro v518 w517 ⟨rfl, hE519⟩
     have hE519z := Ex.size hE519
     refine dn (bcase (s_l5Gives (p_0.getD k7 d_Op) ((s_l5Stands x176 p_1 ((p_0.getD k7 d_Op).Key)).1) ((s_l5Stands x176 p_1 ((p_0.getD k7 d_Op).Key)).2.1)) (fun hb520 => ?_) (fun hb520 => ?_))
     ·refine CW.cond_t rfl hb520 (cR (sA rfl (sA rfl (sA rfl (dn (CW.ret ?_))))))
      refine tr (br (tr (tr ?_)))
      have hB522 : B_s_l5Step_0 p_0 p_1 k7 (x176) = .ret (2, ([] : Str), ([] : List DWrite)) := by simp only [B_s_l5Step_0, hb223, hb516, hb520, cL]
      have hL521 : loopM (B_s_l5Step_0 p_0 p_1) (p_0.length - 0) 0 (([] : List DWrite)) = .ret (2, ([] : Str), ([] : List DWrite)) := hI188.symm.trans (loopM.ret hlt203 hB522)
      refine br (tr (rr rfl (.cons rfl (.cons rfl (.cons rfl .nil))) ?_))
      have hM523 : (s_l5Step p_0 p_1) = ((2, ([] : Str), ([] : List DWrite))) := by simp only [s_l5Step, hb223, hb516, hb520, hL521, cL]
      rw [hM523]
      exact ⟨none, 0, w517.heap.size, w517.heap.size, rfl, (OwnL.nil _ _ _ _ _ _), (okS.lit rfl), (okL.nil _), (by (try dsimp only); first | omega | exact Nat.zero_le _ | (simp only [List.length_nil]; omega)), oM, (Ex.trans y0 hE519)⟩
     ·refine CW.cond_f rfl hb520 (CW.skip (tn (cR (sd rfl (yl_fieldAddr fd61_0 rfl rfl ?_)))))
      have q528 := Box.ex q515 hE519
      refine sd rfl (yl_load1 ty3 rfl rfl ((q528.cell 0).trans rfl) (dn (CW.block (cR (sd rfl (yl_eql rfl rfl rfl (sA rfl (SeqR.done ?_))))))))
      refine tn (CW.cond_t rfl hb516 (CW.region (sM rfl (sd rfl (yl_fieldAddr fd61_1 rfl rfl (sd rfl (yl_load1 ty9 rfl rfl ((q528.cell 1).trans rfl) (sd rfl (yl_fieldAddr fd61_2 rfl rfl (sd rfl (yl_load1 ty9 rfl rfl ((q528.cell 2).trans rfl) (sd rfl (yl_build (cs := [.string (bs ((p_0.getD k7 d_Op).Key)), .string (bs ((p_0.getD k7 d_Op).Val)), .bool (false)]) rfl (oc rfl (oc rfl oz)) (by kernel_rfl) ?_)))))))))))))
      refine sd rfl (yC en53 rfl (oc rfl (oc rfl oz)) (Cal.mono (c_s_l5PutW x176 (⟨(p_0.getD k7 d_Op).Key, (p_0.getD k7 d_Op).Val, false⟩ : DWrite) (RdS.up (OwnL.rd gW (OwnL.ex gW (OwnL.ex gW q216 hE222) hE519)) gW) (okL.mk (xs := x176) Bl hok201) (⟨(okL.getD o2 ok_d_Op _).1, (okL.getD o2 ok_d_Op _).2⟩) Bo) ?_))
      rintro v536 w532 ⟨A533, c533, lo533, hi533, rfl, h533, ho534, hp535, hrn538, hE537⟩
      have hE537z := Ex.size hE537
      refine sA rfl (SeqR.done (bn (bn (tn (CW.region (sd rfl (yl_inc rfl rfl rfl oM (sM rfl (SeqR.done ?_)))))))))
      refine tn ?_
      have hB539 : B_s_l5Step_0 p_0 p_1 k7 (x176) = .cont ((s_l5PutW x176 (⟨(p_0.getD k7 d_Op).Key, (p_0.getD k7 d_Op).Val, false⟩ : DWrite))) := by simp only [B_s_l5Step_0, hb223, hb516, hb520, cL]
      exact ⟨p_0.length - (k7 + 1), oM, k7 + 1, (s_l5PutW x176 (⟨(p_0.getD k7 d_Op).Key, (p_0.getD k7 d_Op).Val, false⟩ : DWrite)), A533, c533, hi533, lo533, rfl, hlt203, oM, rfl, rfl, rfl, rfl, rfl, (RdS.ex good_Got (RdS.ex good_Got (RdS.ex good_Got q218 hE222) hE519) hE537), h533, (RdS.ex good_Op (RdS.ex good_Op y1 hE519) hE537), (Ex.trans (Ex.trans y0 hE519) hE537), oM, Bl, (ho534).2, (loopM.cont hlt203 hB539).symm.trans hI188⟩
    ·have hb516p := dec_f hb516
     refine sy rfl rfl (not_f hb516) (yl_fieldAddr fd61_0 rfl rfl (sy rfl rfl (not_f hb516) (yl_load1 ty3 rfl rfl ((q515.cell 0).trans rfl) (sy rfl rfl (not_f hb516) (yl_neq rfl rfl rfl (sd rfl (yl_pick_t rfl rfl (not_f hb516) rfl (dn (bcase (decide (((p_0.getD k7 d_Op).Kind) = 3)) (fun hb553 => ?_) (fun hb553 => ?_))))))))))
     ·have hb553p := dec_t hb553
      refine CW.cond_f rfl (not_t hb553) (CW.skip (tn (CW.seq (cR (sd rfl (yl_loadN ty61 rfl rfl (q515.cells (n := 4) rfl) rfl (sM rfl (sM rfl ?_))))))))
      refine sd rfl (yC en84 rfl (oc rfl (oc rfl (oc rfl oz))) (Cal.mono (c_s_l5Gives (p_0.getD k7 d_Op) ((s_l5Stands x176 p_1 ((p_0.getD k7 d_Op).Key)).1) ((s_l5Stands x176 p_1 ((p_0.getD k7 d_Op).Key)).2.1) (okL.getD o2 ok_d_Op _) ho220) ?_))
      rintro v555 w554 ⟨rfl, hE556⟩
      have hE556z := Ex.size hE556
      refine dn (bcase (s_l5Gives (p_0.getD k7 d_Op) ((s_l5Stands x176 p_1 ((p_0.getD k7 d_Op).Key)).1) ((s_l5Stands x176 p_1 ((p_0.getD k7 d_Op).Key)).2.1)) (fun hb557 => ?_) (fun hb557 => ?_))
      ·refine CW.cond_t rfl hb557 (cR (sA rfl (sA rfl (sA rfl (dn (CW.ret ?_))))))
       refine tr (br (tr (tr ?_)))
       have hB559 : B_s_l5Step_0 p_0 p_1 k7 (x176) = .ret (2, ([] : Str), ([] : List DWrite)) := by simp only [B_s_l5Step_0, hb223, hb516, hb553, hb557, cL]
       have hL558 : loopM (B_s_l5Step_0 p_0 p_1) (p_0.length - 0) 0 (([] : List DWrite)) = .ret (2, ([] : Str), ([] : List DWrite)) := hI188.symm.trans (loopM.ret hlt203 hB559)
       refine br (tr (rr rfl (.cons rfl (.cons rfl (.cons rfl .nil))) ?_))
       have hM560 : (s_l5Step p_0 p_1) = ((2, ([] : Str), ([] : List DWrite))) := by simp only [s_l5Step, hb223, hb516, hb553, hb557, hL558, cL]
       rw [hM560]
       exact ⟨none, 0, w554.heap.size, w554.heap.size, rfl, (OwnL.nil _ _ _ _ _ _), (okS.lit rfl), (okL.nil _), (by (try dsimp only); first | omega | exact Nat.zero_le _ | (simp only [List.length_nil]; omega)), oM, (Ex.trans y0 hE556)⟩
      ·refine CW.cond_f rfl hb557 (CW.skip (tn (cR (sd rfl (yl_fieldAddr fd61_0 rfl rfl ?_)))))
       have q565 := Box.ex q515 hE556
       refine sd rfl (yl_load1 ty3 rfl rfl ((q565.cell 0).trans rfl) (dn (CW.block (cR (sd rfl (yl_eql rfl rfl rfl (sA rfl (SeqR.done ?_))))))))
       refine tn (CW.cond_f rfl hb516 (cR (sd rfl (yl_eql rfl rfl rfl (sA rfl (dn (CW.cond_t rfl hb553 ?_)))))))
       refine CW.region (sM rfl (sd rfl (yl_fieldAddr fd61_1 rfl rfl (sd rfl (yl_load1 ty9 rfl rfl ((q565.cell 1).trans rfl) (sd rfl (yl_build (cs := [.string (bs ((p_0.getD k7 d_Op).Key)), .string (bs (([] : Str))), .bool (true)]) rfl (oc rfl (oc rfl oz)) (by kernel_rfl) (sd rfl (yC en53 rfl (oc rfl (oc rfl oz)) (Cal.mono (c_s_l5PutW x176 (⟨(p_0.getD k7 d_Op).Key, ([] : Str), true⟩ : DWrite) (RdS.up (OwnL.rd gW (OwnL.ex gW (OwnL.ex gW q216 hE222) hE556)) gW) (okL.mk (xs := x176) Bl hok201) (⟨(okL.getD o2 ok_d_Op _).1, (okS.lit rfl)⟩) Bo) ?_))))))))))
       rintro v573 w569 ⟨A570, c570, lo570, hi570, rfl, h570, ho571, hp572, hrn575, hE574⟩
       have hE574z := Ex.size hE574
       refine sA rfl (SeqR.done (bn (bn (tn (CW.region (sd rfl (yl_inc rfl rfl rfl oM (sM rfl (SeqR.done ?_)))))))))
       refine tn ?_
       have hB576 : B_s_l5Step_0 p_0 p_1 k7 (x176) = .cont ((s_l5PutW x176 (⟨(p_0.getD k7 d_Op).Key, ([] : Str), true⟩ : DWrite))) := by simp only [B_s_l5Step_0, hb223, hb516, hb553, hb557, cL]
       exact ⟨p_0.length - (k7 + 1), oM, k7 + 1, (s_l5PutW x176 (⟨(p_0.getD k7 d_Op).Key, ([] : Str), true⟩ : DWrite)), A570, c570, hi570, lo570, rfl, hlt203, oM, rfl, rfl, rfl, rfl, rfl, (RdS.ex good_Got (RdS.ex good_Got (RdS.ex good_Got q218 hE222) hE556) hE574), h570, (RdS.ex good_Op (RdS.ex good_Op y1 hE556) hE574), (Ex.trans (Ex.trans y0 hE556) hE574), oM, Bl, (ho571).2, (loopM.cont hlt203 hB576).symm.trans hI188⟩
     ·have hb553p := dec_f hb553
      refine CW.cond_t rfl (not_f hb553) (CW.seq (drI 3 [.pointer (some ⟨b205, 0 + 1, none⟩), .string (bs ((p_0.getD k7 d_Op).Key)), .int .i64 (1)] Tryz.follows rfl ⟨?_, ?_, ?_, trivial⟩ ?_))
      ·exact oI rfl fun h => yl_fieldAddr fd61_1 rfl (h.old 9 _ rfl rfl) kI
      ·exact oI rfl fun h => yl_load1 ty9 rfl (h.dt 0 42 rfl rfl rfl) (((Box.ex q515 h.ex).cell 1).trans rfl) kI
      ·exact oI rfl fun _ => yA rfl rfl kI
      ·intro fl608 fh609 L605 w606 hp607
       have hE610 := hp607.ex
       have hE610z := Ex.size hE610
       refine sd rfl (yA rfl (hp607.nt 1 43 rfl rfl rfl) (sA rfl (dn (CW.sub (sC 4 (hp607.nt 2 4 rfl rfl rfl) (sC 5 rfl (sC 6 rfl (Sub.nil _)))) (CW.ret (tr (br (tr ?_))))))))
       refine tr ?_
       have hB614 : B_s_l5Step_0 p_0 p_1 k7 (x176) = .ret (1, (p_0.getD k7 d_Op).Key, ([] : List DWrite)) := by simp only [B_s_l5Step_0, hb223, hb516, hb553, cL]
       have hL613 : loopM (B_s_l5Step_0 p_0 p_1) (p_0.length - 0) 0 (([] : List DWrite)) = .ret (1, (p_0.getD k7 d_Op).Key, ([] : List DWrite)) := hI188.symm.trans (loopM.ret hlt203 hB614)
       refine br (tr (rr rfl (.cons rfl (.cons rfl (.cons rfl .nil))) ?_))
       have hM615 : (s_l5Step p_0 p_1) = ((1, (p_0.getD k7 d_Op).Key, ([] : List DWrite))) := by simp only [s_l5Step, hb223, hb516, hb553, hL613, cL]
       rw [hM615]
       exact ⟨none, 0, w606.heap.size, w606.heap.size, rfl, (OwnL.nil _ _ _ _ _ _), (okL.getD o2 ok_d_Op _).1, (okL.nil _), (by (try dsimp only); first | omega | exact Nat.zero_le _ | (simp only [List.length_nil]; omega)), oM, (Ex.trans y0 hE610)⟩
  ·refine cR (sd rfl (yl_lss rfl rfl rfl (dn (CW.seq (CW.cond_f rfl (lt_f hlt203) (CW.exit (tx ?_)))))))
   refine tx ?_
   have hL620 : loopM (B_s_l5Step_0 p_0 p_1) (p_0.length - 0) 0 (([] : List DWrite)) = .done (x176) := hI188.symm.trans (loopM.stop hlt203)
   refine bx (tn (cR (sM rfl (sA rfl (sA rfl (sA rfl (SeqR.done ?_)))))))
   refine tn (CW.ret (rr rfl (.cons rfl (.cons rfl (.cons rfl .nil))) ?_))
   have hM621 : (s_l5Step p_0 p_1) = ((3, ([] : Str), x176)) := by simp only [s_l5Step, hL620, cL]
   rw [hM621]
   exact ⟨A177, c178, lo180, u179, rfl, hf196, (okS.lit rfl), (okL.mk (xs := x176) Bl hok201), (by (try dsimp only); first | omega | exact Nat.zero_le _ | (simp only [List.length_nil]; omega)), oM, hf198⟩
theorem c_s_l5Tell {A1 : Option Addr} {c1 : Nat} {w : World} (p_rows : List DWrite) (p_key : Str) (h1 : RdS w (Iv 0 w.heap.size) (RF e_Write) 3 A1 p_rows.length c1 p_rows) (o2 : (okL ok_Write) p_rows) (o3 : okS p_key) : Cal Tryz.prog 52 #[.slice A1 p_rows.length c1, .string (bs (p_key))] w fun v w' => v = .agg #[.string (bs ((s_l5Tell p_rows p_key).Key)), .string (bs ((s_l5Tell p_rows p_key).Val)), .bool ((s_l5Tell p_rows p_key).There)] ∧ ok_Got (s_l5Tell p_rows p_key) ∧ Ex w w' := by
 have hol4 := o2.1
 have hol5 : p_key.length ≤ 1073741824 := o3
 refine Cal.of func52 rfl ntmps52 rfl (cR (sd rfl (yB ty95 (cs := [.string (bs (([] : Str))), .string (bs (([] : Str))), .bool (false)]) rfl rfl ?_)))
 intro b6 w7 hs8 hz9 hB10 hE11
 refine dn (CW.seq (cR (sM rfl (sd rfl (yL un42 rfl rfl (sM rfl (SeqR.done ?_)))))))
 refine tn (CW.block (CW.loop (fun m27 L28 w29 => ∃ (k12 : Nat), m27 = p_rows.length - k12 ∧ k12 ≤ p_rows.length ∧ w7.heap.size ≤ w29.heap.size ∧ lkp L28 1 = some (.string (bs (p_key))) ∧ lkp L28 4 = some (.pointer (some ⟨b6, 0, none⟩)) ∧ lkp L28 7 = some (.slice A1 p_rows.length c1) ∧ lkp L28 8 = some (.int .i64 ((p_rows.length : Int))) ∧ lkp L28 9 = some (.int .i64 ((k12 : Int))) ∧ Box w29 b6 95 [.string (bs (([] : Str))), .string (bs (([] : Str))), .bool (false)] ∧ RdS w29 (Iv 0 w.heap.size) (RF e_Write) 3 A1 p_rows.length c1 p_rows ∧ Ex w w29 ∧ loopM (B_s_l5Tell_0 p_rows p_key) (p_rows.length - k12) k12 () = loopM (B_s_l5Tell_0 p_rows p_key) (p_rows.length - 0) 0 ()) (p_rows.length - 0) ?_ ?_))
 ·exact ⟨0, rfl, oM, Nat.le_refl _, rfl, rfl, rfl, rfl, rfl, hB10, (RdS.ex gW h1 hE11), (Ex.trans (Ex.refl w) hE11), rfl⟩
 ·rintro m32 L33 w34 ⟨k12, rfl, hk35, hsz37, hl38, hl39, hl40, hl41, hl42, hf43, hf44, hf45, hI36⟩
  refine CW.sub (Sub.cons hl38 (Sub.cons hl39 (Sub.cons hl40 (Sub.cons hl41 (Sub.cons hl42 (Sub.nil _)))))) ?_
  have hf43z := Box.lt hf43
  have hf45z := Ex.size hf45
  have hbg46 := RdS.big hf44
  rcases Nat.lt_or_ge k12 p_rows.length with hlt47 | hlt47
  ·refine cR (sd rfl (yl_lss rfl rfl rfl (dn (CW.seq (CW.cond_t rfl (lt_t hlt47) (CW.skip (tn ?_)))))))
   refine CW.seq (CW.block (cR ?_))
   obtain ⟨eb48, eo48, _, eA48, _, ebl48, _, eR48, eC48⟩ := RdS.aD hf44 d_Write (i := k12)
   obtain rfl := eR48
   have eC48 : Cells w34 eb48 (eo48 + k12 * 3) [.string (bs ((p_rows.getD k12 d_Write).Key)), .string (bs ((p_rows.getD k12 d_Write).Val)), .bool ((p_rows.getD k12 d_Write).Gone)] := eC48
   refine sd rfl (yl_ixN un42 ty39 rfl rfl rfl eA48 (sd rfl (yl_loadN ty39 rfl rfl eC48 rfl (sd rfl (yB ty39 (cs := [.string (bs (([] : Str))), .string (bs (([] : Str))), .bool (false)]) rfl rfl ?_)))))
   intro b49 w50 hs51 hz52 hB53 hE54
   refine SeqR.u rfl rfl (yl_store (vs := [.string (bs ((p_rows.getD k12 d_Write).Key)), .string (bs ((p_rows.getD k12 d_Write).Val)), .bool ((p_rows.getD k12 d_Write).Gone)]) ty39 rfl rfl rfl rfl rfl rfl hB53 (nb rfl) ?_)
   intro w55 hB56 hO57
   have hB56 : Box w55 b49 39 [.string (bs ((p_rows.getD k12 d_Write).Key)), .string (bs ((p_rows.getD k12 d_Write).Val)), .bool ((p_rows.getD k12 d_Write).Gone)] := hB56
   have hO57z := hO57.size
   refine dn (cR (sd rfl (yl_fieldAddr fd39_0 rfl rfl (sd rfl (yl_load1 ty9 rfl rfl ((hB56.cell 0).trans rfl) (sM rfl (sd rfl (yl_seql (a := ((p_rows.getD k12 d_Write).Key)) (b := p_key) rfl rfl rfl (SeqR.done ?_)))))))))
   refine tn (bcase (((p_rows.getD k12 d_Write).Key) == p_key) (fun hb58 => ?_) (fun hb58 => ?_))
   ·refine CW.cond_t rfl hb58 (cR (sM rfl (sd rfl (yl_fieldAddr fd39_1 rfl rfl (sd rfl (yl_load1 ty9 rfl rfl ((hB56.cell 1).trans rfl) (sd rfl (yl_build (cs := [.string (bs (p_key)), .string (bs ((p_rows.getD k12 d_Write).Val)), .bool (true)]) rfl (oc rfl (oc rfl (oc rfl oz))) (by kernel_rfl) (SeqR.u rfl rfl (yl_store (vs := [.string (bs (p_key)), .string (bs ((p_rows.getD k12 d_Write).Val)), .bool (true)]) ty95 rfl rfl rfl rfl rfl rfl (Box.only (Box.ex hf43 hE54) hO57 oM) (nb rfl) ?_))))))))))
    intro w61 hB62 hO63
    have hB62 : Box w61 b6 95 [.string (bs (p_key)), .string (bs ((p_rows.getD k12 d_Write).Val)), .bool (true)] := hB62
    have hO63z := hO63.size
    refine dn (CW.ret (br (tr (tr ?_))))
    have hB65 : B_s_l5Tell_0 p_rows p_key k12 () = .ret (⟨p_key, (p_rows.getD k12 d_Write).Val, true⟩ : DGot) := by simp only [B_s_l5Tell_0, hb58, cL]
    have hL64 : loopM (B_s_l5Tell_0 p_rows p_key) (p_rows.length - 0) 0 () = .ret (⟨p_key, (p_rows.getD k12 d_Write).Val, true⟩ : DGot) := hI36.symm.trans (loopM.ret hlt47 hB65)
    refine br (tr (rr rfl (.cons ⟨_, rfl, run_loadN ty95 (cs := [.string (bs (p_key)), .string (bs ((p_rows.getD k12 d_Write).Val)), .bool (true)]) rfl (hB62.cells (n := 3) rfl)⟩ .nil) ?_))
    have hM66 : (s_l5Tell p_rows p_key) = ((⟨p_key, (p_rows.getD k12 d_Write).Val, true⟩ : DGot)) := by simp only [s_l5Tell, hb58, hL64, cL]
    rw [hM66]
    exact ⟨rfl, ⟨o3, (okL.getD o2 ok_d_Write _).2⟩, (Below.only (Below.only (Ex.trans hf45 hE54) hO57 oM) hO63 oM)⟩
   ·refine CW.cond_f rfl hb58 (CW.skip (bn (tn (CW.region (sd rfl (yl_inc rfl rfl rfl oM (sM rfl (dn ?_))))))))
    have hB70 : B_s_l5Tell_0 p_rows p_key k12 () = .cont () := by simp only [B_s_l5Tell_0, hb58, cL]
    exact ⟨p_rows.length - (k12 + 1), oM, k12 + 1, rfl, hlt47, oM, rfl, rfl, rfl, rfl, rfl, (Box.only (Box.ex hf43 hE54) hO57 oM), (RdS.only gW (RdS.ex gW hf44 hE54) hO57 (by simp only [Iv]; omega)), (Below.only (Ex.trans hf45 hE54) hO57 oM), (loopM.cont hlt47 hB70).symm.trans hI36⟩
  ·refine cR (sd rfl (yl_lss rfl rfl rfl (dn (CW.seq (CW.cond_f rfl (lt_f hlt47) (CW.exit (tx ?_)))))))
   refine tx ?_
   have hL77 : loopM (B_s_l5Tell_0 p_rows p_key) (p_rows.length - 0) 0 () = .done () := hI36.symm.trans (loopM.stop hlt47)
   refine bx (tn (cR (sM rfl (sd rfl (yl_build (cs := [.string (bs (p_key)), .string (bs (([] : Str))), .bool (false)]) rfl (oc rfl oz) (by kernel_rfl) (SeqR.u rfl rfl (yl_store (vs := [.string (bs (p_key)), .string (bs (([] : Str))), .bool (false)]) ty95 rfl rfl rfl rfl rfl rfl hf43 (nb rfl) ?_)))))))
   intro w78 hB79 hO80
   have hB79 : Box w78 b6 95 [.string (bs (p_key)), .string (bs (([] : Str))), .bool (false)] := hB79
   have hO80z := hO80.size
   refine dn (CW.ret (rr rfl (.cons ⟨_, rfl, run_loadN ty95 (cs := [.string (bs (p_key)), .string (bs (([] : Str))), .bool (false)]) rfl (hB79.cells (n := 3) rfl)⟩ .nil) ?_))
   have hM81 : (s_l5Tell p_rows p_key) = ((⟨p_key, ([] : Str), false⟩ : DGot)) := by simp only [s_l5Tell, hL77, cL]
   rw [hM81]
   exact ⟨rfl, ⟨o3, (okS.lit rfl)⟩, (Below.only hf45 hO80 oM)⟩
theorem c_s_l5Alone {A1 : Option Addr} {c1 : Nat} {A3 : Option Addr} {c3 : Nat} {w : World} (p_rows : List DWrite) (p_l : List DOp) (h1 : RdS w (Iv 0 w.heap.size) (RF e_Write) 3 A1 p_rows.length c1 p_rows) (h3 : RdS w (Iv 0 w.heap.size) (RF e_Op) 4 A3 p_l.length c3 p_l) (o2 : (okL ok_Write) p_rows) (o4 : (okL ok_Op) p_l) (pre0 : ∀ y ∈ p_l, y.Kind ≠ 4) (pre1 : p_l.length ≤ 100) : Cal Tryz.prog 28 #[.slice A1 p_rows.length c1, .slice A3 p_l.length c3] w fun v w' => ∃ A_1 c_1 A_2 c_2, v = .tuple #[.slice A_1 (((s_l5Alone p_rows p_l).1).length) c_1, .slice A_2 (((s_l5Alone p_rows p_l).2.1).length) c_2, .bool ((s_l5Alone p_rows p_l).2.2)] ∧ RdS w' (Iv w.heap.size w'.heap.size) (RF e_Got) 3 A_1 ((s_l5Alone p_rows p_l).1).length c_1 ((s_l5Alone p_rows p_l).1) ∧ RdS w' (Iv w.heap.size w'.heap.size) (RF e_Write) 3 A_2 ((s_l5Alone p_rows p_l).2.1).length c_2 ((s_l5Alone p_rows p_l).2.1) ∧ (okL ok_Got) ((s_l5Alone p_rows p_l).1) ∧ (okL ok_Write) ((s_l5Alone p_rows p_l).2.1) ∧ ((s_l5Alone p_rows p_l).2.1).length ≤ p_l.length ∧ Ex w w' := by
 have hol5 := o2.1
 have hol6 := o4.1
 refine Cal.of func28 rfl ntmps28 rfl (cR (sA rfl (sA rfl (sA rfl (dn (CW.seq ?_))))))
 refine CW.region (sA rfl (dn (CW.block (CW.loop (fun m45 L46 w47 => ∃ (x40 : List DGot) (A41 : Option Addr) (c42 : Nat) (u43 : Nat) (lo44 : Nat), ((p_l.filter fun o => !((x40 : List DGot).any fun g => g.Key == o.Key)).length) < m45 ∧ w.heap.size ≤ w47.heap.size ∧ lkp L46 0 = some (.slice A1 p_rows.length c1) ∧ lkp L46 1 = some (.slice A3 p_l.length c3) ∧ lkp L46 7 = some (.slice A41 x40.length c42) ∧ RdS w47 (Iv 0 w.heap.size) (RF e_Write) 3 A1 p_rows.length c1 p_rows ∧ RdS w47 (Iv 0 w.heap.size) (RF e_Op) 4 A3 p_l.length c3 p_l ∧ OwnL w47 lo44 u43 95 3 (RF e_Got) A41 x40.length c42 x40 ∧ Ex w w47 ∧ (w.heap.size ≤ lo44 ∧ lo44 ≤ u43 ∧ u43 ≤ w47.heap.size) ∧ x40.length + 1 * ((p_l.filter fun o => !((x40 : List DGot).any fun g => g.Key == o.Key)).length) ≤ 0 + 1 * ((p_l.filter fun o => !(([] : List DGot).any fun g => g.Key == o.Key)).length) ∧ (∀ y ∈ x40, ok_Got y) ∧ (x40.length + ((p_l.filter fun o => !((x40 : List DGot).any fun g => g.Key == o.Key)).length) ≤ p_l.length) ∧ loopW (B_s_l5Alone_0 p_rows p_l) m45 (x40) = loopW (B_s_l5Alone_0 p_rows p_l) (((p_l.filter fun o => !(([] : List DGot).any fun g => g.Key == o.Key)).length) + 1) (([] : List DGot))) (((p_l.filter fun o => !(([] : List DGot).any fun g => g.Key == o.Key)).length) + 1) ?_ ?_))))
 ·exact ⟨([] : List DGot), none, 0, w.heap.size, w.heap.size, Nat.lt_succ_self _, Nat.le_refl _, rfl, rfl, rfl, h1, h3, (OwnL.nil w w.heap.size w.heap.size 95 3 (RF e_Got)), (Ex.refl w), oM, (by first | (simp; done) | (first | omega | (simp only [lN, toS_length]; omega))), okE.nil, (by first | exact asks_0 _ | omega), rfl⟩
 ·rintro m48 L49 w50 ⟨x40, A41, c42, u43, lo44, hk51, hsz53, hl54, hl55, hl56, hf57, hf58, hf59, hf60, hu61, hln62, hok63, hv64, hI52⟩
  refine CW.sub (Sub.cons hl54 (Sub.cons hl55 (Sub.cons hl56 (Sub.nil _)))) ?_
  have hf60z := Ex.size hf60
  refine CW.block (cR (sM rfl (sM rfl (sd rfl (yC en51 rfl (oc rfl (oc rfl oz)) (Cal.mono (c_s_l5Step p_l x40 (RdS.up hf58 good_Op) (RdS.up (OwnL.rd good_Got hf59) good_Got) o4 (okL.mk (xs := x40) Bl hok63) Bo Bo) ?_))))))
  rintro v71 w66 ⟨A67, c67, lo67, hi67, rfl, h67, ho68, ho69, hp70, hrn73, hE72⟩
  have hE72z := Ex.size hE72
  refine sM rfl (sd rfl (yl_extract rfl rfl rfl (sd rfl (yl_extract rfl rfl rfl (sd rfl (yl_extract rfl rfl rfl (sA rfl (sA rfl (sA rfl (dn ?_))))))))))
  refine CW.seq (cR (sM rfl (sd rfl (yl_neq rfl rfl rfl (dn (bcase (decide (((s_l5Step p_l x40).1) = 1)) (fun hb74 => ?_) (fun hb74 => ?_)))))))
  ·have hb74p := dec_t hb74
   refine CW.cond_f rfl (not_t hb74) (CW.skip (tn (CW.region (sM rfl (sM rfl (sM rfl ?_))))))
   have q75 := RdS.ex gW hf57 hE72
   refine sd rfl (yC en52 rfl (oc rfl (oc rfl oz)) (Cal.mono (c_s_l5Tell p_rows ((s_l5Step p_l x40).2.1) (RdS.up q75 gW) o2 ho68) ?_))
   rintro v78 w76 ⟨rfl, ho77, hE79⟩
   have hE79z := Ex.size hE79
   refine sd rfl (yl_buildSlice (cs := [.string (bs ((s_l5Tell p_rows ((s_l5Step p_l x40).2.1)).Key)), .string (bs ((s_l5Tell p_rows ((s_l5Step p_l x40).2.1)).Val)), .bool ((s_l5Tell p_rows ((s_l5Step p_l x40).2.1)).There)]) un65 ty95 (by decide) rfl (oc rfl oz) (by kernel_rfl) ?_)
   intro b80 w81 hs82 hz83 hB84 hE85
   have hO86 : OwnL w81 b80 (b80 + 1) 95 3 (RF e_Got) (some ⟨b80, 0, none⟩) 1 1 ([(s_l5Tell p_rows ((s_l5Step p_l x40).2.1))] : List DGot) := OwnL.of_box (S := fun _ => False) hB84 (Nat.le_refl _) (Nat.lt_succ_self _) (EncL.cons (c := [.string (bs ((s_l5Tell p_rows ((s_l5Step p_l x40).2.1)).Key)), .string (bs ((s_l5Tell p_rows ((s_l5Step p_l x40).2.1)).Val)), .bool ((s_l5Tell p_rows ((s_l5Step p_l x40).2.1)).There)]) rfl rfl EncL.nil) (nb rfl) (fun h => h) (fun _ h => False.elim h)
   refine sd rfl (yl_appendP (S := fun _ => False) (lo := lo44) (hi := u43) (xs := x40) (ys := ([(s_l5Tell p_rows ((s_l5Step p_l x40).2.1))] : List DGot)) un65 ty95 rfl (nb rfl) (fun _ => rfl) rfl rfl rfl (OwnL.ex good_Got (OwnL.ex good_Got (OwnL.ex good_Got hf59 hE72) hE79) hE85) (EncL.cons (c := [.string (bs ((s_l5Tell p_rows ((s_l5Step p_l x40).2.1)).Key)), .string (bs ((s_l5Tell p_rows ((s_l5Step p_l x40).2.1)).Val)), .bool ((s_l5Tell p_rows ((s_l5Step p_l x40).2.1)).There)]) rfl rfl EncL.nil) (Or.inr ⟨_, _, rfl, rfl, hB84.cells (o := 0) (n := 3) rfl⟩) rfl Bl Bl oM oM oM ?_)
   intro A90 c91 w92 row93 lp94 hp95 hO96 hG97 hrg98 hdj99
   have hG97z := hG97.size
   refine sA rfl (SeqR.done (bn (tn ?_)))
   have hB100 : B_s_l5Alone_0 p_rows p_l (x40) = .cont ((x40 ++ ([(s_l5Tell p_rows ((s_l5Step p_l x40).2.1))] : List DGot))) := by simp only [B_s_l5Alone_0, hb74, cL]
   have hmu112 : ((p_l.filter fun o => !(((x40 ++ ([(s_l5Tell p_rows ((s_l5Step p_l x40).2.1))] : List DGot)) : List DGot).any fun g => g.Key == o.Key)).length) < ((p_l.filter fun o => !((x40 : List DGot).any fun g => g.Key == o.Key)).length) := by (have hq := ask_less (rows := p_rows) (l := p_l) (got := x40) (by first | assumption | exact of_decide_eq_true (by assumption) | omega); first | exact hq | (simp only [lN]; omega))
   exact ⟨m48 - 1, oM, (x40 ++ ([(s_l5Tell p_rows ((s_l5Step p_l x40).2.1))] : List DGot)), A90, c91, hp95, lp94, oM, oM, rfl, rfl, rfl, (RdS.grown gW (RdS.ex gW (RdS.ex gW q75 hE79) hE85) hG97 (fun k hk => by have := hrg98 k hk; simp only [Iv]; omega)), (RdS.grown good_Op (RdS.ex good_Op (RdS.ex good_Op (RdS.ex good_Op hf58 hE72) hE79) hE85) hG97 (fun k hk => by have := hrg98 k hk; simp only [Iv]; omega)), hO96, (Below.grown (Ex.trans (Ex.trans (Ex.trans hf60 hE72) hE79) hE85) hG97 oM (fun k hk => by have := hrg98 k hk; omega)), oM, Bl, (okE.append hok63 ((okL.mk (nb rfl) (okE.cons ho77 okE.nil))).2), (by (have hq := ask_less (rows := p_rows) (l := p_l) (got := x40) (by first | assumption | exact of_decide_eq_true (by assumption) | omega); first | exact hq | (simp only [lN]; omega))), (loopW.cont hk51 hB100).symm.trans hI52⟩
  ·have hb74p := dec_f hb74
   refine CW.cond_t rfl (not_f hb74) (cR (sM rfl (sM rfl (sM rfl (sd rfl (yl_eql rfl rfl rfl (sA rfl (sA rfl ?_))))))))
   refine sA rfl (dn (CW.ret (tr (br (tr ?_)))))
   have hB114 : B_s_l5Alone_0 p_rows p_l (x40) = .ret (x40, (s_l5Step p_l x40).2.2, decide (((s_l5Step p_l x40).1) = 3)) := by simp only [B_s_l5Alone_0, hb74, cL]
   have hL113 : loopW (B_s_l5Alone_0 p_rows p_l) (((p_l.filter fun o => !(([] : List DGot).any fun g => g.Key == o.Key)).length) + 1) (([] : List DGot)) = .ret (x40, (s_l5Step p_l x40).2.2, decide (((s_l5Step p_l x40).1) = 3)) := hI52.symm.trans (loopW.ret hk51 hB114)
   refine br (rr rfl (.cons rfl (.cons rfl (.cons rfl .nil))) ?_)
   have hM115 : (s_l5Alone p_rows p_l) = ((x40, (s_l5Step p_l x40).2.2, decide (((s_l5Step p_l x40).1) = 3))) := by simp only [s_l5Alone, hb74, hL113, cL]
   rw [hM115]
   exact ⟨A41, c42, A67, c67, rfl, (RdS.wideI good_Got (OwnL.rd good_Got (OwnL.ex good_Got hf59 hE72)) oM), (RdS.wideI gW (OwnL.rd gW h67) oM), (okL.mk (xs := x40) Bl hok63), ho69, (by (try dsimp only); first | omega | assumption), (Ex.trans hf60 hE72)⟩
theorem c_s_l5PutRows {A1 : Option Addr} {c1 : Nat} {A3 : Option Addr} {c3 : Nat} {w : World} (p_rows : List DWrite) (p_w : List DWrite) (h1 : RdS w (Iv 0 w.heap.size) (RF e_Write) 3 A1 p_rows.length c1 p_rows) (h3 : RdS w (Iv 0 w.heap.size) (RF e_Write) 3 A3 p_w.length c3 p_w) (o2 : (okL ok_Write) p_rows) (o4 : (okL ok_Write) p_w) (pre0 : p_rows.length ≤ 100) (pre1 : p_w.length ≤ 100) : Cal Tryz.prog 29 #[.slice A1 p_rows.length c1, .slice A3 p_w.length c3] w fun v w' => ∃ A_1 c_1 lo_1 hi_1, v = .slice A_1 ((s_l5PutRows p_rows p_w).length) c_1 ∧ OwnL w' lo_1 hi_1 39 3 (RF e_Write) A_1 ((s_l5PutRows p_rows p_w).length) c_1 (s_l5PutRows p_rows p_w) ∧ (okL ok_Write) (s_l5PutRows p_rows p_w) ∧ (w.heap.size ≤ lo_1 ∧ lo_1 ≤ hi_1 ∧ hi_1 ≤ w'.heap.size) ∧ Ex w w' := by
 have hol5 := o2.1
 have hol6 := o4.1
 refine Cal.of func29 rfl ntmps29 rfl (cR (sA rfl (dn (cR (sd rfl (yl_buildSlice (cs := []) un42 ty39 (by decide) rfl opvs_nil (by kernel_rfl) ?_))))))
 intro b7 w8 hs9 hz10 hB11 hE12
 have hO13 : OwnL w8 b7 (b7 + 1) 39 3 (RF e_Write) (some ⟨b7, 0, none⟩) 0 0 ([] : List DWrite) := OwnL.of_box (S := fun _ => False) hB11 (Nat.le_refl _) (Nat.lt_succ_self _) EncL.nil (nb rfl) (fun h => h) (fun _ h => False.elim h)
 refine sM rfl ?_
 obtain ⟨nw15, he16, hs17⟩ := RdS.src (RdS.ex gW h1 hE12)
 have hol18 : p_rows.length ≤ 2147483648 := o2.1
 refine sd rfl (yl_appendP (S := fun _ => False) (lo := b7) (hi := (b7 + 1)) (xs := ([] : List DWrite)) (ys := p_rows) un42 ty39 rfl (nb rfl) (fun _ => rfl) rfl rfl rfl hO13 he16 hs17 rfl Bl Bl oM oM oM ?_)
 intro A19 c20 w21 row22 lp23 hp24 hO25 hG26 hrg27 hdj28
 have hG26z := hG26.size
 refine sA rfl (dn (CW.seq (cR (sM rfl (sd rfl (yL un42 rfl rfl (sM rfl ?_)))))))
 refine dn (CW.block (CW.loop (fun m73 L74 w75 => ∃ (k29 : Nat) (x68 : List DWrite) (A69 : Option Addr) (c70 : Nat) (u71 : Nat) (lo72 : Nat), m73 = p_w.length - k29 ∧ k29 ≤ p_w.length ∧ w21.heap.size ≤ w75.heap.size ∧ lkp L74 5 = some (.slice A69 x68.length c70) ∧ lkp L74 14 = some (.slice A3 p_w.length c3) ∧ lkp L74 15 = some (.int .i64 ((p_w.length : Int))) ∧ lkp L74 16 = some (.int .i64 ((k29 : Int))) ∧ OwnL w75 lo72 u71 39 3 (RF e_Write) A69 x68.length c70 x68 ∧ RdS w75 (Iv 0 w.heap.size) (RF e_Write) 3 A3 p_w.length c3 p_w ∧ Ex w w75 ∧ (lp23 ≤ lo72 ∧ lo72 ≤ u71 ∧ u71 ≤ w75.heap.size) ∧ x68.length ≤ 0 + p_rows.length + 1 * (k29 - 0) ∧ (∀ y ∈ x68, ok_Write y) ∧ loopM (B_s_l5PutRows_0 p_rows p_w) (p_w.length - k29) k29 (x68) = loopM (B_s_l5PutRows_0 p_rows p_w) (p_w.length - 0) 0 ((([] : List DWrite) ++ p_rows))) (p_w.length - 0) ?_ ?_))
 ·exact ⟨0, (([] : List DWrite) ++ p_rows), A19, c20, hp24, lp23, rfl, oM, Nat.le_refl _, rfl, rfl, rfl, rfl, hO25, (RdS.grown gW (RdS.ex gW h3 hE12) hG26 (fun k hk => by have := hrg27 k hk; simp only [Iv]; omega)), (Below.grown (Ex.trans (Ex.refl w) hE12) hG26 oM (fun k hk => by have := hrg27 k hk; omega)), oM, (by first | (simp; done) | (first | omega | (simp only [lN, toS_length]; omega))), (okE.append okE.nil (o2).2), rfl⟩
 ·rintro m80 L81 w82 ⟨k29, x68, A69, c70, u71, lo72, rfl, hk83, hsz85, hl86, hl87, hl88, hl89, hf90, hf91, hf92, hu93, hln94, hok95, hI84⟩
  refine CW.sub (Sub.cons hl86 (Sub.cons hl87 (Sub.cons hl88 (Sub.cons hl89 (Sub.nil _))))) ?_
  have hf92z := Ex.size hf92
  have hbg96 := RdS.big hf91
  rcases Nat.lt_or_ge k29 p_w.length with hlt97 | hlt97
  ·refine cR (sd rfl (yl_lss rfl rfl rfl (dn (CW.seq (CW.cond_t rfl (lt_t hlt97) (CW.skip (tn ?_)))))))
   refine CW.seq (CW.block (cR ?_))
   obtain ⟨eb98, eo98, _, eA98, _, ebl98, _, eR98, eC98⟩ := RdS.atD hf91 d_Write (i := k29) (by first | omega | assumption | (simp only [wI] at *; omega) | (simp only [List.length_append, List.length_nil, wI] at *; omega))
   obtain rfl := eR98
   have eC98 : Cells w82 eb98 (eo98 + k29 * 3) [.string (bs ((p_w.getD k29 d_Write).Key)), .string (bs ((p_w.getD k29 d_Write).Val)), .bool ((p_w.getD k29 d_Write).Gone)] := eC98
   refine sd rfl (yl_indexAddrN un42 ty39 rfl rfl rfl eA98 (by first | omega | assumption | (simp only [wI] at *; omega) | (simp only [List.length_append, List.length_nil, wI] at *; omega)) (sd rfl (yl_loadN ty39 rfl rfl eC98 rfl (sd rfl (yB ty39 (cs := [.string (bs (([] : Str))), .string (bs (([] : Str))), .bool (false)]) rfl rfl ?_)))))
   intro b99 w100 hs101 hz102 hB103 hE104
   refine SeqR.u rfl rfl (yl_store (vs := [.string (bs ((p_w.getD k29 d_Write).Key)), .string (bs ((p_w.getD k29 d_Write).Val)), .bool ((p_w.getD k29 d_Write).Gone)]) ty39 rfl rfl rfl rfl rfl rfl hB103 (nb rfl) ?_)
   intro w105 hB106 hO107
   have hB106 : Box w105 b99 39 [.string (bs ((p_w.getD k29 d_Write).Key)), .string (bs ((p_w.getD k29 d_Write).Val)), .bool ((p_w.getD k29 d_Write).Gone)] := hB106
   have hO107z := hO107.size
   refine dn (CW.region (sM rfl (sd rfl (yl_loadN ty39 rfl rfl (hB106.cells (n := 3) rfl) rfl (sd rfl (yC en53 rfl (oc rfl (oc rfl oz)) (Cal.mono (c_s_l5PutW x68 (p_w.getD k29 d_Write) (RdS.up (OwnL.rd gW (OwnL.only gW (OwnL.ex gW hf90 hE104) hO107 oM)) gW) (okL.mk (xs := x68) Bl hok95) (okL.getD o4 ok_d_Write _) (by first | omega | assumption | (simp only [wI] at *; omega) | (simp only [List.length_append, List.length_nil, wI] at *; omega))) ?_)))))))
   rintro v115 w111 ⟨A112, c112, lo112, hi112, rfl, h112, ho113, hp114, hrn117, hE116⟩
   have hE116z := Ex.size hE116
   refine sA rfl (SeqR.done (bn (tn (CW.region (sd rfl (yl_inc rfl rfl rfl oM (sM rfl (dn ?_))))))))
   have hB118 : B_s_l5PutRows_0 p_rows p_w k29 (x68) = .cont ((s_l5PutW x68 (p_w.getD k29 d_Write))) := by simp only [B_s_l5PutRows_0, cL]
   exact ⟨p_w.length - (k29 + 1), oM, k29 + 1, (s_l5PutW x68 (p_w.getD k29 d_Write)), A112, c112, hi112, lo112, rfl, hlt97, oM, rfl, rfl, rfl, rfl, h112, (RdS.ex gW (RdS.only gW (RdS.ex gW hf91 hE104) hO107 (by simp only [Iv]; omega)) hE116), (Ex.trans (Below.only (Ex.trans hf92 hE104) hO107 oM) hE116), oM, Bl, (ho113).2, (loopM.cont hlt97 hB118).symm.trans hI84⟩
  ·refine cR (sd rfl (yl_lss rfl rfl rfl (dn (CW.seq (CW.cond_f rfl (lt_f hlt97) (CW.exit (tx ?_)))))))
   refine tx ?_
   have hL125 : loopM (B_s_l5PutRows_0 p_rows p_w) (p_w.length - 0) 0 ((([] : List DWrite) ++ p_rows)) = .done (x68) := hI84.symm.trans (loopM.stop hlt97)
   refine bx (tn (cR (sA rfl (dn (CW.seq (CW.seq ?_))))))
   refine CW.region (sM rfl (sd rfl (yL un42 rfl rfl (sM rfl (dn (CW.block (CW.loop (fun m188 L189 w190 => ∃ (k126 : Nat) (x183 : List DWrite) (A184 : Option Addr) (c185 : Nat) (u186 : Nat) (lo187 : Nat), m188 = x68.length - k126 ∧ k126 ≤ x68.length ∧ w82.heap.size ≤ w190.heap.size ∧ lkp L189 8 = some (.slice A184 x183.length c185) ∧ lkp L189 24 = some (.slice A69 x68.length c70) ∧ lkp L189 25 = some (.int .i64 ((x68.length : Int))) ∧ lkp L189 26 = some (.int .i64 ((k126 : Int))) ∧ OwnL w190 lo187 u186 39 3 (RF e_Write) A184 x183.length c185 x183 ∧ OwnL w190 lo72 u71 39 3 (RF e_Write) A69 x68.length c70 x68 ∧ Ex w w190 ∧ (w82.heap.size ≤ lo187 ∧ lo187 ≤ u186 ∧ u186 ≤ w190.heap.size ∧ (u71 ≤ lo187 ∨ u186 ≤ lo72)) ∧ x183.length ≤ 0 + 1 * (k126 - 0) ∧ (∀ y ∈ x183, ok_Write y) ∧ loopM (B_s_l5PutRows_1 p_rows p_w x68) (x68.length - k126) k126 (x183) = loopM (B_s_l5PutRows_1 p_rows p_w x68) (x68.length - 0) 0 (([] : List DWrite))) (x68.length - 0) ?_ ?_)))))))
   ·exact ⟨0, ([] : List DWrite), none, 0, w82.heap.size, w82.heap.size, rfl, oM, Nat.le_refl _, rfl, rfl, rfl, rfl, (OwnL.nil w82 w82.heap.size w82.heap.size 39 3 (RF e_Write)), hf90, hf92, oM, (by first | (simp; done) | (first | omega | (simp only [lN, toS_length]; omega))), okE.nil, rfl⟩
   ·rintro m191 L192 w193 ⟨k126, x183, A184, c185, u186, lo187, rfl, hk194, hsz196, hl197, hl198, hl199, hl200, hf201, hf202, hf203, hu204, hln205, hok206, hI195⟩
    refine CW.sub (Sub.cons hl197 (Sub.cons hl198 (Sub.cons hl199 (Sub.cons hl200 (Sub.nil _))))) ?_
    have hf203z := Ex.size hf203
    have hbg207 := RdS.big (OwnL.rd gW hf202)
    rcases Nat.lt_or_ge k126 x68.length with hlt209 | hlt209
    ·refine cR (sd rfl (yl_lss rfl rfl rfl (dn (CW.seq (CW.cond_t rfl (lt_t hlt209) (CW.skip (tn ?_)))))))
     refine CW.seq (CW.block (cR ?_))
     obtain ⟨eb211, eo211, _, eA211, _, ebl211, _, eR211, eC211⟩ := RdS.atD (OwnL.rd gW hf202) d_Write (i := k126) (by first | omega | assumption | (simp only [wI] at *; omega) | (simp only [List.length_append, List.length_nil, wI] at *; omega))
     obtain rfl := eR211
     have eC211 : Cells w193 eb211 (eo211 + k126 * 3) [.string (bs ((x68.getD k126 d_Write).Key)), .string (bs ((x68.getD k126 d_Write).Val)), .bool ((x68.getD k126 d_Write).Gone)] := eC211
     refine sd rfl (yl_indexAddrN un42 ty39 rfl rfl rfl eA211 (by first | omega | assumption | (simp only [wI] at *; omega) | (simp only [List.length_append, List.length_nil, wI] at *; omega)) (sd rfl (yl_loadN ty39 rfl rfl eC211 rfl (sd rfl (yB ty39 (cs := [.string (bs (([] : Str))), .string (bs (([] : Str))), .bool (false)]) rfl rfl ?_)))))
     intro b212 w213 hs214 hz215 hB216 hE217
     refine SeqR.u rfl rfl (yl_store (vs := [.string (bs ((x68.getD k126 d_Write).Key)), .string (bs ((x68.getD k126 d_Write).Val)), .bool ((x68.getD k126 d_Write).Gone)]) ty39 rfl rfl rfl rfl rfl rfl hB216 (nb rfl) ?_)
     intro w218 hB219 hO220
     have hB219 : Box w218 b212 39 [.string (bs ((x68.getD k126 d_Write).Key)), .string (bs ((x68.getD k126 d_Write).Val)), .bool ((x68.getD k126 d_Write).Gone)] := hB219
     have hO220z := hO220.size
     refine dn (cR (sd rfl (yl_fieldAddr fd39_2 rfl rfl (sd rfl (yl_load1 ty4 rfl rfl ((hB219.cell 2).trans rfl) (sd rfl (yl_not rfl rfl (dn ?_))))))))
     refine bcase ((x68.getD k126 d_Write).Gone) (fun hb221 => ?_) (fun hb221 => ?_)
     ·refine CW.cond_f rfl (not_t hb221) (CW.skip (bn (tn (CW.region (sd rfl (yl_inc rfl rfl rfl oM (sM rfl (dn ?_))))))))
      have hB222 : B_s_l5PutRows_1 p_rows p_w x68 k126 (x183) = .cont (x183) := by simp only [B_s_l5PutRows_1, hb221, hL125, cL]
      exact ⟨x68.length - (k126 + 1), oM, k126 + 1, x183, A184, c185, u186, lo187, rfl, hlt209, oM, rfl, rfl, rfl, rfl, (OwnL.only gW (OwnL.ex gW hf201 hE217) hO220 oM), (OwnL.only gW (OwnL.ex gW hf202 hE217) hO220 oM), (Below.only (Ex.trans hf203 hE217) hO220 oM), oM, Bl, hok206, (loopM.cont hlt209 hB222).symm.trans hI195⟩
     ·refine CW.cond_t rfl (not_f hb221) (CW.region (sM rfl (sd rfl (yl_loadN ty39 rfl rfl (hB219.cells (n := 3) rfl) rfl (sd rfl (yl_buildSlice (cs := [.string (bs ((x68.getD k126 d_Write).Key)), .string (bs ((x68.getD k126 d_Write).Val)), .bool ((x68.getD k126 d_Write).Gone)]) un42 ty39 (by decide) rfl (oc rfl oz) (by kernel_rfl) ?_))))))
      intro b229 w230 hs231 hz232 hB233 hE234
      have hO235 : OwnL w230 b229 (b229 + 1) 39 3 (RF e_Write) (some ⟨b229, 0, none⟩) 1 1 ([(x68.getD k126 d_Write)] : List DWrite) := OwnL.of_box (S := fun _ => False) hB233 (Nat.le_refl _) (Nat.lt_succ_self _) (EncL.cons (c := [.string (bs ((x68.getD k126 d_Write).Key)), .string (bs ((x68.getD k126 d_Write).Val)), .bool ((x68.getD k126 d_Write).Gone)]) rfl rfl EncL.nil) (nb rfl) (fun h => h) (fun _ h => False.elim h)
      refine sd rfl (yl_appendP (S := fun _ => False) (lo := lo187) (hi := u186) (xs := x183) (ys := ([(x68.getD k126 d_Write)] : List DWrite)) un42 ty39 rfl (nb rfl) (fun _ => rfl) rfl rfl rfl (OwnL.ex gW (OwnL.only gW (OwnL.ex gW hf201 hE217) hO220 oM) hE234) (EncL.cons (c := [.string (bs ((x68.getD k126 d_Write).Key)), .string (bs ((x68.getD k126 d_Write).Val)), .bool ((x68.getD k126 d_Write).Gone)]) rfl rfl EncL.nil) (Or.inr ⟨_, _, rfl, rfl, hB233.cells (o := 0) (n := 3) rfl⟩) rfl Bl Bl oM oM oM ?_)
      intro A239 c240 w241 row242 lp243 hp244 hO245 hG246 hrg247 hdj248
      have hG246z := hG246.size
      refine sA rfl (SeqR.done (bn (tn (CW.region (sd rfl (yl_inc rfl rfl rfl oM (sM rfl (dn ?_))))))))
      have hB249 : B_s_l5PutRows_1 p_rows p_w x68 k126 (x183) = .cont ((x183 ++ ([(x68.getD k126 d_Write)] : List DWrite))) := by simp only [B_s_l5PutRows_1, hb221, hL125, cL]
      exact ⟨x68.length - (k126 + 1), oM, k126 + 1, (x183 ++ ([(x68.getD k126 d_Write)] : List DWrite)), A239, c240, hp244, lp243, rfl, hlt209, oM, rfl, rfl, rfl, rfl, hO245, (OwnL.grown gW (OwnL.ex gW (OwnL.only gW (OwnL.ex gW hf202 hE217) hO220 oM) hE234) hG246 (fun k hk => by have := hrg247 k hk; omega)), (Below.grown (Ex.trans (Below.only (Ex.trans hf203 hE217) hO220 oM) hE234) hG246 oM (fun k hk => by have := hrg247 k hk; omega)), oM, Bl, (okE.append hok206 ((okL.mk (nb rfl) (okE.cons (okL.getD (okL.mk (xs := x68) Bl hok95) ok_d_Write _) okE.nil))).2), (loopM.cont hlt209 hB249).symm.trans hI195⟩
    ·refine cR (sd rfl (yl_lss rfl rfl rfl (dn (CW.seq (CW.cond_f rfl (lt_f hlt209) (CW.exit (tx ?_)))))))
     refine tx ?_
     have hL258 : loopM (B_s_l5PutRows_1 p_rows p_w x68) (x68.length - 0) 0 (([] : List DWrite)) = .done (x183) := hI195.symm.trans (loopM.stop hlt209)
     refine bx (tn (cR (sM rfl (sA rfl (dn (CW.ret ?_))))))
     refine rr rfl (.cons rfl .nil) ?_
     have hM259 : (s_l5PutRows p_rows p_w) = (x183) := by simp only [s_l5PutRows, hL125, hL258, cL]
     rw [hM259]
     exact ⟨A184, c185, lo187, u186, rfl, hf201, (okL.mk (xs := x183) Bl hok206), oM, hf203⟩
theorem c_s_RunInTurn {A1 : Option Addr} {c1 : Nat} {A3 : Option Addr} {c3 : Nat} {w : World} (p_0 : List DWrite) (p_1 : List (List DOp)) (h1 : RdS w (Iv 0 w.heap.size) (RF e_Write) 3 A1 p_0.length c1 p_0) (h3 : RdS w (Iv 0 w.heap.size) R_LOp 1 A3 p_1.length c3 p_1) (o2 : (okL ok_Write) p_0) (o4 : (okL (okL ok_Op)) p_1) (pre0 : ∀ x ∈ p_1, x.length ≤ 100 ∧ ∀ y ∈ x, y.Kind ≠ 4) : Cal Tryz.prog 12 #[.slice A1 p_0.length c1, .slice A3 p_1.length c3] w fun v w' => ∃ A_1 c_1 lo_1 hi_1 A_2 c_2 lo_2 hi_2, v = .tuple #[.slice A_1 (((s_RunInTurn p_0 p_1).1).length) c_1, .slice A_2 (((s_RunInTurn p_0 p_1).2.1).length) c_2, .bool ((s_RunInTurn p_0 p_1).2.2)] ∧ OwnL w' lo_1 hi_1 39 3 (RF e_Write) A_1 (((s_RunInTurn p_0 p_1).1).length) c_1 ((s_RunInTurn p_0 p_1).1) ∧ OwnL w' lo_2 hi_2 4 1 (RF e_Bool) A_2 (((s_RunInTurn p_0 p_1).2.1).length) c_2 ((s_RunInTurn p_0 p_1).2.1) ∧ (okL ok_Write) ((s_RunInTurn p_0 p_1).1) ∧ (okL okT) ((s_RunInTurn p_0 p_1).2.1) ∧ (w.heap.size ≤ lo_1 ∧ lo_1 ≤ hi_1 ∧ hi_1 ≤ w'.heap.size) ∧ (w.heap.size ≤ lo_2 ∧ lo_2 ≤ hi_2 ∧ hi_2 ≤ w'.heap.size) ∧ (hi_1 ≤ lo_2 ∨ hi_2 ≤ lo_1) ∧ Ex w w' := by
 have hol5 := o2.1
 have hol6 := o4.1
 refine Cal.of func12 rfl ntmps12 rfl (cR (sA rfl (sA rfl (sA rfl (dn (CW.seq ?_))))))
 refine cR (sM rfl (sd rfl (yC en26 rfl (oc rfl oz) (Cal.mono (c_s_l5Rows p_0 (RdS.up h1 gW) o2) ?_))))
 rintro v8 w7 ⟨rfl, hE9⟩
 have hE9z := Ex.size hE9
 refine sd rfl (yl_not rfl rfl (sM rfl (bcase (s_l5Rows p_0) (fun hb10 => ?_) (fun hb10 => ?_))))
 ·have hb10p := l5Rows_len hb10
  refine sy rfl rfl (not_t hb10) (yM rfl rfl (sy rfl rfl (not_t hb10) (yL un46 rfl rfl (sy rfl rfl (not_t hb10) (yl_gtr rfl rfl rfl (sd rfl (yl_pick_f rfl rfl (not_t hb10) rfl (dn (bcase (decide (20 < (p_1.length : Int))) (fun hb11 => ?_) (fun hb11 => ?_))))))))))
  ·have hb11p := dec_t hb11
   refine CW.cond_t rfl hb11 (cR (sA rfl (sA rfl (sA rfl (dn (CW.ret ?_))))))
   refine tr (rr rfl (.cons rfl (.cons rfl (.cons rfl .nil))) ?_)
   have hM12 : (s_RunInTurn p_0 p_1) = ((([] : List DWrite), ([] : List Bool), false)) := by simp only [s_RunInTurn, hb10, hb11, cL]
   rw [hM12]
   exact ⟨none, 0, w7.heap.size, w7.heap.size, none, 0, w7.heap.size, w7.heap.size, rfl, (OwnL.nil _ _ _ _ _ _), (OwnL.nil _ _ _ _ _ _), (okL.nil _), (okL.nil _), oM, oM, oM, (Ex.trans (Ex.refl w) hE9)⟩
  ·have hb11p := dec_f hb11
   refine CW.cond_f rfl hb11 (CW.skip (tn (CW.seq (cR (sM rfl (sd rfl (yL un46 rfl rfl (sM rfl ?_))))))))
   refine dn (CW.block (CW.loop (fun m15 L16 w17 => ∃ (k14 : Nat), m15 = p_1.length - k14 ∧ k14 ≤ p_1.length ∧ w7.heap.size ≤ w17.heap.size ∧ lkp L16 0 = some (.slice A1 p_0.length c1) ∧ lkp L16 1 = some (.slice A3 p_1.length c3) ∧ lkp L16 25 = some (.slice A3 p_1.length c3) ∧ lkp L16 26 = some (.int .i64 ((p_1.length : Int))) ∧ lkp L16 27 = some (.int .i64 ((k14 : Int))) ∧ RdS w17 (Iv 0 w.heap.size) (RF e_Write) 3 A1 p_0.length c1 p_0 ∧ RdS w17 (Iv 0 w.heap.size) R_LOp 1 A3 p_1.length c3 p_1 ∧ Ex w w17 ∧ loopM (B_s_RunInTurn_0 p_0 p_1) (p_1.length - k14) k14 () = loopM (B_s_RunInTurn_0 p_0 p_1) (p_1.length - 0) 0 ()) (p_1.length - 0) ?_ ?_))
   ·exact ⟨0, rfl, oM, Nat.le_refl _, rfl, rfl, rfl, rfl, rfl, (RdS.ex gW h1 hE9), (RdS.ex good_LOp h3 hE9), (Ex.trans (Ex.refl w) hE9), rfl⟩
   ·rintro m21 L22 w23 ⟨k14, rfl, hk24, hsz26, hl27, hl28, hl29, hl30, hl31, hf32, hf33, hf34, hI25⟩
    refine CW.sub (Sub.cons hl27 (Sub.cons hl28 (Sub.cons hl29 (Sub.cons hl30 (Sub.cons hl31 (Sub.nil _)))))) ?_
    have hf34z := Ex.size hf34
    have hbg35 := RdS.big hf33
    rcases Nat.lt_or_ge k14 p_1.length with hlt36 | hlt36
    ·refine cR (sd rfl (yl_lss rfl rfl rfl (dn (CW.seq (CW.cond_t rfl (lt_t hlt36) (CW.skip (tn ?_)))))))
     refine CW.seq (CW.block (cR ?_))
     obtain ⟨_, _, _, eA37, _, ebl37, _, eR37, eC37⟩ := RdS.atD hf33 d_LOp (i := k14) Bo
     obtain ⟨A38, c38, rfl, h38⟩ := eR37
     refine sd rfl (yl_ixN un46 ty31 rfl rfl rfl eA37 (sd rfl (yl_load1 ty31 rfl rfl (eC37 0 _ rfl) (sA rfl (dn (cR (sM rfl (sd rfl (yC en27 rfl (oc rfl oz) (Cal.mono (c_s_l5Good (p_1.getD k14 d_LOp) (RdS.up h38 good_Op) (okL.getD o4 ok_d_LOp _)) ?_))))))))))
     rintro v40 w39 ⟨rfl, hE41⟩
     have hE41z := Ex.size hE41
     refine sd rfl (yl_not rfl rfl (dn (bcase (s_l5Good (p_1.getD k14 d_LOp)) (fun hb42 => ?_) (fun hb42 => ?_))))
     ·refine CW.cond_f rfl (not_t hb42) (CW.skip (bn (tn (CW.region (sd rfl (yl_inc rfl rfl rfl oM (sM rfl (dn ?_))))))))
      have hB43 : B_s_RunInTurn_0 p_0 p_1 k14 () = .cont () := by simp only [B_s_RunInTurn_0, hb10, hb11, hb42, cL]
      exact ⟨p_1.length - (k14 + 1), oM, k14 + 1, rfl, hlt36, oM, rfl, rfl, rfl, rfl, rfl, (RdS.ex gW hf32 hE41), (RdS.ex good_LOp hf33 hE41), (Ex.trans hf34 hE41), (loopM.cont hlt36 hB43).symm.trans hI25⟩
     ·refine CW.cond_t rfl (not_f hb42) (cR (sA rfl (sA rfl (sA rfl (dn (CW.ret ?_))))))
      refine br (tr (tr ?_))
      have hB48 : B_s_RunInTurn_0 p_0 p_1 k14 () = .ret (([] : List DWrite), ([] : List Bool), false) := by simp only [B_s_RunInTurn_0, hb10, hb11, hb42, cL]
      have hL47 : loopM (B_s_RunInTurn_0 p_0 p_1) (p_1.length - 0) 0 () = .ret (([] : List DWrite), ([] : List Bool), false) := hI25.symm.trans (loopM.ret hlt36 hB48)
      refine br (tr (rr rfl (.cons rfl (.cons rfl (.cons rfl .nil))) ?_))
      have hM49 : (s_RunInTurn p_0 p_1) = ((([] : List DWrite), ([] : List Bool), false)) := by simp only [s_RunInTurn, hb10, hb11, hb42, hL47, cL]
      rw [hM49]
      exact ⟨none, 0, w39.heap.size, w39.heap.size, none, 0, w39.heap.size, w39.heap.size, rfl, (OwnL.nil _ _ _ _ _ _), (OwnL.nil _ _ _ _ _ _), (okL.nil _), (okL.nil _), oM, oM, oM, (Ex.trans hf34 hE41)⟩
    ·refine cR (sd rfl (yl_lss rfl rfl rfl (dn (CW.seq (CW.cond_f rfl (lt_f hlt36) (CW.exit (tx ?_)))))))
     refine tx ?_
     have hL51 : loopM (B_s_RunInTurn_0 p_0 p_1) (p_1.length - 0) 0 () = .done () := hI25.symm.trans (loopM.stop hlt36)
     refine bx (tn (cR (sd rfl (yl_buildSlice (cs := []) un42 ty39 (by decide) rfl opvs_nil (by kernel_rfl) ?_))))
     intro b52 w53 hs54 hz55 hB56 hE57
     have hO58 : OwnL w53 b52 (b52 + 1) 39 3 (RF e_Write) (some ⟨b52, 0, none⟩) 0 0 ([] : List DWrite) := OwnL.of_box (S := fun _ => False) hB56 (Nat.le_refl _) (Nat.lt_succ_self _) EncL.nil (nb rfl) (fun h => h) (fun _ h => False.elim h)
     refine sM rfl ?_
     obtain ⟨nw60, he61, hs62⟩ := RdS.src (RdS.ex gW hf32 hE57)
     have hol63 : p_0.length ≤ 2147483648 := o2.1
     refine sd rfl (yl_appendP (S := fun _ => False) (lo := b52) (hi := (b52 + 1)) (xs := ([] : List DWrite)) (ys := p_0) un42 ty39 rfl (nb rfl) (fun _ => rfl) rfl rfl rfl hO58 he61 hs62 rfl Bl Bl oM oM oM ?_)
     intro A64 c65 w66 row67 lp68 hp69 hO70 hG71 hrg72 hdj73
     have hG71z := hG71.size
     refine sA rfl (dn (cR (sA rfl (dn (CW.seq ?_)))))
     refine cR (sM rfl (sd rfl (yL un46 rfl rfl (sM rfl (dn (CW.block (CW.loop (fun m165 L166 w167 => ∃ (k74 : Nat) (x155 : List DWrite) (x160 : List Bool) (A156 : Option Addr) (c157 : Nat) (u158 : Nat) (lo159 : Nat) (A161 : Option Addr) (c162 : Nat) (u163 : Nat) (lo164 : Nat), m165 = p_1.length - k74 ∧ k74 ≤ p_1.length ∧ w66.heap.size ≤ w167.heap.size ∧ lkp L166 9 = some (.slice A156 x155.length c157) ∧ lkp L166 10 = some (.slice A161 x160.length c162) ∧ lkp L166 38 = some (.slice A3 p_1.length c3) ∧ lkp L166 39 = some (.int .i64 ((p_1.length : Int))) ∧ lkp L166 40 = some (.int .i64 ((k74 : Int))) ∧ OwnL w167 lo159 u158 39 3 (RF e_Write) A156 x155.length c157 x155 ∧ OwnL w167 lo164 u163 4 1 (RF e_Bool) A161 x160.length c162 x160 ∧ RdS w167 (Iv 0 w.heap.size) R_LOp 1 A3 p_1.length c3 p_1 ∧ Ex w w167 ∧ (lp68 ≤ lo159 ∧ lo159 ≤ u158 ∧ u158 ≤ w167.heap.size ∧ (u163 ≤ lo159 ∨ u158 ≤ lo164)) ∧ (w66.heap.size ≤ lo164 ∧ lo164 ≤ u163 ∧ u163 ≤ w167.heap.size ∧ (u158 ≤ lo164 ∨ u163 ≤ lo159)) ∧ x155.length ≤ 0 + p_0.length + 24 * (k74 - 0) ∧ x160.length ≤ 0 + 24 * (k74 - 0) ∧ (∀ y ∈ x155, ok_Write y) ∧ x155.length ≤ 24 ∧ loopM (B_s_RunInTurn_1 p_0 p_1) (p_1.length - k74) k74 (x155, x160) = loopM (B_s_RunInTurn_1 p_0 p_1) (p_1.length - 0) 0 ((([] : List DWrite) ++ p_0), ([] : List Bool))) (p_1.length - 0) ?_ ?_)))))))
     ·exact ⟨0, (([] : List DWrite) ++ p_0), ([] : List Bool), A64, c65, hp69, lp68, none, 0, w66.heap.size, w66.heap.size, rfl, oM, Nat.le_refl _, rfl, rfl, rfl, rfl, rfl, hO70, (OwnL.nil w66 w66.heap.size w66.heap.size 4 1 (RF e_Bool)), (RdS.grown good_LOp (RdS.ex good_LOp hf33 hE57) hG71 (fun k hk => by have := hrg72 k hk; simp only [Iv]; omega)), (Below.grown (Ex.trans hf34 hE57) hG71 oM (fun k hk => by have := hrg72 k hk; omega)), oM, oM, (by first | (simp; done) | (first | omega | (simp only [lN, toS_length]; omega))), (by first | (simp; done) | (first | omega | (simp only [lN, toS_length]; omega))), (okE.append okE.nil (o2).2), (by first | omega | (simp only [List.length_append, List.length_nil]; omega)), rfl⟩
     ·rintro m172 L173 w174 ⟨k74, x155, x160, A156, c157, u158, lo159, A161, c162, u163, lo164, rfl, hk175, hsz177, hl178, hl179, hl180, hl181, hl182, hf183, hf184, hf185, hf186, hu187, hu188, hln189, hln190, hok191, hv192, hI176⟩
      refine CW.sub (Sub.cons hl178 (Sub.cons hl179 (Sub.cons hl180 (Sub.cons hl181 (Sub.cons hl182 (Sub.nil _)))))) ?_
      have hf186z := Ex.size hf186
      have hbg193 := RdS.big hf185
      rcases Nat.lt_or_ge k74 p_1.length with hlt194 | hlt194
      ·have hkd := pre0 _ (getD_mem (d := d_LOp) hlt194)
       have hkd1 := hkd.1
       have hkd2 := hkd.2
       refine cR (sd rfl (yl_lss rfl rfl rfl (dn (CW.seq (CW.cond_t rfl (lt_t hlt194) (CW.skip (tn ?_)))))))
       refine CW.seq (CW.block (cR ?_))
       obtain ⟨_, _, _, eA195, _, ebl195, _, eR195, eC195⟩ := RdS.atD hf185 d_LOp (i := k74) Bo
       obtain ⟨A196, c196, rfl, h196⟩ := eR195
       refine sd rfl (yl_ixN un46 ty31 rfl rfl rfl eA195 (sd rfl (yl_load1 ty31 rfl rfl (eC195 0 _ rfl) (sA rfl (dn (cR (sM rfl (sM rfl ?_))))))))
       refine sd rfl (yC en28 rfl (oc rfl (oc rfl oz)) (Cal.mono (c_s_l5Alone x155 (p_1.getD k74 d_LOp) (RdS.up (OwnL.rd gW hf183) gW) (RdS.up h196 good_Op) (okL.mk (xs := x155) Bl hok191) (okL.getD o4 ok_d_LOp _) Bo Bo) ?_))
       rintro v204 w198 ⟨A199, c199, A200, c200, rfl, h199, h200, ho201, ho202, hp203, hE205⟩
       have hE205z := Ex.size hE205
       refine sM rfl (sd rfl (yl_extract rfl rfl rfl (sd rfl (yl_extract rfl rfl rfl (sd rfl (yl_extract rfl rfl rfl (sA rfl (sA rfl (sA rfl (dn ?_))))))))))
       refine cR (sM rfl (sM rfl ?_))
       have q207 := OwnL.ex gW hf183 hE205
       refine sd rfl (yC en29 rfl (oc rfl (oc rfl oz)) (Cal.mono (c_s_l5PutRows x155 ((s_l5Alone x155 (p_1.getD k74 d_LOp)).2.1) (RdS.up (OwnL.rd gW q207) gW) (RdS.up h200 gW) (okL.mk (xs := x155) Bl hok191) ho202 Bo Bo) ?_))
       rintro v211 w208 ⟨A209, c209, lo209, hi209, rfl, h209, ho210, hrn213, hE212⟩
       have hE212z := Ex.size hE212
       refine sA rfl (dn (cR (sM rfl (sM rfl (bcase ((s_l5Alone x155 (p_1.getD k74 d_LOp)).2.2) (fun hb214 => ?_) (fun hb214 => ?_))))))
       ·refine sy rfl rfl hb214 (yM rfl rfl (sy rfl rfl hb214 (yC en26 rfl (oc rfl oz) (Cal.mono (c_s_l5Rows (s_l5PutRows x155 ((s_l5Alone x155 (p_1.getD k74 d_LOp)).2.1)) (RdS.up (OwnL.rd gW h209) gW) ho210) ?_))))
        rintro v217 w216 ⟨rfl, hE218⟩
        have hE218z := Ex.size hE218
        refine sd rfl (yl_pick_t rfl rfl hb214 rfl (sA rfl (dn (CW.seq (cR (sM rfl (SeqR.done ?_)))))))
        refine tn (bcase (s_l5Rows (s_l5PutRows x155 ((s_l5Alone x155 (p_1.getD k74 d_LOp)).2.1))) (fun hb219 => ?_) (fun hb219 => ?_))
        ·have hb219p := l5Rows_len hb219
         refine CW.cond_t rfl hb219 (CW.region (sM rfl (sA rfl (dn (CW.region (sM rfl (sM rfl ?_)))))))
         refine sd rfl (yl_buildSlice (cs := [.bool ((s_l5Rows (s_l5PutRows x155 ((s_l5Alone x155 (p_1.getD k74 d_LOp)).2.1))))]) un43 ty4 (by decide) rfl (oc rfl oz) (by kernel_rfl) ?_)
         intro b220 w221 hs222 hz223 hB224 hE225
         have hO226 : OwnL w221 b220 (b220 + 1) 4 1 (RF e_Bool) (some ⟨b220, 0, none⟩) 1 1 ([(s_l5Rows (s_l5PutRows x155 ((s_l5Alone x155 (p_1.getD k74 d_LOp)).2.1)))] : List Bool) := OwnL.of_box (S := fun _ => False) hB224 (Nat.le_refl _) (Nat.lt_succ_self _) (EncL.cons (c := [.bool ((s_l5Rows (s_l5PutRows x155 ((s_l5Alone x155 (p_1.getD k74 d_LOp)).2.1))))]) rfl rfl EncL.nil) (nb rfl) (fun h => h) (fun _ h => False.elim h)
         refine sd rfl (yl_appendP (S := fun _ => False) (lo := lo164) (hi := u163) (xs := x160) (ys := ([(s_l5Rows (s_l5PutRows x155 ((s_l5Alone x155 (p_1.getD k74 d_LOp)).2.1)))] : List Bool)) un43 ty4 rfl (nb rfl) (fun _ => rfl) rfl rfl rfl (OwnL.ex good_Bool (OwnL.ex good_Bool (OwnL.ex good_Bool (OwnL.ex good_Bool hf184 hE205) hE212) hE218) hE225) (EncL.cons (c := [.bool ((s_l5Rows (s_l5PutRows x155 ((s_l5Alone x155 (p_1.getD k74 d_LOp)).2.1))))]) rfl rfl EncL.nil) (Or.inr ⟨_, _, rfl, rfl, hB224.cells (o := 0) (n := 1) rfl⟩) rfl Bl Bl oM oM oM ?_)
         intro A231 c232 w233 row234 lp235 hp236 hO237 hG238 hrg239 hdj240
         have hG238z := hG238.size
         refine sA rfl (SeqR.done (bn (tn (CW.region (sd rfl (yl_inc rfl rfl rfl oM (sM rfl (dn ?_))))))))
         have hB241 : B_s_RunInTurn_1 p_0 p_1 k74 (x155, x160) = .cont ((s_l5PutRows x155 ((s_l5Alone x155 (p_1.getD k74 d_LOp)).2.1)), (x160 ++ ([(s_l5Rows (s_l5PutRows x155 ((s_l5Alone x155 (p_1.getD k74 d_LOp)).2.1)))] : List Bool))) := by simp only [B_s_RunInTurn_1, hb10, hb11, hb214, hb219, hL51, cL]
         exact ⟨p_1.length - (k74 + 1), oM, k74 + 1, (s_l5PutRows x155 ((s_l5Alone x155 (p_1.getD k74 d_LOp)).2.1)), (x160 ++ ([(s_l5Rows (s_l5PutRows x155 ((s_l5Alone x155 (p_1.getD k74 d_LOp)).2.1)))] : List Bool)), A209, c209, hi209, lo209, A231, c232, hp236, lp235, rfl, hlt194, oM, rfl, rfl, rfl, rfl, rfl, (OwnL.grown gW (OwnL.ex gW (OwnL.ex gW h209 hE218) hE225) hG238 (fun k hk => by have := hrg239 k hk; omega)), hO237, (RdS.grown good_LOp (RdS.ex good_LOp (RdS.ex good_LOp (RdS.ex good_LOp (RdS.ex good_LOp hf185 hE205) hE212) hE218) hE225) hG238 (fun k hk => by have := hrg239 k hk; simp only [Iv]; omega)), (Below.grown (Ex.trans (Ex.trans (Ex.trans (Ex.trans hf186 hE205) hE212) hE218) hE225) hG238 oM (fun k hk => by have := hrg239 k hk; omega)), oM, oM, Bl, Bl, (ho210).2, (by first | omega | (simp only [List.length_append, List.length_nil]; omega)), (loopM.cont hlt194 hB241).symm.trans hI176⟩
        ·refine CW.cond_f rfl hb219 (CW.skip (tn (CW.region (sM rfl (sM rfl (sd rfl (yl_buildSlice (cs := [.bool ((s_l5Rows (s_l5PutRows x155 ((s_l5Alone x155 (p_1.getD k74 d_LOp)).2.1))))]) un43 ty4 (by decide) rfl (oc rfl oz) (by kernel_rfl) ?_)))))))
         intro b255 w256 hs257 hz258 hB259 hE260
         have hO261 : OwnL w256 b255 (b255 + 1) 4 1 (RF e_Bool) (some ⟨b255, 0, none⟩) 1 1 ([(s_l5Rows (s_l5PutRows x155 ((s_l5Alone x155 (p_1.getD k74 d_LOp)).2.1)))] : List Bool) := OwnL.of_box (S := fun _ => False) hB259 (Nat.le_refl _) (Nat.lt_succ_self _) (EncL.cons (c := [.bool ((s_l5Rows (s_l5PutRows x155 ((s_l5Alone x155 (p_1.getD k74 d_LOp)).2.1))))]) rfl rfl EncL.nil) (nb rfl) (fun h => h) (fun _ h => False.elim h)
         refine sd rfl (yl_appendP (S := fun _ => False) (lo := lo164) (hi := u163) (xs := x160) (ys := ([(s_l5Rows (s_l5PutRows x155 ((s_l5Alone x155 (p_1.getD k74 d_LOp)).2.1)))] : List Bool)) un43 ty4 rfl (nb rfl) (fun _ => rfl) rfl rfl rfl (OwnL.ex good_Bool (OwnL.ex good_Bool (OwnL.ex good_Bool (OwnL.ex good_Bool hf184 hE205) hE212) hE218) hE260) (EncL.cons (c := [.bool ((s_l5Rows (s_l5PutRows x155 ((s_l5Alone x155 (p_1.getD k74 d_LOp)).2.1))))]) rfl rfl EncL.nil) (Or.inr ⟨_, _, rfl, rfl, hB259.cells (o := 0) (n := 1) rfl⟩) rfl Bl Bl oM oM oM ?_)
         intro A266 c267 w268 row269 lp270 hp271 hO272 hG273 hrg274 hdj275
         have hG273z := hG273.size
         refine sA rfl (SeqR.done (bn (tn (CW.region (sd rfl (yl_inc rfl rfl rfl oM (sM rfl (dn ?_))))))))
         have hB276 : B_s_RunInTurn_1 p_0 p_1 k74 (x155, x160) = .cont (x155, (x160 ++ ([(s_l5Rows (s_l5PutRows x155 ((s_l5Alone x155 (p_1.getD k74 d_LOp)).2.1)))] : List Bool))) := by simp only [B_s_RunInTurn_1, hb10, hb11, hb214, hb219, hL51, cL]
         exact ⟨p_1.length - (k74 + 1), oM, k74 + 1, x155, (x160 ++ ([(s_l5Rows (s_l5PutRows x155 ((s_l5Alone x155 (p_1.getD k74 d_LOp)).2.1)))] : List Bool)), A156, c157, u158, lo159, A266, c267, hp271, lp270, rfl, hlt194, oM, rfl, rfl, rfl, rfl, rfl, (OwnL.grown gW (OwnL.ex gW (OwnL.ex gW (OwnL.ex gW q207 hE212) hE218) hE260) hG273 (fun k hk => by have := hrg274 k hk; omega)), hO272, (RdS.grown good_LOp (RdS.ex good_LOp (RdS.ex good_LOp (RdS.ex good_LOp (RdS.ex good_LOp hf185 hE205) hE212) hE218) hE260) hG273 (fun k hk => by have := hrg274 k hk; simp only [Iv]; omega)), (Below.grown (Ex.trans (Ex.trans (Ex.trans (Ex.trans hf186 hE205) hE212) hE218) hE260) hG273 oM (fun k hk => by have := hrg274 k hk; omega)), oM, oM, Bl, Bl, hok191, (by first | omega | (simp only [List.length_append, List.length_nil]; omega)), (loopM.cont hlt194 hB276).symm.trans hI176⟩
       ·refine sz rfl rfl hb214 (sz rfl rfl hb214 (sd rfl (yl_pick_f rfl rfl hb214 rfl (sA rfl (dn (CW.seq (cR ?_)))))))
        refine sM rfl (dn (CW.cond_f rfl rfl (CW.skip (tn (CW.region (sM rfl (sM rfl ?_)))))))
        refine sd rfl (yl_buildSlice (cs := [.bool (false)]) un43 ty4 (by decide) rfl (oc rfl oz) (by kernel_rfl) ?_)
        intro b291 w292 hs293 hz294 hB295 hE296
        have hO297 : OwnL w292 b291 (b291 + 1) 4 1 (RF e_Bool) (some ⟨b291, 0, none⟩) 1 1 ([false] : List Bool) := OwnL.of_box (S := fun _ => False) hB295 (Nat.le_refl _) (Nat.lt_succ_self _) (EncL.cons (c := [.bool (false)]) rfl rfl EncL.nil) (nb rfl) (fun h => h) (fun _ h => False.elim h)
        refine sd rfl (yl_appendP (S := fun _ => False) (lo := lo164) (hi := u163) (xs := x160) (ys := ([false] : List Bool)) un43 ty4 rfl (nb rfl) (fun _ => rfl) rfl rfl rfl (OwnL.ex good_Bool (OwnL.ex good_Bool (OwnL.ex good_Bool hf184 hE205) hE212) hE296) (EncL.cons (c := [.bool (false)]) rfl rfl EncL.nil) (Or.inr ⟨_, _, rfl, rfl, hB295.cells (o := 0) (n := 1) rfl⟩) rfl Bl Bl oM oM oM ?_)
        intro A301 c302 w303 row304 lp305 hp306 hO307 hG308 hrg309 hdj310
        have hG308z := hG308.size
        refine sA rfl (SeqR.done (bn (tn (CW.region (sd rfl (yl_inc rfl rfl rfl oM (sM rfl (dn ?_))))))))
        have hB311 : B_s_RunInTurn_1 p_0 p_1 k74 (x155, x160) = .cont (x155, (x160 ++ ([false] : List Bool))) := by simp only [B_s_RunInTurn_1, hb10, hb11, hb214, hL51, cL]
        exact ⟨p_1.length - (k74 + 1), oM, k74 + 1, x155, (x160 ++ ([false] : List Bool)), A156, c157, u158, lo159, A301, c302, hp306, lp305, rfl, hlt194, oM, rfl, rfl, rfl, rfl, rfl, (OwnL.grown gW (OwnL.ex gW (OwnL.ex gW q207 hE212) hE296) hG308 (fun k hk => by have := hrg309 k hk; omega)), hO307, (RdS.grown good_LOp (RdS.ex good_LOp (RdS.ex good_LOp (RdS.ex good_LOp hf185 hE205) hE212) hE296) hG308 (fun k hk => by have := hrg309 k hk; simp only [Iv]; omega)), (Below.grown (Ex.trans (Ex.trans (Ex.trans hf186 hE205) hE212) hE296) hG308 oM (fun k hk => by have := hrg309 k hk; omega)), oM, oM, Bl, Bl, hok191, (by first | omega | (simp only [List.length_append, List.length_nil]; omega)), (loopM.cont hlt194 hB311).symm.trans hI176⟩
      ·refine cR (sd rfl (yl_lss rfl rfl rfl (dn (CW.seq (CW.cond_f rfl (lt_f hlt194) (CW.exit (tx ?_)))))))
       refine tx ?_
       have hL323 : loopM (B_s_RunInTurn_1 p_0 p_1) (p_1.length - 0) 0 ((([] : List DWrite) ++ p_0), ([] : List Bool)) = .done (x155, x160) := hI176.symm.trans (loopM.stop hlt194)
       refine bx (tn (cR (sM rfl (sM rfl (sA rfl (sA rfl (sA rfl ?_)))))))
       refine dn (CW.ret (rr rfl (.cons rfl (.cons rfl (.cons rfl .nil))) ?_))
       have hM324 : (s_RunInTurn p_0 p_1) = ((x155, x160, true)) := by simp only [s_RunInTurn, hb10, hb11, hL51, hL323, cL]
       rw [hM324]
       exact ⟨A156, c157, lo159, u158, A161, c162, lo164, u163, rfl, hf183, hf184, (okL.mk (xs := x155) Bl hok191), (okL.mk (xs := x160) (by first | omega | (simp only [lN]; omega)) fun _ _ => trivial), oM, oM, oM, hf186⟩
 ·refine sz rfl rfl (not_f hb10) (sz rfl rfl (not_f hb10) (sz rfl rfl (not_f hb10) (sd rfl (yl_pick_t rfl rfl (not_f hb10) rfl (dn (CW.cond_t rfl rfl (cR ?_)))))))
  refine sA rfl (sA rfl (sA rfl (dn (CW.ret (tr (rr rfl (.cons rfl (.cons rfl (.cons rfl .nil))) ?_))))))
  have hM325 : (s_RunInTurn p_0 p_1) = ((([] : List DWrite), ([] : List Bool), false)) := by simp only [s_RunInTurn, hb10, cL]
  rw [hM325]
  exact ⟨none, 0, w7.heap.size, w7.heap.size, none, 0, w7.heap.size, w7.heap.size, rfl, (OwnL.nil _ _ _ _ _ _), (OwnL.nil _ _ _ _ _ _), (okL.nil _), (okL.nil _), oM, oM, oM, (Ex.trans (Ex.refl w) hE9)⟩
theorem c_g_slices_IndexFunc_Write {A1 : Option Addr} {c1 : Nat} {g3 : Nat} {cp4 : List Value} {w : World} (p_s : List DWrite) (p_f : DWrite → Bool) (h1 : RdS w (Iv 0 w.heap.size) (RF e_Write) 3 A1 p_s.length c1 p_s) (hen5 : Go.X.Enters Tryz.prog g3) (hfn6 : ∀ (w1 : World) (y0 : DWrite), Ex w w1 → y0 ∈ p_s → ok_Write y0 → Cal Tryz.prog g3 (([.agg #[.string (bs (y0.Key)), .string (bs (y0.Val)), .bool (y0.Gone)]] : List Value) ++ cp4).toArray w1 fun v w2 => v = .bool (p_f y0) ∧ Ex w1 w2) (o2 : (okL ok_Write) p_s) : Cal Tryz.prog 111 #[.slice A1 p_s.length c1, .func (.func g3) #[] cp4.toArray] w fun v w' => v = .int .i64 ((g_slices_IndexFunc_Write p_s p_f)) ∧ Ex w w' := by
 have hol7 := o2.1
 refine Cal.of func111 rfl ntmps111 rfl (cR (sA rfl (dn (CW.seq (cR ?_)))))
 refine sM rfl (sd rfl (yL un42 rfl rfl (sM rfl (dn (CW.block (CW.loop (fun m9 L10 w11 => ∃ (k8 : Nat), m9 = p_s.length - k8 ∧ k8 ≤ p_s.length ∧ w.heap.size ≤ w11.heap.size ∧ lkp L10 0 = some (.slice A1 p_s.length c1) ∧ lkp L10 1 = some (.func (.func g3) #[] cp4.toArray) ∧ lkp L10 7 = some (.int .i64 ((p_s.length : Int))) ∧ lkp L10 8 = some (.int .i64 ((k8 : Int))) ∧ RdS w11 (Iv 0 w.heap.size) (RF e_Write) 3 A1 p_s.length c1 p_s ∧ Ex w w11 ∧ loopM (B_g_slices_IndexFunc_Write_0 p_s p_f) (p_s.length - k8) k8 () = loopM (B_g_slices_IndexFunc_Write_0 p_s p_f) (p_s.length - 0) 0 ()) (p_s.length - 0) ?_ ?_))))))
 ·exact ⟨0, rfl, oM, Nat.le_refl _, rfl, rfl, rfl, rfl, h1, (Ex.refl w), rfl⟩
 ·rintro m12 L13 w14 ⟨k8, rfl, hk15, hsz17, hl18, hl19, hl20, hl21, hf22, hf23, hI16⟩
  refine CW.sub (Sub.cons hl18 (Sub.cons hl19 (Sub.cons hl20 (Sub.cons hl21 (Sub.nil _))))) ?_
  have hf23z := Ex.size hf23
  have hbg24 := RdS.big hf22
  rcases Nat.lt_or_ge k8 p_s.length with hlt25 | hlt25
  ·refine cR (sd rfl (yl_lss rfl rfl rfl (dn (CW.seq (CW.cond_t rfl (lt_t hlt25) (CW.skip (tn ?_)))))))
   refine CW.seq (CW.block (cR (sM rfl (sA rfl (dn (CW.seq ?_))))))
   refine CW.region (sM rfl (sM rfl (sM rfl ?_)))
   obtain ⟨eb26, eo26, _, eA26, _, ebl26, _, eR26, eC26⟩ := RdS.aD hf22 d_Write (i := k8)
   obtain rfl := eR26
   have eC26 : Cells w14 eb26 (eo26 + k8 * 3) [.string (bs ((p_s.getD k8 d_Write).Key)), .string (bs ((p_s.getD k8 d_Write).Val)), .bool ((p_s.getD k8 d_Write).Gone)] := eC26
   refine sd rfl (yl_ixN un42 ty39 rfl rfl rfl eA26 (sd rfl (yl_loadN ty39 rfl rfl eC26 rfl (sd rfl (yl_callv hen5 rfl rfl (oc rfl oz) (Cal.mono (hfn6 w14 (p_s.getD k8 d_Write) hf23 (getD_mem oM) (okL.getD o2 ok_d_Write _)) ?_))))))
   rintro v28 w27 ⟨rfl, hE29⟩
   have hE29z := Ex.size hE29
   refine dn (bcase (p_f (p_s.getD k8 d_Write)) (fun hb30 => ?_) (fun hb30 => ?_))
   ·refine CW.cond_t rfl hb30 (cR (sM rfl (sA rfl (dn (CW.ret (br ?_))))))
    refine tr (tr ?_)
    have hB32 : B_g_slices_IndexFunc_Write_0 p_s p_f k8 () = .ret (k8 : Int) := by simp only [B_g_slices_IndexFunc_Write_0, hb30, cL]
    have hL31 : loopM (B_g_slices_IndexFunc_Write_0 p_s p_f) (p_s.length - 0) 0 () = .ret (k8 : Int) := hI16.symm.trans (loopM.ret hlt25 hB32)
    refine br (tr (rr rfl (.cons rfl .nil) ?_))
    have hM33 : (g_slices_IndexFunc_Write p_s p_f) = ((k8 : Int)) := by simp only [g_slices_IndexFunc_Write, hb30, hL31, cL]
    rw [hM33]
    exact ⟨rfl, (Ex.trans hf23 hE29)⟩
   ·refine CW.cond_f rfl hb30 (CW.skip (bn (tn (CW.region (sd rfl (yl_inc rfl rfl rfl oM (sM rfl (dn ?_))))))))
    have hB35 : B_g_slices_IndexFunc_Write_0 p_s p_f k8 () = .cont () := by simp only [B_g_slices_IndexFunc_Write_0, hb30, cL]
    exact ⟨p_s.length - (k8 + 1), oM, k8 + 1, rfl, hlt25, oM, rfl, rfl, rfl, rfl, (RdS.ex gW hf22 hE29), (Ex.trans hf23 hE29), (loopM.cont hlt25 hB35).symm.trans hI16⟩
  ·refine cR (sd rfl (yl_lss rfl rfl rfl (dn (CW.seq (CW.cond_f rfl (lt_f hlt25) (CW.exit (tx ?_)))))))
   refine tx ?_
   have hL38 : loopM (B_g_slices_IndexFunc_Write_0 p_s p_f) (p_s.length - 0) 0 () = .done () := hI16.symm.trans (loopM.stop hlt25)
   refine bx (tn (cR (sA rfl (dn (CW.ret (rr rfl (.cons rfl .nil) ?_))))))
   have hM39 : (g_slices_IndexFunc_Write p_s p_f) = (-1) := by simp only [g_slices_IndexFunc_Write, hL38, cL]
   rw [hM39]
   exact ⟨rfl, hf23⟩
theorem c_g_slices_ContainsFunc_Write {A1 : Option Addr} {c1 : Nat} {g3 : Nat} {cp4 : List Value} {w : World} (p_s : List DWrite) (p_f : DWrite → Bool) (h1 : RdS w (Iv 0 w.heap.size) (RF e_Write) 3 A1 p_s.length c1 p_s) (hen5 : Go.X.Enters Tryz.prog g3) (hfn6 : ∀ (w1 : World) (y0 : DWrite), Ex w w1 → y0 ∈ p_s → ok_Write y0 → Cal Tryz.prog g3 (([.agg #[.string (bs (y0.Key)), .string (bs (y0.Val)), .bool (y0.Gone)]] : List Value) ++ cp4).toArray w1 fun v w2 => v = .bool (p_f y0) ∧ Ex w1 w2) (o2 : (okL ok_Write) p_s) : Cal Tryz.prog 88 #[.slice A1 p_s.length c1, .func (.func g3) #[] cp4.toArray] w fun v w' => v = .bool ((g_slices_ContainsFunc_Write p_s p_f)) ∧ Ex w w' := by
 refine Cal.of func88 rfl ntmps88 rfl (cR (sA rfl (dn (cR (sM rfl ?_)))))
 refine sM rfl (sd rfl (yC en111 rfl (oc rfl (oc rfl oz)) (Cal.mono (c_g_slices_IndexFunc_Write p_s p_f (RdS.up h1 gW) hen5 (fun w1 y0 => fun hE => hfn6 w1 y0 (Ex.trans (Ex.refl w) hE)) o2) ?_)))
 rintro v9 w8 ⟨rfl, hE10⟩
 refine sd rfl (yl_geq rfl rfl rfl (sA rfl (dn (CW.ret (rr rfl (.cons rfl .nil) ?_)))))
 have hM11 : (g_slices_ContainsFunc_Write p_s p_f) = (decide (0 ≤ (g_slices_IndexFunc_Write p_s p_f))) := by simp only [g_slices_ContainsFunc_Write, cL]
 rw [hM11]
 exact ⟨rfl, (Ex.trans (Ex.refl w) hE10)⟩
theorem c_i_GoodKey {w : World} (p_s : Str) (o1 : okS p_s) : Cal Tryz.prog 119 #[.string (bs (p_s))] w fun v w' => v = .bool ((i_GoodKey p_s)) ∧ Ex w w' := by
 refine Cal.of func119 rfl ntmps119 rfl (cR (sA rfl (dn (cR (sM rfl ?_)))))
 refine sd rfl (yl_slen un9 (a := p_s) rfl rfl (sd rfl (yC en62 rfl (oc rfl (oc rfl (oc rfl oz))) (Cal.mono (c_i_within (p_s.length : Int) 1 12) ?_))))
 rintro v4 w3 ⟨rfl, hE5⟩
 refine sM rfl (bcase (i_within (p_s.length : Int) 1 12) (fun hb6 => ?_) (fun hb6 => ?_))
 ·have hb6p := f_within hb6
  refine sy rfl rfl hb6 (yM rfl rfl (sy rfl rfl hb6 (yC en98 rfl (oc rfl (oc rfl oz)) (Cal.mono (c_i_hasBytes p_s ([46, 47] : Str) o1 (okS.lit rfl)) ?_))))
  rintro v8 w7 ⟨rfl, hE9⟩
  refine sd rfl (yl_pick_t rfl rfl hb6 rfl (sA rfl (dn (CW.ret (rr rfl (.cons rfl .nil) ?_)))))
  have hM10 : (i_GoodKey p_s) = ((i_hasBytes p_s ([46, 47] : Str))) := by simp only [i_GoodKey, hb6, cL]
  rw [hM10]
  exact ⟨rfl, (Ex.trans (Ex.trans (Ex.refl w) hE5) hE9)⟩
 ·refine sz rfl rfl hb6 (sz rfl rfl hb6 (sd rfl (yl_pick_f rfl rfl hb6 rfl (sA rfl (dn (CW.ret (rr rfl (.cons rfl .nil) ?_)))))))
  have hM13 : (i_GoodKey p_s) = (false) := by simp only [i_GoodKey, hb6, cL]
  rw [hM13]
  exact ⟨rfl, (Ex.trans (Ex.refl w) hE5)⟩
theorem c_i_areRising {A1 : Option Addr} {c1 : Nat} {w : World} (p_keys : List Str) (h1 : RdS w (Iv 0 w.heap.size) (RF e_Str) 1 A1 p_keys.length c1 p_keys) (o2 : (okL okS) p_keys) : Cal Tryz.prog 107 #[.slice A1 p_keys.length c1] w fun v w' => v = .bool ((i_areRising p_keys)) ∧ Ex w w' := by
 have hol3 := o2.1
 refine Cal.of func107 rfl ntmps107 rfl (cR (sA rfl (dn (CW.seq (cR ?_)))))
 refine sM rfl (sd rfl (yL un23 rfl rfl (sM rfl (dn (CW.block (CW.loop (fun m5 L6 w7 => ∃ (k4 : Nat), m5 = p_keys.length - k4 ∧ k4 ≤ p_keys.length ∧ w.heap.size ≤ w7.heap.size ∧ lkp L6 0 = some (.slice A1 p_keys.length c1) ∧ lkp L6 5 = some (.slice A1 p_keys.length c1) ∧ lkp L6 6 = some (.int .i64 ((p_keys.length : Int))) ∧ lkp L6 7 = some (.int .i64 ((k4 : Int))) ∧ RdS w7 (Iv 0 w.heap.size) (RF e_Str) 1 A1 p_keys.length c1 p_keys ∧ Ex w w7 ∧ loopM (B_i_areRising_0 p_keys) (p_keys.length - k4) k4 () = loopM (B_i_areRising_0 p_keys) (p_keys.length - 0) 0 ()) (p_keys.length - 0) ?_ ?_))))))
 ·exact ⟨0, rfl, oM, Nat.le_refl _, rfl, rfl, rfl, rfl, h1, (Ex.refl w), rfl⟩
 ·rintro m8 L9 w10 ⟨k4, rfl, hk11, hsz13, hl14, hl15, hl16, hl17, hf18, hf19, hI12⟩
  refine CW.sub (Sub.cons hl14 (Sub.cons hl15 (Sub.cons hl16 (Sub.cons hl17 (Sub.nil _))))) ?_
  have hf19z := Ex.size hf19
  have hbg20 := RdS.big hf18
  rcases Nat.lt_or_ge k4 p_keys.length with hlt21 | hlt21
  ·refine cR (sd rfl (yl_lss rfl rfl rfl (dn (CW.seq (CW.cond_t rfl (lt_t hlt21) (CW.skip (tn ?_)))))))
   refine CW.seq (CW.block (cR (sM rfl ?_)))
   obtain ⟨eb22, eo22, _, eA22, _, ebl22, _, eR22, eC22⟩ := RdS.aD hf18 d_Str (i := k4)
   obtain rfl := eR22
   have eC22 : Cells w10 eb22 (eo22 + k4 * 1) [.string (bs ((p_keys.getD k4 d_Str)))] := eC22
   refine sd rfl (yl_ixN un23 ty9 rfl rfl rfl eA22 (sd rfl (yl_load1 ty9 rfl rfl (eC22 0 _ rfl) (sA rfl (sA rfl (dn (cR (sM rfl ?_))))))))
   refine sd rfl (yC en119 rfl (oc rfl oz) (Cal.mono (c_i_GoodKey (p_keys.getD k4 d_Str) (okL.getD o2 ok_d_Str _)) ?_))
   rintro v24 w23 ⟨rfl, hE25⟩
   have hE25z := Ex.size hE25
   refine sd rfl (yl_not rfl rfl (sM rfl (bcase (i_GoodKey (p_keys.getD k4 d_Str)) (fun hb26 => ?_) (fun hb26 => ?_))))
   ·refine sy rfl rfl (not_t hb26) (yM rfl rfl (sy rfl rfl (not_t hb26) (yl_gtr rfl rfl rfl (sy rfl rfl (not_t hb26) (yM rfl rfl (bcase (decide (0 < (k4 : Int))) (fun hb27 => ?_) (fun hb27 => ?_)))))))
    ·have hb27p := dec_t hb27
     refine sy rfl rfl hb27 (yM rfl rfl (sy rfl rfl hb27 (yM rfl rfl (sy rfl rfl hb27 (yM rfl rfl (sy rfl rfl hb27 (yl_sub rfl rfl rfl ?_)))))))
     have q28 := RdS.ex gS hf18 hE25
     obtain ⟨eb29, eo29, _, eA29, _, ebl29, _, eR29, eC29⟩ := RdS.atD q28 d_Str (i := (IntKind.wrap .i64 ((k4 : Int) - 1)).toNat) Bo
     obtain rfl := eR29
     have eC29 : Cells w23 eb29 (eo29 + ((IntKind.wrap .i64 ((k4 : Int) - 1)).toNat) * 1) [.string (bs ((p_keys.getD ((IntKind.wrap .i64 ((k4 : Int) - 1)).toNat) d_Str)))] := eC29
     refine sy rfl rfl hb27 (yl_indexAddr un23 ty9 rfl rfl rfl eA29 Bo Bo (sy rfl rfl hb27 (yl_load1 ty9 rfl rfl (eC29 0 _ rfl) (sy rfl rfl hb27 (yl_sleq (a := (p_keys.getD k4 d_Str)) (b := (p_keys.getD ((IntKind.wrap .i64 ((k4 : Int) - 1)).toNat) d_Str)) rfl rfl rfl (sy rfl rfl (not_t hb26) (yl_pick_t rfl rfl hb27 rfl (sd rfl (yl_pick_f rfl rfl (not_t hb26) rfl (dn (bcase (sLe (p_keys.getD k4 d_Str) (p_keys.getD ((IntKind.wrap .i64 ((k4 : Int) - 1)).toNat) d_Str)) (fun hb30 => ?_) (fun hb30 => ?_))))))))))))
     ·refine CW.cond_t rfl hb30 (cR (sA rfl (dn (CW.ret (br (tr ?_))))))
      refine tr ?_
      have hB32 : B_i_areRising_0 p_keys k4 () = .ret false := by simp only [B_i_areRising_0, hb26, hb27, hb30, cL]
      have hL31 : loopM (B_i_areRising_0 p_keys) (p_keys.length - 0) 0 () = .ret false := hI12.symm.trans (loopM.ret hlt21 hB32)
      refine br (tr (rr rfl (.cons rfl .nil) ?_))
      have hM33 : (i_areRising p_keys) = (false) := by simp only [i_areRising, hb26, hb27, hb30, hL31, cL]
      rw [hM33]
      exact ⟨rfl, (Ex.trans hf19 hE25)⟩
     ·refine CW.cond_f rfl hb30 (CW.skip (bn (tn (CW.region (sd rfl (yl_inc rfl rfl rfl oM (sM rfl (dn ?_))))))))
      have hB35 : B_i_areRising_0 p_keys k4 () = .cont () := by simp only [B_i_areRising_0, hb26, hb27, hb30, cL]
      exact ⟨p_keys.length - (k4 + 1), oM, k4 + 1, rfl, hlt21, oM, rfl, rfl, rfl, rfl, q28, (Ex.trans hf19 hE25), (loopM.cont hlt21 hB35).symm.trans hI12⟩
    ·have hb27p := dec_f hb27
     refine sz rfl rfl hb27 (sz rfl rfl hb27 (sz rfl rfl hb27 (sz rfl rfl hb27 (sz rfl rfl hb27 (sz rfl rfl hb27 (sz rfl rfl hb27 (sy rfl rfl (not_t hb26) (yl_pick_f rfl rfl hb27 rfl (sd rfl (yl_pick_f rfl rfl (not_t hb26) rfl ?_))))))))))
     refine dn (CW.cond_f rfl rfl (CW.skip (bn (tn (CW.region (sd rfl (yl_inc rfl rfl rfl oM (sM rfl ?_))))))))
     refine dn ?_
     have hB37 : B_i_areRising_0 p_keys k4 () = .cont () := by simp only [B_i_areRising_0, hb26, hb27, cL]
     exact ⟨p_keys.length - (k4 + 1), oM, k4 + 1, rfl, hlt21, oM, rfl, rfl, rfl, rfl, (RdS.ex gS hf18 hE25), (Ex.trans hf19 hE25), (loopM.cont hlt21 hB37).symm.trans hI12⟩
   ·refine sz rfl rfl (not_f hb26) (sz rfl rfl (not_f hb26) (sz rfl rfl (not_f hb26) (sq rfl rfl (sq rfl rfl (sq rfl rfl (sq rfl rfl (sq rfl rfl (sq rfl rfl ?_))))))))
    refine sq rfl rfl (sz rfl rfl (not_f hb26) (sd rfl (yl_pick_t rfl rfl (not_f hb26) rfl (dn (CW.cond_t rfl rfl (cR (sA rfl ?_)))))))
    refine dn (CW.ret (br (tr (tr ?_))))
    have hB41 : B_i_areRising_0 p_keys k4 () = .ret false := by simp only [B_i_areRising_0, hb26, cL]
    have hL40 : loopM (B_i_areRising_0 p_keys) (p_keys.length - 0) 0 () = .ret false := hI12.symm.trans (loopM.ret hlt21 hB41)
    refine br (tr (rr rfl (.cons rfl .nil) ?_))
    have hM42 : (i_areRising p_keys) = (false) := by simp only [i_areRising, hb26, hL40, cL]
    rw [hM42]
    exact ⟨rfl, (Ex.trans hf19 hE25)⟩
  ·refine cR (sd rfl (yl_lss rfl rfl rfl (dn (CW.seq (CW.cond_f rfl (lt_f hlt21) (CW.exit (tx ?_)))))))
   refine tx ?_
   have hL44 : loopM (B_i_areRising_0 p_keys) (p_keys.length - 0) 0 () = .done () := hI12.symm.trans (loopM.stop hlt21)
   refine bx (tn (cR (sA rfl (dn (CW.ret (rr rfl (.cons rfl .nil) ?_))))))
   have hM45 : (i_areRising p_keys) = (true) := by simp only [i_areRising, hL44, cL]
   rw [hM45]
   exact ⟨rfl, hf19⟩
theorem c_i_writeKeys {A1 : Option Addr} {c1 : Nat} {w : World} (p_l : List DWrite) (h1 : RdS w (Iv 0 w.heap.size) (RF e_Write) 3 A1 p_l.length c1 p_l) (o2 : (okL ok_Write) p_l) : Cal Tryz.prog 108 #[.slice A1 p_l.length c1] w fun v w' => ∃ A_1 c_1 lo_1 hi_1, v = .slice A_1 ((i_writeKeys p_l).length) c_1 ∧ OwnL w' lo_1 hi_1 9 1 (RF e_Str) A_1 ((i_writeKeys p_l).length) c_1 (i_writeKeys p_l) ∧ (okL okS) (i_writeKeys p_l) ∧ (w.heap.size ≤ lo_1 ∧ lo_1 ≤ hi_1 ∧ hi_1 ≤ w'.heap.size) ∧ Ex w w' := by
 have hol3 := o2.1
 refine Cal.of func108 rfl ntmps108 rfl (cR (sA rfl (dn (cR (sd rfl (yl_buildSlice (cs := []) un23 ty9 (by decide) rfl opvs_nil (by kernel_rfl) ?_))))))
 intro b4 w5 hs6 hz7 hB8 hE9
 have hO10 : OwnL w5 b4 (b4 + 1) 9 1 (RF e_Str) (some ⟨b4, 0, none⟩) 0 0 ([] : List Str) := OwnL.of_box (S := fun _ => False) hB8 (Nat.le_refl _) (Nat.lt_succ_self _) EncL.nil (nb rfl) (fun h => h) (fun _ h => False.elim h)
 refine sA rfl (dn (CW.seq (cR (sM rfl (sd rfl (yL un42 rfl rfl (sM rfl ?_)))))))
 refine dn (CW.block (CW.loop (fun m65 L66 w67 => ∃ (k11 : Nat) (x61 : List Str) (A62 : Option Addr) (c63 : Nat) (u64 : Nat), m65 = p_l.length - k11 ∧ k11 ≤ p_l.length ∧ w5.heap.size ≤ w67.heap.size ∧ lkp L66 3 = some (.slice A62 x61.length c63) ∧ lkp L66 7 = some (.slice A1 p_l.length c1) ∧ lkp L66 8 = some (.int .i64 ((p_l.length : Int))) ∧ lkp L66 9 = some (.int .i64 ((k11 : Int))) ∧ OwnL w67 b4 u64 9 1 (RF e_Str) A62 x61.length c63 x61 ∧ RdS w67 (Iv 0 w.heap.size) (RF e_Write) 3 A1 p_l.length c1 p_l ∧ Ex w w67 ∧ (b4 ≤ u64 ∧ u64 ≤ w67.heap.size) ∧ x61.length ≤ 0 + 1 * (k11 - 0) ∧ (∀ y ∈ x61, okS y) ∧ loopM (B_i_writeKeys_0 p_l) (p_l.length - k11) k11 (x61) = loopM (B_i_writeKeys_0 p_l) (p_l.length - 0) 0 (([] : List Str))) (p_l.length - 0) ?_ ?_))
 ·exact ⟨0, ([] : List Str), (some ⟨b4, 0, none⟩), 0, (b4 + 1), rfl, oM, Nat.le_refl _, rfl, rfl, rfl, rfl, hO10, (RdS.ex gW h1 hE9), (Ex.trans (Ex.refl w) hE9), oM, (by first | (simp; done) | (first | omega | (simp only [lN, toS_length]; omega))), okE.nil, rfl⟩
 ·rintro m70 L71 w72 ⟨k11, x61, A62, c63, u64, rfl, hk73, hsz75, hl76, hl77, hl78, hl79, hf80, hf81, hf82, hu83, hln84, hok85, hI74⟩
  refine CW.sub (Sub.cons hl76 (Sub.cons hl77 (Sub.cons hl78 (Sub.cons hl79 (Sub.nil _))))) ?_
  have hf82z := Ex.size hf82
  have hbg86 := RdS.big hf81
  rcases Nat.lt_or_ge k11 p_l.length with hlt87 | hlt87
  ·refine cR (sd rfl (yl_lss rfl rfl rfl (dn (CW.seq (CW.cond_t rfl (lt_t hlt87) (CW.skip (tn ?_)))))))
   refine CW.seq (CW.block (cR ?_))
   obtain ⟨eb88, eo88, _, eA88, _, ebl88, _, eR88, eC88⟩ := RdS.aD hf81 d_Write (i := k11)
   obtain rfl := eR88
   have eC88 : Cells w72 eb88 (eo88 + k11 * 3) [.string (bs ((p_l.getD k11 d_Write).Key)), .string (bs ((p_l.getD k11 d_Write).Val)), .bool ((p_l.getD k11 d_Write).Gone)] := eC88
   refine sd rfl (yl_ixN un42 ty39 rfl rfl rfl eA88 (sd rfl (yl_loadN ty39 rfl rfl eC88 rfl (sd rfl (yB ty39 (cs := [.string (bs (([] : Str))), .string (bs (([] : Str))), .bool (false)]) rfl rfl ?_)))))
   intro b89 w90 hs91 hz92 hB93 hE94
   refine SeqR.u rfl rfl (yl_store (vs := [.string (bs ((p_l.getD k11 d_Write).Key)), .string (bs ((p_l.getD k11 d_Write).Val)), .bool ((p_l.getD k11 d_Write).Gone)]) ty39 rfl rfl rfl rfl rfl rfl hB93 (nb rfl) ?_)
   intro w95 hB96 hO97
   have hB96 : Box w95 b89 39 [.string (bs ((p_l.getD k11 d_Write).Key)), .string (bs ((p_l.getD k11 d_Write).Val)), .bool ((p_l.getD k11 d_Write).Gone)] := hB96
   have hO97z := hO97.size
   refine dn (CW.region (sM rfl (sd rfl (yl_fieldAddr fd39_0 rfl rfl (sd rfl (yl_load1 ty9 rfl rfl ((hB96.cell 0).trans rfl) (sd rfl (yl_buildSlice (cs := [.string (bs ((p_l.getD k11 d_Write).Key))]) un23 ty9 (by decide) rfl (oc rfl oz) (by kernel_rfl) ?_))))))))
   intro b98 w99 hs100 hz101 hB102 hE103
   have hO104 : OwnL w99 b98 (b98 + 1) 9 1 (RF e_Str) (some ⟨b98, 0, none⟩) 1 1 ([(p_l.getD k11 d_Write).Key] : List Str) := OwnL.of_box (S := fun _ => False) hB102 (Nat.le_refl _) (Nat.lt_succ_self _) (EncL.cons (c := [.string (bs ((p_l.getD k11 d_Write).Key))]) rfl rfl EncL.nil) (nb rfl) (fun h => h) (fun _ h => False.elim h)
   refine sd rfl (yl_appendL (S := (fun _ => False)) (lo := b4) (hi := u64) (xs := x61) (ys := ([(p_l.getD k11 d_Write).Key] : List Str)) gS un23 ty9 rfl (nb rfl) rfl rfl rfl (OwnL.ex gS (OwnL.only gS (OwnL.ex gS hf80 hE94) hO97 oM) hE103) (EncL.cons (c := [.string (bs ((p_l.getD k11 d_Write).Key))]) rfl rfl EncL.nil) (Or.inr ⟨_, _, rfl, rfl, hB102.cells (o := 0) (n := 1) rfl⟩) rfl Bl Bl oM oM (fun _ h _ => False.elim h) oM ?_)
   intro A108 c109 w110 row111 hO112 hG113 hrg114
   have hG113z := hG113.size
   refine sA rfl (SeqR.done (bn (tn (CW.region (sd rfl (yl_inc rfl rfl rfl oM (sM rfl (dn ?_))))))))
   have hB115 : B_i_writeKeys_0 p_l k11 (x61) = .cont ((x61 ++ ([(p_l.getD k11 d_Write).Key] : List Str))) := by simp only [B_i_writeKeys_0, cL]
   exact ⟨p_l.length - (k11 + 1), oM, k11 + 1, (x61 ++ ([(p_l.getD k11 d_Write).Key] : List Str)), A108, c109, w110.heap.size, rfl, hlt87, oM, rfl, rfl, rfl, rfl, hO112, (RdS.grown gW (RdS.ex gW (RdS.only gW (RdS.ex gW hf81 hE94) hO97 (by simp only [Iv]; omega)) hE103) hG113 (fun k hk => by have := hrg114 k hk; simp only [Iv]; omega)), (Below.grown (Ex.trans (Below.only (Ex.trans hf82 hE94) hO97 oM) hE103) hG113 oM (fun k hk => by have := hrg114 k hk; omega)), oM, Bl, (okE.append hok85 ((okL.mk (nb rfl) (okE.cons (okL.getD o2 ok_d_Write _).1 okE.nil))).2), (loopM.cont hlt87 hB115).symm.trans hI74⟩
  ·refine cR (sd rfl (yl_lss rfl rfl rfl (dn (CW.seq (CW.cond_f rfl (lt_f hlt87) (CW.exit (tx ?_)))))))
   refine tx ?_
   have hL124 : loopM (B_i_writeKeys_0 p_l) (p_l.length - 0) 0 (([] : List Str)) = .done (x61) := hI74.symm.trans (loopM.stop hlt87)
   refine bx (tn (cR (sM rfl (sA rfl (dn (CW.ret ?_))))))
   refine rr rfl (.cons rfl .nil) ?_
   have hM125 : (i_writeKeys p_l) = (x61) := by simp only [i_writeKeys, hL124, cL]
   rw [hM125]
   exact ⟨A62, c63, b4, u64, rfl, hf80, (okL.mk (xs := x61) Bl hok85), oM, hf82⟩
theorem c_i_GoodVal {w : World} (p_s : Str) (o1 : okS p_s) : Cal Tryz.prog 120 #[.string (bs (p_s))] w fun v w' => v = .bool ((i_GoodVal p_s)) ∧ Ex w w' := by
 refine Cal.of func120 rfl ntmps120 rfl (cR (sA rfl (dn (cR (sM rfl ?_)))))
 refine sd rfl (yl_slen un9 (a := p_s) rfl rfl (sd rfl (yl_leq rfl rfl rfl (sM rfl (bcase (decide ((p_s.length : Int) ≤ 24)) (fun hb3 => ?_) (fun hb3 => ?_))))))
 ·have hb3p := dec_t hb3
  refine sy rfl rfl hb3 (yM rfl rfl (sy rfl rfl hb3 (yC en98 rfl (oc rfl (oc rfl oz)) (Cal.mono (c_i_hasBytes p_s ([46, 45, 44, 95] : Str) o1 (okS.lit rfl)) ?_))))
  rintro v5 w4 ⟨rfl, hE6⟩
  refine sd rfl (yl_pick_t rfl rfl hb3 rfl (sA rfl (dn (CW.ret (rr rfl (.cons rfl .nil) ?_)))))
  have hM7 : (i_GoodVal p_s) = ((i_hasBytes p_s ([46, 45, 44, 95] : Str))) := by simp only [i_GoodVal, hb3, cL]
  rw [hM7]
  exact ⟨rfl, (Ex.trans (Ex.refl w) hE6)⟩
 ·have hb3p := dec_f hb3
  refine sz rfl rfl hb3 (sz rfl rfl hb3 (sd rfl (yl_pick_f rfl rfl hb3 rfl (sA rfl (dn (CW.ret (rr rfl (.cons rfl .nil) ?_)))))))
  have hM9 : (i_GoodVal p_s) = (false) := by simp only [i_GoodVal, hb3, cL]
  rw [hM9]
  exact ⟨rfl, (Ex.refl w)⟩
theorem c_i_isStored {w : World} (p_val : Str) (p_gone : Bool) (o1 : okS p_val) : Cal Tryz.prog 110 #[.string (bs (p_val)), .bool (p_gone)] w fun v w' => v = .bool ((i_isStored p_val p_gone)) ∧ Ex w w' := by
 refine Cal.of func110 rfl ntmps110 rfl (cR (sA rfl (dn (cR (sM rfl ?_)))))
 refine sd rfl (yC en120 rfl (oc rfl oz) (Cal.mono (c_i_GoodVal p_val o1) ?_))
 rintro v4 w3 ⟨rfl, hE5⟩
 refine sM rfl (bcase (i_GoodVal p_val) (fun hb6 => ?_) (fun hb6 => ?_))
 ·refine sy rfl rfl hb6 (yM rfl rfl (sy rfl rfl hb6 (yM rfl rfl (bcase (p_gone) (fun hb7 => ?_) (fun hb7 => ?_)))))
  ·refine sy rfl rfl hb7 (yM rfl rfl (sy rfl rfl hb7 (yl_sneq (a := p_val) (b := ([] : Str)) rfl rfl rfl (sy rfl rfl hb6 (yl_pick_t rfl rfl hb7 rfl (sy rfl rfl hb6 (yl_not rfl rfl (sd rfl (yl_pick_t rfl rfl hb6 rfl (sA rfl (dn (CW.ret ?_))))))))))))
   refine rr rfl (.cons rfl .nil) ?_
   have hM8 : (i_isStored p_val p_gone) = (!(!(p_val == ([] : Str)))) := by simp only [i_isStored, hb6, hb7, cL]
   rw [hM8]
   exact ⟨rfl, (Ex.trans (Ex.refl w) hE5)⟩
  ·refine sz rfl rfl hb7 (sz rfl rfl hb7 (sy rfl rfl hb6 (yl_pick_f rfl rfl hb7 rfl (sy rfl rfl hb6 (yl_not rfl rfl (sd rfl (yl_pick_t rfl rfl hb6 rfl (sA rfl (dn (CW.ret ?_))))))))))
   refine rr rfl (.cons rfl .nil) ?_
   have hM10 : (i_isStored p_val p_gone) = (!false) := by simp only [i_isStored, hb6, hb7, cL]
   rw [hM10]
   exact ⟨rfl, (Ex.trans (Ex.refl w) hE5)⟩
 ·refine sz rfl rfl hb6 (sz rfl rfl hb6 (sq rfl rfl (sq rfl rfl (sz rfl rfl hb6 (sz rfl rfl hb6 (sd rfl (yl_pick_f rfl rfl hb6 rfl (sA rfl (SeqR.done ?_)))))))))
  refine tn (CW.ret (rr rfl (.cons rfl .nil) ?_))
  have hM12 : (i_isStored p_val p_gone) = (false) := by simp only [i_isStored, hb6, cL]
  rw [hM12]
  exact ⟨rfl, (Ex.trans (Ex.refl w) hE5)⟩
theorem c_i_GoodWrites_c1 {w : World} (p_w : DWrite) (o1 : ok_Write p_w) : Cal Tryz.prog 109 #[.agg #[.string (bs (p_w.Key)), .string (bs (p_w.Val)), .bool (p_w.Gone)]] w fun v w' => v = .bool ((i_GoodWrites_c1 p_w)) ∧ Ex w w' := by
 refine Cal.of func109 rfl ntmps109 rfl (cR (sd rfl (yl_box rfl rfl rfl ?_)))
 intro b4 w5 hs6 hz7 hB8 hE9
 refine sA rfl (dn (cR (sd rfl (yl_fieldAddr fd39_1 rfl rfl (sd rfl (yl_load1 ty9 rfl rfl ((hB8.cell 1).trans rfl) (sd rfl (yl_fieldAddr fd39_2 rfl rfl (sd rfl (yl_load1 ty4 rfl rfl ((hB8.cell 2).trans rfl) ?_))))))))))
 refine sd rfl (yC en110 rfl (oc rfl (oc rfl oz)) (Cal.mono (c_i_isStored p_w.Val p_w.Gone o1.2) ?_))
 rintro v11 w10 ⟨rfl, hE12⟩
 refine sd rfl (yl_not rfl rfl (sA rfl (dn (CW.ret (rr rfl (.cons rfl .nil) ?_)))))
 have hM13 : (i_GoodWrites_c1 p_w) = (!(i_isStored p_w.Val p_w.Gone)) := by simp only [i_GoodWrites_c1, cL]
 rw [hM13]
 exact ⟨rfl, (Ex.trans (Ex.trans (Ex.refl w) hE9) hE12)⟩
theorem c_i_GoodWrites {A1 : Option Addr} {c1 : Nat} {w : World} (p_l : List DWrite) (h1 : RdS w (Iv 0 w.heap.size) (RF e_Write) 3 A1 p_l.length c1 p_l) (o2 : (okL ok_Write) p_l) : Cal Tryz.prog 87 #[.slice A1 p_l.length c1] w fun v w' => v = .bool ((i_GoodWrites p_l)) ∧ Ex w w' := by
 refine Cal.of func87 rfl ntmps87 rfl (cR (sA rfl (dn (cR (sM rfl ?_)))))
 refine sd rfl (yL un42 rfl rfl (sd rfl (yl_leq rfl rfl rfl (sM rfl (bcase (decide ((p_l.length : Int) ≤ 24)) (fun hb4 => ?_) (fun hb4 => ?_))))))
 ·have hb4p := dec_t hb4
  refine sy rfl rfl hb4 (yM rfl rfl (sy rfl rfl hb4 (yC en108 rfl (oc rfl oz) (Cal.mono (c_i_writeKeys p_l (RdS.up h1 gW) o2) ?_))))
  rintro v8 w5 ⟨A6, c6, lo6, hi6, rfl, h6, ho7, hrn10, hE9⟩
  refine sy rfl rfl hb4 (yC en107 rfl (oc rfl oz) (Cal.mono (c_i_areRising (i_writeKeys p_l) (RdS.up (OwnL.rd gS h6) gS) ho7) ?_))
  rintro v13 w12 ⟨rfl, hE14⟩
  refine sd rfl (yl_pick_t rfl rfl hb4 rfl (sM rfl (bcase (i_areRising (i_writeKeys p_l)) (fun hb15 => ?_) (fun hb15 => ?_))))
  ·refine sy rfl rfl hb15 (yM rfl rfl (sy rfl rfl hb15 (yC en88 rfl (oc rfl (oc rfl oz)) (Cal.mono (c_g_slices_ContainsFunc_Write p_l (fun y0 => i_GoodWrites_c1 y0) (RdS.up (RdS.ex gW (RdS.ex gW h1 hE9) hE14) gW) en109 (fun _ y0 => fun hE hm0 ov0 => c_i_GoodWrites_c1 y0 ov0) o2) ?_))))
   rintro v19 w18 ⟨rfl, hE20⟩
   refine sy rfl rfl hb15 (yl_not rfl rfl (sd rfl (yl_pick_t rfl rfl hb15 rfl (sA rfl (dn (CW.ret (rr rfl (.cons rfl .nil) ?_)))))))
   have hM21 : (i_GoodWrites p_l) = (!(g_slices_ContainsFunc_Write p_l (fun y0 => i_GoodWrites_c1 y0))) := by simp only [i_GoodWrites, hb4, hb15, cL]
   rw [hM21]
   exact ⟨rfl, (Ex.trans (Ex.trans (Ex.trans (Ex.refl w) hE9) hE14) hE20)⟩
  ·refine sz rfl rfl hb15 (sz rfl rfl hb15 (sz rfl rfl hb15 (sd rfl (yl_pick_f rfl rfl hb15 rfl (sA rfl (dn (CW.ret (rr rfl (.cons rfl .nil) ?_))))))))
   have hM25 : (i_GoodWrites p_l) = (false) := by simp only [i_GoodWrites, hb4, hb15, cL]
   rw [hM25]
   exact ⟨rfl, (Ex.trans (Ex.trans (Ex.refl w) hE9) hE14)⟩
 ·have hb4p := dec_f hb4
  refine sz rfl rfl hb4 (sz rfl rfl hb4 (sz rfl rfl hb4 (sd rfl (yl_pick_f rfl rfl hb4 rfl (sM rfl (sz rfl rfl rfl (sz rfl rfl rfl (sz rfl rfl rfl (sd rfl (yl_pick_f rfl rfl rfl rfl ?_))))))))))
  refine sA rfl (dn (CW.ret (rr rfl (.cons rfl .nil) ?_)))
  have hM28 : (i_GoodWrites p_l) = (false) := by simp only [i_GoodWrites, hb4, cL]
  rw [hM28]
  exact ⟨rfl, (Ex.refl w)⟩
theorem c_i_isRows_c1 {w : World} (p_w : DWrite) (o1 : ok_Write p_w) : Cal Tryz.prog 89 #[.agg #[.string (bs (p_w.Key)), .string (bs (p_w.Val)), .bool (p_w.Gone)]] w fun v w' => v = .bool ((i_isRows_c1 p_w)) ∧ Ex w w' := by
 refine Cal.of func89 rfl ntmps89 rfl (cR (sd rfl (yl_box rfl rfl rfl ?_)))
 intro b4 w5 hs6 hz7 hB8 hE9
 refine sA rfl (dn (cR (sd rfl (yl_fieldAddr fd39_2 rfl rfl (sd rfl (yl_load1 ty4 rfl rfl ((hB8.cell 2).trans rfl) (sA rfl (SeqR.done ?_))))))))
 refine tn (CW.ret (rr rfl (.cons rfl .nil) ?_))
 have hM10 : (i_isRows_c1 p_w) = (p_w.Gone) := by simp only [i_isRows_c1, cL]
 rw [hM10]
 exact ⟨rfl, (Ex.trans (Ex.refl w) hE9)⟩
theorem c_i_isRows {A1 : Option Addr} {c1 : Nat} {w : World} (p_rows : List DWrite) (h1 : RdS w (Iv 0 w.heap.size) (RF e_Write) 3 A1 p_rows.length c1 p_rows) (o2 : (okL ok_Write) p_rows) : Cal Tryz.prog 54 #[.slice A1 p_rows.length c1] w fun v w' => v = .bool ((i_isRows p_rows)) ∧ Ex w w' := by
 refine Cal.of func54 rfl ntmps54 rfl (cR (sA rfl (dn (cR (sM rfl ?_)))))
 refine sd rfl (yC en87 rfl (oc rfl oz) (Cal.mono (c_i_GoodWrites p_rows (RdS.up h1 gW) o2) ?_))
 rintro v5 w4 ⟨rfl, hE6⟩
 refine sM rfl (bcase (i_GoodWrites p_rows) (fun hb7 => ?_) (fun hb7 => ?_))
 ·refine sy rfl rfl hb7 (yM rfl rfl (sy rfl rfl hb7 (yC en88 rfl (oc rfl (oc rfl oz)) (Cal.mono (c_g_slices_ContainsFunc_Write p_rows (fun y0 => i_isRows_c1 y0) (RdS.up (RdS.ex gW h1 hE6) gW) en89 (fun _ y0 => fun hE hm0 ov0 => c_i_isRows_c1 y0 ov0) o2) ?_))))
  rintro v10 w9 ⟨rfl, hE11⟩
  refine sy rfl rfl hb7 (yl_not rfl rfl (sd rfl (yl_pick_t rfl rfl hb7 rfl (sA rfl (dn (CW.ret (rr rfl (.cons rfl .nil) ?_)))))))
  have hM12 : (i_isRows p_rows) = (!(g_slices_ContainsFunc_Write p_rows (fun y0 => i_isRows_c1 y0))) := by simp only [i_isRows, hb7, cL]
  rw [hM12]
  exact ⟨rfl, (Ex.trans (Ex.trans (Ex.refl w) hE6) hE11)⟩
 ·refine sz rfl rfl hb7 (sz rfl rfl hb7 (sz rfl rfl hb7 (sd rfl (yl_pick_f rfl rfl hb7 rfl (sA rfl (dn (CW.ret (rr rfl (.cons rfl .nil) ?_))))))))
  have hM15 : (i_isRows p_rows) = (false) := by simp only [i_isRows, hb7, cL]
  rw [hM15]
  exact ⟨rfl, (Ex.trans (Ex.refl w) hE6)⟩
theorem c_i_isIdxStore {A1 : Option Addr} {c1 : Nat} {A2 : Option Addr} {c2 : Nat} {A5 : Option Addr} {c5 : Nat} {w : World} (p_t : DTable) (pn : Str) (ps : List DWrite) (h1 : RdS w (Iv 0 w.heap.size) (RF e_Str) 1 A1 p_t.Cols.length c1 p_t.Cols) (h2 : RdS w (Iv 0 w.heap.size) (RF e_Idx) 3 A2 p_t.Idxs.length c2 p_t.Idxs) (h5 : RdS w (Iv 0 w.heap.size) (RF e_Write) 3 A5 ps.length c5 ps) (o3 : ok_Table p_t) (o4 : okS pn) (o6 : (okL ok_Write) ps) : Cal Tryz.prog 30 #[.agg #[.string (bs (p_t.Name)), .slice A1 p_t.Cols.length c1, .slice A2 p_t.Idxs.length c2], .string (bs (pn)), .slice A5 ps.length c5] w fun v w' => v = .bool ((i_isIdxStore p_t pn ps)) ∧ Ex w w' := by
 refine Cal.of func30 rfl ntmps30 rfl (cR (sd rfl (yl_box rfl rfl rfl ?_)))
 intro b12 w13 hs14 hz15 hB16 hE17
 refine sA rfl (dn (cR (sd rfl (yl_loadN ty26 rfl rfl (hB16.cells (n := 3) rfl) rfl (sM rfl (sd rfl (yC en16 rfl (oc rfl (oc rfl oz)) (Cal.mono (c_i_hasIdx p_t pn (RdS.up (RdS.ex gS h1 hE17) gS) (RdS.up (RdS.ex gI h2 hE17) gI) o3 o4) ?_))))))))
 rintro v21 w20 ⟨rfl, hE22⟩
 refine sM rfl (bcase (i_hasIdx p_t pn) (fun hb23 => ?_) (fun hb23 => ?_))
 ·obtain ⟨hb23p0, hb23p1, hb23p2⟩ := f_i_hasIdx hb23
  refine sy rfl rfl hb23 (yM rfl rfl (sy rfl rfl hb23 (yC en54 rfl (oc rfl oz) (Cal.mono (c_i_isRows ps (RdS.up (RdS.ex gW (RdS.ex gW h5 hE17) hE22) gW) o6) ?_))))
  rintro v27 w26 ⟨rfl, hE28⟩
  refine sd rfl (yl_pick_t rfl rfl hb23 rfl (sA rfl (dn (CW.ret (rr rfl (.cons rfl .nil) ?_)))))
  have hM29 : (i_isIdxStore p_t pn ps) = ((i_isRows ps)) := by simp only [i_isIdxStore, hb23, cL]
  rw [hM29]
  exact ⟨rfl, (Ex.trans (Ex.trans (Ex.trans (Ex.refl w) hE17) hE22) hE28)⟩
 ·refine sz rfl rfl hb23 (sz rfl rfl hb23 (sd rfl (yl_pick_f rfl rfl hb23 rfl (sA rfl (dn (CW.ret (rr rfl (.cons rfl .nil) ?_)))))))
  have hM33 : (i_isIdxStore p_t pn ps) = (false) := by simp only [i_isIdxStore, hb23, cL]
  rw [hM33]
  exact ⟨rfl, (Ex.trans (Ex.trans (Ex.refl w) hE17) hE22)⟩
theorem c_g_slices_DeleteFunc_string {A1 : Option Addr} {c1 : Nat} {lo1 hi1 : Nat} {g3 : Nat} {cp4 : List Value} {w : World} (p_s : List Str) (p_f : Str → Bool) (h1 : OwnL w lo1 hi1 9 1 (RF e_Str) A1 p_s.length c1 p_s) (hen5 : Go.X.Enters Tryz.prog g3) (hfn6 : ∀ (w1 : World) (y0 : Str), Mut [(lo1, hi1)] w w1 → y0 ∈ p_s → okS y0 → Cal Tryz.prog g3 (([.string (bs y0)] : List Value) ++ cp4).toArray w1 fun v w2 => v = .bool (p_f y0) ∧ Ex w1 w2) (hrn7 : (0 ≤ lo1 ∧ lo1 ≤ hi1 ∧ hi1 ≤ w.heap.size)) (o2 : (okL okS) p_s) : Cal Tryz.prog 90 #[.slice A1 p_s.length c1, .func (.func g3) #[] cp4.toArray] w fun v w' => ∃ A_1 c_1, v = .slice A_1 ((g_slices_DeleteFunc_string p_s p_f).length) c_1 ∧ OwnL w' lo1 hi1 9 1 (RF e_Str) A_1 ((g_slices_DeleteFunc_string p_s p_f).length) c_1 (g_slices_DeleteFunc_string p_s p_f) ∧ (okL okS) (g_slices_DeleteFunc_string p_s p_f) ∧ Mut [(lo1, hi1)] w w' := by
 have hn := o2.1
 have hok : (okL okS) (g_slices_DeleteFunc_string p_s p_f) := ⟨Nat.le_trans (List.length_filter_le _ _) o2.1, fun x hx => o2.2 x (List.mem_filter.1 hx).1⟩
 refine Cal.of func90 rfl ntmps90 rfl (cR (sA rfl (dn (cR (sM rfl (sM rfl (sd rfl (yC en97 rfl (oc rfl (oc rfl oz)) (Cal.mono (c_g_slices_IndexFunc_string p_s p_f (RdS.up (OwnL.rd gS h1) gS) hen5 (fun w1 y0 hE => hfn6 w1 y0 (Mut.ex (Mut.refl w) hE)) o2) ?_)))))))))
 rintro v7 w8 ⟨rfl, hE9⟩
 refine sA rfl (dn (CW.seq (cR (sM rfl (sd rfl (yl_eql rfl rfl rfl (dn (bcase (decide (g_slices_IndexFunc_string p_s p_f = -1)) (fun hb => ?_) (fun hb => ?_)))))))))
 ·have hbp := dec_t hb
  refine CW.cond_t rfl hb (cR (sM rfl (sA rfl (dn (CW.ret (tr (rr rfl (.cons rfl .nil) ?_)))))))
  have hx : ∀ x ∈ p_s, p_f x = false := by
   rcases idxF_spec p_f d_Str p_s with ⟨_, h⟩ | ⟨k, _, h, _⟩
   ·exact h
   ·rw [show g_slices_IndexFunc_string p_s p_f = idxF p_f d_Str p_s from rfl, h] at hbp; omega
  have hM : (g_slices_DeleteFunc_string p_s p_f) = p_s := filter_none hx
  rw [hM]
  exact ⟨_, _, rfl, OwnL.ex gS h1 hE9, o2, Mut.ex (Mut.refl w) hE9⟩
 ·have hbp := dec_f hb
  obtain ⟨i0, hi0, hS⟩ : ∃ i0 : Nat, g_slices_IndexFunc_string p_s p_f = (i0 : Int) ∧ DF p_f p_s p_s i0 (i0 + 1) := by
   rcases idxF_spec p_f d_Str p_s with ⟨h, _⟩ | ⟨k, hk, h, ht, hbef⟩
   ·exact absurd h hbp
   ·exact ⟨k, h, DF.start hk ht hbef⟩
  have hw : IntKind.wrap .i64 (g_slices_IndexFunc_string p_s p_f + 1) = ((i0 + 1 : Nat) : Int) := by rw [hi0, wrap_in (by have := hS.le; omega)]; rfl
  refine CW.cond_f rfl hb (CW.skip (tn (CW.seq (cR (sM rfl (sd rfl (yl_add rfl rfl rfl (sA rfl (dn (CW.block (CW.loop (fun m L w2 => ∃ (i j : Nat) (xs : List Str), p_s.length - j < m ∧ w.heap.size ≤ w2.heap.size ∧ lkp L 0 = some (.slice A1 p_s.length c1) ∧ lkp L 1 = some (.func (.func g3) #[] cp4.toArray) ∧ lkp L 5 = some (.int .i64 (i : Int)) ∧ lkp L 6 = some (.int .i64 (j : Int)) ∧ OwnL w2 lo1 hi1 9 1 (RF e_Str) A1 p_s.length c1 xs ∧ Mut [(lo1, hi1)] w w2 ∧ DF p_f p_s xs i j) (p_s.length + 1) ?_ ?_)))))))))))
  ·exact ⟨i0, i0 + 1, p_s, oM, Ex.size hE9, rfl, rfl, by rw [← hi0]; rfl, by rw [← hw]; rfl, OwnL.ex gS h1 hE9, Mut.ex (Mut.refl w) hE9, hS⟩
  ·rintro m L w2 ⟨i, j, xs, hm, hsz, hl0, hl1, hl5, hl6, hO, hM, hD⟩
   have hij := hD.lt
   have hjn := hD.le
   refine CW.sub (Sub.cons hl0 (Sub.cons hl1 (Sub.cons hl5 (Sub.cons hl6 (Sub.nil _))))) ?_
   refine CW.seq (cR (sM rfl (sM rfl (sd rfl (yL un23 rfl rfl (sd rfl (yl_lss rfl rfl rfl (dn (bcase (decide ((j : Int) < (p_s.length : Int))) (fun hb2 => ?_) (fun hb2 => ?_))))))))))
   ·have hj : j < p_s.length := by have := dec_t hb2; omega
    obtain ⟨eb, eo, ec, eA, _, ebl, _, eR, eC⟩ := RdS.atD (OwnL.rd gS hO) d_Str (i := j) oM
    have eC : Cells w2 eb (eo + j * 1) [.string (bs (p_s.getD j d_Str))] := by rw [hD.get hj] at eR; have e : ec = [.string (bs (p_s.getD j d_Str))] := eR; rw [← e]; exact eC
    refine CW.cond_t rfl hb2 (CW.skip (tn (CW.seq (CW.block (cR (sM rfl (sM rfl (sd rfl (yl_indexAddrN un23 ty9 rfl rfl rfl eA hj (sd rfl (yl_load1 ty9 rfl rfl (eC 0 _ rfl) (sA rfl (dn (cR ?_))))))))))))))
    refine sM rfl (sM rfl (sd rfl (yl_callv hen5 rfl rfl (oc rfl oz) (Cal.mono (hfn6 w2 (p_s.getD j d_Str) hM (getD_mem hj) (okL.getD o2 ok_d_Str _)) ?_))))
    rintro v w3 ⟨rfl, hE3⟩
    refine sd rfl (yl_not rfl rfl (dn (bcase (p_f (p_s.getD j d_Str)) (fun hb3 => ?_) (fun hb3 => ?_))))
    ·refine CW.cond_f rfl (not_t hb3) (CW.skip (bn (tn (CW.region (sM rfl (sd rfl (yl_add rfl rfl rfl (sA rfl (SeqR.done (tn ?_))))))))))
     exact ⟨m - 1, oM, i, j + 1, xs, oM, Nat.le_trans hsz (Ex.size hE3), rfl, rfl, rfl, by rw [← show IntKind.wrap .i64 ((j : Int) + 1) = ((j + 1 : Nat) : Int) from wrap_in oM]; rfl, OwnL.ex gS hO hE3, Mut.ex hM hE3, hD.gone hj hb3⟩
    ·have hO3 := OwnL.ex gS hO hE3
     obtain ⟨fb, fo, fc, fA, _, fbl, _, fR, fC⟩ := RdS.atD (OwnL.rd gS hO3) d_Str (i := i) oM
     refine CW.cond_t rfl (not_f hb3) (cR (sM rfl (sM rfl (sM rfl (sd rfl (yl_indexAddrN un23 ty9 rfl rfl rfl fA (show i < p_s.length by omega) (SeqR.u rfl rfl (yl_storeF (enc := e_Str) (i := i) (d := 0) (x' := (p_s.getD j d_Str)) (dx := d_Str) ty9 rfl hO3 fA rfl rfl (vs := [.string (bs (p_s.getD j d_Str))]) rfl rfl rfl oM (by decide) rfl rfl ?_))))))))
     intro w4 hO4 hN4
     refine dn (CW.region (sM rfl (sd rfl (yl_add rfl rfl rfl (sA rfl (SeqR.done (bn (tn (CW.region (sM rfl (sd rfl (yl_add rfl rfl rfl (sA rfl (SeqR.done (tn ?_)))))))))))))))
     exact ⟨m - 1, oM, i + 1, j + 1, _, oM, by rw [hN4.size]; exact Nat.le_trans hsz (Ex.size hE3), rfl, rfl, by rw [← show IntKind.wrap .i64 ((i : Int) + 1) = ((i + 1 : Nat) : Int) from wrap_in oM]; rfl, by rw [← show IntKind.wrap .i64 ((j : Int) + 1) = ((j + 1 : Nat) : Int) from wrap_in oM]; rfl, hO4, Mut.only (Mut.ex hM hE3) hN4 (Or.inl (hO3.rng (i := i) oM fb (by rw [fA]; rfl))), hD.kept hj hb3⟩
   ·have hj : j = p_s.length := by have := dec_f hb2; omega
    subst hj
    obtain ⟨ht, hik⟩ := hD.done
    refine CW.cond_f rfl hb2 (CW.exit (tx (tx ?_)))
    refine bx (tn (cR (sM rfl (sM rfl (sd rfl (yl_slice (l := i) (h := p_s.length) (kh := .i64) un23 ty9 rfl rfl (Or.inr ⟨_, rfl, rfl⟩) (Or.inl ⟨rfl, rfl⟩) oM (by have := (OwnL.rd gS hO).2.1; omega) (SeqR.u rfl rfl (yl_clearT gS un23 ty9 rfl rfl rfl rfl hO oM ?_))))))))
    intro v5 w5 hO5 hM5
    obtain ⟨fb, fo, fc, fA, _, fbl, _, fR, fC⟩ := RdS.atD (OwnL.rd gS hO) d_Str (i := i) oM
    have hic : i ≤ c1 := by have := (OwnL.rd gS hO).2.1; omega
    refine dn (cR (sM rfl (sM rfl (sd rfl (yl_slice (l := 0) (h := i) (kl := .i64) un23 ty9 rfl rfl (Or.inl ⟨rfl, rfl⟩) (Or.inr ⟨_, rfl, rfl⟩) (Nat.zero_le _) hic (sA rfl (dn (CW.ret (rr rfl (.cons rfl .nil) ?_)))))))))
    have e : (if c1 = 0 then A1 else A1.map (·.add (0 * 1))) = A1 := by
     split
     ·rfl
     ·rw [Nat.zero_mul]; exact headA fA
    rw [ht] at hO5
    have hz : (g_slices_DeleteFunc_string p_s p_f).length = i := hik.symm
    rw [e, hz]
    exact ⟨_, _, rfl, hO5, hok, hM.mut hM5 fun _ h => h⟩
theorem c_g_slices_Clone_string {A1 : Option Addr} {c1 : Nat} {w : World} (p_s : List Str) (h1 : RdS w (Iv 0 w.heap.size) (RF e_Str) 1 A1 p_s.length c1 p_s) (o2 : (okL okS) p_s) : Cal Tryz.prog 91 #[.slice A1 p_s.length c1] w fun v w' => ∃ A_1 c_1 lo_1 hi_1, v = .slice A_1 ((g_slices_Clone_string p_s).length) c_1 ∧ OwnL w' lo_1 hi_1 9 1 (RF e_Str) A_1 ((g_slices_Clone_string p_s).length) c_1 (g_slices_Clone_string p_s) ∧ (okL okS) (g_slices_Clone_string p_s) ∧ (w.heap.size ≤ lo_1 ∧ lo_1 ≤ hi_1 ∧ hi_1 ≤ w'.heap.size) ∧ Ex w w' := by
 have hol3 := o2.1
 refine Cal.of func91 rfl ntmps91 rfl (cR (sA rfl (dn (CW.seq (cR ?_)))))
 refine sM rfl (sd rfl (yl_snil un23 rfl rfl rfl (dn (bcase (A1.isNone) (fun hb4 => ?_) (fun hb4 => ?_)))))
 ·have hnil5 : p_s = [] := RdS.nilA h1 hb4
  refine CW.cond_t rfl hb4 (cR (sA rfl (dn (CW.ret (tr (rr rfl (.cons rfl .nil) ?_))))))
  have hM6 : (g_slices_Clone_string p_s) = (([] : List Str)) := by simp only [g_slices_Clone_string, hnil5, cond_true, cond_false, loopE_done, loopE_ret, List.append_nil]
  rw [hM6]
  exact ⟨none, 0, w.heap.size, w.heap.size, rfl, (OwnL.nil _ _ _ _ _ _), (okL.nil _), oM, (Ex.refl w)⟩
 ·refine CW.cond_f rfl hb4 (CW.skip (tn (cR (sd rfl (yl_buildSlice (cs := []) un23 ty9 (by decide) rfl opvs_nil (by kernel_rfl) ?_)))))
  intro b7 w8 hs9 hz10 hB11 hE12
  have hO13 : OwnL w8 b7 (b7 + 1) 9 1 (RF e_Str) (some ⟨b7, 0, none⟩) 0 0 ([] : List Str) := OwnL.of_box (S := fun _ => False) hB11 (Nat.le_refl _) (Nat.lt_succ_self _) EncL.nil (nb rfl) (fun h => h) (fun _ h => False.elim h)
  refine sM rfl ?_
  obtain ⟨nw15, he16, hs17⟩ := RdS.src (RdS.ex gS h1 hE12)
  have hol18 : p_s.length ≤ 2147483648 := o2.1
  refine sd rfl (yl_appendL (S := (fun _ => False)) (lo := b7) (hi := (b7 + 1)) (xs := ([] : List Str)) (ys := p_s) gS un23 ty9 rfl (nb rfl) rfl rfl rfl hO13 he16 hs17 rfl Bl Bl oM oM (fun _ h _ => False.elim h) oM ?_)
  intro A19 c20 w21 row22 hO23 hG24 hrg25
  have hG24z := hG24.size
  refine sA rfl (dn (CW.ret (rr rfl (.cons rfl .nil) ?_)))
  have hM26 : (g_slices_Clone_string p_s) = ((([] : List Str) ++ p_s)) := by simp only [g_slices_Clone_string, cL]
  have hol27 : p_s.length ≤ 2147483648 := o2.1
  rw [hM26]
  exact ⟨A19, c20, b7, w21.heap.size, rfl, hO23, (okL.mk (xs := (([] : List Str) ++ p_s)) Bl (okE.append okE.nil (o2).2)), oM, (Below.grown (Ex.trans (Ex.refl w) hE12) hG24 oM (fun k hk => by have := hrg25 k hk; omega))⟩
theorem c_i_without_c1 {A2 : Option Addr} {c2 : Nat} {b3 : Nat} {w : World} (p_s : Str) (p_cap0 : List Str) (h2 : RdS w (Iv 0 w.heap.size) (RF e_Str) 1 A2 p_cap0.length c2 p_cap0) (h4 : Box w b3 23 [.slice A2 p_cap0.length c2]) (o1 : okS p_s) (o5 : (okL okS) p_cap0) : Cal Tryz.prog 92 #[.string (bs (p_s)), .pointer (some ⟨b3, 0, none⟩)] w fun v w' => v = .bool ((i_without_c1 p_s p_cap0)) ∧ Ex w w' := by
 refine Cal.of func92 rfl ntmps92 rfl (cR (sA rfl (dn (cR (sd rfl (yl_load1 ty23 rfl rfl ((h4.cell 0).trans rfl) ?_))))))
 refine sM rfl (sd rfl (yC en63 rfl (oc rfl (oc rfl oz)) (Cal.mono (c_g_slices_Contains_string p_cap0 p_s (RdS.up h2 gS) o5 o1) ?_)))
 rintro v9 w8 ⟨rfl, hE10⟩
 refine sA rfl (dn (CW.ret (rr rfl (.cons rfl .nil) ?_)))
 have hM11 : (i_without_c1 p_s p_cap0) = ((g_slices_Contains_string p_cap0 p_s)) := by simp only [i_without_c1, cL]
 rw [hM11]
 exact ⟨rfl, (Ex.trans (Ex.refl w) hE10)⟩
theorem c_i_without {A1 : Option Addr} {c1 : Nat} {A3 : Option Addr} {c3 : Nat} {w : World} (p_l : List Str) (p_other : List Str) (h1 : RdS w (Iv 0 w.heap.size) (RF e_Str) 1 A1 p_l.length c1 p_l) (h3 : RdS w (Iv 0 w.heap.size) (RF e_Str) 1 A3 p_other.length c3 p_other) (o2 : (okL okS) p_l) (o4 : (okL okS) p_other) : Cal Tryz.prog 55 #[.slice A1 p_l.length c1, .slice A3 p_other.length c3] w fun v w' => ∃ A_1 c_1 lo_1 hi_1, v = .slice A_1 ((i_without p_l p_other).length) c_1 ∧ OwnL w' lo_1 hi_1 9 1 (RF e_Str) A_1 ((i_without p_l p_other).length) c_1 (i_without p_l p_other) ∧ (okL okS) (i_without p_l p_other) ∧ (w.heap.size ≤ lo_1 ∧ lo_1 ≤ hi_1 ∧ hi_1 ≤ w'.heap.size) ∧ Ex w w' := by
 have hol5 := o2.1
 have hol6 := o4.1
 refine Cal.of func55 rfl ntmps55 rfl (cR (sd rfl (yl_box rfl rfl rfl ?_)))
 intro b7 w8 hs9 hz10 hB11 hE12
 refine sA rfl (dn (cR (sM rfl (sd rfl (yC en91 rfl (oc rfl oz) (Cal.mono (c_g_slices_Clone_string p_l (RdS.up (RdS.ex gS h1 hE12) gS) o2) ?_))))))
 rintro v17 w14 ⟨A15, c15, lo15, hi15, rfl, h15, ho16, hrn19, hE18⟩
 have hE18z := Ex.size hE18
 refine sd rfl (yl_makeFunc rfl (oc rfl oz) (sd rfl (yC en90 rfl (oc rfl (oc rfl oz)) (Cal.mono (c_g_slices_DeleteFunc_string (g_slices_Clone_string p_l) (fun y0 => i_without_c1 y0 p_other) h15 en92 (fun _ y0 => fun hE hm0 ov0 => c_i_without_c1 y0 p_other (RdS.up (RdS.mut gS (RdS.ex gS (RdS.ex gS h3 hE12) hE18) hE (fun k hk => by simp only [InR, or_false, Iv, Ge] at hk ⊢; omega)) gS) (Box.mut (Box.ex hB11 hE18) hE (fun k hk => by simp only [InR, or_false] at hk; omega)) ov0 o4) oM ho16) ?_))))
 rintro v26 w23 ⟨A24, c24, rfl, h24, ho25, hm27⟩
 have hm27z := Mut.size hm27
 refine sA rfl (dn (CW.ret (rr rfl (.cons rfl .nil) ?_)))
 have hM28 : (i_without p_l p_other) = ((g_slices_DeleteFunc_string (g_slices_Clone_string p_l) (fun y0 => i_without_c1 y0 p_other))) := by simp only [i_without, cL]
 rw [hM28]
 exact ⟨A24, c24, lo15, hi15, rfl, h24, ho25, oM, (Ex.mut (Ex.trans (Ex.trans (Ex.refl w) hE12) hE18) hm27 (fun k hk => by simp only [InR, or_false] at hk; omega))⟩
@[reducible] def Y0_41 (p_t : DTable) (p_w : DWrite) := ([(g_strings_CutPrefix p_w.Key (p_t.Name ++ ([47] : Str))).1] : List Str) ++ (g_strings_Split p_w.Val ([44] : Str))
theorem c_i_Table_readRow {A1 : Option Addr} {c1 : Nat} {A2 : Option Addr} {c2 : Nat} {w : World} (p_t : DTable) (p_w : DWrite) (h1 : RdS w (Iv 0 w.heap.size) (RF e_Str) 1 A1 p_t.Cols.length c1 p_t.Cols) (h2 : RdS w (Iv 0 w.heap.size) (RF e_Idx) 3 A2 p_t.Idxs.length c2 p_t.Idxs) (o3 : ok_Table p_t) (o4 : ok_Write p_w) (pre0 : s_GoodTable p_t = true) : Cal Tryz.prog 112 #[.agg #[.string (bs (p_t.Name)), .slice A1 p_t.Cols.length c1, .slice A2 p_t.Idxs.length c2], .agg #[.string (bs (p_w.Key)), .string (bs (p_w.Val)), .bool (p_w.Gone)]] w fun v w' => ∃ A_1 c_1 lo_1 hi_1, v = .tuple #[.agg #[.slice A_1 (((i_Table_readRow p_t p_w).1.Vals).length) c_1], .bool ((i_Table_readRow p_t p_w).2)] ∧ OwnL w' lo_1 hi_1 9 1 (RF e_Str) A_1 (((i_Table_readRow p_t p_w).1.Vals).length) c_1 ((i_Table_readRow p_t p_w).1.Vals) ∧ ok_Row ((i_Table_readRow p_t p_w).1) ∧ (w.heap.size ≤ lo_1 ∧ lo_1 ≤ hi_1 ∧ hi_1 ≤ w'.heap.size) ∧ Ex w w' := by
 have hol5 : p_t.Name.length ≤ 1073741824 := o3.1
 have hol6 := o3.2.1.1
 have hol7 := o3.2.2.1
 have hol8 : p_w.Key.length ≤ 1073741824 := o4.1
 have hol9 : p_w.Val.length ≤ 1073741824 := o4.2
 have hgt := f_s_GoodTable pre0
 have hgn := gt_name pre0
 refine Cal.of func112 rfl ntmps112 rfl (cR (sd rfl (yl_box rfl rfl rfl ?_)))
 intro b10 w11 hs12 hz13 hB14 hE15
 refine sd rfl (yl_box rfl rfl rfl ?_)
 intro b16 w17 hs18 hz19 hB20 hE21
 refine sd rfl (yB ty28 (cs := [.slice none 0 0]) rfl rfl ?_)
 intro b22 w23 hs24 hz25 hB26 hE27
 refine sA rfl (dn (cR (sd rfl (yl_fieldAddr fd39_0 rfl rfl ?_))))
 have q28 := Box.ex hB20 hE27
 refine sd rfl (yl_load1 ty9 rfl rfl ((q28.cell 0).trans rfl) (sd rfl (yl_fieldAddr fd26_0 rfl rfl ?_)))
 have q30 := Box.ex (Box.ex hB14 hE21) hE27
 refine sd rfl (yl_load1 ty9 rfl rfl ((q30.cell 0).trans rfl) ?_)
 have hol31 : p_t.Name.length ≤ 1073741824 := o3.1
 refine sd rfl (yl_sadd (a := p_t.Name) (b := ([47] : Str)) rfl rfl rfl Bl (sd rfl (yC en77 rfl (oc rfl (oc rfl oz)) (Cal.mono (c_g_strings_CutPrefix p_w.Key (p_t.Name ++ ([47] : Str)) o4.1 (okS_nm hgn)) ?_))))
 rintro v34 w32 ⟨rfl, ho33, hE35⟩
 have hE35z := Ex.size hE35
 refine sM rfl (sd rfl (yl_extract rfl rfl rfl (sd rfl (yl_extract rfl rfl rfl (sA rfl (sA rfl (dn (cR ?_))))))))
 refine sM rfl (sd rfl (yl_buildSlice (cs := [.string (bs ((g_strings_CutPrefix p_w.Key (p_t.Name ++ ([47] : Str))).1))]) un23 ty9 (by decide) rfl (oc rfl oz) (by kernel_rfl) ?_))
 intro b36 w37 hs38 hz39 hB40 hE41
 have hO42 : OwnL w37 b36 (b36 + 1) 9 1 (RF e_Str) (some ⟨b36, 0, none⟩) 1 1 ([(g_strings_CutPrefix p_w.Key (p_t.Name ++ ([47] : Str))).1] : List Str) := OwnL.of_box (S := fun _ => False) hB40 (Nat.le_refl _) (Nat.lt_succ_self _) (EncL.cons (c := [.string (bs ((g_strings_CutPrefix p_w.Key (p_t.Name ++ ([47] : Str))).1))]) rfl rfl EncL.nil) (nb rfl) (fun h => h) (fun _ h => False.elim h)
 refine sd rfl (yl_fieldAddr fd39_1 rfl rfl ?_)
 have q44 := Box.ex (Box.ex q28 hE35) hE41
 refine sd rfl (yl_load1 ty9 rfl rfl ((q44.cell 1).trans rfl) (sd rfl (yC en121 rfl (oc rfl (oc rfl oz)) (Cal.mono (c_g_strings_Split p_w.Val ([44] : Str) o4.2 (okS.lit rfl) rfl) ?_))))
 rintro v48 w45 ⟨A46, c46, lo46, hi46, rfl, h46, ho47, hrn50, hE49⟩
 have hE49z := Ex.size hE49
 have hrf51 := rf_Split p_w.Val ([44] : Str)
 obtain ⟨nw54, he55, hs56⟩ := RdS.src (OwnL.rd gS h46)
 have hol57 : (g_strings_Split p_w.Val ([44] : Str)).length ≤ 2147483648 := ho47.1
 refine sd rfl (yl_appendL (S := (fun _ => False)) (lo := b36) (hi := (b36 + 1)) (xs := ([(g_strings_CutPrefix p_w.Key (p_t.Name ++ ([47] : Str))).1] : List Str)) (ys := (g_strings_Split p_w.Val ([44] : Str))) gS un23 ty9 rfl (nb rfl) rfl rfl rfl (OwnL.ex gS hO42 hE49) he55 hs56 rfl Bl Bl oM oM (fun _ h _ => False.elim h) oM ?_)
 intro A58 c59 w60 row61 hO62 hG63 hrg64
 have hG63z := hG63.size
 refine sd rfl (yl_build (cs := [.slice A58 ((Y0_41 p_t p_w).length) c59]) rfl (oc rfl oz) (by kernel_rfl) (sd rfl (yB ty28 (cs := [.slice none 0 0]) rfl rfl ?_)))
 intro b65 w66 hs67 hz68 hB69 hE70
 have y3 := RdS.ex gI (RdS.grown gI (RdS.ex gI (RdS.ex gI (RdS.ex gI (RdS.ex gI (RdS.ex gI (RdS.ex gI h2 hE15) hE21) hE27) hE35) hE41) hE49) hG63 (fun k hk => by have := hrg64 k hk; simp only [Iv]; omega)) hE70
 have y2 := RdS.ex gS (RdS.grown gS (RdS.ex gS (RdS.ex gS (RdS.ex gS (RdS.ex gS (RdS.ex gS (RdS.ex gS h1 hE15) hE21) hE27) hE35) hE41) hE49) hG63 (fun k hk => by have := hrg64 k hk; simp only [Iv]; omega)) hE70
 refine SeqR.u rfl rfl (yl_store (vs := [.slice A58 ((Y0_41 p_t p_w).length) c59]) ty28 rfl rfl rfl rfl rfl rfl hB69 (nb rfl) ?_)
 intro w71 hB72 hO73
 have y1 := Box.only (Box.ex (Box.grown (Box.ex (Box.ex (Box.ex hB26 hE35) hE41) hE49) hG63 (fun k hk => by have := hrg64 k hk; omega)) hE70) hO73 oM
 have y0 := Below.only (Ex.trans (Below.grown (Ex.trans (Ex.trans (Ex.trans (Ex.trans (Ex.trans (Ex.trans (Ex.refl w) hE15) hE21) hE27) hE35) hE41) hE49) hG63 oM (fun k hk => by have := hrg64 k hk; omega)) hE70) hO73 oM
 have hB72 : Box w71 b65 28 [.slice A58 ((Y0_41 p_t p_w).length) c59] := hB72
 have hO73z := hO73.size
 refine dn (CW.seq (CW.seq (bcase ((g_strings_CutPrefix p_w.Key (p_t.Name ++ ([47] : Str))).2) (fun hb74 => ?_) (fun hb74 => ?_))))
 ·have hol102 : (g_strings_Split p_w.Val ([44] : Str)).length ≤ 2147483648 := ho47.1
  refine bcase (i_Table_isRow p_t (⟨(Y0_41 p_t p_w)⟩ : DRow)) (fun hb104 => ?_) (fun hb104 => ?_)
  ·obtain ⟨hb104p0, hb104p1⟩ := f_i_isRow hb104
   have q110 := Box.only (Box.ex (Box.grown (Box.ex (Box.ex (Box.ex q30 hE35) hE41) hE49) hG63 (fun k hk => by have := hrg64 k hk; omega)) hE70) hO73 oM
   have q119 := RdS.only gS y2 hO73 (by simp only [Iv]; omega)
   have q128 := RdS.only gI y3 hO73 (by simp only [Iv]; omega)
   have q131 := OwnL.only gS (OwnL.ex gS hO62 hE70) hO73 oM
   have hol132 : (g_strings_Split p_w.Val ([44] : Str)).length ≤ 2147483648 := ho47.1
   have hol139 : (g_strings_Split p_w.Val ([44] : Str)).length ≤ 2147483648 := ho47.1
   refine drI 15 [.bool ((g_strings_CutPrefix p_w.Key (p_t.Name ++ ([47] : Str))).2), .bool (!((g_strings_CutPrefix p_w.Key (p_t.Name ++ ([47] : Str))).2)), .bool (!((g_strings_CutPrefix p_w.Key (p_t.Name ++ ([47] : Str))).2)), .agg #[.string (bs (p_t.Name)), .slice A1 p_t.Cols.length c1, .slice A2 p_t.Idxs.length c2], .agg #[.slice A58 ((Y0_41 p_t p_w).length) c59], .bool ((i_Table_isRow p_t (⟨(Y0_41 p_t p_w)⟩ : DRow))), .bool (!(i_Table_isRow p_t (⟨(Y0_41 p_t p_w)⟩ : DRow))), .bool (!(i_Table_isRow p_t (⟨(Y0_41 p_t p_w)⟩ : DRow))), .bool (!(i_Table_isRow p_t (⟨(Y0_41 p_t p_w)⟩ : DRow))), .agg #[.string (bs (p_w.Key)), .string (bs (p_w.Val)), .bool (p_w.Gone)], .agg #[.string (bs (p_t.Name)), .slice A1 p_t.Cols.length c1, .slice A2 p_t.Idxs.length c2], .agg #[.slice A58 ((Y0_41 p_t p_w).length) c59], .agg #[.string (bs ((i_Table_rowWrite p_t (⟨(Y0_41 p_t p_w)⟩ : DRow)).Key)), .string (bs ((i_Table_rowWrite p_t (⟨(Y0_41 p_t p_w)⟩ : DRow)).Val)), .bool ((i_Table_rowWrite p_t (⟨(Y0_41 p_t p_w)⟩ : DRow)).Gone)], .bool (!((p_w.Key == ((i_Table_rowWrite p_t (⟨(Y0_41 p_t p_w)⟩ : DRow)).Key)) && ((p_w.Val == ((i_Table_rowWrite p_t (⟨(Y0_41 p_t p_w)⟩ : DRow)).Val)) && (p_w.Gone == ((i_Table_rowWrite p_t (⟨(Y0_41 p_t p_w)⟩ : DRow)).Gone))))), .bool (!((p_w.Key == ((i_Table_rowWrite p_t (⟨(Y0_41 p_t p_w)⟩ : DRow)).Key)) && ((p_w.Val == ((i_Table_rowWrite p_t (⟨(Y0_41 p_t p_w)⟩ : DRow)).Val)) && (p_w.Gone == ((i_Table_rowWrite p_t (⟨(Y0_41 p_t p_w)⟩ : DRow)).Gone)))))] Tryz.follows rfl ⟨?_, ?_, ?_, ?_, ?_, ?_, ?_, ?_, ?_, ?_, ?_, ?_, ?_, ?_, ?_, trivial⟩ ?_
   ·exact oI rfl fun h => yM rfl (h.old 7 _ rfl rfl) kI
   ·exact oI rfl fun h => yl_not rfl (h.dt 0 25 rfl rfl rfl) kI
   ·exact oI rfl fun h => yM rfl (h.dt 1 26 rfl rfl rfl) kI
   ·exact oW rfl rfl rfl rfl (not_t hb74) fun h => yl_loadN ty26 rfl (h.old 2 _ rfl rfl) ((Box.ex q110 h.ex).cells (n := 3) rfl) rfl kI
   ·exact oW rfl rfl rfl rfl (not_t hb74) fun h => yl_loadN ty28 rfl (h.old 8 _ rfl rfl) ((Box.ex hB72 h.ex).cells (n := 1) rfl) rfl kI
   ·intro L170 w171 hi172
    have hE173 := hi172.ex
    have hE173z := Ex.size hE173
    have hol181 : (g_strings_Split p_w.Val ([44] : Str)).length ≤ 2147483648 := ho47.1
    exact OpR.want rfl rfl (hi172.dt 2 27 rfl rfl rfl) (not_t hb74) (yC en35 rfl (oc (hi172.dt 3 28 rfl rfl rfl) (oc (hi172.dt 4 29 rfl rfl rfl) oz)) (Cal.mono (c_i_Table_isRow p_t (⟨(Y0_41 p_t p_w)⟩ : DRow) (RdS.up (RdS.ex gS q119 hE173) gS) (RdS.up (RdS.ex gI q128 hE173) gI) (RdS.up (OwnL.rd gS (OwnL.ex gS q131 hE173)) gS) o3 (okL.mk (xs := (Y0_41 p_t p_w)) Bl (okE.append ((okL.mk (nb rfl) (okE.cons ho33 okE.nil))).2 (ho47).2))) fun _ _ h => h))
   ·exact oW rfl rfl rfl rfl (not_t hb74) fun h => yl_not rfl (h.dt 5 30 rfl rfl rfl) kI
   ·exact oI rfl fun h => yl_pick_f rfl (h.dt 2 27 rfl rfl rfl) (not_t hb74) (h.dt 6 31 rfl rfl rfl) kI
   ·exact oI rfl fun h => yM rfl (h.dt 7 32 rfl rfl rfl) kI
   ·intro L202 w203 hi204
    have hE205 := hi204.ex
    have hE205z := Ex.size hE205
    exact OpR.want rfl rfl (hi204.dt 8 33 rfl rfl rfl) (not_t hb104) (Yl.sameI (yl_loadN ty39 rfl (hi204.old 3 _ rfl rfl) ((Box.ex (Box.only (Box.ex (Box.grown (Box.ex q44 hE49) hG63 (fun k hk => by have := hrg64 k hk; omega)) hE70) hO73 oM) hE205).cells (n := 3) rfl) rfl kI))
   ·exact oW rfl rfl rfl rfl (not_t hb104) fun h => yl_loadN ty26 rfl (h.old 2 _ rfl rfl) ((Box.ex q110 h.ex).cells (n := 3) rfl) rfl kI
   ·exact oW rfl rfl rfl rfl (not_t hb104) fun h => yl_loadN ty28 rfl (h.old 8 _ rfl rfl) ((Box.ex hB72 h.ex).cells (n := 1) rfl) rfl kI
   ·intro L223 w224 hi225
    have hE226 := hi225.ex
    have hE226z := Ex.size hE226
    have hol234 : (g_strings_Split p_w.Val ([44] : Str)).length ≤ 2147483648 := ho47.1
    exact OpR.want rfl rfl (hi225.dt 8 33 rfl rfl rfl) (not_t hb104) (yC en37 rfl (oc (hi225.dt 10 35 rfl rfl rfl) (oc (hi225.dt 11 36 rfl rfl rfl) oz)) (Cal.mono (c_i_Table_rowWrite p_t (⟨(Y0_41 p_t p_w)⟩ : DRow) (RdS.up (RdS.ex gS q119 hE226) gS) (RdS.up (RdS.ex gI q128 hE226) gI) (RdS.up (OwnL.rd gS (OwnL.ex gS q131 hE226)) gS) o3 (okL.mk (xs := (Y0_41 p_t p_w)) Bl (okE.append ((okL.mk (nb rfl) (okE.cons ho33 okE.nil))).2 (ho47).2)) (by first | omega | assumption | (simp only [wI] at *; omega) | (simp only [lN]; omega)) (by first | omega | assumption | (simp only [wI] at *; omega) | (simp only [lN]; omega)) (by first | omega | assumption | (simp only [wI] at *; omega) | (simp only [lN]; omega))) fun _ _ h => h))
   ·exact oW rfl rfl rfl rfl (not_t hb104) fun h => yl_aneq (xs := [.string (bs (p_w.Key)), .string (bs (p_w.Val)), .bool (p_w.Gone)]) (ys := [.string (bs ((i_Table_rowWrite p_t (⟨(Y0_41 p_t p_w)⟩ : DRow)).Key)), .string (bs ((i_Table_rowWrite p_t (⟨(Y0_41 p_t p_w)⟩ : DRow)).Val)), .bool ((i_Table_rowWrite p_t (⟨(Y0_41 p_t p_w)⟩ : DRow)).Gone)]) Tryz.ae39 rfl (h.dt 9 34 rfl rfl rfl) (h.dt 12 37 rfl rfl rfl) kI
   ·exact oI rfl fun h => yl_pick_f rfl (h.dt 8 33 rfl rfl rfl) (not_t hb104) (h.dt 13 38 rfl rfl rfl) kI
   ·intro fl254 fh255 L251 w252 hp253
    have hE256 := hp253.ex
    have hE256z := Ex.size hE256
    refine dn (CW.sub (sC 4 (hp253.old 4 _ rfl rfl) (sC 8 (hp253.old 8 _ rfl rfl) (sC 39 (hp253.nt 14 39 rfl rfl rfl) (Sub.nil _)))) (bcase ((p_w.Key == ((i_Table_rowWrite p_t (⟨(Y0_41 p_t p_w)⟩ : DRow)).Key)) && ((p_w.Val == ((i_Table_rowWrite p_t (⟨(Y0_41 p_t p_w)⟩ : DRow)).Val)) && (p_w.Gone == ((i_Table_rowWrite p_t (⟨(Y0_41 p_t p_w)⟩ : DRow)).Gone)))) (fun hb260 => ?_) (fun hb260 => ?_)))
    ·refine CW.cond_f rfl (not_t hb260) (CW.skip (tn (cR (sd rfl (yl_loadN ty28 rfl rfl ((Box.ex hB72 hE256).cells (n := 1) rfl) rfl (SeqR.u rfl rfl (yl_store (vs := [.slice A58 ((Y0_41 p_t p_w).length) c59]) ty28 rfl rfl rfl rfl rfl rfl (Box.ex y1 hE256) (nb rfl) ?_)))))))
     intro w269 hB270 hO271
     have hB270 : Box w269 b22 28 [.slice A58 ((Y0_41 p_t p_w).length) c59] := hB270
     have hO271z := hO271.size
     refine sA rfl (dn (CW.ret (rr rfl (.cons ⟨_, rfl, run_loadN ty28 (cs := [.slice A58 ((Y0_41 p_t p_w).length) c59]) rfl (hB270.cells (n := 1) rfl)⟩ (.cons rfl .nil)) ?_)))
     have hM272 : (i_Table_readRow p_t p_w) = (((⟨(Y0_41 p_t p_w)⟩ : DRow), true)) := by simp only [i_Table_readRow, hb74, hb104, hb260, cL]
     have hol275 : (g_strings_Split p_w.Val ([44] : Str)).length ≤ 2147483648 := ho47.1
     rw [hM272]
     exact ⟨A58, c59, b36, w60.heap.size, rfl, (OwnL.only gS (OwnL.ex gS q131 hE256) hO271 oM), (okL.mk (xs := (Y0_41 p_t p_w)) Bl (okE.append ((okL.mk (nb rfl) (okE.cons ho33 okE.nil))).2 (ho47).2)), oM, (Below.only (Ex.trans y0 hE256) hO271 oM)⟩
    ·refine CW.cond_t rfl (not_f hb260) (cR (sd rfl (yl_build (cs := [.slice none 0 0]) rfl opvs_nil (by kernel_rfl) (SeqR.u rfl rfl (yl_store (vs := [.slice none 0 0]) ty28 rfl rfl rfl rfl rfl rfl (Box.ex y1 hE256) (nb rfl) ?_)))))
     intro w294 hB295 hO296
     have hB295 : Box w294 b22 28 [.slice none 0 0] := hB295
     have hO296z := hO296.size
     refine sA rfl (dn (CW.ret (tr (rr rfl (.cons ⟨_, rfl, run_loadN ty28 (cs := [.slice none 0 0]) rfl (hB295.cells (n := 1) rfl)⟩ (.cons rfl .nil)) ?_))))
     have hM297 : (i_Table_readRow p_t p_w) = (((⟨[]⟩ : DRow), false)) := by simp only [i_Table_readRow, hb74, hb104, hb260, cL]
     rw [hM297]
     exact ⟨none, 0, w294.heap.size, w294.heap.size, rfl, (OwnL.nil _ _ _ _ _ _), (okL.nil _), oM, (Below.only (Ex.trans y0 hE256) hO296 oM)⟩
  ·have hol336 : (g_strings_Split p_w.Val ([44] : Str)).length ≤ 2147483648 := ho47.1
   refine drI 15 [.bool ((g_strings_CutPrefix p_w.Key (p_t.Name ++ ([47] : Str))).2), .bool (!((g_strings_CutPrefix p_w.Key (p_t.Name ++ ([47] : Str))).2)), .bool (!((g_strings_CutPrefix p_w.Key (p_t.Name ++ ([47] : Str))).2)), .agg #[.string (bs (p_t.Name)), .slice A1 p_t.Cols.length c1, .slice A2 p_t.Idxs.length c2], .agg #[.slice A58 ((Y0_41 p_t p_w).length) c59], .bool ((i_Table_isRow p_t (⟨(Y0_41 p_t p_w)⟩ : DRow))), .bool (!(i_Table_isRow p_t (⟨(Y0_41 p_t p_w)⟩ : DRow))), .bool (!(i_Table_isRow p_t (⟨(Y0_41 p_t p_w)⟩ : DRow))), .bool (!(i_Table_isRow p_t (⟨(Y0_41 p_t p_w)⟩ : DRow))), undef, undef, undef, undef, undef, .bool (true)] Tryz.follows rfl ⟨?_, ?_, ?_, ?_, ?_, ?_, ?_, ?_, ?_, ?_, ?_, ?_, ?_, ?_, ?_, trivial⟩ ?_
   ·exact oI rfl fun h => yM rfl (h.old 7 _ rfl rfl) kI
   ·exact oI rfl fun h => yl_not rfl (h.dt 0 25 rfl rfl rfl) kI
   ·exact oI rfl fun h => yM rfl (h.dt 1 26 rfl rfl rfl) kI
   ·intro L353 w354 hi355
    have hE356 := hi355.ex
    have hE356z := Ex.size hE356
    exact OpR.want rfl rfl (hi355.dt 2 27 rfl rfl rfl) (not_t hb74) (Yl.sameI (yl_loadN ty26 rfl (hi355.old 2 _ rfl rfl) ((Box.ex (Box.only (Box.ex (Box.grown (Box.ex (Box.ex (Box.ex q30 hE35) hE41) hE49) hG63 (fun k hk => by have := hrg64 k hk; omega)) hE70) hO73 oM) hE356).cells (n := 3) rfl) rfl kI))
   ·exact oW rfl rfl rfl rfl (not_t hb74) fun h => yl_loadN ty28 rfl (h.old 8 _ rfl rfl) ((Box.ex hB72 h.ex).cells (n := 1) rfl) rfl kI
   ·intro L367 w368 hi369
    have hE370 := hi369.ex
    have hE370z := Ex.size hE370
    have hol378 : (g_strings_Split p_w.Val ([44] : Str)).length ≤ 2147483648 := ho47.1
    exact OpR.want rfl rfl (hi369.dt 2 27 rfl rfl rfl) (not_t hb74) (yC en35 rfl (oc (hi369.dt 3 28 rfl rfl rfl) (oc (hi369.dt 4 29 rfl rfl rfl) oz)) (Cal.mono (c_i_Table_isRow p_t (⟨(Y0_41 p_t p_w)⟩ : DRow) (RdS.up (RdS.ex gS (RdS.only gS y2 hO73 (by simp only [Iv]; omega)) hE370) gS) (RdS.up (RdS.ex gI (RdS.only gI y3 hO73 (by simp only [Iv]; omega)) hE370) gI) (RdS.up (OwnL.rd gS (OwnL.ex gS (OwnL.only gS (OwnL.ex gS hO62 hE70) hO73 oM) hE370)) gS) o3 (okL.mk (xs := (Y0_41 p_t p_w)) Bl (okE.append ((okL.mk (nb rfl) (okE.cons ho33 okE.nil))).2 (ho47).2))) fun _ _ h => h))
   ·exact oW rfl rfl rfl rfl (not_t hb74) fun h => yl_not rfl (h.dt 5 30 rfl rfl rfl) kI
   ·exact oI rfl fun h => yl_pick_f rfl (h.dt 2 27 rfl rfl rfl) (not_t hb74) (h.dt 6 31 rfl rfl rfl) kI
   ·exact oI rfl fun h => yM rfl (h.dt 7 32 rfl rfl rfl) kI
   ·exact oS rfl rfl rfl rfl rfl (not_f hb104)
   ·exact oS rfl rfl rfl rfl rfl (not_f hb104)
   ·exact oS rfl rfl rfl rfl rfl (not_f hb104)
   ·exact oS rfl rfl rfl rfl rfl (not_f hb104)
   ·exact oS rfl rfl rfl rfl rfl (not_f hb104)
   ·exact oI rfl fun h => yl_pick_t rfl (h.dt 8 33 rfl rfl rfl) (not_f hb104) rfl kI
   ·intro fl433 fh434 L430 w431 hp432
    have hE435 := hp432.ex
    have hE435z := Ex.size hE435
    refine dn (CW.sub (sC 4 (hp432.old 4 _ rfl rfl) (sC 8 (hp432.old 8 _ rfl rfl) (sC 39 (hp432.nt 14 39 rfl rfl rfl) (Sub.nil _)))) (CW.cond_t rfl rfl (cR (sd rfl (yl_build (cs := [.slice none 0 0]) rfl opvs_nil (by kernel_rfl) (SeqR.u rfl rfl (yl_store (vs := [.slice none 0 0]) ty28 rfl rfl rfl rfl rfl rfl (Box.ex y1 hE435) (nb rfl) ?_)))))))
    intro w446 hB447 hO448
    have hB447 : Box w446 b22 28 [.slice none 0 0] := hB447
    have hO448z := hO448.size
    refine sA rfl (dn (CW.ret (tr (rr rfl (.cons ⟨_, rfl, run_loadN ty28 (cs := [.slice none 0 0]) rfl (hB447.cells (n := 1) rfl)⟩ (.cons rfl .nil)) ?_))))
    have hM449 : (i_Table_readRow p_t p_w) = (((⟨[]⟩ : DRow), false)) := by simp only [i_Table_readRow, hb74, hb104, cL]
    rw [hM449]
    exact ⟨none, 0, w446.heap.size, w446.heap.size, rfl, (OwnL.nil _ _ _ _ _ _), (okL.nil _), oM, (Below.only (Ex.trans y0 hE435) hO448 oM)⟩
 ·refine drI 15 [.bool ((g_strings_CutPrefix p_w.Key (p_t.Name ++ ([47] : Str))).2), .bool (!((g_strings_CutPrefix p_w.Key (p_t.Name ++ ([47] : Str))).2)), .bool (!((g_strings_CutPrefix p_w.Key (p_t.Name ++ ([47] : Str))).2)), undef, undef, undef, undef, .bool (true), .bool (true), undef, undef, undef, undef, undef, .bool (true)] Tryz.follows rfl ⟨?_, ?_, ?_, ?_, ?_, ?_, ?_, ?_, ?_, ?_, ?_, ?_, ?_, ?_, ?_, trivial⟩ ?_
  ·exact oI rfl fun h => yM rfl (h.old 7 _ rfl rfl) kI
  ·exact oI rfl fun h => yl_not rfl (h.dt 0 25 rfl rfl rfl) kI
  ·exact oI rfl fun h => yM rfl (h.dt 1 26 rfl rfl rfl) kI
  ·exact oS rfl rfl rfl rfl rfl (not_f hb74)
  ·exact oS rfl rfl rfl rfl rfl (not_f hb74)
  ·exact oS rfl rfl rfl rfl rfl (not_f hb74)
  ·exact oS rfl rfl rfl rfl rfl (not_f hb74)
  ·exact oI rfl fun h => yl_pick_t rfl (h.dt 2 27 rfl rfl rfl) (not_f hb74) rfl kI
  ·exact oI rfl fun h => yM rfl (h.dt 7 32 rfl rfl rfl) kI
  ·exact oS rfl rfl rfl rfl rfl rfl
  ·exact oS rfl rfl rfl rfl rfl rfl
  ·exact oS rfl rfl rfl rfl rfl rfl
  ·exact oS rfl rfl rfl rfl rfl rfl
  ·exact oS rfl rfl rfl rfl rfl rfl
  ·exact oI rfl fun h => yl_pick_t rfl (h.dt 8 33 rfl rfl rfl) rfl rfl kI
  ·intro fl541 fh542 L538 w539 hp540
   have hE543 := hp540.ex
   have hE543z := Ex.size hE543
   refine dn (CW.sub (sC 4 (hp540.old 4 _ rfl rfl) (sC 8 (hp540.old 8 _ rfl rfl) (sC 39 (hp540.nt 14 39 rfl rfl rfl) (Sub.nil _)))) (CW.cond_t rfl rfl (cR (sd rfl (yl_build (cs := [.slice none 0 0]) rfl opvs_nil (by kernel_rfl) (SeqR.u rfl rfl (yl_store (vs := [.slice none 0 0]) ty28 rfl rfl rfl rfl rfl rfl (Box.ex y1 hE543) (nb rfl) ?_)))))))
   intro w554 hB555 hO556
   have hB555 : Box w554 b22 28 [.slice none 0 0] := hB555
   have hO556z := hO556.size
   refine sA rfl (dn (CW.ret (tr (rr rfl (.cons ⟨_, rfl, run_loadN ty28 (cs := [.slice none 0 0]) rfl (hB555.cells (n := 1) rfl)⟩ (.cons rfl .nil)) ?_))))
   have hM557 : (i_Table_readRow p_t p_w) = (((⟨[]⟩ : DRow), false)) := by simp only [i_Table_readRow, hb74, cL]
   rw [hM557]
   exact ⟨none, 0, w554.heap.size, w554.heap.size, rfl, (OwnL.nil _ _ _ _ _ _), (okL.nil _), oM, (Below.only (Ex.trans y0 hE543) hO556 oM)⟩
theorem c_i_Table_rowsIn {A1 : Option Addr} {c1 : Nat} {A2 : Option Addr} {c2 : Nat} {A4 : Option Addr} {c4 : Nat} {w : World} (p_t : DTable) (ps : List DWrite) (h1 : RdS w (Iv 0 w.heap.size) (RF e_Str) 1 A1 p_t.Cols.length c1 p_t.Cols) (h2 : RdS w (Iv 0 w.heap.size) (RF e_Idx) 3 A2 p_t.Idxs.length c2 p_t.Idxs) (h4 : RdS w (Iv 0 w.heap.size) (RF e_Write) 3 A4 ps.length c4 ps) (o3 : ok_Table p_t) (o5 : (okL ok_Write) ps) (pre0 : s_GoodTable p_t = true) : Cal Tryz.prog 93 #[.agg #[.string (bs (p_t.Name)), .slice A1 p_t.Cols.length c1, .slice A2 p_t.Idxs.length c2], .slice A4 ps.length c4] w fun v w' => ∃ A_1 c_1 lo_1 hi_1, v = .slice A_1 ((i_Table_rowsIn p_t ps).length) c_1 ∧ OwnD w' lo_1 hi_1 28 1 RO_Row A_1 ((i_Table_rowsIn p_t ps).length) c_1 (i_Table_rowsIn p_t ps) ∧ (okL ok_Row) (i_Table_rowsIn p_t ps) ∧ (w.heap.size ≤ lo_1 ∧ lo_1 ≤ hi_1 ∧ hi_1 ≤ w'.heap.size) ∧ Ex w w' := by
 have hol6 : p_t.Name.length ≤ 1073741824 := o3.1
 have hol7 := o3.2.1.1
 have hol8 := o3.2.2.1
 have hol9 := o5.1
 refine Cal.of func93 rfl ntmps93 rfl (cR (sd rfl (yl_box rfl rfl rfl ?_)))
 intro b10 w11 hs12 hz13 hB14 hE15
 refine sA rfl (dn (cR (sd rfl (yl_buildSlice (cs := []) un125 ty28 (by decide) rfl opvs_nil (by kernel_rfl) ?_))))
 intro b16 w17 hs18 hz19 hB20 hE21
 have hO22 : OwnL w17 b16 (b16 + 1) 28 1 R_Row (some ⟨b16, 0, none⟩) 0 0 ([] : List DRow) := OwnL.of_box (S := fun _ => False) hB20 (Nat.le_refl _) (Nat.lt_succ_self _) EncL.nil (nb rfl) (fun h => h) (fun _ h => False.elim h)
 refine sA rfl (dn (CW.seq (cR (sM rfl (sd rfl (yL un42 rfl rfl (sM rfl ?_)))))))
 refine dn (CW.block (CW.loop (fun m109 L110 w111 => ∃ (k23 : Nat) (x105 : List DRow) (A106 : Option Addr) (c107 : Nat) (u108 : Nat), m109 = ps.length - k23 ∧ k23 ≤ ps.length ∧ w17.heap.size ≤ w111.heap.size ∧ lkp L110 2 = some (.pointer (some ⟨b10, 0, none⟩)) ∧ lkp L110 5 = some (.slice A106 x105.length c107) ∧ lkp L110 11 = some (.slice A4 ps.length c4) ∧ lkp L110 12 = some (.int .i64 ((ps.length : Int))) ∧ lkp L110 13 = some (.int .i64 ((k23 : Int))) ∧ Box w111 b10 26 [.string (bs (p_t.Name)), .slice A1 p_t.Cols.length c1, .slice A2 p_t.Idxs.length c2] ∧ RdS w111 (Iv 0 w.heap.size) (RF e_Str) 1 A1 p_t.Cols.length c1 p_t.Cols ∧ RdS w111 (Iv 0 w.heap.size) (RF e_Idx) 3 A2 p_t.Idxs.length c2 p_t.Idxs ∧ OwnD w111 b16 u108 28 1 RO_Row A106 x105.length c107 x105 ∧ RdS w111 (Iv 0 w.heap.size) (RF e_Write) 3 A4 ps.length c4 ps ∧ Ex w w111 ∧ (b16 ≤ u108 ∧ u108 ≤ w111.heap.size) ∧ x105.length ≤ 0 + 1 * (k23 - 0) ∧ (∀ y ∈ x105, ok_Row y) ∧ loopM (B_i_Table_rowsIn_0 p_t ps) (ps.length - k23) k23 (x105) = loopM (B_i_Table_rowsIn_0 p_t ps) (ps.length - 0) 0 (([] : List DRow))) (ps.length - 0) ?_ ?_))
 ·exact ⟨0, ([] : List DRow), (some ⟨b16, 0, none⟩), 0, (b16 + 1), rfl, oM, Nat.le_refl _, rfl, rfl, rfl, rfl, rfl, (Box.ex hB14 hE21), (RdS.ex gS (RdS.ex gS h1 hE15) hE21), (RdS.ex gI (RdS.ex gI h2 hE15) hE21), (OwnD.empty w17 b16 (b16 + 1) 28 1 RO_Row (some ⟨b16, 0, none⟩)), (RdS.ex gW (RdS.ex gW h4 hE15) hE21), (Ex.trans (Ex.trans (Ex.refl w) hE15) hE21), oM, (by first | (simp; done) | (first | omega | (simp only [lN, toS_length]; omega))), okE.nil, rfl⟩
 ·rintro m121 L122 w123 ⟨k23, x105, A106, c107, u108, rfl, hk124, hsz126, hl127, hl128, hl129, hl130, hl131, hf132, hf133, hf134, hf135, hf136, hf137, hu138, hln139, hok140, hI125⟩
  refine CW.sub (Sub.cons hl127 (Sub.cons hl128 (Sub.cons hl129 (Sub.cons hl130 (Sub.cons hl131 (Sub.nil _)))))) ?_
  have hf132z := Box.lt hf132
  have hf137z := Ex.size hf137
  have hbg141 := RdS.big hf136
  rcases Nat.lt_or_ge k23 ps.length with hlt142 | hlt142
  ·refine cR (sd rfl (yl_lss rfl rfl rfl (dn (CW.seq (CW.cond_t rfl (lt_t hlt142) (CW.skip (tn ?_)))))))
   refine CW.seq (CW.block (cR ?_))
   obtain ⟨eb143, eo143, _, eA143, _, ebl143, _, eR143, eC143⟩ := RdS.aD hf136 d_Write (i := k23)
   obtain rfl := eR143
   have eC143 : Cells w123 eb143 (eo143 + k23 * 3) [.string (bs ((ps.getD k23 d_Write).Key)), .string (bs ((ps.getD k23 d_Write).Val)), .bool ((ps.getD k23 d_Write).Gone)] := eC143
   refine sd rfl (yl_ixN un42 ty39 rfl rfl rfl eA143 (sd rfl (yl_loadN ty39 rfl rfl eC143 rfl (sd rfl (yB ty39 (cs := [.string (bs (([] : Str))), .string (bs (([] : Str))), .bool (false)]) rfl rfl ?_)))))
   intro b144 w145 hs146 hz147 hB148 hE149
   refine SeqR.u rfl rfl (yl_store (vs := [.string (bs ((ps.getD k23 d_Write).Key)), .string (bs ((ps.getD k23 d_Write).Val)), .bool ((ps.getD k23 d_Write).Gone)]) ty39 rfl rfl rfl rfl rfl rfl hB148 (nb rfl) ?_)
   intro w150 hB151 hO152
   have hB151 : Box w150 b144 39 [.string (bs ((ps.getD k23 d_Write).Key)), .string (bs ((ps.getD k23 d_Write).Val)), .bool ((ps.getD k23 d_Write).Gone)] := hB151
   have hO152z := hO152.size
   refine dn (cR ?_)
   have q154 := Box.only (Box.ex hf132 hE149) hO152 oM
   refine sd rfl (yl_loadN ty26 rfl rfl (q154.cells (n := 3) rfl) rfl (sd rfl (yl_loadN ty39 rfl rfl (hB151.cells (n := 3) rfl) rfl ?_)))
   have q156 := RdS.only gS (RdS.ex gS hf133 hE149) hO152 (by simp only [Iv]; omega)
   have q158 := RdS.only gI (RdS.ex gI hf134 hE149) hO152 (by simp only [Iv]; omega)
   refine sd rfl (yC en112 rfl (oc rfl (oc rfl oz)) (Cal.mono (c_i_Table_readRow p_t (ps.getD k23 d_Write) (RdS.up q156 gS) (RdS.up q158 gI) o3 (okL.getD o5 ok_d_Write _) Bo) ?_))
   rintro v162 w159 ⟨A160, c160, lo160, hi160, rfl, h160, ho161, hrn164, hE163⟩
   have hE163z := Ex.size hE163
   refine sM rfl (sd rfl (yl_extract rfl rfl rfl (sd rfl (yl_extract rfl rfl rfl (sd rfl (yB ty28 (cs := [.slice none 0 0]) rfl rfl ?_))))))
   intro b165 w166 hs167 hz168 hB169 hE170
   refine SeqR.u rfl rfl (yl_store (vs := [.slice A160 (((i_Table_readRow p_t (ps.getD k23 d_Write)).1.Vals).length) c160]) ty28 rfl rfl rfl rfl rfl rfl hB169 (nb rfl) ?_)
   intro w171 hB172 hO173
   have y0 := RdS.only gW (RdS.ex gW (RdS.ex gW (RdS.only gW (RdS.ex gW hf136 hE149) hO152 (by simp only [Iv]; omega)) hE163) hE170) hO173 (by simp only [Iv]; omega)
   have hB172 : Box w171 b165 28 [.slice A160 (((i_Table_readRow p_t (ps.getD k23 d_Write)).1.Vals).length) c160] := hB172
   have hO173z := hO173.size
   refine sA rfl (dn (cR (sM rfl (dn (bcase ((i_Table_readRow p_t (ps.getD k23 d_Write)).2) (fun hb174 => ?_) (fun hb174 => ?_))))))
   ·refine CW.cond_t rfl hb174 (CW.region (sM rfl (sd rfl (yl_loadN ty28 rfl rfl (hB172.cells (n := 1) rfl) rfl (sd rfl (yl_buildSlice (cs := [.slice A160 (((i_Table_readRow p_t (ps.getD k23 d_Write)).1.Vals).length) c160]) un125 ty28 (by decide) rfl (oc rfl oz) (by kernel_rfl) ?_))))))
    intro b175 w176 hs177 hz178 hB179 hE180
    have hO181 : OwnD w176 w150.heap.size (b175 + 1) 28 1 RO_Row (some ⟨b175, 0, none⟩) 1 1 ([(i_Table_readRow p_t (ps.getD k23 d_Write)).1] : List DRow) := OwnD.of_box (b := b175) (xs := ([(i_Table_readRow p_t (ps.getD k23 d_Write)).1] : List DRow)) (cells := [[.slice A160 (((i_Table_readRow p_t (ps.getD k23 d_Write)).1.Vals).length) c160]]) (by rw [List.flatten_singleton]; exact hB179) oM (Nat.lt_succ_self _) (.cons (l := w150.heap.size) (h := b175) (Nat.le_refl _) oM rfl (fun k hk => by cases hk; exact .inr (Nat.le_refl _)) (mkO_Row (l := w150.heap.size) (h := b175) (OwnL.ex gS (OwnL.only gS (OwnL.ex gS h160 hE170) hO173 oM) hE180) oM) (.nil (Nat.le_succ _))) (nb rfl)
    refine sd rfl (yl_appendD (xs := x105) (ys := ([(i_Table_readRow p_t (ps.getD k23 d_Write)).1] : List DRow)) goodO_Row un125 ty28 rfl (nb rfl) rfl rfl rfl (OwnD.ex goodO_Row (OwnD.only goodO_Row (OwnD.ex goodO_Row (OwnD.ex goodO_Row (OwnD.only goodO_Row (OwnD.ex goodO_Row hf135 hE149) hO152 oM) hE163) hE170) hO173 oM) hE180) hO181 Bl Bl oM oM oM oM ?_)
    intro A190 c191 w192 row193 hO194 hG195 hrg196
    have hG195z := hG195.size
    refine sA rfl (SeqR.done (bn (tn (CW.region (sd rfl (yl_inc rfl rfl rfl oM (sM rfl (dn ?_))))))))
    have hB197 : B_i_Table_rowsIn_0 p_t ps k23 (x105) = .cont ((x105 ++ ([(i_Table_readRow p_t (ps.getD k23 d_Write)).1] : List DRow))) := by simp only [B_i_Table_rowsIn_0, hb174, cL]
    exact ⟨ps.length - (k23 + 1), oM, k23 + 1, (x105 ++ ([(i_Table_readRow p_t (ps.getD k23 d_Write)).1] : List DRow)), A190, c191, w192.heap.size, rfl, hlt142, oM, rfl, rfl, rfl, rfl, rfl, (Box.grown (Box.ex (Box.only (Box.ex (Box.ex q154 hE163) hE170) hO173 oM) hE180) hG195 (fun k hk => by have := hrg196 k hk; omega)), (RdS.grown gS (RdS.ex gS (RdS.only gS (RdS.ex gS (RdS.ex gS q156 hE163) hE170) hO173 (by simp only [Iv]; omega)) hE180) hG195 (fun k hk => by have := hrg196 k hk; simp only [Iv]; omega)), (RdS.grown gI (RdS.ex gI (RdS.only gI (RdS.ex gI (RdS.ex gI q158 hE163) hE170) hO173 (by simp only [Iv]; omega)) hE180) hG195 (fun k hk => by have := hrg196 k hk; simp only [Iv]; omega)), hO194, (RdS.grown gW (RdS.ex gW y0 hE180) hG195 (fun k hk => by have := hrg196 k hk; simp only [Iv]; omega)), (Below.grown (Ex.trans (Below.only (Ex.trans (Ex.trans (Below.only (Ex.trans hf137 hE149) hO152 oM) hE163) hE170) hO173 oM) hE180) hG195 oM (fun k hk => by have := hrg196 k hk; omega)), oM, Bl, (okE.append hok140 ((okL.mk (nb rfl) (okE.cons (show ok_Row ((i_Table_readRow p_t (ps.getD k23 d_Write)).1) from ho161) okE.nil))).2), (loopM.cont hlt142 hB197).symm.trans hI125⟩
   ·refine CW.cond_f rfl hb174 (CW.skip (bn (tn (CW.region (sd rfl (yl_inc rfl rfl rfl oM (sM rfl (dn ?_))))))))
    have hB227 : B_i_Table_rowsIn_0 p_t ps k23 (x105) = .cont (x105) := by simp only [B_i_Table_rowsIn_0, hb174, cL]
    exact ⟨ps.length - (k23 + 1), oM, k23 + 1, x105, A106, c107, u108, rfl, hlt142, oM, rfl, rfl, rfl, rfl, rfl, (Box.only (Box.ex (Box.ex q154 hE163) hE170) hO173 oM), (RdS.only gS (RdS.ex gS (RdS.ex gS q156 hE163) hE170) hO173 (by simp only [Iv]; omega)), (RdS.only gI (RdS.ex gI (RdS.ex gI q158 hE163) hE170) hO173 (by simp only [Iv]; omega)), (OwnD.only goodO_Row (OwnD.ex goodO_Row (OwnD.ex goodO_Row (OwnD.only goodO_Row (OwnD.ex goodO_Row hf135 hE149) hO152 oM) hE163) hE170) hO173 oM), y0, (Below.only (Ex.trans (Ex.trans (Below.only (Ex.trans hf137 hE149) hO152 oM) hE163) hE170) hO173 oM), oM, Bl, hok140, (loopM.cont hlt142 hB227).symm.trans hI125⟩
  ·refine cR (sd rfl (yl_lss rfl rfl rfl (dn (CW.seq (CW.cond_f rfl (lt_f hlt142) (CW.exit (tx ?_)))))))
   refine tx ?_
   have hL252 : loopM (B_i_Table_rowsIn_0 p_t ps) (ps.length - 0) 0 (([] : List DRow)) = .done (x105) := hI125.symm.trans (loopM.stop hlt142)
   refine bx (tn (cR (sM rfl (sA rfl (dn (CW.ret ?_))))))
   refine rr rfl (.cons rfl .nil) ?_
   have hM253 : (i_Table_rowsIn p_t ps) = (x105) := by simp only [i_Table_rowsIn, hL252, cL]
   rw [hM253]
   exact ⟨A106, c107, b16, u108, rfl, hf135, (okL.mk (xs := x105) Bl hok140), oM, hf137⟩
end Go.Proofs.YtfcofekfcmidoaaGreatDoor
