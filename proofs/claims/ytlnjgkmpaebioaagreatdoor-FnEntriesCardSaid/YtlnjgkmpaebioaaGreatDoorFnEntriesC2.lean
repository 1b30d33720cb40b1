/- Fn Entries: what each call returns, part 2. -/
import Derived.Test.YtlnjgkmpaebioaaGreatDoorFnEntriesC1
set_option maxRecDepth 100000
set_option maxHeartbeats 2000000
open Go.Proofs.Tryz Go.Proofs.YtlnjgkmpaebioaaGreatDoor.Tryz
set_option linter.unusedVariables false
set_option linter.unusedSimpArgs false
namespace Go.Proofs.YtlnjgkmpaebioaaGreatDoor
open Go.RowKit Go.X
theorem c_s_l5PutW {A1 : Option Addr} {c1 : Nat} {w : World} (p_l : List DWrite) (p_w : DWrite) (h1 : RdS w (Iv 0 w.heap.size) (RF e_Write) 3 A1 p_l.length c1 p_l) (o2 : (okL ok_Write) p_l) (o3 : ok_Write p_w) (pre0 : p_l.length ≤ 1000000) : Cal Tryz.prog 41 #[.slice A1 p_l.length c1, .agg #[.string (bs (p_w.Key)), .string (bs (p_w.Val)), .bool (p_w.Gone)]] w fun v w' => ∃ A_1 c_1 lo_1 hi_1, v = .slice A_1 ((s_l5PutW p_l p_w).length) c_1 ∧ OwnL w' lo_1 hi_1 66 3 (RF e_Write) A_1 ((s_l5PutW p_l p_w).length) c_1 (s_l5PutW p_l p_w) ∧ (okL ok_Write) (s_l5PutW p_l p_w) ∧ (s_l5PutW p_l p_w).length ≤ p_l.length + 1 ∧ (w.heap.size ≤ lo_1 ∧ lo_1 ≤ hi_1 ∧ hi_1 ≤ w'.heap.size) ∧ Ex w w' := by
 have hol4 := o2.1
 have hol5 : p_w.Key.length ≤ 1073741824 := o3.1
 have hol6 : p_w.Val.length ≤ 1073741824 := o3.2
 refine Cal.of func41 rfl ntmps41 rfl (CW.seq (CW.region (sd rfl (yl_box rfl rfl rfl ?_))))
 intro b7 w8 hs9 hz10 hB11 hE12
 refine sd rfl (yA rfl rfl (dn (CW.seq (CW.region (sd rfl (yM rfl rfl (sd rfl (yL un27 rfl rfl (sd rfl (yA rfl rfl (SeqR.done ?_)))))))))))
 refine tn (CW.seq (CW.block (CW.loop (fun m15 L16 w17 => ∃ (x14 : Int), ((x14).toNat) < m15 ∧ w8.heap.size ≤ w17.heap.size ∧ lkp L16 0 = some (.slice A1 p_l.length c1) ∧ lkp L16 3 = some (.pointer (some ⟨b7, 0, none⟩)) ∧ lkp L16 5 = some (.int .i64 (x14)) ∧ RdS w17 (Iv 0 w.heap.size) (RF e_Write) 3 A1 p_l.length c1 p_l ∧ Box w17 b7 66 [.string (bs (p_w.Key)), .string (bs (p_w.Val)), .bool (p_w.Gone)] ∧ Ex w w17 ∧ (0 ≤ x14 ∧ x14 ≤ (p_l.length : Int)) ∧ loopW (B_s_l5PutW_0 p_l p_w) m15 (x14) = loopW (B_s_l5PutW_0 p_l p_w) ((((p_l.length : Int)).toNat) + 1) ((p_l.length : Int))) ((((p_l.length : Int)).toNat) + 1) ?_ ?_)))
 ·exact ⟨(p_l.length : Int), Nat.lt_succ_self _, Nat.le_refl _, rfl, rfl, rfl, (RdS.ex gW h1 hE12), hB11, (Ex.trans (Ex.refl w) hE12), (by first | omega | assumption | (simp only [wI] at *; omega)), rfl⟩
 ·rintro m20 L21 w22 ⟨x14, hk23, hsz25, hl26, hl27, hl28, hf29, hf30, hf31, hv32, hI24⟩
  refine CW.sub (Sub.cons hl26 (Sub.cons hl27 (Sub.cons hl28 (Sub.nil _)))) ?_
  have hf30z := Box.lt hf30
  have hf31z := Ex.size hf31
  refine CW.seq (CW.seq (bcase (decide (0 < x14)) (fun hb33 => ?_) (fun hb33 => ?_)))
  ·have hb33p := dec_t hb33
   obtain ⟨eb34, eo34, _, eA34, _, ebl34, _, eR34, eC34⟩ := RdS.atD hf29 d_Write (i := (IntKind.wrap .i64 (x14 - 1)).toNat) (by first | omega | assumption | (simp only [wI] at *; omega) | (simp only [List.length_append, List.length_nil, wI] at *; omega))
   obtain rfl := eR34
   have eC34 : Cells w22 eb34 (eo34 + ((IntKind.wrap .i64 (x14 - 1)).toNat) * 3) [.string (bs ((p_l.getD ((IntKind.wrap .i64 (x14 - 1)).toNat) d_Write).Key)), .string (bs ((p_l.getD ((IntKind.wrap .i64 (x14 - 1)).toNat) d_Write).Val)), .bool ((p_l.getD ((IntKind.wrap .i64 (x14 - 1)).toNat) d_Write).Gone)] := eC34
   refine CW.drawsI 13 (vgetI ([.int .i64 (x14), .bool (decide (0 < x14)), .bool (decide (0 < x14)), .slice A1 p_l.length c1, .int .i64 (x14), .int .i64 (IntKind.wrap .i64 (x14 - 1)), .pointer (some ⟨eb34, eo34 + ((IntKind.wrap .i64 (x14 - 1)).toNat) * 3, none⟩), .pointer (some ⟨eb34, eo34 + ((IntKind.wrap .i64 (x14 - 1)).toNat) * 3 + 0, none⟩), .string (bs ((p_l.getD ((IntKind.wrap .i64 (x14 - 1)).toNat) d_Write).Key)), .pointer (some ⟨b7, 0 + 0, none⟩), .string (bs (p_w.Key)), .bool (!(sLe ((p_l.getD ((IntKind.wrap .i64 (x14 - 1)).toNat) d_Write).Key) p_w.Key)), .bool (!(sLe ((p_l.getD ((IntKind.wrap .i64 (x14 - 1)).toNat) d_Write).Key) p_w.Key))].map DetI)) Tryz.follows rfl rfl rfl rfl rfl rfl (vgetI_stable (stD _)) ⟨?_, ?_, ?_, ?_, ?_, ?_, ?_, ?_, ?_, ?_, ?_, ?_, ?_, trivial⟩ ?_
   ·exact oI rfl fun h => yM rfl (h.old 5 _ rfl rfl) kI
   ·exact oI rfl fun h => yl_gtr rfl (h.dt 0 10 rfl rfl rfl) rfl kI
   ·exact oI rfl fun h => yM rfl (h.dt 1 11 rfl rfl rfl) kI
   ·exact oW rfl rfl rfl rfl hb33 fun h => yM rfl (h.old 0 _ rfl rfl) kI
   ·exact oW rfl rfl rfl rfl hb33 fun h => yM rfl (h.old 5 _ rfl rfl) kI
   ·exact oW rfl rfl rfl rfl hb33 fun h => yl_sub rfl (h.dt 4 14 rfl rfl rfl) rfl kI
   ·intro L68 w69 hi70
    have hE71 := hi70.ex
    have hE71z := Ex.size hE71
    exact OpR.want rfl rfl (hi70.dt 2 12 rfl rfl rfl) hb33 (Yl.sameI (yl_indexAddr un27 ty66 rfl (hi70.dt 3 13 rfl rfl rfl) (hi70.dt 5 15 rfl rfl rfl) eA34 (by first | omega | assumption | (simp only [wI] at *; omega) | (simp only [List.length_append, List.length_nil, wI] at *; omega)) (by first | omega | assumption | (simp only [wI] at *; omega) | (simp only [List.length_append, List.length_nil, wI] at *; omega)) kI))
   ·exact oW rfl rfl rfl rfl hb33 fun h => yl_fieldAddr fd66_0 rfl (h.dt 6 16 rfl rfl rfl) kI
   ·exact oW rfl rfl rfl rfl hb33 fun h => yl_load1 ty9 rfl (h.dt 7 17 rfl rfl rfl) ((Cells.ex eC34 h.ex) 0 _ rfl) kI
   ·exact oW rfl rfl rfl rfl hb33 fun h => yl_fieldAddr fd66_0 rfl (h.old 3 _ rfl rfl) kI
   ·exact oW rfl rfl rfl rfl hb33 fun h => yl_load1 ty9 rfl (h.dt 9 19 rfl rfl rfl) (((Box.ex hf30 h.ex).cell 0).trans rfl) kI
   ·exact oW rfl rfl rfl rfl hb33 fun h => yl_sgtr (a := ((p_l.getD ((IntKind.wrap .i64 (x14 - 1)).toNat) d_Write).Key)) (b := p_w.Key) rfl (h.dt 8 18 rfl rfl rfl) (h.dt 10 20 rfl rfl rfl) kI
   ·exact oI rfl fun h => yl_pick_t rfl (h.dt 2 12 rfl rfl rfl) hb33 (h.dt 11 21 rfl rfl rfl) kI
   ·intro fl117 fh118 L114 w115 hp116
    have hE119 := hp116.ex
    have hE119z := Ex.size hE119
    refine dn (CW.sub (Sub.cons (d := 0) (hp116.old 0 _ rfl rfl) (Sub.cons (d := 3) (hp116.old 3 _ rfl rfl) (Sub.cons (d := 5) (hp116.old 5 _ rfl rfl) (Sub.cons (d := 13) (hp116.nt 3 13 rfl rfl rfl) (Sub.cons (d := 14) (hp116.nt 4 14 rfl rfl rfl) (Sub.cons (d := 15) (hp116.nt 5 15 rfl rfl rfl) (Sub.cons (d := 16) (hp116.nt 6 16 rfl rfl rfl) (Sub.cons (d := 17) (hp116.nt 7 17 rfl rfl rfl) (Sub.cons (d := 18) (hp116.nt 8 18 rfl rfl rfl) (Sub.cons (d := 19) (hp116.nt 9 19 rfl rfl rfl) (Sub.cons (d := 20) (hp116.nt 10 20 rfl rfl rfl) (Sub.cons (d := 21) (hp116.nt 11 21 rfl rfl rfl) (Sub.cons (d := 22) (hp116.nt 12 22 rfl rfl rfl) (Sub.nil _)))))))))))))) (bcase (sLe ((p_l.getD ((IntKind.wrap .i64 (x14 - 1)).toNat) d_Write).Key) p_w.Key) (fun hb133 => ?_) (fun hb133 => ?_)))
    ·refine CW.cond_f rfl (not_t hb133) (CW.exit (tx (tx ?_)))
     have hB135 : B_s_l5PutW_0 p_l p_w (x14) = .brk (x14) := by simp only [B_s_l5PutW_0, hb33, hb133, cL]
     have hL134 : loopW (B_s_l5PutW_0 p_l p_w) ((((p_l.length : Int)).toNat) + 1) ((p_l.length : Int)) = .done (x14) := hI24.symm.trans (loopW.brk hk23 hB135)
     refine bx (tn (CW.seq (CW.seq ?_)))
     have q137 := Box.ex hf30 hE119
     refine CW.drawsI 13 (vgetI ([.int .i64 (x14), .bool (decide (0 < x14)), .bool (decide (0 < x14)), .slice A1 p_l.length c1, .int .i64 (x14), .int .i64 (IntKind.wrap .i64 (x14 - 1)), .pointer (some ⟨eb34, eo34 + ((IntKind.wrap .i64 (x14 - 1)).toNat) * 3, none⟩), .pointer (some ⟨eb34, eo34 + ((IntKind.wrap .i64 (x14 - 1)).toNat) * 3 + 0, none⟩), .string (bs ((p_l.getD ((IntKind.wrap .i64 (x14 - 1)).toNat) d_Write).Key)), .pointer (some ⟨b7, 0 + 0, none⟩), .string (bs (p_w.Key)), .bool (((p_l.getD ((IntKind.wrap .i64 (x14 - 1)).toNat) d_Write).Key) == p_w.Key), .bool (((p_l.getD ((IntKind.wrap .i64 (x14 - 1)).toNat) d_Write).Key) == p_w.Key)].map DetI)) Tryz.follows rfl rfl rfl rfl rfl rfl (vgetI_stable (stD _)) ⟨?_, ?_, ?_, ?_, ?_, ?_, ?_, ?_, ?_, ?_, ?_, ?_, ?_, trivial⟩ ?_
     ·exact oI rfl fun h => yM rfl (h.old 5 _ rfl rfl) kI
     ·exact oI rfl fun h => yl_gtr rfl (h.dt 0 25 rfl rfl rfl) rfl kI
     ·exact oI rfl fun h => yM rfl (h.dt 1 26 rfl rfl rfl) kI
     ·exact oW rfl rfl rfl rfl hb33 fun h => yM rfl (h.old 0 _ rfl rfl) kI
     ·exact oW rfl rfl rfl rfl hb33 fun h => yM rfl (h.old 5 _ rfl rfl) kI
     ·exact oW rfl rfl rfl rfl hb33 fun h => yl_sub rfl (h.dt 4 29 rfl rfl rfl) rfl kI
     ·intro L171 w172 hi173
      have hE174 := hi173.ex
      have hE174z := Ex.size hE174
      exact OpR.want rfl rfl (hi173.dt 2 27 rfl rfl rfl) hb33 (Yl.sameI (yl_indexAddr un27 ty66 rfl (hi173.dt 3 28 rfl rfl rfl) (hi173.dt 5 30 rfl rfl rfl) eA34 (by first | omega | assumption | (simp only [wI] at *; omega) | (simp only [List.length_append, List.length_nil, wI] at *; omega)) (by first | omega | assumption | (simp only [wI] at *; omega) | (simp only [List.length_append, List.length_nil, wI] at *; omega)) kI))
     ·exact oW rfl rfl rfl rfl hb33 fun h => yl_fieldAddr fd66_0 rfl (h.dt 6 31 rfl rfl rfl) kI
     ·exact oW rfl rfl rfl rfl hb33 fun h => yl_load1 ty9 rfl (h.dt 7 32 rfl rfl rfl) ((Cells.ex (Cells.ex eC34 hE119) h.ex) 0 _ rfl) kI
     ·exact oW rfl rfl rfl rfl hb33 fun h => yl_fieldAddr fd66_0 rfl (h.old 3 _ rfl rfl) kI
     ·exact oW rfl rfl rfl rfl hb33 fun h => yl_load1 ty9 rfl (h.dt 9 34 rfl rfl rfl) (((Box.ex q137 h.ex).cell 0).trans rfl) kI
     ·exact oW rfl rfl rfl rfl hb33 fun h => yl_seql (a := ((p_l.getD ((IntKind.wrap .i64 (x14 - 1)).toNat) d_Write).Key)) (b := p_w.Key) rfl (h.dt 8 33 rfl rfl rfl) (h.dt 10 35 rfl rfl rfl) kI
     ·exact oI rfl fun h => yl_pick_t rfl (h.dt 2 27 rfl rfl rfl) hb33 (h.dt 11 36 rfl rfl rfl) kI
     ·intro fl220 fh221 L217 w218 hp219
      have hE222 := hp219.ex
      have hE222z := Ex.size hE222
      refine dn (CW.sub (Sub.cons (d := 0) (hp219.old 0 _ rfl rfl) (Sub.cons (d := 3) (hp219.old 3 _ rfl rfl) (Sub.cons (d := 5) (hp219.old 5 _ rfl rfl) (Sub.cons (d := 37) (hp219.nt 12 37 rfl rfl rfl) (Sub.nil _))))) (bcase (((p_l.getD ((IntKind.wrap .i64 (x14 - 1)).toNat) d_Write).Key) == p_w.Key) (fun hb227 => ?_) (fun hb227 => ?_)))
      ·refine CW.cond_t rfl hb227 (CW.seq (CW.region (sd rfl (yl_buildSlice (cs := []) un27 ty66 (by decide) rfl opvs_nil (by kernel_rfl) ?_))))
       intro b228 w229 hs230 hz231 hB232 hE233
       have hO234 : OwnL w229 b228 (b228 + 1) 66 3 (RF e_Write) (some ⟨b228, 0, none⟩) 0 0 ([] : List DWrite) := OwnL.of_box (S := fun _ => False) hB232 (Nat.le_refl _) (Nat.lt_succ_self _) EncL.nil (Nat.le_of_ble_eq_true rfl) (fun h => h) (fun _ h => False.elim h)
       refine sd rfl (yM rfl rfl ?_)
       obtain ⟨nw238, he239, hs240⟩ := RdS.src (RdS.ex gW (RdS.ex gW (RdS.ex gW hf29 hE119) hE222) hE233)
       have hol241 : p_l.length ≤ 2147483648 := o2.1
       refine sd rfl (yl_appendL (S := (fun _ => False)) (lo := b228) (hi := (b228 + 1)) (xs := ([] : List DWrite)) (ys := p_l) gW un27 ty66 rfl (Nat.le_of_ble_eq_true rfl) rfl rfl rfl hO234 he239 hs240 rfl (by first | omega | (simp only [lN, toS_length]; omega)) (by first | omega | (simp only [lN, toS_length]; omega)) (by omega) (by omega) (fun _ h _ => False.elim h) (by omega) ?_)
       intro A242 c243 w244 row245 hO246 hG247 hrg248
       have hG247z := hG247.size
       refine sd rfl (yA rfl rfl (dn (CW.seq (CW.region (sd rfl (yM rfl rfl (sd rfl (yM rfl rfl (sd rfl (yl_sub rfl rfl rfl (sd rfl (yl_loadN ty66 rfl rfl ((Box.grown (Box.ex (Box.ex q137 hE222) hE233) hG247 (fun k hk => by have := hrg248 k hk; omega)).cells (n := 3) rfl) rfl ?_))))))))))))
       obtain ⟨eb253, eo253, _, eA253, _, ebl253, _, eR253, eC253⟩ := RdS.atD (OwnL.rd gW hO246) d_Write (i := (IntKind.wrap .i64 (x14 - 1)).toNat) (by first | omega | assumption | (simp only [wI] at *; omega) | (simp only [List.length_append, List.length_nil, wI] at *; omega))
       obtain rfl := eR253
       have eC253 : Cells w244 eb253 (eo253 + ((IntKind.wrap .i64 (x14 - 1)).toNat) * 3) [.string (bs (((([] : List DWrite) ++ p_l).getD ((IntKind.wrap .i64 (x14 - 1)).toNat) d_Write).Key)), .string (bs (((([] : List DWrite) ++ p_l).getD ((IntKind.wrap .i64 (x14 - 1)).toNat) d_Write).Val)), .bool (((([] : List DWrite) ++ p_l).getD ((IntKind.wrap .i64 (x14 - 1)).toNat) d_Write).Gone)] := eC253
       refine sd rfl (yl_indexAddr un27 ty66 rfl rfl rfl eA253 (by first | omega | assumption | (simp only [wI] at *; omega) | (simp only [List.length_append, List.length_nil, wI] at *; omega)) (by first | omega | assumption | (simp only [wI] at *; omega) | (simp only [List.length_append, List.length_nil, wI] at *; omega)) ?_)
       have hrg254 := OwnL.rng hO246 (i := (IntKind.wrap .i64 (x14 - 1)).toNat) (by first | omega | assumption | (simp only [wI] at *; omega) | (simp only [List.length_append, List.length_nil, wI] at *; omega)) eb253 (by rw [eA253]; rfl)
       refine SeqR.u rfl rfl (yl_storeF (off := eo253) (i := (IntKind.wrap .i64 (x14 - 1)).toNat) (d := 0) (dx := d_Write) (x' := p_w) (vs := [.string (bs (p_w.Key)), .string (bs (p_w.Val)), .bool (p_w.Gone)]) ty66 rfl hO246 eA253 rfl rfl rfl rfl rfl (by first | omega | assumption | (simp only [wI] at *; omega) | (simp only [List.length_append, List.length_nil, wI] at *; omega)) (Nat.le_of_ble_eq_true rfl) rfl rfl ?_)
       intro w255 hB256 hO257
       have hO257z := hO257.size
       refine dn (CW.seq (CW.region (sd rfl (yM rfl rfl (sd rfl (yA rfl rfl (dn (CW.ret ?_))))))))
       refine tr (rr rfl (.cons rfl .nil) ?_)
       have hM258 : (s_l5PutW p_l p_w) = (((([] : List DWrite) ++ p_l).set ((IntKind.wrap .i64 (x14 - 1)).toNat) p_w)) := by simp only [s_l5PutW, hb33, hb133, hb227, hL134, cL]
       have hfx259 := (hB256).1
       have hol260 : p_l.length ≤ 2147483648 := o2.1
       rw [hM258]
       exact ⟨A242, c243, b228, w244.heap.size, (by first | rfl | (simp only [List.length_replicate, List.length_set]; done) | (simp only [List.length_replicate, List.length_set]; rfl) | rw [hfx259]), (OwnL.fix hB256), (okL.mk (xs := ((([] : List DWrite) ++ p_l).set ((IntKind.wrap .i64 (x14 - 1)).toNat) p_w)) (by first | omega | (simp only [lN, toS_length]; omega)) (okE.set (okE.append okE.nil (o2).2) o3)), (by (try dsimp only); first | omega | (simp only [List.length_append, List.length_take, List.length_drop, List.length_set, List.length_cons, List.length_nil]; omega)), (by omega), (Below.only (Below.grown (Ex.trans (Ex.trans (Ex.trans hf31 hE119) hE222) hE233) hG247 (by omega) (fun k hk => by have := hrg248 k hk; omega)) hO257 (by omega))⟩
      ·refine CW.cond_f rfl hb227 (CW.skip (tn (CW.seq (CW.region (sd rfl (yl_buildSlice (cs := []) un27 ty66 (by decide) rfl opvs_nil (by kernel_rfl) ?_))))))
       intro b266 w267 hs268 hz269 hB270 hE271
       have hO272 : OwnL w267 b266 (b266 + 1) 66 3 (RF e_Write) (some ⟨b266, 0, none⟩) 0 0 ([] : List DWrite) := OwnL.of_box (S := fun _ => False) hB270 (Nat.le_refl _) (Nat.lt_succ_self _) EncL.nil (Nat.le_of_ble_eq_true rfl) (fun h => h) (fun _ h => False.elim h)
       refine sd rfl (yM rfl rfl (sd rfl (yM rfl rfl ?_)))
       have q275 := RdS.ex gW (RdS.ex gW (RdS.ex gW hf29 hE119) hE222) hE271
       obtain ⟨A276, c277, he280, h279⟩ := RdS.sl (RdS.drop q275 (k := (x14).toNat) (by first | omega | assumption | (simp only [wI] at *; omega) | (simp only [List.length_append, List.length_nil, wI] at *; omega)))
       have hrc281 := (q275).2.1
       refine sd rfl (yl_sliceR (kh := .i64) (l := (x14).toNat) (h := p_l.length) un27 ty66 rfl rfl (.inr ⟨_, rfl, (toNat_op rfl (by first | omega | assumption | (simp only [wI] at *; omega) | (simp only [List.length_append, List.length_nil, wI] at *; omega)))⟩) (.inl ⟨rfl, rfl⟩) (by first | omega | assumption | (simp only [wI] at *; omega) | (simp only [List.length_append, List.length_nil, wI] at *; omega)) (by first | omega | assumption | (simp only [wI] at *; omega) | (simp only [List.length_append, List.length_nil, wI] at *; omega)) he280 ?_)
       obtain ⟨nw282, he283, hs284⟩ := RdS.src h279
       have hol285 : (p_l.drop ((x14).toNat)).length ≤ 2147483648 := (okL.drop o2 _).1
       refine sd rfl (yl_appendL (S := (fun _ => False)) (lo := b266) (hi := (b266 + 1)) (xs := ([] : List DWrite)) (ys := (p_l.drop ((x14).toNat))) gW un27 ty66 rfl (Nat.le_of_ble_eq_true rfl) rfl rfl rfl hO272 he283 hs284 rfl (by first | omega | (simp only [lN, toS_length]; omega)) (by first | omega | (simp only [lN, toS_length]; omega)) (by omega) (by omega) (fun _ h _ => False.elim h) (by omega) ?_)
       intro A286 c287 w288 row289 hO290 hG291 hrg292
       have hG291z := hG291.size
       refine sd rfl (yA rfl rfl (dn (CW.seq ?_)))
       have q296 := RdS.grown gW q275 hG291 (fun k hk => by have := hrg292 k hk; simp only [Iv]; omega)
       obtain ⟨A297, c298, he301, h300⟩ := RdS.sl (RdS.drop (RdS.take q296 (k := (x14).toNat) (by first | omega | assumption | (simp only [wI] at *; omega) | (simp only [List.length_append, List.length_nil, wI] at *; omega))) (k := 0) (by first | omega | assumption | (simp only [wI] at *; omega) | (simp only [List.length_append, List.length_nil, wI] at *; omega)))
       have hrc302 := (q296).2.1
       refine CW.drawsG 9 (fun _ _ => False) (fun i G b => (i = 7 ∧ (G.fl 4) ≤ b ∧ b < (G.fh 4))) (vgetG [fun G v wq => ∃ A293, v = .slice A293 0 0 ∧ OwnL wq w288.heap.size w288.heap.size 66 3 (RF e_Write) A293 0 0 ([] : List DWrite), DetG (.slice A1 p_l.length c1), DetG (.int .i64 (x14)), fun G v wq => ∃ A297 c298, v = .slice A297 ((p_l.take ((x14).toNat)).length) c298 ∧ RdS wq (Iv 0 w.heap.size) (RF e_Write) 3 A297 (p_l.take ((x14).toNat)).length c298 (p_l.take ((x14).toNat)), fun G v wq => ∃ A304 c305, v = .slice A304 ((([] : List DWrite) ++ (p_l.take ((x14).toNat))).length) c305 ∧ (G.dn 7 = false → OwnL wq (G.fl 4) (G.fh 4) 66 3 (RF e_Write) A304 ((([] : List DWrite) ++ (p_l.take ((x14).toNat))).length) c305 (([] : List DWrite) ++ (p_l.take ((x14).toNat)))), DetG (.agg #[.string (bs (p_w.Key)), .string (bs (p_w.Val)), .bool (p_w.Gone)]), fun G v wq => ∃ A310, v = .slice A310 1 1 ∧ OwnL wq (G.fl 6) (G.fh 6) 66 3 (RF e_Write) A310 1 1 ([p_w] : List DWrite), fun G v wq => ∃ A313 c314, v = .slice A313 (((([] : List DWrite) ++ (p_l.take ((x14).toNat))) ++ ([p_w] : List DWrite)).length) c314 ∧ OwnL wq (G.fl 4) (G.fh 7) 66 3 (RF e_Write) A313 (((([] : List DWrite) ++ (p_l.take ((x14).toNat))) ++ ([p_w] : List DWrite)).length) c314 ((([] : List DWrite) ++ (p_l.take ((x14).toNat))) ++ ([p_w] : List DWrite)), DetG (.slice A286 ((([] : List DWrite) ++ (p_l.drop ((x14).toNat))).length) c287)]) Tryz.follows rfl rfl rfl rfl rfl rfl (fun _ _ _ _ _ h => h) (fun i G w lo hi b K hn hh hp => by exact (match hp with | ⟨e, q1, q2⟩ => by subst e; exact .inr (by have := K.rng 4 (hh 4 rfl); omega))) (vgetG_kept ⟨(by rintro i G v w w' K hn hh hj ⟨A293, hv, h0⟩ e; exact ⟨A293, hv, (by exact OwnL.chg gW h0 e (fun b hb hp => by obtain ⟨rfl, q1, q2⟩ := hp; have := K.rng 4 (hh 4 rfl); skip; omega))⟩), (KeptG.det _), (KeptG.det _), (by rintro i G v w w' K hn hh hj ⟨A297, c298, hv, h0⟩ e; exact ⟨A297, c298, hv, (by exact RdS.chg gW h0 e (fun b hb hp hS => by have hS1 := hS.1; have hS2 := hS.2; obtain ⟨rfl, q1, q2⟩ := hp; have := K.rng 4 (hh 4 rfl); skip; omega))⟩), (by rintro i G v w w' K hn hh hj ⟨A304, c305, hv, h0⟩ e; have d4 : G.dn 4 = true := hj; have u4 := Gh.ufl (lo := w.heap.size) (hi := w'.heap.size) d4 hn; have t4 := Gh.ufh (lo := w.heap.size) (hi := w'.heap.size) d4 hn; exact ⟨A304, c305, hv, (by intro hd; simp only [u4, t4]; exact OwnL.chg gW (h0 (Gh.off hd).2) e (fun b hb hp => by obtain ⟨rfl, q1, q2⟩ := hp; exact absurd rfl (Gh.off hd).1))⟩), (KeptG.det _), (by rintro i G v w w' K hn hh hj ⟨A310, hv, h0⟩ e; have d6 : G.dn 6 = true := hj; have u6 := Gh.ufl (lo := w.heap.size) (hi := w'.heap.size) d6 hn; have t6 := Gh.ufh (lo := w.heap.size) (hi := w'.heap.size) d6 hn; exact ⟨A310, hv, (by simp only [u6, t6]; exact OwnL.chg gW h0 e (fun b hb hp => by obtain ⟨rfl, q1, q2⟩ := hp; have := K.rng 4 (hh 4 rfl); have := K.rng 6 d6; have := K.sep 4 6 (hh 4 rfl) d6 rfl; skip; omega))⟩), (by rintro i G v w w' K hn hh hj ⟨A313, c314, hv, h0⟩ e; have d4 : G.dn 4 = true := K.cl 7 4 hj rfl; have u4 := Gh.ufl (lo := w.heap.size) (hi := w'.heap.size) d4 hn; have t4 := Gh.ufh (lo := w.heap.size) (hi := w'.heap.size) d4 hn; have d7 : G.dn 7 = true := hj; have u7 := Gh.ufl (lo := w.heap.size) (hi := w'.heap.size) d7 hn; have t7 := Gh.ufh (lo := w.heap.size) (hi := w'.heap.size) d7 hn; exact ⟨A313, c314, hv, (by simp only [u4, t4, u7, t7]; exact OwnL.chg gW h0 e (fun b hb hp => by obtain ⟨rfl, q1, q2⟩ := hp; rw [hj] at hn; cases hn))⟩), (KeptG.det _), trivial⟩) ⟨?_, ?_, ?_, ?_, ?_, ?_, ?_, ?_, ?_, trivial⟩ ?_
       ·intro L317 w318 G316 hgk319
        have hE320 := hgk319.st.ex.ex (fun b h => h.elim (fun h => h.elim) (fun h => h))
        have hE320z := Ex.size hE320
        refine OpR.op' rfl (yl_buildSlice (cs := []) un27 ty66 (by decide) rfl opvs_nil (by kernel_rfl) ?_)
        intro b321 w322 hs323 hz324 hB325 hE326
        have hO327 : OwnL w322 b321 (b321 + 1) 66 3 (RF e_Write) (some ⟨b321, 0, none⟩) 0 0 ([] : List DWrite) := OwnL.of_box (S := fun _ => False) hB325 (Nat.le_refl _) (Nat.lt_succ_self _) EncL.nil (Nat.le_of_ble_eq_true rfl) (fun h => h) (fun _ h => False.elim h)
        exact ⟨Chg.of_ex hE326, _, rfl, OwnL.empty _ _ _ _ _ _ _⟩
       ·intro L329 w330 G328 hgk331
        have hE332 := hgk331.st.ex.ex (fun b h => h.elim (fun h => h.elim) (fun h => h))
        have hE332z := Ex.size hE332
        exact OpR.op' rfl (Yl.sameG (yM rfl (hgk331.old 0 _ rfl rfl) kI))
       ·intro L335 w336 G334 hgk337
        have hE338 := hgk337.st.ex.ex (fun b h => h.elim (fun h => h.elim) (fun h => h))
        have hE338z := Ex.size hE338
        exact OpR.op' rfl (Yl.sameG (yM rfl (hgk337.old 5 _ rfl rfl) kI))
       ·intro L341 w342 G340 hgk343
        have hE344 := hgk343.st.ex.ex (fun b h => h.elim (fun h => h.elim) (fun h => h))
        have hE344z := Ex.size hE344
        obtain ⟨_, hx345, rfl⟩ := hgk343.val 1 53 rfl rfl
        obtain ⟨_, hx346, rfl⟩ := hgk343.val 2 54 rfl rfl
        have q347 := RdS.ex gW q296 hE344
        obtain ⟨A348, c349, he352, h351⟩ := RdS.sl (RdS.drop (RdS.take q347 (k := (x14).toNat) (by first | omega | assumption | (simp only [wI] at *; omega) | (simp only [List.length_append, List.length_nil, wI] at *; omega))) (k := 0) (by first | omega | assumption | (simp only [wI] at *; omega) | (simp only [List.length_append, List.length_nil, wI] at *; omega)))
        have hrc353 := (q347).2.1
        exact OpR.op' rfl (Yl.sameG (yl_sliceR (kl := .i64) (l := 0) (h := (x14).toNat) un27 ty66 rfl hx345 (.inl ⟨rfl, rfl⟩) (.inr ⟨_, rfl, (toNat_op hx346 (by first | omega | assumption | (simp only [wI] at *; omega) | (simp only [List.length_append, List.length_nil, wI] at *; omega)))⟩) (by first | omega | assumption | (simp only [wI] at *; omega) | (simp only [List.length_append, List.length_nil, wI] at *; omega)) (by first | omega | assumption | (simp only [wI] at *; omega) | (simp only [List.length_append, List.length_nil, wI] at *; omega)) he352 ⟨fun _ _ => ⟨A348, c349, rfl, h351⟩, rfl⟩))
       ·intro L355 w356 G354 hgk357
        have hE358 := hgk357.st.ex.ex (fun b h => h.elim (fun h => h.elim) (fun h => h))
        have hE358z := Ex.size hE358
        obtain ⟨_, hx359, A293_360, rfl, h361⟩ := hgk357.val 0 52 rfl rfl
        obtain ⟨_, hx362, A297_363, c298_364, rfl, h365⟩ := hgk357.val 3 55 rfl rfl
        have hr366 := hgk357.st.rng 0 (hgk357.has 0 rfl)
        have hr367 := hgk357.st.rng 3 (hgk357.has 3 rfl)
        have hsp368 := hgk357.st.sep 0 3 (hgk357.has 0 rfl) (hgk357.has 3 rfl) rfl
        obtain ⟨nw369, he370, hs371⟩ := RdS.src h365
        have hol372 : (p_l.take ((x14).toNat)).length ≤ 2147483648 := (okL.take o2 _).1
        refine OpR.op' rfl (yl_appendL (S := (fun _ => False)) (lo := w356.heap.size) (hi := w356.heap.size) (xs := ([] : List DWrite)) (ys := (p_l.take ((x14).toNat))) gW un27 ty66 rfl (Nat.le_of_ble_eq_true rfl) rfl hx359 hx362 (OwnL.empty w356 w356.heap.size w356.heap.size 66 3 (RF e_Write) A293_360) he370 hs371 rfl (by first | omega | (simp only [lN, toS_length]; omega)) (by first | omega | (simp only [lN, toS_length]; omega)) (by omega) (by omega) (fun _ h _ => False.elim h) (by omega) ?_)
        intro A373 c374 w375 row376 hO377 hG378 hrg379
        have hG378z := hG378.size
        exact ⟨Chg.of_grown hG378 (fun k hk => by have hq := hrg379 k hk; exact absurd hq (by omega)), A373, c374, rfl, fun _ => OwnL.more (lo' := w356.heap.size) (hi' := w375.heap.size) hO377 (by omega) (by omega)⟩
       ·intro L381 w382 G380 hgk383
        have hE384 := hgk383.st.ex.ex (fun b h => h.elim (fun h => h.elim) (fun h => h))
        have hE384z := Ex.size hE384
        exact OpR.op' rfl (Yl.sameG (yl_loadN ty66 rfl (hgk383.old 3 _ rfl rfl) ((Box.ex (Box.grown (Box.ex (Box.ex q137 hE222) hE271) hG291 (fun k hk => by have := hrg292 k hk; omega)) hE384).cells (n := 3) rfl) rfl kI))
       ·intro L388 w389 G387 hgk390
        have hE391 := hgk390.st.ex.ex (fun b h => h.elim (fun h => h.elim) (fun h => h))
        have hE391z := Ex.size hE391
        obtain ⟨_, hx392, rfl⟩ := hgk390.val 5 57 rfl rfl
        refine OpR.op' rfl (yl_buildSlice (cs := [.string (bs (p_w.Key)), .string (bs (p_w.Val)), .bool (p_w.Gone)]) un27 ty66 (by decide) rfl (oc hx392 oz) (by kernel_rfl) ?_)
        intro b393 w394 hs395 hz396 hB397 hE398
        have hO399 : OwnL w394 b393 (b393 + 1) 66 3 (RF e_Write) (some ⟨b393, 0, none⟩) 1 1 ([p_w] : List DWrite) := OwnL.of_box (S := fun _ => False) hB397 (Nat.le_refl _) (Nat.lt_succ_self _) (EncL.cons (c := [.string (bs (p_w.Key)), .string (bs (p_w.Val)), .bool (p_w.Gone)]) rfl rfl EncL.nil) (Nat.le_of_ble_eq_true rfl) (fun h => h) (fun _ h => False.elim h)
        exact ⟨Chg.of_ex hE398, (some ⟨b393, 0, none⟩), rfl, OwnL.more (lo' := w389.heap.size) (hi' := w394.heap.size) hO399 (by omega) (by omega)⟩
       ·intro L401 w402 G400 hgk403
        have hE404 := hgk403.st.ex.ex (fun b h => h.elim (fun h => h.elim) (fun h => h))
        have hE404z := Ex.size hE404
        obtain ⟨_, hx405, A304_406, c305_407, rfl, h408⟩ := hgk403.val 4 56 rfl rfl
        have h408 := h408 hgk403.new
        obtain ⟨_, hx409, A310_410, rfl, h411⟩ := hgk403.val 6 58 rfl rfl
        have hr412 := hgk403.st.rng 4 (hgk403.has 4 rfl)
        have hr413 := hgk403.st.rng 6 (hgk403.has 6 rfl)
        have hsp414 := hgk403.st.sep 4 6 (hgk403.has 4 rfl) (hgk403.has 6 rfl) rfl
        have q415 := OwnL.rd gW h411
        obtain ⟨nw416, he417, hs418⟩ := RdS.src q415
        have hol419 : (p_l.take ((x14).toNat)).length ≤ 2147483648 := (okL.take o2 _).1
        refine OpR.op' rfl (yl_appendL (S := (fun _ => False)) (lo := (G400.fl 4)) (hi := (G400.fh 4)) (xs := (([] : List DWrite) ++ (p_l.take ((x14).toNat)))) (ys := ([p_w] : List DWrite)) gW un27 ty66 rfl (Nat.le_of_ble_eq_true rfl) rfl hx405 hx409 h408 he417 hs418 (RdS.len q415) (by first | omega | (simp only [lN, toS_length]; omega)) (by first | omega | (simp only [lN, toS_length]; omega)) (by omega) (by omega) (fun _ h _ => False.elim h) (by omega) ?_)
        intro A420 c421 w422 row423 hO424 hG425 hrg426
        have hG425z := hG425.size
        exact ⟨Chg.of_grown hG425 (fun k hk => by have hq := hrg426 k hk; exact (⟨rfl, by omega, by omega⟩)), A420, c421, rfl, OwnL.more (lo' := (G400.fl 4)) (hi' := w422.heap.size) hO424 (by omega) (by omega)⟩
       ·intro L428 w429 G427 hgk430
        have hE431 := hgk430.st.ex.ex (fun b h => h.elim (fun h => h.elim) (fun h => h))
        have hE431z := Ex.size hE431
        exact OpR.op' rfl (Yl.sameG (yM rfl (hgk430.old 7 _ rfl rfl) kI))
       ·intro G433 L434 w435 hgp436
        have hE437 := hgp436.st.ex.ex (fun b h => h.elim (fun h => h.elim) (fun h => h))
        have hE437z := Ex.size hE437
        obtain ⟨_, hx438, A293_439, rfl, h440⟩ := hgp436.val 0 52 rfl rfl
        obtain ⟨_, hx441, A297_442, c298_443, rfl, h444⟩ := hgp436.val 3 55 rfl rfl
        obtain ⟨_, hx445, A310_446, rfl, h447⟩ := hgp436.val 6 58 rfl rfl
        obtain ⟨_, hx448, A313_449, c314_450, rfl, h451⟩ := hgp436.val 7 59 rfl rfl
        obtain ⟨_, hx452, rfl⟩ := hgp436.val 8 60 rfl rfl
        have hr453 := hgp436.st.rng 0 (hgp436.has 0 rfl)
        have hr454 := hgp436.st.rng 3 (hgp436.has 3 rfl)
        have hr455 := hgp436.st.rng 4 (hgp436.has 4 rfl)
        have hr456 := hgp436.st.rng 6 (hgp436.has 6 rfl)
        have hr457 := hgp436.st.rng 7 (hgp436.has 7 rfl)
        have hsp458 := hgp436.st.sep 0 3 (hgp436.has 0 rfl) (hgp436.has 3 rfl) rfl
        have hsp459 := hgp436.st.ord 4 0 (hgp436.has 4 rfl) rfl
        have hsp460 := hgp436.st.sep 0 6 (hgp436.has 0 rfl) (hgp436.has 6 rfl) rfl
        have hsp461 := hgp436.st.ord 7 0 (hgp436.has 7 rfl) rfl
        have hsp462 := hgp436.st.ord 4 3 (hgp436.has 4 rfl) rfl
        have hsp463 := hgp436.st.sep 3 6 (hgp436.has 3 rfl) (hgp436.has 6 rfl) rfl
        have hsp464 := hgp436.st.ord 7 3 (hgp436.has 7 rfl) rfl
        have hsp465 := hgp436.st.sep 4 6 (hgp436.has 4 rfl) (hgp436.has 6 rfl) rfl
        have hsp466 := hgp436.st.ord 7 4 (hgp436.has 7 rfl) rfl
        have hsp467 := hgp436.st.ord 7 6 (hgp436.has 7 rfl) rfl
        obtain ⟨nw470, he471, hs472⟩ := RdS.src (OwnL.rd gW (OwnL.ex gW hO290 hE437))
        have hol473 : (p_l.take ((x14).toNat)).length ≤ 2147483648 := (okL.take o2 _).1
        have hol474 : (p_l.drop ((x14).toNat)).length ≤ 2147483648 := (okL.drop o2 _).1
        refine sd rfl (yl_appendL (S := (fun _ => False)) (lo := (G433.fl 4)) (hi := (G433.fh 7)) (xs := ((([] : List DWrite) ++ (p_l.take ((x14).toNat))) ++ ([p_w] : List DWrite))) (ys := (([] : List DWrite) ++ (p_l.drop ((x14).toNat)))) gW un27 ty66 rfl (Nat.le_of_ble_eq_true rfl) rfl hx448 hx452 h451 he471 hs472 rfl (by first | omega | (simp only [lN, toS_length]; omega)) (by first | omega | (simp only [lN, toS_length]; omega)) (by omega) (by omega) (fun _ h _ => False.elim h) (by omega) ?_)
        intro A475 c476 w477 row478 hO479 hG480 hrg481
        have hG480z := hG480.size
        refine sd rfl (yA rfl rfl (dn (CW.sub (Sub.cons (d := 4) rfl (Sub.nil _)) (CW.ret (rr rfl (.cons rfl .nil) ?_)))))
        have hM482 : (s_l5PutW p_l p_w) = ((((([] : List DWrite) ++ (p_l.take ((x14).toNat))) ++ ([p_w] : List DWrite)) ++ (([] : List DWrite) ++ (p_l.drop ((x14).toNat))))) := by simp only [s_l5PutW, hb33, hb133, hb227, hL134, cL]
        have hol483 : (p_l.take ((x14).toNat)).length ≤ 2147483648 := (okL.take o2 _).1
        have hol484 : (p_l.drop ((x14).toNat)).length ≤ 2147483648 := (okL.drop o2 _).1
        rw [hM482]
        exact ⟨A475, c476, (G433.fl 4), w477.heap.size, rfl, hO479, (okL.mk (xs := (((([] : List DWrite) ++ (p_l.take ((x14).toNat))) ++ ([p_w] : List DWrite)) ++ (([] : List DWrite) ++ (p_l.drop ((x14).toNat))))) (by first | omega | (simp only [lN, toS_length]; omega)) (okE.append (okE.append (okE.append okE.nil ((okL.take o2 _)).2) ((okL.mk (Nat.le_of_ble_eq_true rfl) (okE.cons o3 okE.nil))).2) (okE.append okE.nil ((okL.drop o2 _)).2))), (by (try dsimp only); first | omega | (simp only [List.length_append, List.length_take, List.length_drop, List.length_set, List.length_cons, List.length_nil]; omega)), (by omega), (Below.grown (Ex.trans (Below.grown (Ex.trans (Ex.trans (Ex.trans hf31 hE119) hE222) hE271) hG291 (by omega) (fun k hk => by have := hrg292 k hk; omega)) hE437) hG480 (by omega) (fun k hk => by have := hrg481 k hk; omega))⟩
    ·refine CW.cond_t rfl (not_f hb133) (CW.skip (tn (CW.block (CW.region (sd rfl (yM rfl rfl (sd rfl (yl_sub rfl rfl rfl (sd rfl (yA rfl rfl (SeqR.done ?_)))))))))))
     refine bn (tn ?_)
     have hB491 : B_s_l5PutW_0 p_l p_w (x14) = .cont (IntKind.wrap .i64 (x14 - 1)) := by simp only [B_s_l5PutW_0, hb33, hb133, cL]
     have hmu495 : ((IntKind.wrap .i64 (x14 - 1)).toNat) < ((x14).toNat) := by first | omega | assumption | (simp only [wI] at *; omega)
     exact ⟨m20 - 1, by omega, IntKind.wrap .i64 (x14 - 1), (by omega), (by omega), rfl, rfl, rfl, (RdS.ex gW hf29 hE119), (Box.ex hf30 hE119), (Ex.trans hf31 hE119), (by first | omega | assumption | (simp only [wI] at *; omega)), (loopW.cont hk23 hB491).symm.trans hI24⟩
  ·have hb33p := dec_f hb33
   refine CW.drawsI 13 (vgetI ([.int .i64 (x14), .bool (decide (0 < x14)), .bool (decide (0 < x14)), undef, undef, undef, undef, undef, undef, undef, undef, undef, .bool (false)].map DetI)) Tryz.follows rfl rfl rfl rfl rfl rfl (vgetI_stable (stD _)) ⟨?_, ?_, ?_, ?_, ?_, ?_, ?_, ?_, ?_, ?_, ?_, ?_, ?_, trivial⟩ ?_
   ·exact oI rfl fun h => yM rfl (h.old 5 _ rfl rfl) kI
   ·exact oI rfl fun h => yl_gtr rfl (h.dt 0 10 rfl rfl rfl) rfl kI
   ·exact oI rfl fun h => yM rfl (h.dt 1 11 rfl rfl rfl) kI
   ·exact oS rfl rfl rfl rfl rfl hb33
   ·exact oS rfl rfl rfl rfl rfl hb33
   ·exact oS rfl rfl rfl rfl rfl hb33
   ·exact oS rfl rfl rfl rfl rfl hb33
   ·exact oS rfl rfl rfl rfl rfl hb33
   ·exact oS rfl rfl rfl rfl rfl hb33
   ·exact oS rfl rfl rfl rfl rfl hb33
   ·exact oS rfl rfl rfl rfl rfl hb33
   ·exact oS rfl rfl rfl rfl rfl hb33
   ·exact oI rfl fun h => yl_pick_f rfl (h.dt 2 12 rfl rfl rfl) hb33 rfl kI
   ·intro fl565 fh566 L562 w563 hp564
    have hE567 := hp564.ex
    have hE567z := Ex.size hE567
    refine dn (CW.sub (Sub.cons (d := 0) (hp564.old 0 _ rfl rfl) (Sub.cons (d := 3) (hp564.old 3 _ rfl rfl) (Sub.cons (d := 5) (hp564.old 5 _ rfl rfl) (Sub.cons (d := 13) (hp564.nt 3 13 rfl rfl rfl) (Sub.cons (d := 14) (hp564.nt 4 14 rfl rfl rfl) (Sub.cons (d := 15) (hp564.nt 5 15 rfl rfl rfl) (Sub.cons (d := 16) (hp564.nt 6 16 rfl rfl rfl) (Sub.cons (d := 17) (hp564.nt 7 17 rfl rfl rfl) (Sub.cons (d := 18) (hp564.nt 8 18 rfl rfl rfl) (Sub.cons (d := 19) (hp564.nt 9 19 rfl rfl rfl) (Sub.cons (d := 20) (hp564.nt 10 20 rfl rfl rfl) (Sub.cons (d := 21) (hp564.nt 11 21 rfl rfl rfl) (Sub.cons (d := 22) (hp564.nt 12 22 rfl rfl rfl) (Sub.nil _)))))))))))))) (CW.cond_f rfl rfl (CW.exit (tx (tx ?_)))))
    have hB582 : B_s_l5PutW_0 p_l p_w (x14) = .brk (x14) := by simp only [B_s_l5PutW_0, hb33, cL]
    have hL581 : loopW (B_s_l5PutW_0 p_l p_w) ((((p_l.length : Int)).toNat) + 1) ((p_l.length : Int)) = .done (x14) := hI24.symm.trans (loopW.brk hk23 hB582)
    refine bx (tn (CW.seq (CW.seq (CW.drawsI 13 (vgetI ([.int .i64 (x14), .bool (decide (0 < x14)), .bool (decide (0 < x14)), undef, undef, undef, undef, undef, undef, undef, undef, undef, .bool (false)].map DetI)) Tryz.follows rfl rfl rfl rfl rfl rfl (vgetI_stable (stD _)) ⟨?_, ?_, ?_, ?_, ?_, ?_, ?_, ?_, ?_, ?_, ?_, ?_, ?_, trivial⟩ ?_))))
    ·exact oI rfl fun h => yM rfl (h.old 5 _ rfl rfl) kI
    ·exact oI rfl fun h => yl_gtr rfl (h.dt 0 25 rfl rfl rfl) rfl kI
    ·exact oI rfl fun h => yM rfl (h.dt 1 26 rfl rfl rfl) kI
    ·exact oS rfl rfl rfl rfl rfl hb33
    ·exact oS rfl rfl rfl rfl rfl hb33
    ·exact oS rfl rfl rfl rfl rfl hb33
    ·exact oS rfl rfl rfl rfl rfl hb33
    ·exact oS rfl rfl rfl rfl rfl hb33
    ·exact oS rfl rfl rfl rfl rfl hb33
    ·exact oS rfl rfl rfl rfl rfl hb33
    ·exact oS rfl rfl rfl rfl rfl hb33
    ·exact oS rfl rfl rfl rfl rfl hb33
    ·exact oI rfl fun h => yl_pick_f rfl (h.dt 2 27 rfl rfl rfl) hb33 rfl kI
    ·intro fl652 fh653 L649 w650 hp651
     have hE654 := hp651.ex
     have hE654z := Ex.size hE654
     refine dn (CW.sub (Sub.cons (d := 0) (hp651.old 0 _ rfl rfl) (Sub.cons (d := 3) (hp651.old 3 _ rfl rfl) (Sub.cons (d := 5) (hp651.old 5 _ rfl rfl) (Sub.cons (d := 37) (hp651.nt 12 37 rfl rfl rfl) (Sub.nil _))))) (CW.cond_f rfl rfl (CW.skip (tn (CW.seq (CW.region (sd rfl (yl_buildSlice (cs := []) un27 ty66 (by decide) rfl opvs_nil (by kernel_rfl) ?_))))))))
     intro b659 w660 hs661 hz662 hB663 hE664
     have hO665 : OwnL w660 b659 (b659 + 1) 66 3 (RF e_Write) (some ⟨b659, 0, none⟩) 0 0 ([] : List DWrite) := OwnL.of_box (S := fun _ => False) hB663 (Nat.le_refl _) (Nat.lt_succ_self _) EncL.nil (Nat.le_of_ble_eq_true rfl) (fun h => h) (fun _ h => False.elim h)
     refine sd rfl (yM rfl rfl (sd rfl (yM rfl rfl ?_)))
     have q668 := RdS.ex gW (RdS.ex gW (RdS.ex gW hf29 hE567) hE654) hE664
     obtain ⟨A669, c670, he673, h672⟩ := RdS.sl (RdS.drop q668 (k := (x14).toNat) (by first | omega | assumption | (simp only [wI] at *; omega) | (simp only [List.length_append, List.length_nil, wI] at *; omega)))
     have hrc674 := (q668).2.1
     refine sd rfl (yl_sliceR (kh := .i64) (l := (x14).toNat) (h := p_l.length) un27 ty66 rfl rfl (.inr ⟨_, rfl, (toNat_op rfl (by first | omega | assumption | (simp only [wI] at *; omega) | (simp only [List.length_append, List.length_nil, wI] at *; omega)))⟩) (.inl ⟨rfl, rfl⟩) (by first | omega | assumption | (simp only [wI] at *; omega) | (simp only [List.length_append, List.length_nil, wI] at *; omega)) (by first | omega | assumption | (simp only [wI] at *; omega) | (simp only [List.length_append, List.length_nil, wI] at *; omega)) he673 ?_)
     obtain ⟨nw675, he676, hs677⟩ := RdS.src h672
     have hol678 : (p_l.drop ((x14).toNat)).length ≤ 2147483648 := (okL.drop o2 _).1
     refine sd rfl (yl_appendL (S := (fun _ => False)) (lo := b659) (hi := (b659 + 1)) (xs := ([] : List DWrite)) (ys := (p_l.drop ((x14).toNat))) gW un27 ty66 rfl (Nat.le_of_ble_eq_true rfl) rfl rfl rfl hO665 he676 hs677 rfl (by first | omega | (simp only [lN, toS_length]; omega)) (by first | omega | (simp only [lN, toS_length]; omega)) (by omega) (by omega) (fun _ h _ => False.elim h) (by omega) ?_)
     intro A679 c680 w681 row682 hO683 hG684 hrg685
     have hG684z := hG684.size
     refine sd rfl (yA rfl rfl (dn (CW.seq ?_)))
     have q689 := RdS.grown gW q668 hG684 (fun k hk => by have := hrg685 k hk; simp only [Iv]; omega)
     obtain ⟨A690, c691, he694, h693⟩ := RdS.sl (RdS.drop (RdS.take q689 (k := (x14).toNat) (by first | omega | assumption | (simp only [wI] at *; omega) | (simp only [List.length_append, List.length_nil, wI] at *; omega))) (k := 0) (by first | omega | assumption | (simp only [wI] at *; omega) | (simp only [List.length_append, List.length_nil, wI] at *; omega)))
     have hrc695 := (q689).2.1
     refine CW.drawsG 9 (fun _ _ => False) (fun i G b => (i = 7 ∧ (G.fl 4) ≤ b ∧ b < (G.fh 4))) (vgetG [fun G v wq => ∃ A686, v = .slice A686 0 0 ∧ OwnL wq w681.heap.size w681.heap.size 66 3 (RF e_Write) A686 0 0 ([] : List DWrite), DetG (.slice A1 p_l.length c1), DetG (.int .i64 (x14)), fun G v wq => ∃ A690 c691, v = .slice A690 ((p_l.take ((x14).toNat)).length) c691 ∧ RdS wq (Iv 0 w.heap.size) (RF e_Write) 3 A690 (p_l.take ((x14).toNat)).length c691 (p_l.take ((x14).toNat)), fun G v wq => ∃ A697 c698, v = .slice A697 ((([] : List DWrite) ++ (p_l.take ((x14).toNat))).length) c698 ∧ (G.dn 7 = false → OwnL wq (G.fl 4) (G.fh 4) 66 3 (RF e_Write) A697 ((([] : List DWrite) ++ (p_l.take ((x14).toNat))).length) c698 (([] : List DWrite) ++ (p_l.take ((x14).toNat)))), DetG (.agg #[.string (bs (p_w.Key)), .string (bs (p_w.Val)), .bool (p_w.Gone)]), fun G v wq => ∃ A704, v = .slice A704 1 1 ∧ OwnL wq (G.fl 6) (G.fh 6) 66 3 (RF e_Write) A704 1 1 ([p_w] : List DWrite), fun G v wq => ∃ A707 c708, v = .slice A707 (((([] : List DWrite) ++ (p_l.take ((x14).toNat))) ++ ([p_w] : List DWrite)).length) c708 ∧ OwnL wq (G.fl 4) (G.fh 7) 66 3 (RF e_Write) A707 (((([] : List DWrite) ++ (p_l.take ((x14).toNat))) ++ ([p_w] : List DWrite)).length) c708 ((([] : List DWrite) ++ (p_l.take ((x14).toNat))) ++ ([p_w] : List DWrite)), DetG (.slice A679 ((([] : List DWrite) ++ (p_l.drop ((x14).toNat))).length) c680)]) Tryz.follows rfl rfl rfl rfl rfl rfl (fun _ _ _ _ _ h => h) (fun i G w lo hi b K hn hh hp => by exact (match hp with | ⟨e, q1, q2⟩ => by subst e; exact .inr (by have := K.rng 4 (hh 4 rfl); omega))) (vgetG_kept ⟨(by rintro i G v w w' K hn hh hj ⟨A686, hv, h0⟩ e; exact ⟨A686, hv, (by exact OwnL.chg gW h0 e (fun b hb hp => by obtain ⟨rfl, q1, q2⟩ := hp; have := K.rng 4 (hh 4 rfl); skip; omega))⟩), (KeptG.det _), (KeptG.det _), (by rintro i G v w w' K hn hh hj ⟨A690, c691, hv, h0⟩ e; exact ⟨A690, c691, hv, (by exact RdS.chg gW h0 e (fun b hb hp hS => by have hS1 := hS.1; have hS2 := hS.2; obtain ⟨rfl, q1, q2⟩ := hp; have := K.rng 4 (hh 4 rfl); skip; omega))⟩), (by rintro i G v w w' K hn hh hj ⟨A697, c698, hv, h0⟩ e; have d4 : G.dn 4 = true := hj; have u4 := Gh.ufl (lo := w.heap.size) (hi := w'.heap.size) d4 hn; have t4 := Gh.ufh (lo := w.heap.size) (hi := w'.heap.size) d4 hn; exact ⟨A697, c698, hv, (by intro hd; simp only [u4, t4]; exact OwnL.chg gW (h0 (Gh.off hd).2) e (fun b hb hp => by obtain ⟨rfl, q1, q2⟩ := hp; exact absurd rfl (Gh.off hd).1))⟩), (KeptG.det _), (by rintro i G v w w' K hn hh hj ⟨A704, hv, h0⟩ e; have d6 : G.dn 6 = true := hj; have u6 := Gh.ufl (lo := w.heap.size) (hi := w'.heap.size) d6 hn; have t6 := Gh.ufh (lo := w.heap.size) (hi := w'.heap.size) d6 hn; exact ⟨A704, hv, (by simp only [u6, t6]; exact OwnL.chg gW h0 e (fun b hb hp => by obtain ⟨rfl, q1, q2⟩ := hp; have := K.rng 4 (hh 4 rfl); have := K.rng 6 d6; have := K.sep 4 6 (hh 4 rfl) d6 rfl; skip; omega))⟩), (by rintro i G v w w' K hn hh hj ⟨A707, c708, hv, h0⟩ e; have d4 : G.dn 4 = true := K.cl 7 4 hj rfl; have u4 := Gh.ufl (lo := w.heap.size) (hi := w'.heap.size) d4 hn; have t4 := Gh.ufh (lo := w.heap.size) (hi := w'.heap.size) d4 hn; have d7 : G.dn 7 = true := hj; have u7 := Gh.ufl (lo := w.heap.size) (hi := w'.heap.size) d7 hn; have t7 := Gh.ufh (lo := w.heap.size) (hi := w'.heap.size) d7 hn; exact ⟨A707, c708, hv, (by simp only [u4, t4, u7, t7]; exact OwnL.chg gW h0 e (fun b hb hp => by obtain ⟨rfl, q1, q2⟩ := hp; rw [hj] at hn; cases hn))⟩), (KeptG.det _), trivial⟩) ⟨?_, ?_, ?_, ?_, ?_, ?_, ?_, ?_, ?_, trivial⟩ ?_
     ·intro L711 w712 G710 hgk713
      have hE714 := hgk713.st.ex.ex (fun b h => h.elim (fun h => h.elim) (fun h => h))
      have hE714z := Ex.size hE714
      refine OpR.op' rfl (yl_buildSlice (cs := []) un27 ty66 (by decide) rfl opvs_nil (by kernel_rfl) ?_)
      intro b715 w716 hs717 hz718 hB719 hE720
      have hO721 : OwnL w716 b715 (b715 + 1) 66 3 (RF e_Write) (some ⟨b715, 0, none⟩) 0 0 ([] : List DWrite) := OwnL.of_box (S := fun _ => False) hB719 (Nat.le_refl _) (Nat.lt_succ_self _) EncL.nil (Nat.le_of_ble_eq_true rfl) (fun h => h) (fun _ h => False.elim h)
      exact ⟨Chg.of_ex hE720, _, rfl, OwnL.empty _ _ _ _ _ _ _⟩
     ·intro L723 w724 G722 hgk725
      have hE726 := hgk725.st.ex.ex (fun b h => h.elim (fun h => h.elim) (fun h => h))
      have hE726z := Ex.size hE726
      exact OpR.op' rfl (Yl.sameG (yM rfl (hgk725.old 0 _ rfl rfl) kI))
     ·intro L729 w730 G728 hgk731
      have hE732 := hgk731.st.ex.ex (fun b h => h.elim (fun h => h.elim) (fun h => h))
      have hE732z := Ex.size hE732
      exact OpR.op' rfl (Yl.sameG (yM rfl (hgk731.old 5 _ rfl rfl) kI))
     ·intro L735 w736 G734 hgk737
      have hE738 := hgk737.st.ex.ex (fun b h => h.elim (fun h => h.elim) (fun h => h))
      have hE738z := Ex.size hE738
      obtain ⟨_, hx739, rfl⟩ := hgk737.val 1 53 rfl rfl
      obtain ⟨_, hx740, rfl⟩ := hgk737.val 2 54 rfl rfl
      have q741 := RdS.ex gW q689 hE738
      obtain ⟨A742, c743, he746, h745⟩ := RdS.sl (RdS.drop (RdS.take q741 (k := (x14).toNat) (by first | omega | assumption | (simp only [wI] at *; omega) | (simp only [List.length_append, List.length_nil, wI] at *; omega))) (k := 0) (by first | omega | assumption | (simp only [wI] at *; omega) | (simp only [List.length_append, List.length_nil, wI] at *; omega)))
      have hrc747 := (q741).2.1
      exact OpR.op' rfl (Yl.sameG (yl_sliceR (kl := .i64) (l := 0) (h := (x14).toNat) un27 ty66 rfl hx739 (.inl ⟨rfl, rfl⟩) (.inr ⟨_, rfl, (toNat_op hx740 (by first | omega | assumption | (simp only [wI] at *; omega) | (simp only [List.length_append, List.length_nil, wI] at *; omega)))⟩) (by first | omega | assumption | (simp only [wI] at *; omega) | (simp only [List.length_append, List.length_nil, wI] at *; omega)) (by first | omega | assumption | (simp only [wI] at *; omega) | (simp only [List.length_append, List.length_nil, wI] at *; omega)) he746 ⟨fun _ _ => ⟨A742, c743, rfl, h745⟩, rfl⟩))
     ·intro L749 w750 G748 hgk751
      have hE752 := hgk751.st.ex.ex (fun b h => h.elim (fun h => h.elim) (fun h => h))
      have hE752z := Ex.size hE752
      obtain ⟨_, hx753, A686_754, rfl, h755⟩ := hgk751.val 0 52 rfl rfl
      obtain ⟨_, hx756, A690_757, c691_758, rfl, h759⟩ := hgk751.val 3 55 rfl rfl
      have hr760 := hgk751.st.rng 0 (hgk751.has 0 rfl)
      have hr761 := hgk751.st.rng 3 (hgk751.has 3 rfl)
      have hsp762 := hgk751.st.sep 0 3 (hgk751.has 0 rfl) (hgk751.has 3 rfl) rfl
      obtain ⟨nw763, he764, hs765⟩ := RdS.src h759
      have hol766 : (p_l.take ((x14).toNat)).length ≤ 2147483648 := (okL.take o2 _).1
      refine OpR.op' rfl (yl_appendL (S := (fun _ => False)) (lo := w750.heap.size) (hi := w750.heap.size) (xs := ([] : List DWrite)) (ys := (p_l.take ((x14).toNat))) gW un27 ty66 rfl (Nat.le_of_ble_eq_true rfl) rfl hx753 hx756 (OwnL.empty w750 w750.heap.size w750.heap.size 66 3 (RF e_Write) A686_754) he764 hs765 rfl (by first | omega | (simp only [lN, toS_length]; omega)) (by first | omega | (simp only [lN, toS_length]; omega)) (by omega) (by omega) (fun _ h _ => False.elim h) (by omega) ?_)
      intro A767 c768 w769 row770 hO771 hG772 hrg773
      have hG772z := hG772.size
      exact ⟨Chg.of_grown hG772 (fun k hk => by have hq := hrg773 k hk; exact absurd hq (by omega)), A767, c768, rfl, fun _ => OwnL.more (lo' := w750.heap.size) (hi' := w769.heap.size) hO771 (by omega) (by omega)⟩
     ·intro L775 w776 G774 hgk777
      have hE778 := hgk777.st.ex.ex (fun b h => h.elim (fun h => h.elim) (fun h => h))
      have hE778z := Ex.size hE778
      exact OpR.op' rfl (Yl.sameG (yl_loadN ty66 rfl (hgk777.old 3 _ rfl rfl) ((Box.ex (Box.grown (Box.ex (Box.ex (Box.ex hf30 hE567) hE654) hE664) hG684 (fun k hk => by have := hrg685 k hk; omega)) hE778).cells (n := 3) rfl) rfl kI))
     ·intro L782 w783 G781 hgk784
      have hE785 := hgk784.st.ex.ex (fun b h => h.elim (fun h => h.elim) (fun h => h))
      have hE785z := Ex.size hE785
      obtain ⟨_, hx786, rfl⟩ := hgk784.val 5 57 rfl rfl
      refine OpR.op' rfl (yl_buildSlice (cs := [.string (bs (p_w.Key)), .string (bs (p_w.Val)), .bool (p_w.Gone)]) un27 ty66 (by decide) rfl (oc hx786 oz) (by kernel_rfl) ?_)
      intro b787 w788 hs789 hz790 hB791 hE792
      have hO793 : OwnL w788 b787 (b787 + 1) 66 3 (RF e_Write) (some ⟨b787, 0, none⟩) 1 1 ([p_w] : List DWrite) := OwnL.of_box (S := fun _ => False) hB791 (Nat.le_refl _) (Nat.lt_succ_self _) (EncL.cons (c := [.string (bs (p_w.Key)), .string (bs (p_w.Val)), .bool (p_w.Gone)]) rfl rfl EncL.nil) (Nat.le_of_ble_eq_true rfl) (fun h => h) (fun _ h => False.elim h)
      exact ⟨Chg.of_ex hE792, (some ⟨b787, 0, none⟩), rfl, OwnL.more (lo' := w783.heap.size) (hi' := w788.heap.size) hO793 (by omega) (by omega)⟩
     ·intro L795 w796 G794 hgk797
      have hE798 := hgk797.st.ex.ex (fun b h => h.elim (fun h => h.elim) (fun h => h))
      have hE798z := Ex.size hE798
      obtain ⟨_, hx799, A697_800, c698_801, rfl, h802⟩ := hgk797.val 4 56 rfl rfl
      have h802 := h802 hgk797.new
      obtain ⟨_, hx803, A704_804, rfl, h805⟩ := hgk797.val 6 58 rfl rfl
      have hr806 := hgk797.st.rng 4 (hgk797.has 4 rfl)
      have hr807 := hgk797.st.rng 6 (hgk797.has 6 rfl)
      have hsp808 := hgk797.st.sep 4 6 (hgk797.has 4 rfl) (hgk797.has 6 rfl) rfl
      have q809 := OwnL.rd gW h805
      obtain ⟨nw810, he811, hs812⟩ := RdS.src q809
      have hol813 : (p_l.take ((x14).toNat)).length ≤ 2147483648 := (okL.take o2 _).1
      refine OpR.op' rfl (yl_appendL (S := (fun _ => False)) (lo := (G794.fl 4)) (hi := (G794.fh 4)) (xs := (([] : List DWrite) ++ (p_l.take ((x14).toNat)))) (ys := ([p_w] : List DWrite)) gW un27 ty66 rfl (Nat.le_of_ble_eq_true rfl) rfl hx799 hx803 h802 he811 hs812 (RdS.len q809) (by first | omega | (simp only [lN, toS_length]; omega)) (by first | omega | (simp only [lN, toS_length]; omega)) (by omega) (by omega) (fun _ h _ => False.elim h) (by omega) ?_)
      intro A814 c815 w816 row817 hO818 hG819 hrg820
      have hG819z := hG819.size
      exact ⟨Chg.of_grown hG819 (fun k hk => by have hq := hrg820 k hk; exact (⟨rfl, by omega, by omega⟩)), A814, c815, rfl, OwnL.more (lo' := (G794.fl 4)) (hi' := w816.heap.size) hO818 (by omega) (by omega)⟩
     ·intro L822 w823 G821 hgk824
      have hE825 := hgk824.st.ex.ex (fun b h => h.elim (fun h => h.elim) (fun h => h))
      have hE825z := Ex.size hE825
      exact OpR.op' rfl (Yl.sameG (yM rfl (hgk824.old 7 _ rfl rfl) kI))
     ·intro G827 L828 w829 hgp830
      have hE831 := hgp830.st.ex.ex (fun b h => h.elim (fun h => h.elim) (fun h => h))
      have hE831z := Ex.size hE831
      obtain ⟨_, hx832, A686_833, rfl, h834⟩ := hgp830.val 0 52 rfl rfl
      obtain ⟨_, hx835, A690_836, c691_837, rfl, h838⟩ := hgp830.val 3 55 rfl rfl
      obtain ⟨_, hx839, A704_840, rfl, h841⟩ := hgp830.val 6 58 rfl rfl
      obtain ⟨_, hx842, A707_843, c708_844, rfl, h845⟩ := hgp830.val 7 59 rfl rfl
      obtain ⟨_, hx846, rfl⟩ := hgp830.val 8 60 rfl rfl
      have hr847 := hgp830.st.rng 0 (hgp830.has 0 rfl)
      have hr848 := hgp830.st.rng 3 (hgp830.has 3 rfl)
      have hr849 := hgp830.st.rng 4 (hgp830.has 4 rfl)
      have hr850 := hgp830.st.rng 6 (hgp830.has 6 rfl)
      have hr851 := hgp830.st.rng 7 (hgp830.has 7 rfl)
      have hsp852 := hgp830.st.sep 0 3 (hgp830.has 0 rfl) (hgp830.has 3 rfl) rfl
      have hsp853 := hgp830.st.ord 4 0 (hgp830.has 4 rfl) rfl
      have hsp854 := hgp830.st.sep 0 6 (hgp830.has 0 rfl) (hgp830.has 6 rfl) rfl
      have hsp855 := hgp830.st.ord 7 0 (hgp830.has 7 rfl) rfl
      have hsp856 := hgp830.st.ord 4 3 (hgp830.has 4 rfl) rfl
      have hsp857 := hgp830.st.sep 3 6 (hgp830.has 3 rfl) (hgp830.has 6 rfl) rfl
      have hsp858 := hgp830.st.ord 7 3 (hgp830.has 7 rfl) rfl
      have hsp859 := hgp830.st.sep 4 6 (hgp830.has 4 rfl) (hgp830.has 6 rfl) rfl
      have hsp860 := hgp830.st.ord 7 4 (hgp830.has 7 rfl) rfl
      have hsp861 := hgp830.st.ord 7 6 (hgp830.has 7 rfl) rfl
      obtain ⟨nw864, he865, hs866⟩ := RdS.src (OwnL.rd gW (OwnL.ex gW hO683 hE831))
      have hol867 : (p_l.take ((x14).toNat)).length ≤ 2147483648 := (okL.take o2 _).1
      have hol868 : (p_l.drop ((x14).toNat)).length ≤ 2147483648 := (okL.drop o2 _).1
      refine sd rfl (yl_appendL (S := (fun _ => False)) (lo := (G827.fl 4)) (hi := (G827.fh 7)) (xs := ((([] : List DWrite) ++ (p_l.take ((x14).toNat))) ++ ([p_w] : List DWrite))) (ys := (([] : List DWrite) ++ (p_l.drop ((x14).toNat)))) gW un27 ty66 rfl (Nat.le_of_ble_eq_true rfl) rfl hx842 hx846 h845 he865 hs866 rfl (by first | omega | (simp only [lN, toS_length]; omega)) (by first | omega | (simp only [lN, toS_length]; omega)) (by omega) (by omega) (fun _ h _ => False.elim h) (by omega) ?_)
      intro A869 c870 w871 row872 hO873 hG874 hrg875
      have hG874z := hG874.size
      refine sd rfl (yA rfl rfl (dn (CW.sub (Sub.cons (d := 4) rfl (Sub.nil _)) (CW.ret (rr rfl (.cons rfl .nil) ?_)))))
      have hM876 : (s_l5PutW p_l p_w) = ((((([] : List DWrite) ++ (p_l.take ((x14).toNat))) ++ ([p_w] : List DWrite)) ++ (([] : List DWrite) ++ (p_l.drop ((x14).toNat))))) := by simp only [s_l5PutW, hb33, hL581, cL]
      have hol877 : (p_l.take ((x14).toNat)).length ≤ 2147483648 := (okL.take o2 _).1
      have hol878 : (p_l.drop ((x14).toNat)).length ≤ 2147483648 := (okL.drop o2 _).1
      rw [hM876]
      exact ⟨A869, c870, (G827.fl 4), w871.heap.size, rfl, hO873, (okL.mk (xs := (((([] : List DWrite) ++ (p_l.take ((x14).toNat))) ++ ([p_w] : List DWrite)) ++ (([] : List DWrite) ++ (p_l.drop ((x14).toNat))))) (by first | omega | (simp only [lN, toS_length]; omega)) (okE.append (okE.append (okE.append okE.nil ((okL.take o2 _)).2) ((okL.mk (Nat.le_of_ble_eq_true rfl) (okE.cons o3 okE.nil))).2) (okE.append okE.nil ((okL.drop o2 _)).2))), (by (try dsimp only); first | omega | (simp only [List.length_append, List.length_take, List.length_drop, List.length_set, List.length_cons, List.length_nil]; omega)), (by omega), (Below.grown (Ex.trans (Below.grown (Ex.trans (Ex.trans (Ex.trans hf31 hE567) hE654) hE664) hG684 (by omega) (fun k hk => by have := hrg685 k hk; omega)) hE831) hG874 (by omega) (fun k hk => by have := hrg875 k hk; omega))⟩
theorem c_s_l25Entry {A1 : Option Addr} {c1 : Nat} {A2 : Option Addr} {c2 : Nat} {A5 : Option Addr} {c5 : Nat} {w : World} (p_t : DTable) (p_x : DIdx) (p_r : DRow) (h1 : RdS w (Iv 0 w.heap.size) (RF e_Str) 1 A1 p_t.Cols.length c1 p_t.Cols) (h2 : RdS w (Iv 0 w.heap.size) (RF e_Idx) 3 A2 p_t.Idxs.length c2 p_t.Idxs) (h5 : RdS w (Iv 0 w.heap.size) (RF e_Str) 1 A5 p_r.Vals.length c5 p_r.Vals) (o3 : ok_Table p_t) (o4 : ok_Idx p_x) (o6 : ok_Row p_r) (pre0 : (0 ≤ p_x.Col ∧ p_x.Col < (p_r.Vals.length : Int))) (pre1 : (p_t.Name.length ≤ 1 ∧ p_x.Name.length ≤ 1)) (pre2 : rowShort p_r) : Cal Tryz.prog 48 #[.agg #[.string (bs (p_t.Name)), .slice A1 p_t.Cols.length c1, .slice A2 p_t.Idxs.length c2], .agg #[.string (bs (p_x.Name)), .int .i64 (p_x.Col), .int .i64 (p_x.Stage)], .agg #[.slice A5 p_r.Vals.length c5]] w fun v w' => v = .string (bs ((s_l25Entry p_t p_x p_r))) ∧ okS (s_l25Entry p_t p_x p_r) ∧ Ex w w' := by
 have hol7 : p_t.Name.length ≤ 1073741824 := o3.1
 have hol8 := o3.2.1.1
 have hol9 := o3.2.2.1
 have hol10 : p_x.Name.length ≤ 1073741824 := o4
 have hol11 := o6.1
 refine Cal.of func48 rfl ntmps48 rfl (CW.seq (CW.region (sd rfl (yl_box rfl rfl rfl ?_))))
 intro b12 w13 hs14 hz15 hB16 hE17
 refine sd rfl (yl_box rfl rfl rfl ?_)
 intro b18 w19 hs20 hz21 hB22 hE23
 refine sd rfl (yl_box rfl rfl rfl ?_)
 intro b24 w25 hs26 hz27 hB28 hE29
 refine sd rfl (yA rfl rfl (dn (CW.seq ?_)))
 have hol32 : p_t.Name.length ≤ 1073741824 := o3.1
 have q33 := Box.ex hB22 hE29
 have hol34 : p_t.Name.length ≤ 1073741824 := o3.1
 have hol35 : p_x.Name.length ≤ 1073741824 := o4
 have hol36 : p_t.Name.length ≤ 1073741824 := o3.1
 have hol37 : p_x.Name.length ≤ 1073741824 := o4
 have q40 := RdS.ex gS (RdS.ex gS (RdS.ex gS h5 hE17) hE23) hE29
 obtain ⟨eb41, eo41, _, eA41, _, ebl41, _, eR41, eC41⟩ := RdS.atD q40 d_Str (i := (p_x.Col).toNat) (by first | omega | assumption | (simp only [wI] at *; omega))
 obtain rfl := eR41
 have eC41 : Cells w25 eb41 (eo41 + ((p_x.Col).toNat) * 1) [.string (bs ((p_r.Vals.getD ((p_x.Col).toNat) d_Str)))] := eC41
 have hol42 : p_t.Name.length ≤ 1073741824 := o3.1
 have hol43 : p_x.Name.length ≤ 1073741824 := o4
 have hol44 : (p_r.Vals.getD ((p_x.Col).toNat) d_Str).length ≤ 1073741824 := (okL.getD o6 ok_d_Str _)
 have hol45 : p_t.Name.length ≤ 1073741824 := o3.1
 have hol46 : p_x.Name.length ≤ 1073741824 := o4
 have hol47 : (p_r.Vals.getD ((p_x.Col).toNat) d_Str).length ≤ 1073741824 := (okL.getD o6 ok_d_Str _)
 obtain ⟨eb48, eo48, _, eA48, _, ebl48, _, eR48, eC48⟩ := RdS.aD q40 d_Str (i := 0)
 obtain rfl := eR48
 have eC48 : Cells w25 eb48 (eo48 + 0 * 1) [.string (bs ((p_r.Vals.getD 0 d_Str)))] := eC48
 have hol49 : p_t.Name.length ≤ 1073741824 := o3.1
 have hol50 : p_x.Name.length ≤ 1073741824 := o4
 have hol51 : (p_r.Vals.getD ((p_x.Col).toNat) d_Str).length ≤ 1073741824 := (okL.getD o6 ok_d_Str _)
 have hol52 : (p_r.Vals.getD 0 d_Str).length ≤ 1073741824 := (okL.getD o6 ok_d_Str _)
 refine CW.drawsI 21 (vgetI ([.pointer (some ⟨b12, 0 + 0, none⟩), .string (bs (p_t.Name)), .string (bs (p_t.Name ++ ([46] : Str))), .pointer (some ⟨b18, 0 + 0, none⟩), .string (bs (p_x.Name)), .string (bs ((p_t.Name ++ ([46] : Str)) ++ p_x.Name)), .string (bs (((p_t.Name ++ ([46] : Str)) ++ p_x.Name) ++ ([47] : Str))), .pointer (some ⟨b24, 0 + 0, none⟩), .slice A5 p_r.Vals.length c5, .pointer (some ⟨b18, 0 + 1, none⟩), .int .i64 (p_x.Col), .pointer (some ⟨eb41, eo41 + ((p_x.Col).toNat) * 1, none⟩), .string (bs ((p_r.Vals.getD ((p_x.Col).toNat) d_Str))), .string (bs ((((p_t.Name ++ ([46] : Str)) ++ p_x.Name) ++ ([47] : Str)) ++ (p_r.Vals.getD ((p_x.Col).toNat) d_Str))), .string (bs (((((p_t.Name ++ ([46] : Str)) ++ p_x.Name) ++ ([47] : Str)) ++ (p_r.Vals.getD ((p_x.Col).toNat) d_Str)) ++ ([47] : Str))), .pointer (some ⟨b24, 0 + 0, none⟩), .slice A5 p_r.Vals.length c5, .pointer (some ⟨eb48, eo48 + 0 * 1, none⟩), .string (bs ((p_r.Vals.getD 0 d_Str))), .string (bs ((((((p_t.Name ++ ([46] : Str)) ++ p_x.Name) ++ ([47] : Str)) ++ (p_r.Vals.getD ((p_x.Col).toNat) d_Str)) ++ ([47] : Str)) ++ (p_r.Vals.getD 0 d_Str))), .string (bs ((((((p_t.Name ++ ([46] : Str)) ++ p_x.Name) ++ ([47] : Str)) ++ (p_r.Vals.getD ((p_x.Col).toNat) d_Str)) ++ ([47] : Str)) ++ (p_r.Vals.getD 0 d_Str)))].map DetI)) Tryz.follows rfl rfl rfl rfl rfl rfl (vgetI_stable (stD _)) ⟨?_, ?_, ?_, ?_, ?_, ?_, ?_, ?_, ?_, ?_, ?_, ?_, ?_, ?_, ?_, ?_, ?_, ?_, ?_, ?_, ?_, trivial⟩ ?_
 ·exact oI rfl fun h => yl_fieldAddr fd26_0 rfl (h.old 3 _ rfl rfl) kI
 ·exact oI rfl fun h => yl_load1 ty9 rfl (h.dt 0 7 rfl rfl rfl) (((Box.ex (Box.ex (Box.ex hB16 hE23) hE29) h.ex).cell 0).trans rfl) kI
 ·intro L64 w65 hi66
  have hE67 := hi66.ex
  have hE67z := Ex.size hE67
  have hol69 : p_t.Name.length ≤ 1073741824 := o3.1
  exact os rfl ((yl_sadd (a := p_t.Name) (b := ([46] : Str)) rfl (hi66.dt 1 8 rfl rfl rfl) rfl (by first | omega | (simp only [lN, toS_length]; omega)) kI))
 ·exact oI rfl fun h => yl_fieldAddr fd64_0 rfl (h.old 4 _ rfl rfl) kI
 ·exact oI rfl fun h => yl_load1 ty9 rfl (h.dt 3 10 rfl rfl rfl) (((Box.ex q33 h.ex).cell 0).trans rfl) kI
 ·intro L81 w82 hi83
  have hE84 := hi83.ex
  have hE84z := Ex.size hE84
  have hol87 : p_t.Name.length ≤ 1073741824 := o3.1
  have hol88 : p_x.Name.length ≤ 1073741824 := o4
  exact os rfl ((yl_sadd (a := (p_t.Name ++ ([46] : Str))) (b := p_x.Name) rfl (hi83.dt 2 9 rfl rfl rfl) (hi83.dt 4 11 rfl rfl rfl) (by first | omega | (simp only [lN, toS_length]; omega)) kI))
 ·intro L89 w90 hi91
  have hE92 := hi91.ex
  have hE92z := Ex.size hE92
  have hol94 : p_t.Name.length ≤ 1073741824 := o3.1
  have hol95 : p_x.Name.length ≤ 1073741824 := o4
  exact os rfl ((yl_sadd (a := ((p_t.Name ++ ([46] : Str)) ++ p_x.Name)) (b := ([47] : Str)) rfl (hi91.dt 5 12 rfl rfl rfl) rfl (by first | omega | (simp only [lN, toS_length]; omega)) kI))
 ·exact oI rfl fun h => yl_fieldAddr fd38_0 rfl (h.old 5 _ rfl rfl) kI
 ·exact oI rfl fun h => yl_load1 ty23 rfl (h.dt 7 14 rfl rfl rfl) (((Box.ex hB28 h.ex).cell 0).trans rfl) kI
 ·exact oI rfl fun h => yl_fieldAddr fd64_1 rfl (h.old 4 _ rfl rfl) kI
 ·exact oI rfl fun h => yl_load1 ty3 rfl (h.dt 9 16 rfl rfl rfl) (((Box.ex q33 h.ex).cell 1).trans rfl) kI
 ·intro L118 w119 hi120
  have hE121 := hi120.ex
  have hE121z := Ex.size hE121
  exact os rfl ((yl_indexAddr un23 ty9 rfl (hi120.dt 8 15 rfl rfl rfl) (hi120.dt 10 17 rfl rfl rfl) eA41 (by first | omega | assumption | (simp only [wI] at *; omega)) (by first | omega | assumption | (simp only [wI] at *; omega)) kI))
 ·exact oI rfl fun h => yl_load1 ty9 rfl (h.dt 11 18 rfl rfl rfl) ((Cells.ex eC41 h.ex) 0 _ rfl) kI
 ·intro L130 w131 hi132
  have hE133 := hi132.ex
  have hE133z := Ex.size hE133
  have hol136 : p_t.Name.length ≤ 1073741824 := o3.1
  have hol137 : p_x.Name.length ≤ 1073741824 := o4
  have hol138 : (p_r.Vals.getD ((p_x.Col).toNat) d_Str).length ≤ 1073741824 := (okL.getD o6 ok_d_Str _)
  exact os rfl ((yl_sadd (a := (((p_t.Name ++ ([46] : Str)) ++ p_x.Name) ++ ([47] : Str))) (b := (p_r.Vals.getD ((p_x.Col).toNat) d_Str)) rfl (hi132.dt 6 13 rfl rfl rfl) (hi132.dt 12 19 rfl rfl rfl) (by first | omega | (simp only [lN, toS_length]; omega)) kI))
 ·intro L139 w140 hi141
  have hE142 := hi141.ex
  have hE142z := Ex.size hE142
  have hol144 : p_t.Name.length ≤ 1073741824 := o3.1
  have hol145 : p_x.Name.length ≤ 1073741824 := o4
  have hol146 : (p_r.Vals.getD ((p_x.Col).toNat) d_Str).length ≤ 1073741824 := (okL.getD o6 ok_d_Str _)
  exact os rfl ((yl_sadd (a := ((((p_t.Name ++ ([46] : Str)) ++ p_x.Name) ++ ([47] : Str)) ++ (p_r.Vals.getD ((p_x.Col).toNat) d_Str))) (b := ([47] : Str)) rfl (hi141.dt 13 20 rfl rfl rfl) rfl (by first | omega | (simp only [lN, toS_length]; omega)) kI))
 ·exact oI rfl fun h => yl_fieldAddr fd38_0 rfl (h.old 5 _ rfl rfl) kI
 ·exact oI rfl fun h => yl_load1 ty23 rfl (h.dt 15 22 rfl rfl rfl) (((Box.ex hB28 h.ex).cell 0).trans rfl) kI
 ·intro L158 w159 hi160
  have hE161 := hi160.ex
  have hE161z := Ex.size hE161
  exact os rfl ((yl_ixN un23 ty9 rfl (hi160.dt 16 23 rfl rfl rfl) rfl eA48 kI))
 ·exact oI rfl fun h => yl_load1 ty9 rfl (h.dt 17 24 rfl rfl rfl) ((Cells.ex eC48 h.ex) 0 _ rfl) kI
 ·intro L169 w170 hi171
  have hE172 := hi171.ex
  have hE172z := Ex.size hE172
  have hol175 : p_t.Name.length ≤ 1073741824 := o3.1
  have hol176 : p_x.Name.length ≤ 1073741824 := o4
  have hol177 : (p_r.Vals.getD ((p_x.Col).toNat) d_Str).length ≤ 1073741824 := (okL.getD o6 ok_d_Str _)
  have hol178 : (p_r.Vals.getD 0 d_Str).length ≤ 1073741824 := (okL.getD o6 ok_d_Str _)
  exact os rfl ((yl_sadd (a := (((((p_t.Name ++ ([46] : Str)) ++ p_x.Name) ++ ([47] : Str)) ++ (p_r.Vals.getD ((p_x.Col).toNat) d_Str)) ++ ([47] : Str))) (b := (p_r.Vals.getD 0 d_Str)) rfl (hi171.dt 14 21 rfl rfl rfl) (hi171.dt 18 25 rfl rfl rfl) (by first | omega | (simp only [lN, toS_length]; omega)) kI))
 ·exact oI rfl fun h => yA rfl (h.dt 19 26 rfl rfl rfl) kI
 ·intro fl187 fh188 L184 w185 hp186
  have hE189 := hp186.ex
  have hE189z := Ex.size hE189
  refine dn (CW.sub (Sub.cons (d := 6) (hp186.nt 20 6 rfl rfl rfl) (Sub.nil _)) (CW.ret (rr rfl (.cons rfl .nil) ?_)))
  have hM191 : (s_l25Entry p_t p_x p_r) = ((((((p_t.Name ++ ([46] : Str)) ++ p_x.Name) ++ ([47] : Str)) ++ (p_r.Vals.getD ((p_x.Col).toNat) d_Str)) ++ ([47] : Str)) ++ (p_r.Vals.getD 0 d_Str)) := by simp only [s_l25Entry, cL]
  rw [hM191]
  exact ⟨rfl, (okS_l25Entry pre1 pre2), (Ex.trans (Ex.trans (Ex.trans (Ex.trans (Ex.refl w) hE17) hE23) hE29) hE189)⟩
theorem c_u_row {A3 : Option Addr} {c3 : Nat} {slo3 shi3 : Nat} {b1 : Nat} {A7 : Option Addr} {c7 : Nat} {slo7 shi7 : Nat} {A10 : Option Addr} {c10 : Nat} {slo10 shi10 : Nat} {w : World} (pC : List Int) (p_c : Int × Int) (p_t : DTable) (h2 : Box w b1 46 [.slice A3 pC.length c3, .int .i64 (p_c.1), .int .u64 (p_c.2)]) (h3 : RdS w (Iv slo3 shi3) (RF e_U8) 1 A3 pC.length c3 pC) (hrn4 : shi3 ≤ w.heap.size) (hrn5 : b1 < slo3 ∨ shi3 ≤ b1) (h7 : RdS w (Iv slo7 shi7) (RF e_Str) 1 A7 p_t.Cols.length c7 p_t.Cols) (hrn8 : shi7 ≤ w.heap.size) (hrn9 : b1 < slo7 ∨ shi7 ≤ b1) (h10 : RdS w (Iv slo10 shi10) (RF e_Idx) 3 A10 p_t.Idxs.length c10 p_t.Idxs) (hrn11 : shi10 ≤ w.heap.size) (hrn12 : b1 < slo10 ∨ shi10 ≤ b1) (o6 : (okL okT) pC) (o13 : ok_Table p_t) (pre0 : p_t.Cols.length ≤ 4) (pre1 : (0 ≤ p_c.1 ∧ p_c.1 ≤ 4611686018427387840)) (pre2 : codeOk pC) : Cal Tryz.prog 67 #[.pointer (some ⟨b1, 0, none⟩), .agg #[.string (bs (p_t.Name)), .slice A7 p_t.Cols.length c7, .slice A10 p_t.Idxs.length c10]] w fun v w' => ∃ A_1 c_1 lo_1 hi_1, v = .agg #[.slice A_1 (((u_row pC p_c p_t).1.Vals).length) c_1] ∧ OwnL w' lo_1 hi_1 9 1 (RF e_Str) A_1 (((u_row pC p_c p_t).1.Vals).length) c_1 ((u_row pC p_c p_t).1.Vals) ∧ ok_Row ((u_row pC p_c p_t).1) ∧ (p_c.1 ≤ ((u_row pC p_c p_t).2).1 ∧ ((u_row pC p_c p_t).2).1 ≤ p_c.1 + 64) ∧ Box w' b1 46 [.slice A3 pC.length c3, .int .i64 (((u_row pC p_c p_t).2).1), .int .u64 (((u_row pC p_c p_t).2).2)] ∧ (w.heap.size ≤ lo_1 ∧ lo_1 ≤ hi_1 ∧ hi_1 ≤ w'.heap.size) ∧ Chg (InR [(b1, b1 + 1)]) w w' := by
 have hol14 := o6.1
 have hbx15 := Box.lt h2
 have hol16 : p_t.Name.length ≤ 1073741824 := o13.1
 have hol17 := o13.2.1.1
 have hol18 := o13.2.2.1
 refine Cal.of func67 rfl ntmps67 rfl (CW.seq (CW.region (sd rfl (yl_box rfl rfl rfl ?_))))
 intro b19 w20 hs21 hz22 hB23 hE24
 refine sd rfl (yB ty38 (cs := [.slice none 0 0]) rfl rfl ?_)
 intro b25 w26 hs27 hz28 hB29 hE30
 refine dn (CW.seq (CW.region (sd rfl (yM rfl rfl (sd rfl (yl_buildSlice (cs := [.string (bs (([49] : Str))), .string (bs (([50] : Str))), .string (bs (([51] : Str))), .string (bs (([97] : Str))), .string (bs (([122, 122] : Str))), .string (bs (([97, 98, 99] : Str)))]) un23 ty9 (by decide) rfl (oc rfl (oc rfl (oc rfl (oc rfl (oc rfl (oc rfl oz)))))) (by kernel_rfl) ?_))))))
 intro b31 w32 hs33 hz34 hB35 hE36
 have hO37 : OwnL w32 b31 (b31 + 1) 9 1 (RF e_Str) (some ⟨b31, 0, none⟩) 6 6 ([[49], [50], [51], [97], [122, 122], [97, 98, 99]] : List Str) := OwnL.of_box (S := fun _ => False) hB35 (Nat.le_refl _) (Nat.lt_succ_self _) (EncL.cons (c := [.string (bs (([49] : Str)))]) rfl rfl (EncL.cons (c := [.string (bs (([50] : Str)))]) rfl rfl (EncL.cons (c := [.string (bs (([51] : Str)))]) rfl rfl (EncL.cons (c := [.string (bs (([97] : Str)))]) rfl rfl (EncL.cons (c := [.string (bs (([122, 122] : Str)))]) rfl rfl (EncL.cons (c := [.string (bs (([97, 98, 99] : Str)))]) rfl rfl EncL.nil)))))) (Nat.le_of_ble_eq_true rfl) (fun h => h) (fun _ h => False.elim h)
 have q43 := RdS.ex gU (RdS.ex gU (RdS.ex gU h3 hE24) hE30) hE36
 have hle44 := OwnL.len hO37
 refine sd rfl (yC en17 rfl (oc rfl (oc rfl oz)) (Cal.mono (Cal.args (by rw [← hle44] <;> rfl) (c_u_of pC p_c ([[49], [50], [51], [97], [122, 122], [97, 98, 99]] : List Str) (Box.ex (Box.ex (Box.ex h2 hE24) hE30) hE36) q43 (by omega) (by omega) (RdS.fix (OwnL.rdI gS hO37)) (by omega) (by omega) o6 (okL.mk (Nat.le_of_ble_eq_true rfl) (okE.cons (okS.lit rfl) (okE.cons (okS.lit rfl) (okE.cons (okS.lit rfl) (okE.cons (okS.lit rfl) (okE.cons (okS.lit rfl) (okE.cons (okS.lit rfl) okE.nil))))))) (by first | omega | assumption | (simp only [wI] at *; omega) | (simp only [lN]; omega)) (by omega) (by assumption))) ?_))
 rintro v48 w45 ⟨rfl, ho46, hp47, hB50, hc49⟩
 have hc49z := Chg.size hc49
 have hB50z := Box.lt hB50
 have hrf51 := of_len 3 pC p_c ([[49], [50], [51], [97], [122, 122], [97, 98, 99]] : List Str) (by decide)
 refine sd rfl (yl_buildSlice (cs := [.string (bs ((u_of pC p_c ([[49], [50], [51], [97], [122, 122], [97, 98, 99]] : List Str)).1))]) un23 ty9 (by decide) rfl (oc rfl oz) (by kernel_rfl) ?_)
 intro b52 w53 hs54 hz55 hB56 hE57
 have hO58 : OwnL w53 b52 (b52 + 1) 9 1 (RF e_Str) (some ⟨b52, 0, none⟩) 1 1 ([(u_of pC p_c ([[49], [50], [51], [97], [122, 122], [97, 98, 99]] : List Str)).1] : List Str) := OwnL.of_box (S := fun _ => False) hB56 (Nat.le_refl _) (Nat.lt_succ_self _) (EncL.cons (c := [.string (bs ((u_of pC p_c ([[49], [50], [51], [97], [122, 122], [97, 98, 99]] : List Str)).1))]) rfl rfl EncL.nil) (Nat.le_of_ble_eq_true rfl) (fun h => h) (fun _ h => False.elim h)
 refine sd rfl (yl_build (cs := [.slice (some ⟨b52, 0, none⟩) 1 1]) rfl (oc rfl oz) (by kernel_rfl) (sd rfl (yB ty38 (cs := [.slice none 0 0]) rfl rfl ?_)))
 intro b59 w60 hs61 hz62 hB63 hE64
 refine SeqR.u rfl rfl (yl_store (vs := [.slice (some ⟨b52, 0, none⟩) 1 1]) ty38 rfl rfl rfl rfl rfl rfl hB63 (Nat.le_of_ble_eq_true rfl) ?_)
 intro w65 hB66 hO67
 have hB66 : Box w65 b59 38 [.slice (some ⟨b52, 0, none⟩) 1 1] := hB66
 have hO67z := hO67.size
 refine dn (CW.seq (CW.block ?_))
 have q115 := Box.ex (Box.ex hB23 hE30) hE36
 have q134 := Box.ex hB29 hE36
 refine CW.loop (fun m104 L105 w106 => ∃ (x97 : Int) (x98 : Int) (x99 : List Str) (A100 : Option Addr) (c101 : Nat) (u102 : Nat) (lo103 : Nat), (p_t.Cols.length - x99.length) < m104 ∧ w65.heap.size ≤ w106.heap.size ∧ lkp L105 0 = some (.pointer (some ⟨b1, 0, none⟩)) ∧ lkp L105 3 = some (.pointer (some ⟨b19, 0, none⟩)) ∧ lkp L105 4 = some (.pointer (some ⟨b25, 0, none⟩)) ∧ lkp L105 5 = some (.pointer (some ⟨b59, 0, none⟩)) ∧ Box w106 b1 46 [.slice A3 pC.length c3, .int .i64 (x97), .int .u64 (x98)] ∧ RdS w106 (Iv slo3 shi3) (RF e_U8) 1 A3 pC.length c3 pC ∧ Box w106 b19 26 [.string (bs (p_t.Name)), .slice A7 p_t.Cols.length c7, .slice A10 p_t.Idxs.length c10] ∧ RdS w106 (Iv slo7 shi7) (RF e_Str) 1 A7 p_t.Cols.length c7 p_t.Cols ∧ RdS w106 (Iv slo10 shi10) (RF e_Idx) 3 A10 p_t.Idxs.length c10 p_t.Idxs ∧ Box w106 b25 38 [.slice none 0 0] ∧ Box w106 b59 38 [.slice A100 x99.length c101] ∧ OwnL w106 lo103 u102 9 1 (RF e_Str) A100 x99.length c101 x99 ∧ Chg (InR [(b1, b1 + 1)]) w w106 ∧ (b52 ≤ lo103 ∧ lo103 ≤ u102 ∧ u102 ≤ w106.heap.size ∧ (b1 < lo103 ∨ u102 ≤ b1) ∧ (b19 < lo103 ∨ u102 ≤ b19) ∧ (b25 < lo103 ∨ u102 ≤ b25) ∧ (b59 < lo103 ∨ u102 ≤ b59)) ∧ x99.length + 1 * (p_t.Cols.length - x99.length) ≤ 1 + 1 * (p_t.Cols.length - ([(u_of pC p_c ([[49], [50], [51], [97], [122, 122], [97, 98, 99]] : List Str)).1] : List Str).length) ∧ (∀ y ∈ x99, okS y) ∧ (p_c.1 ≤ x97 ∧ x97 + 2 * ((p_t.Cols.length - x99.length : Nat) : Int) ≤ p_c.1 + 10) ∧ loopW (B_u_row_0 pC p_c p_t) m104 (x97, x98, x99) = loopW (B_u_row_0 pC p_c p_t) ((p_t.Cols.length - ([(u_of pC p_c ([[49], [50], [51], [97], [122, 122], [97, 98, 99]] : List Str)).1] : List Str).length) + 1) (((u_of pC p_c ([[49], [50], [51], [97], [122, 122], [97, 98, 99]] : List Str)).2).1, ((u_of pC p_c ([[49], [50], [51], [97], [122, 122], [97, 98, 99]] : List Str)).2).2, ([(u_of pC p_c ([[49], [50], [51], [97], [122, 122], [97, 98, 99]] : List Str)).1] : List Str))) ((p_t.Cols.length - ([(u_of pC p_c ([[49], [50], [51], [97], [122, 122], [97, 98, 99]] : List Str)).1] : List Str).length) + 1) ?_ ?_
 ·exact ⟨((u_of pC p_c ([[49], [50], [51], [97], [122, 122], [97, 98, 99]] : List Str)).2).1, ((u_of pC p_c ([[49], [50], [51], [97], [122, 122], [97, 98, 99]] : List Str)).2).2, ([(u_of pC p_c ([[49], [50], [51], [97], [122, 122], [97, 98, 99]] : List Str)).1] : List Str), (some ⟨b52, 0, none⟩), 1, (b52 + 1), b52, Nat.lt_succ_self _, Nat.le_refl _, rfl, rfl, rfl, rfl, (Box.only (Box.ex (Box.ex hB50 hE57) hE64) hO67 (by omega)), (RdS.only gU (RdS.ex gU (RdS.ex gU (RdS.chg gU q43 hc49 (fun k hl hk => by simp only [InR, or_false, Iv, Ge] at hk ⊢; omega)) hE57) hE64) hO67 (by simp only [Iv]; omega)), (Box.only (Box.ex (Box.ex (Box.chg q115 hc49 (by have := Box.lt q115; simp only [InR, or_false]; omega)) hE57) hE64) hO67 (by omega)), (RdS.only gS (RdS.ex gS (RdS.ex gS (RdS.chg gS (RdS.ex gS (RdS.ex gS (RdS.ex gS h7 hE24) hE30) hE36) hc49 (fun k hl hk => by simp only [InR, or_false, Iv, Ge] at hk ⊢; omega)) hE57) hE64) hO67 (by simp only [Iv]; omega)), (RdS.only gI (RdS.ex gI (RdS.ex gI (RdS.chg gI (RdS.ex gI (RdS.ex gI (RdS.ex gI h10 hE24) hE30) hE36) hc49 (fun k hl hk => by simp only [InR, or_false, Iv, Ge] at hk ⊢; omega)) hE57) hE64) hO67 (by simp only [Iv]; omega)), (Box.only (Box.ex (Box.ex (Box.chg q134 hc49 (by have := Box.lt q134; simp only [InR, or_false]; omega)) hE57) hE64) hO67 (by omega)), hB66, (OwnL.only gS (OwnL.ex gS hO58 hE64) hO67 (by omega)), (Chg.tonly (Chg.tex (Chg.tex (Chg.tchg (Chg.tex (Chg.tex (Chg.tex (Chg.refl (InR [(b1, b1 + 1)]) w) hE24) hE30) hE36) hc49 (fun k hk => by simp only [InR, or_false] at hk ⊢; omega)) hE57) hE64) hO67 (by simp only [InR, or_false]; omega)), (by omega), (by first | (simp; done) | (first | omega | (simp only [lN, toS_length]; omega))), ((okL.mk (Nat.le_of_ble_eq_true rfl) (okE.cons ho46 okE.nil))).2, (by first | omega | assumption | (simp only [lN]; omega) | (simp only [wI] at *; omega)), rfl⟩
 ·rintro m148 L149 w150 ⟨x97, x98, x99, A100, c101, u102, lo103, hk151, hsz153, hl154, hl155, hl156, hl157, hf158, hf159, hf160, hf161, hf162, hf163, hf164, hf165, hf166, hu167, hln168, hok169, hv170, hI152⟩
  refine CW.sub (Sub.cons hl154 (Sub.cons hl155 (Sub.cons hl156 (Sub.cons hl157 (Sub.nil _))))) ?_
  have hf158z := Box.lt hf158
  have hf160z := Box.lt hf160
  have hf163z := Box.lt hf163
  have hf164z := Box.lt hf164
  have hf166z := Chg.size hf166
  refine CW.seq (CW.seq (CW.region (sd rfl (yl_fieldAddr fd38_0 rfl rfl (sd rfl (yl_load1 ty23 rfl rfl ((hf164.cell 0).trans rfl) (sd rfl (yL un23 rfl rfl (sd rfl (yl_fieldAddr fd26_1 rfl rfl (sd rfl (yl_load1 ty23 rfl rfl ((hf160.cell 1).trans rfl) (sd rfl (yL un23 rfl rfl ?_))))))))))))))
  refine sd rfl (yl_lss rfl rfl rfl (dn (bcase (decide ((x99.length : Int) < (p_t.Cols.length : Int))) (fun hb171 => ?_) (fun hb171 => ?_))))
  ·have hb171p := dec_t hb171
   refine CW.cond_t rfl hb171 (CW.skip (tn (CW.block ?_)))
   have hrf182 := of_len 3 pC (x97, x98) ([[120], [121], [120], [48], [97, 98, 99]] : List Str) (by decide)
   refine CW.drawsG 6 (fun G b => G.dn 4 = true ∧ InR [(b1, b1 + 1)] b) (fun i G b => (i = 4 ∧ b1 ≤ b ∧ b < b1 + 1)) (vgetG [DetG (.pointer (some ⟨b59, 0 + 0, none⟩)), DetG (.slice A100 x99.length c101), DetG (.pointer (some ⟨b1, 0, none⟩)), fun G v wq => ∃ A172, v = .slice A172 5 5 ∧ OwnL wq (G.fl 3) (G.fh 3) 9 1 (RF e_Str) A172 5 5 ([[120], [121], [120], [48], [97, 98, 99]] : List Str), fun G v wq => v = .string (bs ((u_of pC (x97, x98) ([[120], [121], [120], [48], [97, 98, 99]] : List Str)).1)) ∧ okS ((u_of pC (x97, x98) ([[120], [121], [120], [48], [97, 98, 99]] : List Str)).1) ∧ (x97 ≤ ((u_of pC (x97, x98) ([[120], [121], [120], [48], [97, 98, 99]] : List Str)).2).1 ∧ ((u_of pC (x97, x98) ([[120], [121], [120], [48], [97, 98, 99]] : List Str)).2).1 ≤ x97 + 2) ∧ Box wq b1 46 [.slice A3 pC.length c3, .int .i64 (((u_of pC (x97, x98) ([[120], [121], [120], [48], [97, 98, 99]] : List Str)).2).1), .int .u64 (((u_of pC (x97, x98) ([[120], [121], [120], [48], [97, 98, 99]] : List Str)).2).2)], fun G v wq => ∃ A179, v = .slice A179 1 1 ∧ OwnL wq (G.fl 5) (G.fh 5) 9 1 (RF e_Str) A179 1 1 ([(u_of pC (x97, x98) ([[120], [121], [120], [48], [97, 98, 99]] : List Str)).1] : List Str)]) Tryz.follows rfl rfl rfl rfl rfl rfl (fun _ _ _ _ _ h => ⟨Gh.udn h.1, h.2⟩) (fun i G w lo hi b K hn hh hp => by exact (match hp with | ⟨e, q1, q2⟩ => by subst e; exact .inl ⟨Gh.sdn, .inl ⟨q1, q2⟩⟩)) (vgetG_kept ⟨(KeptG.det _), (KeptG.det _), (KeptG.det _), (by rintro i G v w w' K hn hh hj ⟨A172, hv, h0⟩ e; have d3 : G.dn 3 = true := hj; have u3 := Gh.ufl (lo := w.heap.size) (hi := w'.heap.size) d3 hn; have t3 := Gh.ufh (lo := w.heap.size) (hi := w'.heap.size) d3 hn; exact ⟨A172, hv, (by simp only [u3, t3]; exact OwnL.chg gS h0 e (fun b hb hp => by obtain ⟨rfl, q1, q2⟩ := hp; have := K.rng 3 d3; skip; omega))⟩), (by rintro i G v w w' K hn hh hj ⟨hv, h0, h1, h2⟩ e; exact ⟨hv, h0, h1, (by exact Box.chg h2 e (fun hp => by obtain ⟨rfl, q1, q2⟩ := hp; rw [hj] at hn; cases hn))⟩), (by rintro i G v w w' K hn hh hj ⟨A179, hv, h0⟩ e; have d5 : G.dn 5 = true := hj; have u5 := Gh.ufl (lo := w.heap.size) (hi := w'.heap.size) d5 hn; have t5 := Gh.ufh (lo := w.heap.size) (hi := w'.heap.size) d5 hn; exact ⟨A179, hv, (by simp only [u5, t5]; exact OwnL.chg gS h0 e (fun b hb hp => by obtain ⟨rfl, q1, q2⟩ := hp; rw [K.cl 5 4 hj rfl] at hn; cases hn))⟩), trivial⟩) ⟨?_, ?_, ?_, ?_, ?_, ?_, trivial⟩ ?_
   ·intro L184 w185 G183 hgk186
    have hE187 : Chg (fun b => InR [(b1, b1 + 1)] b ∨ w150.heap.size ≤ b) w150 w185 := hgk186.st.ex.imp (fun b _ h => h.imp (fun h => h.2) (fun h => h))
    have hE187z := Chg.size hE187
    exact OpR.op' rfl (Yl.sameG (yl_fieldAddr fd38_0 rfl (hgk186.old 5 _ rfl rfl) kI))
   ·intro L190 w191 G189 hgk192
    have hE193 : Chg (fun b => InR [(b1, b1 + 1)] b ∨ w150.heap.size ≤ b) w150 w191 := hgk192.st.ex.imp (fun b _ h => h.imp (fun h => h.2) (fun h => h))
    have hE193z := Chg.size hE193
    obtain ⟨_, hx194, rfl⟩ := hgk192.val 0 18 rfl rfl
    exact OpR.op' rfl (Yl.sameG (yl_load1 ty23 rfl hx194 (((Box.chg hf164 hE193 (by have := Box.lt hf164; simp only [InR, or_false]; omega)).cell 0).trans rfl) kI))
   ·intro L197 w198 G196 hgk199
    have hE200 := hgk199.st.ex.ex (fun b h => h.elim (fun h => hgk199.no rfl h) (fun h => h))
    have hE200z := Ex.size hE200
    exact OpR.op' rfl (Yl.sameG (yM rfl (hgk199.old 0 _ rfl rfl) kI))
   ·intro L203 w204 G202 hgk205
    have hE206 := hgk205.st.ex.ex (fun b h => h.elim (fun h => hgk205.no rfl h) (fun h => h))
    have hE206z := Ex.size hE206
    refine OpR.op' rfl (yl_buildSlice (cs := [.string (bs (([120] : Str))), .string (bs (([121] : Str))), .string (bs (([120] : Str))), .string (bs (([48] : Str))), .string (bs (([97, 98, 99] : Str)))]) un23 ty9 (by decide) rfl (oc rfl (oc rfl (oc rfl (oc rfl (oc rfl oz))))) (by kernel_rfl) ?_)
    intro b207 w208 hs209 hz210 hB211 hE212
    have hO213 : OwnL w208 b207 (b207 + 1) 9 1 (RF e_Str) (some ⟨b207, 0, none⟩) 5 5 ([[120], [121], [120], [48], [97, 98, 99]] : List Str) := OwnL.of_box (S := fun _ => False) hB211 (Nat.le_refl _) (Nat.lt_succ_self _) (EncL.cons (c := [.string (bs (([120] : Str)))]) rfl rfl (EncL.cons (c := [.string (bs (([121] : Str)))]) rfl rfl (EncL.cons (c := [.string (bs (([120] : Str)))]) rfl rfl (EncL.cons (c := [.string (bs (([48] : Str)))]) rfl rfl (EncL.cons (c := [.string (bs (([97, 98, 99] : Str)))]) rfl rfl EncL.nil))))) (Nat.le_of_ble_eq_true rfl) (fun h => h) (fun _ h => False.elim h)
    exact ⟨Chg.of_ex hE212, (some ⟨b207, 0, none⟩), rfl, OwnL.more (lo' := w204.heap.size) (hi' := w208.heap.size) hO213 (by omega) (by omega)⟩
   ·intro L215 w216 G214 hgk217
    have hE218 := hgk217.st.ex.ex (fun b h => h.elim (fun h => hgk217.nw h) (fun h => h))
    have hE218z := Ex.size hE218
    obtain ⟨_, hx219, rfl⟩ := hgk217.val 2 20 rfl rfl
    obtain ⟨_, hx220, A172_221, rfl, h222⟩ := hgk217.val 3 21 rfl rfl
    have hr223 := hgk217.st.rng 3 (hgk217.has 3 rfl)
    have hle226 := OwnL.len h222
    refine OpR.op' rfl (yC en17 rfl (oc hx219 (oc hx220 oz)) (Cal.mono (Cal.args (by rw [← hle226] <;> rfl) (c_u_of pC (x97, x98) ([[120], [121], [120], [48], [97, 98, 99]] : List Str) (Box.ex hf158 hE218) (RdS.ex gU hf159 hE218) (by omega) (by omega) (RdS.fix (OwnL.rdI gS h222)) (by omega) (by omega) o6 (okL.mk (Nat.le_of_ble_eq_true rfl) (okE.cons (okS.lit rfl) (okE.cons (okS.lit rfl) (okE.cons (okS.lit rfl) (okE.cons (okS.lit rfl) (okE.cons (okS.lit rfl) okE.nil)))))) (by first | omega | assumption | (simp only [wI] at *; omega) | (simp only [lN]; omega)) (by omega) (by assumption))) ?_))
    rintro v230 w227 ⟨rfl, ho228, hp229, hB232, hE231⟩
    exact ⟨hE231.imp (fun k _ hk => hk.elim (fun hk => (⟨rfl, hk.1, hk.2⟩)) False.elim), rfl, ho228, hp229, hB232⟩
   ·intro L234 w235 G233 hgk236
    have hE237 : Chg (fun b => InR [(b1, b1 + 1)] b ∨ w150.heap.size ≤ b) w150 w235 := hgk236.st.ex.imp (fun b _ h => h.imp (fun h => h.2) (fun h => h))
    have hE237z := Chg.size hE237
    obtain ⟨_, hx238, rfl, h239, h240, h241⟩ := hgk236.val 4 22 rfl rfl
    have hr242 := hgk236.st.rng 4 (hgk236.has 4 rfl)
    refine OpR.op' rfl (yl_buildSlice (cs := [.string (bs ((u_of pC (x97, x98) ([[120], [121], [120], [48], [97, 98, 99]] : List Str)).1))]) un23 ty9 (by decide) rfl (oc hx238 oz) (by kernel_rfl) ?_)
    intro b243 w244 hs245 hz246 hB247 hE248
    have hO249 : OwnL w244 b243 (b243 + 1) 9 1 (RF e_Str) (some ⟨b243, 0, none⟩) 1 1 ([(u_of pC (x97, x98) ([[120], [121], [120], [48], [97, 98, 99]] : List Str)).1] : List Str) := OwnL.of_box (S := fun _ => False) hB247 (Nat.le_refl _) (Nat.lt_succ_self _) (EncL.cons (c := [.string (bs ((u_of pC (x97, x98) ([[120], [121], [120], [48], [97, 98, 99]] : List Str)).1))]) rfl rfl EncL.nil) (Nat.le_of_ble_eq_true rfl) (fun h => h) (fun _ h => False.elim h)
    exact ⟨Chg.of_ex hE248, (some ⟨b243, 0, none⟩), rfl, OwnL.more (lo' := w235.heap.size) (hi' := w244.heap.size) hO249 (by omega) (by omega)⟩
   ·intro G250 L251 w252 hgp253
    have hE254 : Chg (fun b => InR [(b1, b1 + 1)] b ∨ w150.heap.size ≤ b) w150 w252 := hgp253.st.ex.imp (fun b _ h => h.imp (fun h => h.2) (fun h => h))
    have hE254z := Chg.size hE254
    have hx258 := hgp253.old 5 _ rfl rfl
    obtain ⟨_, hx259, rfl⟩ := hgp253.val 1 19 rfl rfl
    obtain ⟨_, hx260, A172_261, rfl, h262⟩ := hgp253.val 3 21 rfl rfl
    obtain ⟨_, hx263, rfl, h264, h265, h266⟩ := hgp253.val 4 22 rfl rfl
    obtain ⟨_, hx267, A179_268, rfl, h269⟩ := hgp253.val 5 23 rfl rfl
    have hbz270 := Box.lt h266
    have hr271 := hgp253.st.rng 3 (hgp253.has 3 rfl)
    have hr272 := hgp253.st.rng 4 (hgp253.has 4 rfl)
    have hr273 := hgp253.st.rng 5 (hgp253.has 5 rfl)
    have hsp274 := hgp253.st.ord 4 3 (hgp253.has 4 rfl) rfl
    have hsp275 := hgp253.st.ord 5 3 (hgp253.has 5 rfl) rfl
    have hsp276 := hgp253.st.ord 5 4 (hgp253.has 5 rfl) rfl
    have q278 := OwnL.rd gS h269
    obtain ⟨nw279, he280, hs281⟩ := RdS.src q278
    refine sd rfl (yl_appendP (S := fun _ => False) (lo := lo103) (hi := u102) (xs := x99) (ys := ([(u_of pC (x97, x98) ([[120], [121], [120], [48], [97, 98, 99]] : List Str)).1] : List Str)) un23 ty9 rfl (Nat.le_of_ble_eq_true rfl) (fun _ => rfl) rfl hx259 hx267 (OwnL.chg gS hf165 hE254 (fun k hl hk => by simp only [InR, or_false] at hk; omega)) he280 hs281 (RdS.len q278) (by first | omega | (simp only [lN, toS_length]; omega)) (by first | omega | (simp only [lN, toS_length]; omega)) (by omega) (by omega) (by omega) ?_)
    intro A282 c283 w284 row285 lp286 hp287 hO288 hG289 hrg290 hdj291
    have hG289z := hG289.size
    refine sd rfl (yl_fieldAddr fd38_0 rfl hx258 (SeqR.u rfl rfl (yl_store (vs := [.slice A282 ((x99 ++ ([(u_of pC (x97, x98) ([[120], [121], [120], [48], [97, 98, 99]] : List Str)).1] : List Str)).length) c283]) ty23 rfl rfl rfl rfl rfl rfl (Box.grown (Box.chg hf164 hE254 (by have := Box.lt hf164; simp only [InR, or_false]; omega)) hG289 (fun k hk => by have := hrg290 k hk; omega)) (Nat.le_of_ble_eq_true rfl) ?_)))
    intro w294 hB295 hO296
    have hB295 : Box w294 b59 38 [.slice A282 ((x99 ++ ([(u_of pC (x97, x98) ([[120], [121], [120], [48], [97, 98, 99]] : List Str)).1] : List Str)).length) c283] := hB295
    have hO296z := hO296.size
    refine SeqR.done (bn (tn ?_))
    have hB297 : B_u_row_0 pC p_c p_t (x97, x98, x99) = .cont (((u_of pC (x97, x98) ([[120], [121], [120], [48], [97, 98, 99]] : List Str)).2).1, ((u_of pC (x97, x98) ([[120], [121], [120], [48], [97, 98, 99]] : List Str)).2).2, (x99 ++ ([(u_of pC (x97, x98) ([[120], [121], [120], [48], [97, 98, 99]] : List Str)).1] : List Str))) := by simp only [B_u_row_0, hb171, cL]
    have hmu319 : (p_t.Cols.length - (x99 ++ ([(u_of pC (x97, x98) ([[120], [121], [120], [48], [97, 98, 99]] : List Str)).1] : List Str)).length) < (p_t.Cols.length - x99.length) := by first | omega | assumption | (simp only [lN]; omega) | (simp only [wI] at *; omega)
    exact ⟨m148 - 1, by omega, ((u_of pC (x97, x98) ([[120], [121], [120], [48], [97, 98, 99]] : List Str)).2).1, ((u_of pC (x97, x98) ([[120], [121], [120], [48], [97, 98, 99]] : List Str)).2).2, (x99 ++ ([(u_of pC (x97, x98) ([[120], [121], [120], [48], [97, 98, 99]] : List Str)).1] : List Str)), A282, c283, hp287, lp286, (by omega), (by omega), (hgp253.old 0 _ rfl rfl), (hgp253.old 3 _ rfl rfl), (hgp253.old 4 _ rfl rfl), hx258, (Box.only (Box.grown h266 hG289 (fun k hk => by have := hrg290 k hk; omega)) hO296 (by omega)), (RdS.only gU (RdS.grown gU (RdS.chg gU hf159 hE254 (fun k hl hk => by simp only [InR, or_false, Iv, Ge] at hk ⊢; omega)) hG289 (fun k hk => by have := hrg290 k hk; simp only [Iv]; omega)) hO296 (by simp only [Iv]; omega)), (Box.only (Box.grown (Box.chg hf160 hE254 (by have := Box.lt hf160; simp only [InR, or_false]; omega)) hG289 (fun k hk => by have := hrg290 k hk; omega)) hO296 (by omega)), (RdS.only gS (RdS.grown gS (RdS.chg gS hf161 hE254 (fun k hl hk => by simp only [InR, or_false, Iv, Ge] at hk ⊢; omega)) hG289 (fun k hk => by have := hrg290 k hk; simp only [Iv]; omega)) hO296 (by simp only [Iv]; omega)), (RdS.only gI (RdS.grown gI (RdS.chg gI hf162 hE254 (fun k hl hk => by simp only [InR, or_false, Iv, Ge] at hk ⊢; omega)) hG289 (fun k hk => by have := hrg290 k hk; simp only [Iv]; omega)) hO296 (by simp only [Iv]; omega)), (Box.only (Box.grown (Box.chg hf163 hE254 (by have := Box.lt hf163; simp only [InR, or_false]; omega)) hG289 (fun k hk => by have := hrg290 k hk; omega)) hO296 (by omega)), hB295, (OwnL.only gS hO288 hO296 (by omega)), (Chg.tonly (Chg.tgrown (Chg.tchg hf166 hE254 (fun k hk => by simp only [InR, or_false] at hk ⊢; omega)) hG289 (fun k hk => by have := hrg290 k hk; simp only [InR, or_false]; omega)) hO296 (by simp only [InR, or_false]; omega)), (by omega), (by first | omega | (simp only [lN, toS_length]; omega)), (okE.append hok169 ((okL.mk (Nat.le_of_ble_eq_true rfl) (okE.cons h264 okE.nil))).2), (by first | omega | assumption | (simp only [lN]; omega) | (simp only [wI] at *; omega)), (loopW.cont hk151 hB297).symm.trans hI152⟩
  ·have hb171p := dec_f hb171
   refine CW.cond_f rfl hb171 (CW.exit (tx (tx ?_)))
   have hB321 : B_u_row_0 pC p_c p_t (x97, x98, x99) = .brk (x97, x98, x99) := by simp only [B_u_row_0, hb171, cL]
   have hL320 : loopW (B_u_row_0 pC p_c p_t) ((p_t.Cols.length - ([(u_of pC p_c ([[49], [50], [51], [97], [122, 122], [97, 98, 99]] : List Str)).1] : List Str).length) + 1) (((u_of pC p_c ([[49], [50], [51], [97], [122, 122], [97, 98, 99]] : List Str)).2).1, ((u_of pC p_c ([[49], [50], [51], [97], [122, 122], [97, 98, 99]] : List Str)).2).2, ([(u_of pC p_c ([[49], [50], [51], [97], [122, 122], [97, 98, 99]] : List Str)).1] : List Str)) = .done (x97, x98, x99) := hI152.symm.trans (loopW.brk hk151 hB321)
   refine bx (tn (CW.seq (CW.region (sd rfl (yl_loadN ty38 rfl rfl (hf164.cells (n := 1) rfl) rfl (SeqR.u rfl rfl (yl_store (vs := [.slice A100 x99.length c101]) ty38 rfl rfl rfl rfl rfl rfl hf163 (Nat.le_of_ble_eq_true rfl) ?_)))))))
   intro w322 hB323 hO324
   have hB323 : Box w322 b25 38 [.slice A100 x99.length c101] := hB323
   have hO324z := hO324.size
   refine dn (CW.ret (rr rfl (.cons ⟨_, rfl, run_loadN ty38 (cs := [.slice A100 x99.length c101]) rfl (hB323.cells (n := 1) rfl)⟩ .nil) ?_))
   have hM325 : (u_row pC p_c p_t) = (((⟨x99⟩ : DRow), (x97, x98))) := by first | (simp only [u_row, hL320, cond_true, cond_false, loopE_done, loopE_ret, pairE]; done) | (simp only [u_row, hb171, hL320, cL]; done) | (simp only [u_row, hb171, hL320, cond_true, cond_false, loopE_done, loopE_ret, pairE]; done) | exact (show (u_row pC p_c p_t) = (((⟨x99⟩ : DRow), (x97, x98))) from by simp only [u_row, hb171, hL320, cond_true, cond_false, loopE_done, loopE_ret, pairE])
   rw [hM325]
   exact ⟨A100, c101, lo103, u102, rfl, (OwnL.only gS hf165 hO324 (by omega)), (okL.mk (xs := x99) (by first | omega | (simp only [lN, toS_length]; omega)) hok169), (by (try dsimp only); first | omega | assumption | (simp only [wI] at *; omega)), (Box.only hf158 hO324 (by omega)), (by omega), (Chg.tonly hf166 hO324 (by simp only [InR, or_false]; omega))⟩
theorem c_u_key {A3 : Option Addr} {c3 : Nat} {slo3 shi3 : Nat} {b1 : Nat} {w : World} (pC : List Int) (p_c : Int × Int) (h2 : Box w b1 46 [.slice A3 pC.length c3, .int .i64 (p_c.1), .int .u64 (p_c.2)]) (h3 : RdS w (Iv slo3 shi3) (RF e_U8) 1 A3 pC.length c3 pC) (hrn4 : shi3 ≤ w.heap.size) (hrn5 : b1 < slo3 ∨ shi3 ≤ b1) (o6 : (okL okT) pC) (pre0 : (0 ≤ p_c.1 ∧ p_c.1 ≤ 4611686018427387902)) (pre1 : codeOk pC) : Cal Tryz.prog 69 #[.pointer (some ⟨b1, 0, none⟩)] w fun v w' => v = .string (bs ((u_key pC p_c).1)) ∧ okS ((u_key pC p_c).1) ∧ (p_c.1 ≤ ((u_key pC p_c).2).1 ∧ ((u_key pC p_c).2).1 ≤ p_c.1 + 2) ∧ Box w' b1 46 [.slice A3 pC.length c3, .int .i64 (((u_key pC p_c).2).1), .int .u64 (((u_key pC p_c).2).2)] ∧ Chg (InR [(b1, b1 + 1)]) w w' := by
 have hol7 := o6.1
 have hbx8 := Box.lt h2
 refine Cal.of func69 rfl ntmps69 rfl (CW.seq (CW.region (sd rfl (yA rfl rfl (dn (CW.seq (CW.region (sd rfl (yM rfl rfl ?_)))))))))
 refine sd rfl (yl_buildSlice (cs := [.string (bs (([97] : Str))), .string (bs (([98] : Str))), .string (bs (([99] : Str))), .string (bs (([109] : Str))), .string (bs (([110] : Str))), .string (bs (([122] : Str))), .string (bs (([114, 47, 49] : Str))), .string (bs (([105, 47, 120, 47, 49] : Str)))]) un23 ty9 (by decide) rfl (oc rfl (oc rfl (oc rfl (oc rfl (oc rfl (oc rfl (oc rfl (oc rfl oz)))))))) (by kernel_rfl) ?_)
 intro b9 w10 hs11 hz12 hB13 hE14
 have hO15 : OwnL w10 b9 (b9 + 1) 9 1 (RF e_Str) (some ⟨b9, 0, none⟩) 8 8 ([[97], [98], [99], [109], [110], [122], [114, 47, 49], [105, 47, 120, 47, 49]] : List Str) := OwnL.of_box (S := fun _ => False) hB13 (Nat.le_refl _) (Nat.lt_succ_self _) (EncL.cons (c := [.string (bs (([97] : Str)))]) rfl rfl (EncL.cons (c := [.string (bs (([98] : Str)))]) rfl rfl (EncL.cons (c := [.string (bs (([99] : Str)))]) rfl rfl (EncL.cons (c := [.string (bs (([109] : Str)))]) rfl rfl (EncL.cons (c := [.string (bs (([110] : Str)))]) rfl rfl (EncL.cons (c := [.string (bs (([122] : Str)))]) rfl rfl (EncL.cons (c := [.string (bs (([114, 47, 49] : Str)))]) rfl rfl (EncL.cons (c := [.string (bs (([105, 47, 120, 47, 49] : Str)))]) rfl rfl EncL.nil)))))))) (Nat.le_of_ble_eq_true rfl) (fun h => h) (fun _ h => False.elim h)
 have hle18 := OwnL.len hO15
 refine sd rfl (yC en17 rfl (oc rfl (oc rfl oz)) (Cal.mono (Cal.args (by rw [← hle18] <;> rfl) (c_u_of pC p_c ([[97], [98], [99], [109], [110], [122], [114, 47, 49], [105, 47, 120, 47, 49]] : List Str) (Box.ex h2 hE14) (RdS.ex gU h3 hE14) (by omega) (by omega) (RdS.fix (OwnL.rdI gS hO15)) (by omega) (by omega) o6 (okL.mk (Nat.le_of_ble_eq_true rfl) (okE.cons (okS.lit rfl) (okE.cons (okS.lit rfl) (okE.cons (okS.lit rfl) (okE.cons (okS.lit rfl) (okE.cons (okS.lit rfl) (okE.cons (okS.lit rfl) (okE.cons (okS.lit rfl) (okE.cons (okS.lit rfl) okE.nil))))))))) (by first | omega | assumption | (simp only [wI] at *; omega) | (simp only [lN]; omega)) (by omega) (by assumption))) ?_))
 rintro v22 w19 ⟨rfl, ho20, hp21, hB24, hc23⟩
 have hc23z := Chg.size hc23
 have hB24z := Box.lt hB24
 have hrf25 := of_len 5 pC p_c ([[97], [98], [99], [109], [110], [122], [114, 47, 49], [105, 47, 120, 47, 49]] : List Str) (by decide)
 refine sd rfl (yA rfl rfl (dn (CW.ret (rr rfl (.cons rfl .nil) ?_))))
 have hM26 : (u_key pC p_c) = (((u_of pC p_c ([[97], [98], [99], [109], [110], [122], [114, 47, 49], [105, 47, 120, 47, 49]] : List Str)).1, (((u_of pC p_c ([[97], [98], [99], [109], [110], [122], [114, 47, 49], [105, 47, 120, 47, 49]] : List Str)).2).1, ((u_of pC p_c ([[97], [98], [99], [109], [110], [122], [114, 47, 49], [105, 47, 120, 47, 49]] : List Str)).2).2))) := by first | (simp only [u_key, cL]; done) | (simp only [u_key, cond_true, cond_false, loopE_done, loopE_ret, pairE]; done) | exact (show (u_key pC p_c) = (((u_of pC p_c ([[97], [98], [99], [109], [110], [122], [114, 47, 49], [105, 47, 120, 47, 49]] : List Str)).1, ((u_of pC p_c ([[97], [98], [99], [109], [110], [122], [114, 47, 49], [105, 47, 120, 47, 49]] : List Str)).2))) from by simp only [u_key, cond_true, cond_false, loopE_done, loopE_ret, pairE])
 rw [hM26]
 exact ⟨rfl, ho20, (by (try dsimp only); first | omega | assumption | (simp only [wI] at *; omega)), hB24, (Chg.tchg (Chg.tex (Chg.refl (InR [(b1, b1 + 1)]) w) hE14) hc23 (fun k hk => by simp only [InR, or_false] at hk ⊢; omega))⟩
theorem c_u_val {A3 : Option Addr} {c3 : Nat} {slo3 shi3 : Nat} {b1 : Nat} {w : World} (pC : List Int) (p_c : Int × Int) (h2 : Box w b1 46 [.slice A3 pC.length c3, .int .i64 (p_c.1), .int .u64 (p_c.2)]) (h3 : RdS w (Iv slo3 shi3) (RF e_U8) 1 A3 pC.length c3 pC) (hrn4 : shi3 ≤ w.heap.size) (hrn5 : b1 < slo3 ∨ shi3 ≤ b1) (o6 : (okL okT) pC) (pre0 : (0 ≤ p_c.1 ∧ p_c.1 ≤ 4611686018427387902)) (pre1 : codeOk pC) : Cal Tryz.prog 70 #[.pointer (some ⟨b1, 0, none⟩)] w fun v w' => v = .string (bs ((u_val pC p_c).1)) ∧ okS ((u_val pC p_c).1) ∧ (p_c.1 ≤ ((u_val pC p_c).2).1 ∧ ((u_val pC p_c).2).1 ≤ p_c.1 + 2) ∧ Box w' b1 46 [.slice A3 pC.length c3, .int .i64 (((u_val pC p_c).2).1), .int .u64 (((u_val pC p_c).2).2)] ∧ Chg (InR [(b1, b1 + 1)]) w w' := by
 have hol7 := o6.1
 have hbx8 := Box.lt h2
 refine Cal.of func70 rfl ntmps70 rfl (CW.seq (CW.region (sd rfl (yA rfl rfl (dn (CW.seq (CW.region (sd rfl (yM rfl rfl ?_)))))))))
 refine sd rfl (yl_buildSlice (cs := [.string (bs (([] : Str))), .string (bs (([49] : Str))), .string (bs (([55] : Str))), .string (bs (([49, 48] : Str))), .string (bs (([45, 51] : Str))), .string (bs (([120] : Str))), .string (bs (([97, 44, 98, 95, 99] : Str)))]) un23 ty9 (by decide) rfl (oc rfl (oc rfl (oc rfl (oc rfl (oc rfl (oc rfl (oc rfl oz))))))) (by kernel_rfl) ?_)
 intro b9 w10 hs11 hz12 hB13 hE14
 have hO15 : OwnL w10 b9 (b9 + 1) 9 1 (RF e_Str) (some ⟨b9, 0, none⟩) 7 7 ([[], [49], [55], [49, 48], [45, 51], [120], [97, 44, 98, 95, 99]] : List Str) := OwnL.of_box (S := fun _ => False) hB13 (Nat.le_refl _) (Nat.lt_succ_self _) (EncL.cons (c := [.string (bs (([] : Str)))]) rfl rfl (EncL.cons (c := [.string (bs (([49] : Str)))]) rfl rfl (EncL.cons (c := [.string (bs (([55] : Str)))]) rfl rfl (EncL.cons (c := [.string (bs (([49, 48] : Str)))]) rfl rfl (EncL.cons (c := [.string (bs (([45, 51] : Str)))]) rfl rfl (EncL.cons (c := [.string (bs (([120] : Str)))]) rfl rfl (EncL.cons (c := [.string (bs (([97, 44, 98, 95, 99] : Str)))]) rfl rfl EncL.nil))))))) (Nat.le_of_ble_eq_true rfl) (fun h => h) (fun _ h => False.elim h)
 have hle18 := OwnL.len hO15
 refine sd rfl (yC en17 rfl (oc rfl (oc rfl oz)) (Cal.mono (Cal.args (by rw [← hle18] <;> rfl) (c_u_of pC p_c ([[], [49], [55], [49, 48], [45, 51], [120], [97, 44, 98, 95, 99]] : List Str) (Box.ex h2 hE14) (RdS.ex gU h3 hE14) (by omega) (by omega) (RdS.fix (OwnL.rdI gS hO15)) (by omega) (by omega) o6 (okL.mk (Nat.le_of_ble_eq_true rfl) (okE.cons (okS.lit rfl) (okE.cons (okS.lit rfl) (okE.cons (okS.lit rfl) (okE.cons (okS.lit rfl) (okE.cons (okS.lit rfl) (okE.cons (okS.lit rfl) (okE.cons (okS.lit rfl) okE.nil)))))))) (by first | omega | assumption | (simp only [wI] at *; omega) | (simp only [lN]; omega)) (by omega) (by assumption))) ?_))
 rintro v22 w19 ⟨rfl, ho20, hp21, hB24, hc23⟩
 have hc23z := Chg.size hc23
 have hB24z := Box.lt hB24
 have hrf25 := of_len 5 pC p_c ([[], [49], [55], [49, 48], [45, 51], [120], [97, 44, 98, 95, 99]] : List Str) (by decide)
 refine sd rfl (yA rfl rfl (dn (CW.ret (rr rfl (.cons rfl .nil) ?_))))
 have hM26 : (u_val pC p_c) = (((u_of pC p_c ([[], [49], [55], [49, 48], [45, 51], [120], [97, 44, 98, 95, 99]] : List Str)).1, (((u_of pC p_c ([[], [49], [55], [49, 48], [45, 51], [120], [97, 44, 98, 95, 99]] : List Str)).2).1, ((u_of pC p_c ([[], [49], [55], [49, 48], [45, 51], [120], [97, 44, 98, 95, 99]] : List Str)).2).2))) := by first | (simp only [u_val, cL]; done) | (simp only [u_val, cond_true, cond_false, loopE_done, loopE_ret, pairE]; done) | exact (show (u_val pC p_c) = (((u_of pC p_c ([[], [49], [55], [49, 48], [45, 51], [120], [97, 44, 98, 95, 99]] : List Str)).1, ((u_of pC p_c ([[], [49], [55], [49, 48], [45, 51], [120], [97, 44, 98, 95, 99]] : List Str)).2))) from by simp only [u_val, cond_true, cond_false, loopE_done, loopE_ret, pairE])
 rw [hM26]
 exact ⟨rfl, ho20, (by (try dsimp only); first | omega | assumption | (simp only [wI] at *; omega)), hB24, (Chg.tchg (Chg.tex (Chg.refl (InR [(b1, b1 + 1)]) w) hE14) hc23 (fun k hk => by simp only [InR, or_false] at hk ⊢; omega))⟩
theorem c_u_store {A3 : Option Addr} {c3 : Nat} {slo3 shi3 : Nat} {b1 : Nat} {A7 : Option Addr} {c7 : Nat} {slo7 shi7 : Nat} {A10 : Option Addr} {c10 : Nat} {slo10 shi10 : Nat} {w : World} (pC : List Int) (p_0 : Int × Int) (p_1 : DTable) (h2 : Box w b1 46 [.slice A3 pC.length c3, .int .i64 (p_0.1), .int .u64 (p_0.2)]) (h3 : RdS w (Iv slo3 shi3) (RF e_U8) 1 A3 pC.length c3 pC) (hrn4 : shi3 ≤ w.heap.size) (hrn5 : b1 < slo3 ∨ shi3 ≤ b1) (h7 : RdS w (Iv slo7 shi7) (RF e_Str) 1 A7 p_1.Cols.length c7 p_1.Cols) (hrn8 : shi7 ≤ w.heap.size) (hrn9 : b1 < slo7 ∨ shi7 ≤ b1) (h10 : RdS w (Iv slo10 shi10) (RF e_Idx) 3 A10 p_1.Idxs.length c10 p_1.Idxs) (hrn11 : shi10 ≤ w.heap.size) (hrn12 : b1 < slo10 ∨ shi10 ≤ b1) (o6 : (okL okT) pC) (o13 : ok_Table p_1) (pre0 : drawT p_1) (pre1 : (0 ≤ p_0.1 ∧ p_0.1 ≤ 4611686018427383808)) (pre2 : codeOk pC) : Cal Tryz.prog 40 #[.pointer (some ⟨b1, 0, none⟩), .agg #[.string (bs (p_1.Name)), .slice A7 p_1.Cols.length c7, .slice A10 p_1.Idxs.length c10]] w fun v w' => ∃ A_1 c_1 lo_1 hi_1, v = .slice A_1 (((u_store pC p_0 p_1).1).length) c_1 ∧ OwnL w' lo_1 hi_1 66 3 (RF e_Write) A_1 (((u_store pC p_0 p_1).1).length) c_1 ((u_store pC p_0 p_1).1) ∧ (okL ok_Write) ((u_store pC p_0 p_1).1) ∧ ((u_store pC p_0 p_1).1).length ≤ 100 ∧ (p_0.1 ≤ ((u_store pC p_0 p_1).2).1 ∧ ((u_store pC p_0 p_1).2).1 ≤ p_0.1 + 4096) ∧ Box w' b1 46 [.slice A3 pC.length c3, .int .i64 (((u_store pC p_0 p_1).2).1), .int .u64 (((u_store pC p_0 p_1).2).2)] ∧ (w.heap.size ≤ lo_1 ∧ lo_1 ≤ hi_1 ∧ hi_1 ≤ w'.heap.size) ∧ Chg (InR [(b1, b1 + 1)]) w w' := by
 have hol14 := o6.1
 have hbx15 := Box.lt h2
 have hol16 : p_1.Name.length ≤ 1073741824 := o13.1
 have hol17 := o13.2.1.1
 have hol18 := o13.2.2.1
 obtain ⟨hd1, hd2, hd3, hd4, hd5⟩ := id pre0
 refine Cal.of func40 rfl ntmps40 rfl (CW.seq (CW.region (sd rfl (yl_box rfl rfl rfl ?_))))
 intro b19 w20 hs21 hz22 hB23 hE24
 refine sd rfl (yA rfl rfl (dn (CW.seq (CW.region (sd rfl (yA rfl rfl (dn (CW.seq ?_))))))))
 refine CW.seq (CW.region (sd rfl (yM rfl rfl ?_)))
 have q26 := RdS.ex gU h3 hE24
 refine sd rfl (yC en39 rfl (oc rfl (oc rfl oz)) (Cal.mono (c_u_pick pC p_0 5 (Box.ex h2 hE24) q26 (by omega) (by omega) o6 (by omega) (by assumption)) ?_))
 rintro v30 w27 ⟨rfl, hp28, hp29, hB32, hc31⟩
 have hc31z := Chg.size hc31
 have hB32z := Box.lt hB32
 refine sd rfl (yA rfl rfl (dn (CW.block (CW.loop (fun m108 L109 w110 => ∃ (x100 : List DWrite) (x105 : Int) (x106 : Int) (x107 : Int) (A101 : Option Addr) (c102 : Nat) (u103 : Nat) (lo104 : Nat), ((x105).toNat) < m108 ∧ w27.heap.size ≤ w110.heap.size ∧ lkp L109 0 = some (.pointer (some ⟨b1, 0, none⟩)) ∧ lkp L109 3 = some (.pointer (some ⟨b19, 0, none⟩)) ∧ lkp L109 5 = some (.slice A101 x100.length c102) ∧ lkp L109 6 = some (.int .i64 (x105)) ∧ Box w110 b1 46 [.slice A3 pC.length c3, .int .i64 (x106), .int .u64 (x107)] ∧ RdS w110 (Iv slo3 shi3) (RF e_U8) 1 A3 pC.length c3 pC ∧ Box w110 b19 26 [.string (bs (p_1.Name)), .slice A7 p_1.Cols.length c7, .slice A10 p_1.Idxs.length c10] ∧ RdS w110 (Iv slo7 shi7) (RF e_Str) 1 A7 p_1.Cols.length c7 p_1.Cols ∧ RdS w110 (Iv slo10 shi10) (RF e_Idx) 3 A10 p_1.Idxs.length c10 p_1.Idxs ∧ OwnL w110 lo104 u103 66 3 (RF e_Write) A101 x100.length c102 x100 ∧ Chg (InR [(b1, b1 + 1)]) w w110 ∧ (w27.heap.size ≤ lo104 ∧ lo104 ≤ u103 ∧ u103 ≤ w110.heap.size ∧ (b1 < lo104 ∨ u103 ≤ b1) ∧ (b19 < lo104 ∨ u103 ≤ b19)) ∧ x100.length + 1 * ((x105).toNat) ≤ 0 + 1 * (((u_pick pC p_0 5).1).toNat) ∧ (∀ y ∈ x100, ok_Write y) ∧ (0 ≤ x105 ∧ x105 ≤ 4) ∧ (((x100 : List DWrite).length : Int) + x105 ≤ 4) ∧ (p_0.1 ≤ x106 ∧ x106 + 66 * x105 ≤ p_0.1 + 270) ∧ loopW (B_u_store_0 pC p_0 p_1) m108 (x100, x105, x106, x107) = loopW (B_u_store_0 pC p_0 p_1) ((((u_pick pC p_0 5).1).toNat) + 1) (([] : List DWrite), (u_pick pC p_0 5).1, ((u_pick pC p_0 5).2).1, ((u_pick pC p_0 5).2).2)) ((((u_pick pC p_0 5).1).toNat) + 1) ?_ ?_))))
 ·exact ⟨([] : List DWrite), (u_pick pC p_0 5).1, ((u_pick pC p_0 5).2).1, ((u_pick pC p_0 5).2).2, none, 0, w27.heap.size, w27.heap.size, Nat.lt_succ_self _, Nat.le_refl _, rfl, rfl, rfl, rfl, hB32, (RdS.chg gU q26 hc31 (fun k hl hk => by simp only [InR, or_false, Iv, Ge] at hk ⊢; omega)), (Box.chg hB23 hc31 (by have := Box.lt hB23; simp only [InR, or_false]; omega)), (RdS.chg gS (RdS.ex gS h7 hE24) hc31 (fun k hl hk => by simp only [InR, or_false, Iv, Ge] at hk ⊢; omega)), (RdS.chg gI (RdS.ex gI h10 hE24) hc31 (fun k hl hk => by simp only [InR, or_false, Iv, Ge] at hk ⊢; omega)), (OwnL.nil w27 w27.heap.size w27.heap.size 66 3 (RF e_Write)), (Chg.tchg (Chg.tex (Chg.refl (InR [(b1, b1 + 1)]) w) hE24) hc31 (fun k hk => by simp only [InR, or_false] at hk ⊢; omega)), (by omega), (by first | (simp; done) | (first | omega | (simp only [lN, toS_length]; omega))), okE.nil, (by first | omega | assumption | (simp only [lN]; omega) | (simp only [wI] at *; omega)), (by first | omega | assumption | (simp only [lN]; omega) | (simp only [wI] at *; omega)), (by first | omega | assumption | (simp only [lN]; omega) | (simp only [wI] at *; omega)), rfl⟩
 ·rintro m119 L120 w121 ⟨x100, x105, x106, x107, A101, c102, u103, lo104, hk122, hsz124, hl125, hl126, hl127, hl128, hf129, hf130, hf131, hf132, hf133, hf134, hf135, hu136, hln137, hok138, hv139, hv140, hv141, hI123⟩
  refine CW.sub (Sub.cons hl125 (Sub.cons hl126 (Sub.cons hl127 (Sub.cons hl128 (Sub.nil _))))) ?_
  have hf129z := Box.lt hf129
  have hf131z := Box.lt hf131
  have hf135z := Chg.size hf135
  refine CW.seq (CW.seq (CW.region (sd rfl (yM rfl rfl (sd rfl (yl_gtr rfl rfl rfl (dn (bcase (decide (0 < x105)) (fun hb142 => ?_) (fun hb142 => ?_)))))))))
  ·have hb142p := dec_t hb142
   refine CW.cond_t rfl hb142 (CW.skip (tn (CW.seq (CW.block (CW.seq (CW.region (sd rfl (yM rfl rfl (sd rfl (yl_loadN ty26 rfl rfl (hf131.cells (n := 3) rfl) rfl ?_))))))))))
   refine sd rfl (yC en67 rfl (oc rfl (oc rfl oz)) (Cal.mono (c_u_row pC (x106, x107) p_1 hf129 hf130 (by omega) (by omega) hf132 (by omega) (by omega) hf133 (by omega) (by omega) o6 o13 (by first | omega | assumption | (simp only [wI] at *; omega)) (by omega) (by assumption)) ?_))
   rintro v147 w143 ⟨A144, c144, lo144, hi144, rfl, h144, ho145, hp146, hB149, hrn150, hc148⟩
   have hc148z := Chg.size hc148
   have hB149z := Box.lt hB149
   have hrf151 := rf_row pC (x106, x107) p_1 (by omega)
   refine sd rfl (yB ty38 (cs := [.slice none 0 0]) rfl rfl ?_)
   intro b152 w153 hs154 hz155 hB156 hE157
   refine SeqR.u rfl rfl (yl_store (vs := [.slice A144 (((u_row pC (x106, x107) p_1).1.Vals).length) c144]) ty38 rfl rfl rfl rfl rfl rfl hB156 (Nat.le_of_ble_eq_true rfl) ?_)
   intro w158 hB159 hO160
   have hB159 : Box w158 b152 38 [.slice A144 (((u_row pC (x106, x107) p_1).1.Vals).length) c144] := hB159
   have hO160z := hO160.size
   refine dn (CW.region (sd rfl (yM rfl rfl ?_)))
   have q163 := Box.only (Box.ex (Box.chg hf131 hc148 (by have := Box.lt hf131; simp only [InR, or_false]; omega)) hE157) hO160 (by omega)
   refine sd rfl (yl_loadN ty26 rfl rfl (q163.cells (n := 3) rfl) rfl (sd rfl (yl_loadN ty38 rfl rfl (hB159.cells (n := 1) rfl) rfl ?_)))
   have q166 := RdS.only gS (RdS.ex gS (RdS.chg gS hf132 hc148 (fun k hl hk => by simp only [InR, or_false, Iv, Ge] at hk ⊢; omega)) hE157) hO160 (by simp only [Iv]; omega)
   have q169 := RdS.only gI (RdS.ex gI (RdS.chg gI hf133 hc148 (fun k hl hk => by simp only [InR, or_false, Iv, Ge] at hk ⊢; omega)) hE157) hO160 (by simp only [Iv]; omega)
   refine sd rfl (yC en68 rfl (oc rfl (oc rfl oz)) (Cal.mono (c_s_l25Write p_1 ((u_row pC (x106, x107) p_1).1) (RdS.up q166 gS) (RdS.up q169 gI) (RdS.up (OwnL.rd gS (OwnL.only gS (OwnL.ex gS h144 hE157) hO160 (by omega))) gS) o13 ho145 (by first | omega | assumption | (simp only [wI] at *; omega))) ?_))
   rintro v174 w173 ⟨rfl, hE175⟩
   have hE175z := Ex.size hE175
   have hrf176 := rf_l25Write p_1 ((u_row pC (x106, x107) p_1).1) (by omega) (by omega) ((rf_row pC (x106, x107) p_1 (by omega)).2)
   refine sd rfl (yC en41 rfl (oc rfl (oc rfl oz)) (Cal.mono (c_s_l5PutW x100 (s_l25Write p_1 ((u_row pC (x106, x107) p_1).1)) (RdS.up (OwnL.rd gW (OwnL.ex gW (OwnL.only gW (OwnL.ex gW (OwnL.chg gW hf134 hc148 (fun k hl hk => by simp only [InR, or_false] at hk; omega)) hE157) hO160 (by omega)) hE175)) gW) (okL.mk (xs := x100) (by first | omega | (simp only [lN, toS_length]; omega)) hok138) (ok_l25Write (by omega) (by omega) (rf_row pC (x106, x107) p_1 (by omega)).2) (by first | omega | assumption | (simp only [wI] at *; omega))) ?_))
   rintro v186 w182 ⟨A183, c183, lo183, hi183, rfl, h183, ho184, hp185, hrn188, hE187⟩
   have hE187z := Ex.size hE187
   refine sd rfl (yA rfl rfl (SeqR.done (bn (tn (CW.region (sd rfl (yM rfl rfl (sd rfl (yl_sub rfl rfl rfl (sd rfl (yA rfl rfl (SeqR.done ?_))))))))))))
   refine tn ?_
   have hB189 : B_u_store_0 pC p_0 p_1 (x100, x105, x106, x107) = .cont ((s_l5PutW x100 (s_l25Write p_1 ((u_row pC (x106, x107) p_1).1))), IntKind.wrap .i64 (x105 - 1), ((u_row pC (x106, x107) p_1).2).1, ((u_row pC (x106, x107) p_1).2).2) := by simp only [B_u_store_0, hb142, cL]
   have hmu210 : ((IntKind.wrap .i64 (x105 - 1)).toNat) < ((x105).toNat) := by first | omega | assumption | (simp only [lN]; omega) | (simp only [wI] at *; omega)
   exact ⟨m119 - 1, by omega, (s_l5PutW x100 (s_l25Write p_1 ((u_row pC (x106, x107) p_1).1))), IntKind.wrap .i64 (x105 - 1), ((u_row pC (x106, x107) p_1).2).1, ((u_row pC (x106, x107) p_1).2).2, A183, c183, hi183, lo183, (by omega), (by omega), rfl, rfl, rfl, rfl, (Box.ex (Box.ex (Box.only (Box.ex hB149 hE157) hO160 (by omega)) hE175) hE187), (RdS.ex gU (RdS.ex gU (RdS.only gU (RdS.ex gU (RdS.chg gU hf130 hc148 (fun k hl hk => by simp only [InR, or_false, Iv, Ge] at hk ⊢; omega)) hE157) hO160 (by simp only [Iv]; omega)) hE175) hE187), (Box.ex (Box.ex q163 hE175) hE187), (RdS.ex gS (RdS.ex gS q166 hE175) hE187), (RdS.ex gI (RdS.ex gI q169 hE175) hE187), h183, (Chg.tex (Chg.tex (Chg.tonly (Chg.tex (Chg.tchg hf135 hc148 (fun k hk => by simp only [InR, or_false] at hk ⊢; omega)) hE157) hO160 (by simp only [InR, or_false]; omega)) hE175) hE187), (by omega), (by first | omega | (simp only [lN, toS_length]; omega)), (ho184).2, (by first | omega | assumption | (simp only [lN]; omega) | (simp only [wI] at *; omega)), (by first | omega | assumption | (simp only [lN]; omega) | (simp only [wI] at *; omega)), (by first | omega | assumption | (simp only [lN]; omega) | (simp only [wI] at *; omega)), (loopW.cont hk122 hB189).symm.trans hI123⟩
  ·have hb142p := dec_f hb142
   refine CW.cond_f rfl hb142 (CW.exit (tx (tx ?_)))
   have hB212 : B_u_store_0 pC p_0 p_1 (x100, x105, x106, x107) = .brk (x100, x105, x106, x107) := by simp only [B_u_store_0, hb142, cL]
   have hL211 : loopW (B_u_store_0 pC p_0 p_1) ((((u_pick pC p_0 5).1).toNat) + 1) (([] : List DWrite), (u_pick pC p_0 5).1, ((u_pick pC p_0 5).2).1, ((u_pick pC p_0 5).2).2) = .done (x100, x105, x106, x107) := hI123.symm.trans (loopW.brk hk122 hB212)
   refine bx (tn (CW.seq (CW.seq (CW.region (sd rfl (yl_fieldAddr fd26_2 rfl rfl (sd rfl (yl_load1 ty24 rfl rfl ((hf131.cell 2).trans rfl) (sd rfl (yL un24 rfl rfl (sd rfl (yM rfl rfl ?_))))))))))))
   refine dn (CW.block (CW.loop (fun m494 L495 w496 => ∃ (k213 : Nat) (x487 : List DWrite) (x492 : Int) (x493 : Int) (A488 : Option Addr) (c489 : Nat) (u490 : Nat) (lo491 : Nat), m494 = p_1.Idxs.length - k213 ∧ k213 ≤ p_1.Idxs.length ∧ w121.heap.size ≤ w496.heap.size ∧ lkp L495 0 = some (.pointer (some ⟨b1, 0, none⟩)) ∧ lkp L495 3 = some (.pointer (some ⟨b19, 0, none⟩)) ∧ lkp L495 5 = some (.slice A488 x487.length c489) ∧ lkp L495 27 = some (.slice A10 p_1.Idxs.length c10) ∧ lkp L495 28 = some (.int .i64 ((p_1.Idxs.length : Int))) ∧ lkp L495 29 = some (.int .i64 ((k213 : Int))) ∧ Box w496 b1 46 [.slice A3 pC.length c3, .int .i64 (x492), .int .u64 (x493)] ∧ RdS w496 (Iv slo3 shi3) (RF e_U8) 1 A3 pC.length c3 pC ∧ Box w496 b19 26 [.string (bs (p_1.Name)), .slice A7 p_1.Cols.length c7, .slice A10 p_1.Idxs.length c10] ∧ RdS w496 (Iv slo7 shi7) (RF e_Str) 1 A7 p_1.Cols.length c7 p_1.Cols ∧ RdS w496 (Iv slo10 shi10) (RF e_Idx) 3 A10 p_1.Idxs.length c10 p_1.Idxs ∧ OwnL w496 lo491 u490 66 3 (RF e_Write) A488 x487.length c489 x487 ∧ Chg (InR [(b1, b1 + 1)]) w w496 ∧ (lo104 ≤ lo491 ∧ lo491 ≤ u490 ∧ u490 ≤ w496.heap.size ∧ (b1 < lo491 ∨ u490 ≤ b1) ∧ (b19 < lo491 ∨ u490 ≤ b19)) ∧ x487.length ≤ x100.length + 100 * (k213 - 0) ∧ (∀ y ∈ x487, ok_Write y) ∧ (p_0.1 ≤ x492 ∧ x492 ≤ p_0.1 + 400 + 200 * (k213 : Int)) ∧ ((k213 = 0 ∧ (x487 : List DWrite).length ≤ 4) ∨ (k213 = 1 ∧ (x487 : List DWrite).length ≤ 9) ∨ (k213 = 2 ∧ (x487 : List DWrite).length ≤ 19) ∨ (k213 = 3 ∧ (x487 : List DWrite).length ≤ 39)) ∧ loopM (B_u_store_1 pC p_0 p_1 x100 x105 x106 x107) (p_1.Idxs.length - k213) k213 (x487, x492, x493) = loopM (B_u_store_1 pC p_0 p_1 x100 x105 x106 x107) (p_1.Idxs.length - 0) 0 (x100, x106, x107)) (p_1.Idxs.length - 0) ?_ ?_))
   ·exact ⟨0, x100, x106, x107, A101, c102, u103, lo104, rfl, (by omega), Nat.le_refl _, rfl, rfl, rfl, rfl, rfl, rfl, hf129, hf130, hf131, hf132, hf133, hf134, hf135, (by omega), (by first | (simp; done) | (first | omega | (simp only [lN, toS_length]; omega))), hok138, (by first | omega | assumption | (simp only [wI] at *; omega)), (by first | omega | assumption | (simp only [wI] at *; omega)), rfl⟩
   ·rintro m497 L498 w499 ⟨k213, x487, x492, x493, A488, c489, u490, lo491, rfl, hk500, hsz502, hl503, hl504, hl505, hl506, hl507, hl508, hf509, hf510, hf511, hf512, hf513, hf514, hf515, hu516, hln517, hok518, hv519, hv520, hI501⟩
    refine CW.sub (Sub.cons hl503 (Sub.cons hl504 (Sub.cons hl505 (Sub.cons hl506 (Sub.cons hl507 (Sub.cons hl508 (Sub.nil _))))))) ?_
    have hf509z := Box.lt hf509
    have hf511z := Box.lt hf511
    have hf515z := Chg.size hf515
    have hbg521 := RdS.big hf513
    rcases Nat.lt_or_ge k213 p_1.Idxs.length with hlt522 | hlt522
    ·have hix := hd5 k213 hlt522
     refine CW.seq (CW.region (sd rfl (yl_lss rfl rfl rfl (dn (CW.seq (CW.cond_t rfl (lt_t hlt522) (CW.skip (tn ?_))))))))
     refine CW.seq (CW.block (CW.seq (CW.region ?_)))
     obtain ⟨eb523, eo523, _, eA523, _, ebl523, _, eR523, eC523⟩ := RdS.atD hf513 d_Idx (i := k213) (by first | omega | assumption | (simp only [wI] at *; omega))
     obtain rfl := eR523
     have eC523 : Cells w499 eb523 (eo523 + k213 * 3) [.string (bs ((p_1.Idxs.getD k213 d_Idx).Name)), .int .i64 ((p_1.Idxs.getD k213 d_Idx).Col), .int .i64 ((p_1.Idxs.getD k213 d_Idx).Stage)] := eC523
     refine sd rfl (yl_ixN un24 ty64 rfl rfl rfl eA523 (sd rfl (yl_loadN ty64 rfl rfl eC523 rfl (sd rfl (yB ty64 (cs := [.string (bs (([] : Str))), .int .i64 (0), .int .i64 (0)]) rfl rfl ?_)))))
     intro b524 w525 hs526 hz527 hB528 hE529
     refine SeqR.u rfl rfl (yl_store (vs := [.string (bs ((p_1.Idxs.getD k213 d_Idx).Name)), .int .i64 ((p_1.Idxs.getD k213 d_Idx).Col), .int .i64 ((p_1.Idxs.getD k213 d_Idx).Stage)]) ty64 rfl rfl rfl rfl rfl rfl hB528 (Nat.le_of_ble_eq_true rfl) ?_)
     intro w530 hB531 hO532
     have hB531 : Box w530 b524 64 [.string (bs ((p_1.Idxs.getD k213 d_Idx).Name)), .int .i64 ((p_1.Idxs.getD k213 d_Idx).Col), .int .i64 ((p_1.Idxs.getD k213 d_Idx).Stage)] := hB531
     have hO532z := hO532.size
     refine dn (CW.seq (CW.seq (CW.region ?_)))
     have q534 := Box.only (Box.ex hf511 hE529) hO532 (by omega)
     refine sd rfl (yl_loadN ty26 rfl rfl (q534.cells (n := 3) rfl) rfl (sd rfl (yM rfl rfl ?_)))
     have q536 := RdS.only gS (RdS.ex gS hf512 hE529) hO532 (by simp only [Iv]; omega)
     have q538 := RdS.only gI (RdS.ex gI hf513 hE529) hO532 (by simp only [Iv]; omega)
     have q541 := OwnL.only gW (OwnL.ex gW hf514 hE529) hO532 (by omega)
     refine sd rfl (yC en35 rfl (oc rfl (oc rfl oz)) (Cal.mono (c_s_l25Rows p_1 x487 (RdS.up q536 gS) (RdS.up q538 gI) (RdS.up (OwnL.rd gW q541) gW) o13 (okL.mk (xs := x487) (by first | omega | (simp only [lN, toS_length]; omega)) hok518)) ?_))
     rintro v545 w542 ⟨A543, c543, lo543, hi543, rfl, h543, ho544, hrn547, hE546⟩
     have hE546z := Ex.size hE546
     have hrf548 := (rows_good p_1 x487).1
     refine sd rfl (yL un32 rfl rfl (sd rfl (yM rfl rfl (dn (CW.block (CW.loop (fun m618 L619 w620 => ∃ (k549 : Nat) (x611 : List DWrite) (x616 : Int) (x617 : Int) (A612 : Option Addr) (c613 : Nat) (u614 : Nat) (lo615 : Nat), m618 = (s_l25Rows p_1 x487).length - k549 ∧ k549 ≤ (s_l25Rows p_1 x487).length ∧ w542.heap.size ≤ w620.heap.size ∧ lkp L619 0 = some (.pointer (some ⟨b1, 0, none⟩)) ∧ lkp L619 3 = some (.pointer (some ⟨b19, 0, none⟩)) ∧ lkp L619 5 = some (.slice A612 x611.length c613) ∧ lkp L619 9 = some (.pointer (some ⟨b524, 0, none⟩)) ∧ lkp L619 27 = some (.slice A10 p_1.Idxs.length c10) ∧ lkp L619 28 = some (.int .i64 ((p_1.Idxs.length : Int))) ∧ lkp L619 29 = some (.int .i64 ((k213 : Int))) ∧ lkp L619 35 = some (.slice A543 ((s_l25Rows p_1 x487).length) c543) ∧ lkp L619 36 = some (.int .i64 (((s_l25Rows p_1 x487).length : Int))) ∧ lkp L619 37 = some (.int .i64 ((k549 : Int))) ∧ Box w620 b1 46 [.slice A3 pC.length c3, .int .i64 (x616), .int .u64 (x617)] ∧ RdS w620 (Iv slo3 shi3) (RF e_U8) 1 A3 pC.length c3 pC ∧ Box w620 b19 26 [.string (bs (p_1.Name)), .slice A7 p_1.Cols.length c7, .slice A10 p_1.Idxs.length c10] ∧ RdS w620 (Iv slo7 shi7) (RF e_Str) 1 A7 p_1.Cols.length c7 p_1.Cols ∧ RdS w620 (Iv slo10 shi10) (RF e_Idx) 3 A10 p_1.Idxs.length c10 p_1.Idxs ∧ OwnL w620 lo615 u614 66 3 (RF e_Write) A612 x611.length c613 x611 ∧ Box w620 b524 64 [.string (bs ((p_1.Idxs.getD k213 d_Idx).Name)), .int .i64 ((p_1.Idxs.getD k213 d_Idx).Col), .int .i64 ((p_1.Idxs.getD k213 d_Idx).Stage)] ∧ OwnD w620 lo543 hi543 38 1 RO_Row A543 ((s_l25Rows p_1 x487).length) c543 (s_l25Rows p_1 x487) ∧ Chg (InR [(b1, b1 + 1)]) w w620 ∧ (lo491 ≤ lo615 ∧ lo615 ≤ u614 ∧ u614 ≤ w620.heap.size ∧ (b1 < lo615 ∨ u614 ≤ b1) ∧ (b19 < lo615 ∨ u614 ≤ b19) ∧ (b524 < lo615 ∨ u614 ≤ b524) ∧ (hi543 ≤ lo615 ∨ u614 ≤ lo543)) ∧ x611.length ≤ x487.length + 1 * (k549 - 0) ∧ (∀ y ∈ x611, ok_Write y) ∧ (p_0.1 ≤ x616 ∧ x616 ≤ p_0.1 + 400 + 200 * (k213 : Int) + 2 * (k549 : Int)) ∧ loopM (B_u_store_2 pC p_0 p_1 x100 x105 x106 x107 k213 x487 x492 x493) ((s_l25Rows p_1 x487).length - k549) k549 (x611, x616, x617) = loopM (B_u_store_2 pC p_0 p_1 x100 x105 x106 x107 k213 x487 x492 x493) ((s_l25Rows p_1 x487).length - 0) 0 (x487, x492, x493)) ((s_l25Rows p_1 x487).length - 0) ?_ ?_))))))
     ·exact ⟨0, x487, x492, x493, A488, c489, u490, lo491, rfl, (by omega), Nat.le_refl _, rfl, rfl, rfl, rfl, rfl, rfl, rfl, rfl, rfl, rfl, (Box.ex (Box.only (Box.ex hf509 hE529) hO532 (by omega)) hE546), (RdS.ex gU (RdS.only gU (RdS.ex gU hf510 hE529) hO532 (by simp only [Iv]; omega)) hE546), (Box.ex q534 hE546), (RdS.ex gS q536 hE546), (RdS.ex gI q538 hE546), (OwnL.ex gW q541 hE546), (Box.ex hB531 hE546), h543, (Chg.tex (Chg.tonly (Chg.tex hf515 hE529) hO532 (by simp only [InR, or_false]; omega)) hE546), (by omega), (by first | (simp; done) | (first | omega | (simp only [lN, toS_length]; omega))), hok518, (by first | omega | assumption | (simp only [wI] at *; omega)), rfl⟩
     ·rintro m635 L636 w637 ⟨k549, x611, x616, x617, A612, c613, u614, lo615, rfl, hk638, hsz640, hl641, hl642, hl643, hl644, hl645, hl646, hl647, hl648, hl649, hl650, hf651, hf652, hf653, hf654, hf655, hf656, hf657, hf658, hf659, hu660, hln661, hok662, hv663, hI639⟩
      refine CW.sub (Sub.cons hl641 (Sub.cons hl642 (Sub.cons hl643 (Sub.cons hl644 (Sub.cons hl645 (Sub.cons hl646 (Sub.cons hl647 (Sub.cons hl648 (Sub.cons hl649 (Sub.cons hl650 (Sub.nil _))))))))))) ?_
      have hf651z := Box.lt hf651
      have hf653z := Box.lt hf653
      have hf657z := Box.lt hf657
      have hf659z := Chg.size hf659
      have hbg664 := RdS.big (OwnL.rd good_Row (OwnD.own goodO_Row good_Row hf658))
      rcases Nat.lt_or_ge k549 ((s_l25Rows p_1 x487).length) with hlt666 | hlt666
      ·have hrow := f_s_l25Good (rows_at _ _ hlt666)
       refine CW.seq (CW.region (sd rfl (yl_lss rfl rfl rfl (dn (CW.seq (CW.cond_t rfl (lt_t hlt666) (CW.skip (tn ?_))))))))
       refine CW.seq (CW.block (CW.seq (CW.region ?_)))
       obtain ⟨_, _, _, eA668, _, ebl668, _, eR668, eC668⟩ := RdS.atD (OwnL.rd good_Row (OwnD.own goodO_Row good_Row hf658)) d_Row (i := k549) (by first | omega | assumption | (simp only [wI] at *; omega))
       obtain ⟨A669, c669, rfl, h669⟩ := eR668
       refine sd rfl (yl_ixN un32 ty38 rfl rfl rfl eA668 (sd rfl (yl_loadN ty38 rfl rfl eC668 rfl (sd rfl (yB ty38 (cs := [.slice none 0 0]) rfl rfl ?_)))))
       intro b670 w671 hs672 hz673 hB674 hE675
       refine SeqR.u rfl rfl (yl_store (vs := [.slice A669 ((((s_l25Rows p_1 x487).getD k549 d_Row).Vals).length) c669]) ty38 rfl rfl rfl rfl rfl rfl hB674 (Nat.le_of_ble_eq_true rfl) ?_)
       intro w676 hB677 hO678
       have hB677 : Box w676 b670 38 [.slice A669 ((((s_l25Rows p_1 x487).getD k549 d_Row).Vals).length) c669] := hB677
       have hO678z := hO678.size
       refine dn (CW.seq (CW.region (sd rfl (yM rfl rfl ?_))))
       have q682 := RdS.only gU (RdS.ex gU hf652 hE675) hO678 (by simp only [Iv]; omega)
       refine sd rfl (yC en20 rfl (oc rfl (oc rfl oz)) (Cal.mono (c_u_one pC (x616, x617) 5 (Box.only (Box.ex hf651 hE675) hO678 (by omega)) q682 (by omega) (by omega) o6 (by omega) (by assumption)) ?_))
       rintro v685 w683 ⟨rfl, hp684, hB687, hc686⟩
       have hc686z := Chg.size hc686
       have hB687z := Box.lt hB687
       refine sd rfl (yl_not rfl rfl (dn (bcase ((u_one pC (x616, x617) 5).1) (fun hb688 => ?_) (fun hb688 => ?_))))
       ·refine CW.cond_f rfl (not_t hb688) (CW.skip (bn (tn (CW.region (sd rfl (yl_inc rfl rfl rfl (by omega) (sd rfl (yM rfl rfl (dn ?_)))))))))
        have hB689 : B_u_store_2 pC p_0 p_1 x100 x105 x106 x107 k213 x487 x492 x493 k549 (x611, x616, x617) = .cont (x611, ((u_one pC (x616, x617) 5).2).1, ((u_one pC (x616, x617) 5).2).2) := by simp only [B_u_store_2, hb142, hb688, hL211, cL]
        have q692 := Box.only (Box.ex hf653 hE675) hO678 (by omega)
        have q704 := Box.only (Box.ex hf657 hE675) hO678 (by omega)
        exact ⟨(s_l25Rows p_1 x487).length - (k549 + 1), by omega, k549 + 1, x611, ((u_one pC (x616, x617) 5).2).1, ((u_one pC (x616, x617) 5).2).2, A612, c613, u614, lo615, rfl, hlt666, (by omega), rfl, rfl, rfl, rfl, rfl, rfl, rfl, rfl, rfl, rfl, hB687, (RdS.chg gU q682 hc686 (fun k hl hk => by simp only [InR, or_false, Iv, Ge] at hk ⊢; omega)), (Box.chg q692 hc686 (by have := Box.lt q692; simp only [InR, or_false]; omega)), (RdS.chg gS (RdS.only gS (RdS.ex gS hf654 hE675) hO678 (by simp only [Iv]; omega)) hc686 (fun k hl hk => by simp only [InR, or_false, Iv, Ge] at hk ⊢; omega)), (RdS.chg gI (RdS.only gI (RdS.ex gI hf655 hE675) hO678 (by simp only [Iv]; omega)) hc686 (fun k hl hk => by simp only [InR, or_false, Iv, Ge] at hk ⊢; omega)), (OwnL.chg gW (OwnL.only gW (OwnL.ex gW hf656 hE675) hO678 (by omega)) hc686 (fun k hl hk => by simp only [InR, or_false] at hk; omega)), (Box.chg q704 hc686 (by have := Box.lt q704; simp only [InR, or_false]; omega)), (OwnD.chg goodO_Row (OwnD.only goodO_Row (OwnD.ex goodO_Row hf658 hE675) hO678 (by omega)) hc686 (fun k hl hk => by simp only [InR, or_false] at hk; omega)), (Chg.tchg (Chg.tonly (Chg.tex hf659 hE675) hO678 (by simp only [InR, or_false]; omega)) hc686 (fun k hk => by simp only [InR, or_false] at hk ⊢; omega)), (by omega), (by first | omega | (simp only [lN, toS_length]; omega)), hok662, (by first | omega | assumption | (simp only [wI] at *; omega)), (loopM.cont hlt666 hB689).symm.trans hI639⟩
       ·refine CW.cond_t rfl (not_f hb688) (CW.region (sd rfl (yM rfl rfl ?_)))
        have q713 := Box.only (Box.ex hf653 hE675) hO678 (by omega)
        have q714 := Box.chg q713 hc686 (by have := Box.lt q713; simp only [InR, or_false]; omega)
        refine sd rfl (yl_loadN ty26 rfl rfl (q714.cells (n := 3) rfl) rfl ?_)
        have q716 := Box.only (Box.ex hf657 hE675) hO678 (by omega)
        have q717 := Box.chg q716 hc686 (by have := Box.lt q716; simp only [InR, or_false]; omega)
        refine sd rfl (yl_loadN ty64 rfl rfl (q717.cells (n := 3) rfl) rfl (sd rfl (yl_loadN ty38 rfl rfl ((Box.chg hB677 hc686 (by have := Box.lt hB677; simp only [InR, or_false]; omega)).cells (n := 1) rfl) rfl ?_)))
        have q721 := RdS.chg gS (RdS.only gS (RdS.ex gS hf654 hE675) hO678 (by simp only [Iv]; omega)) hc686 (fun k hl hk => by simp only [InR, or_false, Iv, Ge] at hk ⊢; omega)
        have q724 := RdS.chg gI (RdS.only gI (RdS.ex gI hf655 hE675) hO678 (by simp only [Iv]; omega)) hc686 (fun k hl hk => by simp only [InR, or_false, Iv, Ge] at hk ⊢; omega)
        refine sd rfl (yC en48 rfl (oc rfl (oc rfl (oc rfl oz))) (Cal.mono (c_s_l25Entry p_1 (p_1.Idxs.getD k213 d_Idx) ((s_l25Rows p_1 x487).getD k549 d_Row) (RdS.up q721 gS) (RdS.up q724 gI) (RdS.up (RdS.chg gS (RdS.only gS (RdS.ex gS h669 hE675) hO678 (by simp only [Iv]; omega)) hc686 (fun k hl hk => by simp only [InR, or_false, Iv, Ge] at hk ⊢; omega)) gS) o13 (okL.getD o13.2.2 ok_d_Idx _) (okL.getD ho544 ok_d_Row _) (by first | omega | assumption | (simp only [wI] at *; omega)) (by first | omega | assumption | (simp only [wI] at *; omega)) hrow.2) ?_))
        rintro v730 w728 ⟨rfl, ho729, hE731⟩
        have hE731z := Ex.size hE731
        refine sd rfl (yl_build (cs := [.string (bs ((s_l25Entry p_1 (p_1.Idxs.getD k213 d_Idx) ((s_l25Rows p_1 x487).getD k549 d_Row)))), .string (bs (([] : Str))), .bool (false)]) rfl (oc rfl oz) (by kernel_rfl) (sd rfl (yC en41 rfl (oc rfl (oc rfl oz)) (Cal.mono (c_s_l5PutW x611 (⟨(s_l25Entry p_1 (p_1.Idxs.getD k213 d_Idx) ((s_l25Rows p_1 x487).getD k549 d_Row)), ([] : Str), false⟩ : DWrite) (RdS.up (OwnL.rd gW (OwnL.ex gW (OwnL.chg gW (OwnL.only gW (OwnL.ex gW hf656 hE675) hO678 (by omega)) hc686 (fun k hl hk => by simp only [InR, or_false] at hk; omega)) hE731)) gW) (okL.mk (xs := x611) (by first | omega | (simp only [lN, toS_length]; omega)) hok662) (⟨ho729, (okS.lit rfl)⟩) (by first | omega | assumption | (simp only [wI] at *; omega))) ?_))))
        rintro v741 w737 ⟨A738, c738, lo738, hi738, rfl, h738, ho739, hp740, hrn743, hE742⟩
        have hE742z := Ex.size hE742
        refine sd rfl (yA rfl rfl (SeqR.done (bn (tn (CW.region (sd rfl (yl_inc rfl rfl rfl (by omega) (sd rfl (yM rfl rfl (dn ?_))))))))))
        have hB744 : B_u_store_2 pC p_0 p_1 x100 x105 x106 x107 k213 x487 x492 x493 k549 (x611, x616, x617) = .cont ((s_l5PutW x611 (⟨(s_l25Entry p_1 (p_1.Idxs.getD k213 d_Idx) ((s_l25Rows p_1 x487).getD k549 d_Row)), ([] : Str), false⟩ : DWrite)), ((u_one pC (x616, x617) 5).2).1, ((u_one pC (x616, x617) 5).2).2) := by simp only [B_u_store_2, hb142, hb688, hL211, cL]
        exact ⟨(s_l25Rows p_1 x487).length - (k549 + 1), by omega, k549 + 1, (s_l5PutW x611 (⟨(s_l25Entry p_1 (p_1.Idxs.getD k213 d_Idx) ((s_l25Rows p_1 x487).getD k549 d_Row)), ([] : Str), false⟩ : DWrite)), ((u_one pC (x616, x617) 5).2).1, ((u_one pC (x616, x617) 5).2).2, A738, c738, hi738, lo738, rfl, hlt666, (by omega), rfl, rfl, rfl, rfl, rfl, rfl, rfl, rfl, rfl, rfl, (Box.ex (Box.ex hB687 hE731) hE742), (RdS.ex gU (RdS.ex gU (RdS.chg gU q682 hc686 (fun k hl hk => by simp only [InR, or_false, Iv, Ge] at hk ⊢; omega)) hE731) hE742), (Box.ex (Box.ex q714 hE731) hE742), (RdS.ex gS (RdS.ex gS q721 hE731) hE742), (RdS.ex gI (RdS.ex gI q724 hE731) hE742), h738, (Box.ex (Box.ex q717 hE731) hE742), (OwnD.ex goodO_Row (OwnD.ex goodO_Row (OwnD.chg goodO_Row (OwnD.only goodO_Row (OwnD.ex goodO_Row hf658 hE675) hO678 (by omega)) hc686 (fun k hl hk => by simp only [InR, or_false] at hk; omega)) hE731) hE742), (Chg.tex (Chg.tex (Chg.tchg (Chg.tonly (Chg.tex hf659 hE675) hO678 (by simp only [InR, or_false]; omega)) hc686 (fun k hk => by simp only [InR, or_false] at hk ⊢; omega)) hE731) hE742), (by omega), (by first | omega | (simp only [lN, toS_length]; omega)), (ho739).2, (by first | omega | assumption | (simp only [wI] at *; omega)), (loopM.cont hlt666 hB744).symm.trans hI639⟩
      ·refine CW.seq (CW.region (sd rfl (yl_lss rfl rfl rfl (dn (CW.seq (CW.cond_f rfl (lt_f hlt666) (CW.exit (tx ?_))))))))
       refine tx ?_
       have hL768 : loopM (B_u_store_2 pC p_0 p_1 x100 x105 x106 x107 k213 x487 x492 x493) ((s_l25Rows p_1 x487).length - 0) 0 (x487, x492, x493) = .done (x611, x616, x617) := hI639.symm.trans (loopM.stop hlt666)
       refine bx (tn (CW.seq (CW.region (sd rfl (yM rfl rfl (sd rfl (yC en20 rfl (oc rfl (oc rfl oz)) (Cal.mono (c_u_one pC (x616, x617) 5 hf651 hf652 (by omega) (by omega) o6 (by omega) (by assumption)) ?_))))))))
       rintro v771 w769 ⟨rfl, hp770, hB773, hc772⟩
       have hc772z := Chg.size hc772
       have hB773z := Box.lt hB773
       refine dn (bcase ((u_one pC (x616, x617) 5).1) (fun hb774 => ?_) (fun hb774 => ?_))
       ·refine CW.cond_t rfl hb774 ?_
        have q775 := Box.chg hf653 hc772 (by have := Box.lt hf653; simp only [InR, or_false]; omega)
        have q776 := Box.chg hf657 hc772 (by have := Box.lt hf657; simp only [InR, or_false]; omega)
        have q777 := RdS.chg gU hf652 hc772 (fun k hl hk => by simp only [InR, or_false, Iv, Ge] at hk ⊢; omega)
        have q778 := RdS.chg gS hf654 hc772 (fun k hl hk => by simp only [InR, or_false, Iv, Ge] at hk ⊢; omega)
        have q779 := RdS.chg gI hf655 hc772 (fun k hl hk => by simp only [InR, or_false, Iv, Ge] at hk ⊢; omega)
        have hrf794 := rf_row pC ((u_one pC (x616, x617) 5).2) p_1 (by omega)
        refine CW.drawsG 10 (fun G b => G.dn 5 = true ∧ InR [(b1, b1 + 1)] b) (fun i G b => (i = 5 ∧ b1 ≤ b ∧ b < b1 + 1)) (vgetG [DetG (.slice A612 x611.length c613), DetG (.agg #[.string (bs (p_1.Name)), .slice A7 p_1.Cols.length c7, .slice A10 p_1.Idxs.length c10]), DetG (.agg #[.string (bs ((p_1.Idxs.getD k213 d_Idx).Name)), .int .i64 ((p_1.Idxs.getD k213 d_Idx).Col), .int .i64 ((p_1.Idxs.getD k213 d_Idx).Stage)]), DetG (.pointer (some ⟨b1, 0, none⟩)), DetG (.agg #[.string (bs (p_1.Name)), .slice A7 p_1.Cols.length c7, .slice A10 p_1.Idxs.length c10]), fun G v wq => ∃ A781 c781 lo781 hi781, v = .agg #[.slice A781 (((u_row pC ((u_one pC (x616, x617) 5).2) p_1).1.Vals).length) c781] ∧ OwnL wq lo781 hi781 9 1 (RF e_Str) A781 (((u_row pC ((u_one pC (x616, x617) 5).2) p_1).1.Vals).length) c781 ((u_row pC ((u_one pC (x616, x617) 5).2) p_1).1.Vals) ∧ ok_Row ((u_row pC ((u_one pC (x616, x617) 5).2) p_1).1) ∧ (((u_one pC (x616, x617) 5).2).1 ≤ ((u_row pC ((u_one pC (x616, x617) 5).2) p_1).2).1 ∧ ((u_row pC ((u_one pC (x616, x617) 5).2) p_1).2).1 ≤ ((u_one pC (x616, x617) 5).2).1 + 64) ∧ Box wq b1 46 [.slice A3 pC.length c3, .int .i64 (((u_row pC ((u_one pC (x616, x617) 5).2) p_1).2).1), .int .u64 (((u_row pC ((u_one pC (x616, x617) 5).2) p_1).2).2)] ∧ ((G.fl 5) ≤ lo781 ∧ lo781 ≤ hi781 ∧ hi781 ≤ (G.fh 5)), fun G v wq => v = .string (bs ((s_l25Entry p_1 (p_1.Idxs.getD k213 d_Idx) ((u_row pC ((u_one pC (x616, x617) 5).2) p_1).1)))) ∧ okS (s_l25Entry p_1 (p_1.Idxs.getD k213 d_Idx) ((u_row pC ((u_one pC (x616, x617) 5).2) p_1).1)), DetG (.agg #[.string (bs ((s_l25Entry p_1 (p_1.Idxs.getD k213 d_Idx) ((u_row pC ((u_one pC (x616, x617) 5).2) p_1).1)))), .string (bs (([] : Str))), .bool (false)]), fun G v wq => ∃ A790 c790 lo790 hi790, v = .slice A790 ((s_l5PutW x611 (⟨(s_l25Entry p_1 (p_1.Idxs.getD k213 d_Idx) ((u_row pC ((u_one pC (x616, x617) 5).2) p_1).1)), ([] : Str), false⟩ : DWrite)).length) c790 ∧ OwnL wq lo790 hi790 66 3 (RF e_Write) A790 ((s_l5PutW x611 (⟨(s_l25Entry p_1 (p_1.Idxs.getD k213 d_Idx) ((u_row pC ((u_one pC (x616, x617) 5).2) p_1).1)), ([] : Str), false⟩ : DWrite)).length) c790 (s_l5PutW x611 (⟨(s_l25Entry p_1 (p_1.Idxs.getD k213 d_Idx) ((u_row pC ((u_one pC (x616, x617) 5).2) p_1).1)), ([] : Str), false⟩ : DWrite)) ∧ (okL ok_Write) (s_l5PutW x611 (⟨(s_l25Entry p_1 (p_1.Idxs.getD k213 d_Idx) ((u_row pC ((u_one pC (x616, x617) 5).2) p_1).1)), ([] : Str), false⟩ : DWrite)) ∧ (s_l5PutW x611 (⟨(s_l25Entry p_1 (p_1.Idxs.getD k213 d_Idx) ((u_row pC ((u_one pC (x616, x617) 5).2) p_1).1)), ([] : Str), false⟩ : DWrite)).length ≤ x611.length + 1 ∧ ((G.fl 8) ≤ lo790 ∧ lo790 ≤ hi790 ∧ hi790 ≤ (G.fh 8)), fun G v wq => ∃ A790 c790 lo790 hi790, v = .slice A790 ((s_l5PutW x611 (⟨(s_l25Entry p_1 (p_1.Idxs.getD k213 d_Idx) ((u_row pC ((u_one pC (x616, x617) 5).2) p_1).1)), ([] : Str), false⟩ : DWrite)).length) c790 ∧ OwnL wq lo790 hi790 66 3 (RF e_Write) A790 ((s_l5PutW x611 (⟨(s_l25Entry p_1 (p_1.Idxs.getD k213 d_Idx) ((u_row pC ((u_one pC (x616, x617) 5).2) p_1).1)), ([] : Str), false⟩ : DWrite)).length) c790 (s_l5PutW x611 (⟨(s_l25Entry p_1 (p_1.Idxs.getD k213 d_Idx) ((u_row pC ((u_one pC (x616, x617) 5).2) p_1).1)), ([] : Str), false⟩ : DWrite)) ∧ ((G.fl 8) ≤ lo790 ∧ lo790 ≤ hi790 ∧ hi790 ≤ (G.fh 8))]) Tryz.follows rfl rfl rfl rfl rfl rfl (fun _ _ _ _ _ h => ⟨Gh.udn h.1, h.2⟩) (fun i G w lo hi b K hn hh hp => by exact (match hp with | ⟨e, q1, q2⟩ => by subst e; exact .inl ⟨Gh.sdn, .inl ⟨q1, q2⟩⟩)) (vgetG_kept ⟨(KeptG.det _), (KeptG.det _), (KeptG.det _), (KeptG.det _), (KeptG.det _), (by rintro i G v w w' K hn hh hj ⟨A781, c781, lo781, hi781, hv, h0, h1, h2, h3, hr0⟩ e; have d5 : G.dn 5 = true := hj; have u5 := Gh.ufl (lo := w.heap.size) (hi := w'.heap.size) d5 hn; have t5 := Gh.ufh (lo := w.heap.size) (hi := w'.heap.size) d5 hn; exact ⟨A781, c781, lo781, hi781, hv, (by exact OwnL.chg gS h0 e (fun b hb hp => by obtain ⟨rfl, q1, q2⟩ := hp; rw [hj] at hn; cases hn)), h1, h2, (by exact Box.chg h3 e (fun hp => by obtain ⟨rfl, q1, q2⟩ := hp; rw [hj] at hn; cases hn)), (by simp only [u5, t5]; exact hr0)⟩), (by rintro i G v w w' K hn hh hj ⟨hv, h0⟩ e; exact ⟨hv, h0⟩), (KeptG.det _), (by rintro i G v w w' K hn hh hj ⟨A790, c790, lo790, hi790, hv, h0, h1, h2, hr0⟩ e; have d8 : G.dn 8 = true := hj; have u8 := Gh.ufl (lo := w.heap.size) (hi := w'.heap.size) d8 hn; have t8 := Gh.ufh (lo := w.heap.size) (hi := w'.heap.size) d8 hn; exact ⟨A790, c790, lo790, hi790, hv, (by exact OwnL.chg gW h0 e (fun b hb hp => by obtain ⟨rfl, q1, q2⟩ := hp; rw [K.cl 8 5 hj rfl] at hn; cases hn)), h1, h2, (by simp only [u8, t8]; exact hr0)⟩), (by rintro i G v w w' K hn hh hj ⟨A790, c790, lo790, hi790, hv, h0, hr0⟩ e; have d8 : G.dn 8 = true := K.cl 9 8 hj rfl; have u8 := Gh.ufl (lo := w.heap.size) (hi := w'.heap.size) d8 hn; have t8 := Gh.ufh (lo := w.heap.size) (hi := w'.heap.size) d8 hn; exact ⟨A790, c790, lo790, hi790, hv, (by exact OwnL.chg gW h0 e (fun b hb hp => by obtain ⟨rfl, q1, q2⟩ := hp; rw [K.cl 9 5 hj rfl] at hn; cases hn)), (by simp only [u8, t8]; exact hr0)⟩), trivial⟩) ⟨?_, ?_, ?_, ?_, ?_, ?_, ?_, ?_, ?_, ?_, trivial⟩ ?_
        ·intro L796 w797 G795 hgk798
         have hE799 : Chg (fun b => InR [(b1, b1 + 1)] b ∨ w769.heap.size ≤ b) w769 w797 := hgk798.st.ex.imp (fun b _ h => h.imp (fun h => h.2) (fun h => h))
         have hE799z := Chg.size hE799
         exact OpR.op' rfl (Yl.sameG (yM rfl (hgk798.old 5 _ rfl rfl) kI))
        ·intro L802 w803 G801 hgk804
         have hE805 : Chg (fun b => InR [(b1, b1 + 1)] b ∨ w769.heap.size ≤ b) w769 w803 := hgk804.st.ex.imp (fun b _ h => h.imp (fun h => h.2) (fun h => h))
         have hE805z := Chg.size hE805
         exact OpR.op' rfl (Yl.sameG (yl_loadN ty26 rfl (hgk804.old 3 _ rfl rfl) ((Box.chg q775 hE805 (by have := Box.lt q775; simp only [InR, or_false]; omega)).cells (n := 3) rfl) rfl kI))
        ·intro L809 w810 G808 hgk811
         have hE812 : Chg (fun b => InR [(b1, b1 + 1)] b ∨ w769.heap.size ≤ b) w769 w810 := hgk811.st.ex.imp (fun b _ h => h.imp (fun h => h.2) (fun h => h))
         have hE812z := Chg.size hE812
         exact OpR.op' rfl (Yl.sameG (yl_loadN ty64 rfl (hgk811.old 9 _ rfl rfl) ((Box.chg q776 hE812 (by have := Box.lt q776; simp only [InR, or_false]; omega)).cells (n := 3) rfl) rfl kI))
        ·intro L816 w817 G815 hgk818
         have hE819 := hgk818.st.ex.ex (fun b h => h.elim (fun h => hgk818.no rfl h) (fun h => h))
         have hE819z := Ex.size hE819
         exact OpR.op' rfl (Yl.sameG (yM rfl (hgk818.old 0 _ rfl rfl) kI))
        ·intro L822 w823 G821 hgk824
         have hE825 := hgk824.st.ex.ex (fun b h => h.elim (fun h => hgk824.no rfl h) (fun h => h))
         have hE825z := Ex.size hE825
         exact OpR.op' rfl (Yl.sameG (yl_loadN ty26 rfl (hgk824.old 3 _ rfl rfl) ((Box.ex q775 hE825).cells (n := 3) rfl) rfl kI))
        ·intro L829 w830 G828 hgk831
         have hE832 := hgk831.st.ex.ex (fun b h => h.elim (fun h => hgk831.nw h) (fun h => h))
         have hE832z := Ex.size hE832
         obtain ⟨_, hx833, rfl⟩ := hgk831.val 3 57 rfl rfl
         obtain ⟨_, hx834, rfl⟩ := hgk831.val 4 58 rfl rfl
         refine OpR.op' rfl (yC en67 rfl (oc hx833 (oc hx834 oz)) (Cal.mono (c_u_row pC ((u_one pC (x616, x617) 5).2) p_1 (Box.ex hB773 hE832) (RdS.ex gU q777 hE832) (by omega) (by omega) (RdS.ex gS q778 hE832) (by omega) (by omega) (RdS.ex gI q779 hE832) (by omega) (by omega) o6 o13 (by first | omega | assumption | (simp only [wI] at *; omega)) (by omega) (by assumption)) ?_))
         rintro v843 w839 ⟨A840, c840, lo840, hi840, rfl, h840, ho841, hp842, hB846, hrn845, hE844⟩
         exact ⟨hE844.imp (fun k _ hk => hk.elim (fun hk => (⟨rfl, hk.1, hk.2⟩)) False.elim), A840, c840, lo840, hi840, rfl, h840, ho841, hp842, hB846, hrn845⟩
        ·intro L848 w849 G847 hgk850
         have hE851 : Chg (fun b => InR [(b1, b1 + 1)] b ∨ w769.heap.size ≤ b) w769 w849 := hgk850.st.ex.imp (fun b _ h => h.imp (fun h => h.2) (fun h => h))
         have hE851z := Chg.size hE851
         obtain ⟨_, hx852, rfl⟩ := hgk850.val 1 55 rfl rfl
         obtain ⟨_, hx853, rfl⟩ := hgk850.val 2 56 rfl rfl
         obtain ⟨_, hx854, A781_855, c781_856, lo781_857, hi781_858, rfl, h859, h860, h861, h862, hrn863⟩ := hgk850.val 5 59 rfl rfl
         have hr864 := hgk850.st.rng 5 (hgk850.has 5 rfl)
         refine OpR.op' rfl (yC en48 rfl (oc hx852 (oc hx853 (oc hx854 oz))) (Cal.mono (c_s_l25Entry p_1 (p_1.Idxs.getD k213 d_Idx) ((u_row pC ((u_one pC (x616, x617) 5).2) p_1).1) (RdS.up (RdS.chg gS q778 hE851 (fun k hl hk => by simp only [InR, or_false, Iv, Ge] at hk ⊢; omega)) gS) (RdS.up (RdS.chg gI q779 hE851 (fun k hl hk => by simp only [InR, or_false, Iv, Ge] at hk ⊢; omega)) gI) (RdS.up (OwnL.rd gS h859) gS) o13 (okL.getD o13.2.2 ok_d_Idx _) h860 (by first | omega | assumption | (simp only [wI] at *; omega)) (by first | omega | assumption | (simp only [wI] at *; omega)) (rf_row pC ((u_one pC (x616, x617) 5).2) p_1 (by omega)).2) ?_))
         rintro v870 w868 ⟨rfl, ho869, hE871⟩
         exact ⟨Chg.of_ex hE871, rfl, ho869⟩
        ·intro L873 w874 G872 hgk875
         have hE876 : Chg (fun b => InR [(b1, b1 + 1)] b ∨ w769.heap.size ≤ b) w769 w874 := hgk875.st.ex.imp (fun b _ h => h.imp (fun h => h.2) (fun h => h))
         have hE876z := Chg.size hE876
         obtain ⟨_, hx877, rfl, h878⟩ := hgk875.val 6 60 rfl rfl
         have hr879 := hgk875.st.rng 6 (hgk875.has 6 rfl)
         exact OpR.op' rfl (Yl.sameG (yl_build (cs := [.string (bs ((s_l25Entry p_1 (p_1.Idxs.getD k213 d_Idx) ((u_row pC ((u_one pC (x616, x617) 5).2) p_1).1)))), .string (bs (([] : Str))), .bool (false)]) rfl (oc hx877 oz) (by kernel_rfl) kI))
        ·intro L881 w882 G880 hgk883
         have hE884 : Chg (fun b => InR [(b1, b1 + 1)] b ∨ w769.heap.size ≤ b) w769 w882 := hgk883.st.ex.imp (fun b _ h => h.imp (fun h => h.2) (fun h => h))
         have hE884z := Chg.size hE884
         obtain ⟨_, hx885, rfl⟩ := hgk883.val 0 54 rfl rfl
         obtain ⟨_, hx886, rfl⟩ := hgk883.val 7 61 rfl rfl
         obtain ⟨_, A781_887, c781_888, lo781_889, hi781_890, rfl, h891, h892, h893, h894, hrn895⟩ := hgk883.fact 5 rfl
         obtain ⟨_, rfl, h896⟩ := hgk883.fact 6 rfl
         have hr897 := hgk883.st.rng 5 (hgk883.has 5 rfl)
         have hr898 := hgk883.st.rng 6 (hgk883.has 6 rfl)
         have hsp899 := hgk883.st.ord 6 5 (hgk883.has 6 rfl) rfl
         refine OpR.op' rfl (yC en41 rfl (oc hx885 (oc hx886 oz)) (Cal.mono (c_s_l5PutW x611 (⟨(s_l25Entry p_1 (p_1.Idxs.getD k213 d_Idx) ((u_row pC ((u_one pC (x616, x617) 5).2) p_1).1)), ([] : Str), false⟩ : DWrite) (RdS.up (OwnL.rd gW (OwnL.chg gW (OwnL.chg gW hf656 hc772 (fun k hl hk => by simp only [InR, or_false] at hk; omega)) hE884 (fun k hl hk => by simp only [InR, or_false] at hk; omega))) gW) (okL.mk (xs := x611) (by first | omega | (simp only [lN, toS_length]; omega)) hok662) (⟨h896, (okS.lit rfl)⟩) (by first | omega | assumption | (simp only [wI] at *; omega))) ?_))
         rintro v906 w902 ⟨A903, c903, lo903, hi903, rfl, h903, ho904, hp905, hrn908, hE907⟩
         exact ⟨Chg.of_ex hE907, A903, c903, lo903, hi903, rfl, h903, ho904, hp905, hrn908⟩
        ·intro L910 w911 G909 hgk912
         have hE913 : Chg (fun b => InR [(b1, b1 + 1)] b ∨ w769.heap.size ≤ b) w769 w911 := hgk912.st.ex.imp (fun b _ h => h.imp (fun h => h.2) (fun h => h))
         have hE913z := Chg.size hE913
         obtain ⟨_, hx914, A790_915, c790_916, lo790_917, hi790_918, rfl, h919, h920, h921, hrn922⟩ := hgk912.val 8 62 rfl rfl
         have hr923 := hgk912.st.rng 8 (hgk912.has 8 rfl)
         exact OpR.op' rfl (Yl.sameG (yA rfl hx914 ⟨fun _ _ => ⟨A790_915, c790_916, lo790_917, hi790_918, rfl, h919, (show ((G909.fl 8) ≤ lo790_917 ∧ lo790_917 ≤ hi790_918 ∧ hi790_918 ≤ (G909.fh 8)) by omega)⟩, rfl⟩))
        ·intro G924 L925 w926 hgp927
         have hE928 : Chg (fun b => InR [(b1, b1 + 1)] b ∨ w769.heap.size ≤ b) w769 w926 := hgp927.st.ex.imp (fun b _ h => h.imp (fun h => h.2) (fun h => h))
         have hE928z := Chg.size hE928
         obtain ⟨_, hx934, A781_935, c781_936, lo781_937, hi781_938, rfl, h939, h940, h941, h942, hrn943⟩ := hgp927.val 5 59 rfl rfl
         obtain ⟨_, hx944, rfl, h945⟩ := hgp927.val 6 60 rfl rfl
         obtain ⟨_, hx946, A790_947, c790_948, lo790_949, hi790_950, rfl, h951, h952, h953, hrn954⟩ := hgp927.val 8 62 rfl rfl
         obtain ⟨_, hx955, A790_956, c790_957, lo790_958, hi790_959, rfl, h960, hrn961⟩ := hgp927.val 9 5 rfl rfl
         have hbz962 := Box.lt h942
         have hr963 := hgp927.st.rng 5 (hgp927.has 5 rfl)
         have hr964 := hgp927.st.rng 6 (hgp927.has 6 rfl)
         have hr965 := hgp927.st.rng 8 (hgp927.has 8 rfl)
         have hr966 := hgp927.st.rng 9 (hgp927.has 9 rfl)
         have hsp967 := hgp927.st.ord 6 5 (hgp927.has 6 rfl) rfl
         have hsp968 := hgp927.st.ord 8 5 (hgp927.has 8 rfl) rfl
         have hsp969 := hgp927.st.ord 9 5 (hgp927.has 9 rfl) rfl
         have hsp970 := hgp927.st.ord 8 6 (hgp927.has 8 rfl) rfl
         have hsp971 := hgp927.st.ord 9 6 (hgp927.has 9 rfl) rfl
         have hsp972 := hgp927.st.ord 9 8 (hgp927.has 9 rfl) rfl
         refine SeqR.done (bn (tn (CW.sub (Sub.cons (d := 0) (hgp927.old 0 _ rfl rfl) (Sub.cons (d := 3) (hgp927.old 3 _ rfl rfl) (Sub.cons (d := 5) hx955 (Sub.cons (d := 27) (hgp927.old 27 _ rfl rfl) (Sub.cons (d := 28) (hgp927.old 28 _ rfl rfl) (Sub.cons (d := 29) (hgp927.old 29 _ rfl rfl) (Sub.nil _))))))) (CW.region (sd rfl (yl_inc rfl rfl rfl (by omega) (sd rfl (yM rfl rfl (dn ?_)))))))))
         have hB973 : B_u_store_1 pC p_0 p_1 x100 x105 x106 x107 k213 (x487, x492, x493) = .cont ((s_l5PutW x611 (⟨(s_l25Entry p_1 (p_1.Idxs.getD k213 d_Idx) ((u_row pC ((u_one pC (x616, x617) 5).2) p_1).1)), ([] : Str), false⟩ : DWrite)), ((u_row pC ((u_one pC (x616, x617) 5).2) p_1).2).1, ((u_row pC ((u_one pC (x616, x617) 5).2) p_1).2).2) := by simp only [B_u_store_1, hb142, hb774, hL211, hL768, cL]
         exact ⟨p_1.Idxs.length - (k213 + 1), by omega, k213 + 1, (s_l5PutW x611 (⟨(s_l25Entry p_1 (p_1.Idxs.getD k213 d_Idx) ((u_row pC ((u_one pC (x616, x617) 5).2) p_1).1)), ([] : Str), false⟩ : DWrite)), ((u_row pC ((u_one pC (x616, x617) 5).2) p_1).2).1, ((u_row pC ((u_one pC (x616, x617) 5).2) p_1).2).2, A790_956, c790_957, hi790_959, lo790_958, rfl, hlt522, (by omega), rfl, rfl, rfl, rfl, rfl, rfl, h942, (RdS.chg gU q777 hE928 (fun k hl hk => by simp only [InR, or_false, Iv, Ge] at hk ⊢; omega)), (Box.chg q775 hE928 (by have := Box.lt q775; simp only [InR, or_false]; omega)), (RdS.chg gS q778 hE928 (fun k hl hk => by simp only [InR, or_false, Iv, Ge] at hk ⊢; omega)), (RdS.chg gI q779 hE928 (fun k hl hk => by simp only [InR, or_false, Iv, Ge] at hk ⊢; omega)), h960, (Chg.tchg (Chg.tchg hf659 hc772 (fun k hk => by simp only [InR, or_false] at hk ⊢; omega)) hE928 (fun k hk => by simp only [InR, or_false] at hk ⊢; omega)), (by omega), (by first | omega | (simp only [lN, toS_length]; omega)), (h952).2, (by first | omega | assumption | (simp only [wI] at *; omega)), (by first | omega | assumption | (simp only [wI] at *; omega)), (loopM.cont hlt522 hB973).symm.trans hI501⟩
       ·refine CW.cond_f rfl hb774 (CW.skip (bn (tn (CW.region (sd rfl (yl_inc rfl rfl rfl (by omega) (sd rfl (yM rfl rfl (dn ?_)))))))))
        have hB980 : B_u_store_1 pC p_0 p_1 x100 x105 x106 x107 k213 (x487, x492, x493) = .cont (x611, ((u_one pC (x616, x617) 5).2).1, ((u_one pC (x616, x617) 5).2).2) := by simp only [B_u_store_1, hb142, hb774, hL211, hL768, cL]
        exact ⟨p_1.Idxs.length - (k213 + 1), by omega, k213 + 1, x611, ((u_one pC (x616, x617) 5).2).1, ((u_one pC (x616, x617) 5).2).2, A612, c613, u614, lo615, rfl, hlt522, (by omega), rfl, rfl, rfl, rfl, rfl, rfl, hB773, (RdS.chg gU hf652 hc772 (fun k hl hk => by simp only [InR, or_false, Iv, Ge] at hk ⊢; omega)), (Box.chg hf653 hc772 (by have := Box.lt hf653; simp only [InR, or_false]; omega)), (RdS.chg gS hf654 hc772 (fun k hl hk => by simp only [InR, or_false, Iv, Ge] at hk ⊢; omega)), (RdS.chg gI hf655 hc772 (fun k hl hk => by simp only [InR, or_false, Iv, Ge] at hk ⊢; omega)), (OwnL.chg gW hf656 hc772 (fun k hl hk => by simp only [InR, or_false] at hk; omega)), (Chg.tchg hf659 hc772 (fun k hk => by simp only [InR, or_false] at hk ⊢; omega)), (by omega), (by first | omega | (simp only [lN, toS_length]; omega)), hok662, (by first | omega | assumption | (simp only [wI] at *; omega)), (by first | omega | assumption | (simp only [wI] at *; omega)), (loopM.cont hlt522 hB980).symm.trans hI501⟩
    ·refine CW.seq (CW.region (sd rfl (yl_lss rfl rfl rfl (dn (CW.seq (CW.cond_f rfl (lt_f hlt522) (CW.exit (tx ?_))))))))
     refine tx ?_
     have hL987 : loopM (B_u_store_1 pC p_0 p_1 x100 x105 x106 x107) (p_1.Idxs.length - 0) 0 (x100, x106, x107) = .done (x487, x492, x493) := hI501.symm.trans (loopM.stop hlt522)
     refine bx (tn (CW.seq (CW.seq (CW.region (sd rfl (yM rfl rfl (sd rfl (yC en20 rfl (oc rfl (oc rfl oz)) (Cal.mono (c_u_one pC (x492, x493) 6 hf509 hf510 (by omega) (by omega) o6 (by omega) (by assumption)) ?_)))))))))
     rintro v990 w988 ⟨rfl, hp989, hB992, hc991⟩
     have hc991z := Chg.size hc991
     have hB992z := Box.lt hB992
     refine dn (bcase ((u_one pC (x492, x493) 6).1) (fun hb993 => ?_) (fun hb993 => ?_))
     ·refine CW.cond_t rfl hb993 (CW.region (sd rfl (yM rfl rfl (sd rfl (yM rfl rfl ?_)))))
      have q994 := RdS.chg gU hf510 hc991 (fun k hl hk => by simp only [InR, or_false, Iv, Ge] at hk ⊢; omega)
      refine sd rfl (yC en69 rfl (oc rfl oz) (Cal.mono (c_u_key pC ((u_one pC (x492, x493) 6).2) hB992 q994 (by omega) (by omega) o6 (by omega) (by assumption)) ?_))
      rintro v998 w995 ⟨rfl, ho996, hp997, hB1000, hc999⟩
      have hc999z := Chg.size hc999
      have hB1000z := Box.lt hB1000
      refine sd rfl (yM rfl rfl (sd rfl (yC en70 rfl (oc rfl oz) (Cal.mono (c_u_val pC ((u_key pC ((u_one pC (x492, x493) 6).2)).2) hB1000 (RdS.chg gU q994 hc999 (fun k hl hk => by simp only [InR, or_false, Iv, Ge] at hk ⊢; omega)) (by omega) (by omega) o6 (by omega) (by assumption)) ?_))))
      rintro v1005 w1002 ⟨rfl, ho1003, hp1004, hB1007, hc1006⟩
      have hc1006z := Chg.size hc1006
      have hB1007z := Box.lt hB1007
      refine sd rfl (yl_build (cs := [.string (bs ((u_key pC ((u_one pC (x492, x493) 6).2)).1)), .string (bs ((u_val pC ((u_key pC ((u_one pC (x492, x493) 6).2)).2)).1)), .bool (false)]) rfl (oc rfl (oc rfl oz)) (by kernel_rfl) (sd rfl (yC en41 rfl (oc rfl (oc rfl oz)) (Cal.mono (c_s_l5PutW x487 (⟨(u_key pC ((u_one pC (x492, x493) 6).2)).1, (u_val pC ((u_key pC ((u_one pC (x492, x493) 6).2)).2)).1, false⟩ : DWrite) (RdS.up (OwnL.rd gW (OwnL.chg gW (OwnL.chg gW (OwnL.chg gW hf514 hc991 (fun k hl hk => by simp only [InR, or_false] at hk; omega)) hc999 (fun k hl hk => by simp only [InR, or_false] at hk; omega)) hc1006 (fun k hl hk => by simp only [InR, or_false] at hk; omega))) gW) (okL.mk (xs := x487) (by first | omega | (simp only [lN, toS_length]; omega)) hok518) (⟨ho996, ho1003⟩) (by first | omega | assumption | (simp only [wI] at *; omega))) ?_))))
      rintro v1016 w1012 ⟨A1013, c1013, lo1013, hi1013, rfl, h1013, ho1014, hp1015, hrn1018, hE1017⟩
      have hE1017z := Ex.size hE1017
      refine sd rfl (yA rfl rfl (dn (CW.seq (CW.region (sd rfl (yM rfl rfl (sd rfl (yA rfl rfl (dn ?_)))))))))
      refine CW.ret (rr rfl (.cons rfl .nil) ?_)
      have hM1019 : (u_store pC p_0 p_1) = (((s_l5PutW x487 (⟨(u_key pC ((u_one pC (x492, x493) 6).2)).1, (u_val pC ((u_key pC ((u_one pC (x492, x493) 6).2)).2)).1, false⟩ : DWrite)), (((u_val pC ((u_key pC ((u_one pC (x492, x493) 6).2)).2)).2).1, ((u_val pC ((u_key pC ((u_one pC (x492, x493) 6).2)).2)).2).2))) := by first | (simp only [u_store, hb993, hL211, hL987, cond_true, cond_false, loopE_done, loopE_ret, pairE]; done) | (simp only [u_store, hb142, hb993, hL211, hL987, cL]; done) | (simp only [u_store, hb142, hb993, hL211, hL987, cond_true, cond_false, loopE_done, loopE_ret, pairE]; done) | exact (show (u_store pC p_0 p_1) = (((s_l5PutW x487 (⟨(u_key pC ((u_one pC (x492, x493) 6).2)).1, (u_val pC ((u_key pC ((u_one pC (x492, x493) 6).2)).2)).1, false⟩ : DWrite)), ((u_val pC ((u_key pC ((u_one pC (x492, x493) 6).2)).2)).2))) from by simp only [u_store, hb142, hb993, hL211, hL987, cond_true, cond_false, loopE_done, loopE_ret, pairE])
      rw [hM1019]
      exact ⟨A1013, c1013, lo1013, hi1013, rfl, h1013, ho1014, (by (try dsimp only); first | omega | assumption | (simp only [wI] at *; omega)), (by (try dsimp only); first | omega | assumption | (simp only [wI] at *; omega)), (Box.ex hB1007 hE1017), (by omega), (Chg.tex (Chg.tchg (Chg.tchg (Chg.tchg hf515 hc991 (fun k hk => by simp only [InR, or_false] at hk ⊢; omega)) hc999 (fun k hk => by simp only [InR, or_false] at hk ⊢; omega)) hc1006 (fun k hk => by simp only [InR, or_false] at hk ⊢; omega)) hE1017)⟩
     ·refine CW.cond_f rfl hb993 (CW.skip (tn (CW.seq (CW.region (sd rfl (yM rfl rfl (sd rfl (yA rfl rfl (dn ?_)))))))))
      refine CW.ret (rr rfl (.cons rfl .nil) ?_)
      have hM1025 : (u_store pC p_0 p_1) = ((x487, (((u_one pC (x492, x493) 6).2).1, ((u_one pC (x492, x493) 6).2).2))) := by first | (simp only [u_store, hb993, hL211, hL987, cond_true, cond_false, loopE_done, loopE_ret, pairE]; done) | (simp only [u_store, hb142, hb993, hL211, hL987, cL]; done) | (simp only [u_store, hb142, hb993, hL211, hL987, cond_true, cond_false, loopE_done, loopE_ret, pairE]; done) | exact (show (u_store pC p_0 p_1) = ((x487, ((u_one pC (x492, x493) 6).2))) from by simp only [u_store, hb142, hb993, hL211, hL987, cond_true, cond_false, loopE_done, loopE_ret, pairE])
      rw [hM1025]
      exact ⟨A488, c489, lo491, u490, rfl, (OwnL.chg gW hf514 hc991 (fun k hl hk => by simp only [InR, or_false] at hk; omega)), (okL.mk (xs := x487) (by first | omega | (simp only [lN, toS_length]; omega)) hok518), (by (try dsimp only); first | omega | assumption | (simp only [wI] at *; omega)), (by (try dsimp only); first | omega | assumption | (simp only [wI] at *; omega)), hB992, (by omega), (Chg.tchg hf515 hc991 (fun k hk => by simp only [InR, or_false] at hk ⊢; omega))⟩
theorem c_u_bentStore {A3 : Option Addr} {c3 : Nat} {slo3 shi3 : Nat} {b1 : Nat} {A7 : Option Addr} {c7 : Nat} {slo7 shi7 : Nat} {A10 : Option Addr} {c10 : Nat} {slo10 shi10 : Nat} {w : World} (pC : List Int) (p_c : Int × Int) (p_t : DTable) (h2 : Box w b1 46 [.slice A3 pC.length c3, .int .i64 (p_c.1), .int .u64 (p_c.2)]) (h3 : RdS w (Iv slo3 shi3) (RF e_U8) 1 A3 pC.length c3 pC) (hrn4 : shi3 ≤ w.heap.size) (hrn5 : b1 < slo3 ∨ shi3 ≤ b1) (h7 : RdS w (Iv slo7 shi7) (RF e_Str) 1 A7 p_t.Cols.length c7 p_t.Cols) (hrn8 : shi7 ≤ w.heap.size) (hrn9 : b1 < slo7 ∨ shi7 ≤ b1) (h10 : RdS w (Iv slo10 shi10) (RF e_Idx) 3 A10 p_t.Idxs.length c10 p_t.Idxs) (hrn11 : shi10 ≤ w.heap.size) (hrn12 : b1 < slo10 ∨ shi10 ≤ b1) (o6 : (okL okT) pC) (o13 : ok_Table p_t) (pre0 : drawT p_t) (pre1 : (0 ≤ p_c.1 ∧ p_c.1 ≤ 4611686018427379712)) (pre2 : codeOk pC) : Cal Tryz.prog 19 #[.pointer (some ⟨b1, 0, none⟩), .agg #[.string (bs (p_t.Name)), .slice A7 p_t.Cols.length c7, .slice A10 p_t.Idxs.length c10]] w fun v w' => ∃ A_1 c_1 lo_1 hi_1, v = .slice A_1 (((u_bentStore pC p_c p_t).1).length) c_1 ∧ OwnL w' lo_1 hi_1 66 3 (RF e_Write) A_1 (((u_bentStore pC p_c p_t).1).length) c_1 ((u_bentStore pC p_c p_t).1) ∧ (okL ok_Write) ((u_bentStore pC p_c p_t).1) ∧ (p_c.1 ≤ ((u_bentStore pC p_c p_t).2).1 ∧ ((u_bentStore pC p_c p_t).2).1 ≤ p_c.1 + 8192) ∧ Box w' b1 46 [.slice A3 pC.length c3, .int .i64 (((u_bentStore pC p_c p_t).2).1), .int .u64 (((u_bentStore pC p_c p_t).2).2)] ∧ (w.heap.size ≤ lo_1 ∧ lo_1 ≤ hi_1 ∧ hi_1 ≤ w'.heap.size) ∧ Chg (InR [(b1, b1 + 1)]) w w' := by
 have hol14 := o6.1
 have hbx15 := Box.lt h2
 have hol16 : p_t.Name.length ≤ 1073741824 := o13.1
 have hol17 := o13.2.1.1
 have hol18 := o13.2.2.1
 obtain ⟨hd1, hd2, hd3, hd4, hd5⟩ := id pre0
 refine Cal.of func19 rfl ntmps19 rfl (CW.seq (CW.region (sd rfl (yl_box rfl rfl rfl ?_))))
 intro b19 w20 hs21 hz22 hB23 hE24
 refine sd rfl (yA rfl rfl (dn (CW.seq (CW.region (sd rfl (yM rfl rfl (sd rfl (yl_loadN ty26 rfl rfl (hB23.cells (n := 3) rfl) rfl ?_))))))))
 have q26 := RdS.ex gU h3 hE24
 refine sd rfl (yC en40 rfl (oc rfl (oc rfl oz)) (Cal.mono (c_u_store pC p_c p_t (Box.ex h2 hE24) q26 (by omega) (by omega) (RdS.ex gS h7 hE24) (by omega) (by omega) (RdS.ex gI h10 hE24) (by omega) (by omega) o6 o13 (by first | omega | assumption | (simp only [wI] at *; omega)) (by omega) (by assumption)) ?_))
 rintro v34 w29 ⟨A30, c30, lo30, hi30, rfl, h30, ho31, hp32, hp33, hB36, hrn37, hc35⟩
 have hc35z := Chg.size hc35
 have hB36z := Box.lt hB36
 refine sd rfl (yA rfl rfl (dn (CW.seq (CW.seq (CW.region (sd rfl (yM rfl rfl ?_)))))))
 have q38 := RdS.chg gU q26 hc35 (fun k hl hk => by simp only [InR, or_false, Iv, Ge] at hk ⊢; omega)
 refine sd rfl (yC en39 rfl (oc rfl (oc rfl oz)) (Cal.mono (c_u_pick pC ((u_store pC p_c p_t).2) 12 hB36 q38 (by omega) (by omega) o6 (by omega) (by assumption)) ?_))
 rintro v42 w39 ⟨rfl, hp40, hp41, hB44, hc43⟩
 have hc43z := Chg.size hc43
 have hB44z := Box.lt hB44
 refine dn (CW.block (CW.seq (CW.region (sd rfl (yl_eql rfl rfl rfl (sd rfl (yA rfl rfl (dn ?_))))))))
 refine bcase (decide (((u_pick pC ((u_store pC p_c p_t).2) 12).1) = 0)) (fun hb45 => ?_) (fun hb45 => ?_)
 ·have hb45p := dec_t hb45
  refine CW.cond_t rfl hb45 (CW.region (sd rfl (yM rfl rfl (sd rfl (yl_build (cs := [.string (bs (([97] : Str))), .string (bs (([33] : Str))), .bool (false)]) rfl (oc rfl (oc rfl oz)) (by kernel_rfl) (sd rfl (yl_buildSlice (cs := [.string (bs (([97] : Str))), .string (bs (([33] : Str))), .bool (false)]) un27 ty66 (by decide) rfl (oc rfl oz) (by kernel_rfl) ?_)))))))
  intro b46 w47 hs48 hz49 hB50 hE51
  have hO52 : OwnL w47 b46 (b46 + 1) 66 3 (RF e_Write) (some ⟨b46, 0, none⟩) 1 1 ([(⟨([97] : Str), ([33] : Str), false⟩ : DWrite)] : List DWrite) := OwnL.of_box (S := fun _ => False) hB50 (Nat.le_refl _) (Nat.lt_succ_self _) (EncL.cons (c := [.string (bs (([97] : Str))), .string (bs (([33] : Str))), .bool (false)]) rfl rfl EncL.nil) (Nat.le_of_ble_eq_true rfl) (fun h => h) (fun _ h => False.elim h)
  have hol55 : ((u_store pC p_c p_t).1).length ≤ 2147483648 := ho31.1
  refine sd rfl (yl_appendP (S := fun _ => False) (lo := lo30) (hi := hi30) (xs := (u_store pC p_c p_t).1) (ys := ([(⟨([97] : Str), ([33] : Str), false⟩ : DWrite)] : List DWrite)) un27 ty66 rfl (Nat.le_of_ble_eq_true rfl) (fun _ => rfl) rfl rfl rfl (OwnL.ex gW (OwnL.chg gW h30 hc43 (fun k hl hk => by simp only [InR, or_false] at hk; omega)) hE51) (EncL.cons (c := [.string (bs (([97] : Str))), .string (bs (([33] : Str))), .bool (false)]) rfl rfl EncL.nil) (Or.inr ⟨_, _, rfl, rfl, hB50.cells (o := 0) (n := 3) rfl⟩) rfl (by first | omega | (simp only [lN, toS_length]; omega)) (by first | omega | (simp only [lN, toS_length]; omega)) (by omega) (by omega) (by omega) ?_)
  intro A56 c57 w58 row59 lp60 hp61 hO62 hG63 hrg64 hdj65
  have hG63z := hG63.size
  refine sd rfl (yA rfl rfl (SeqR.done (bn (tn (CW.seq (CW.region (sd rfl (yM rfl rfl (sd rfl (yA rfl rfl (SeqR.done ?_)))))))))))
  refine tn (CW.ret (rr rfl (.cons rfl .nil) ?_))
  have hM66 : (u_bentStore pC p_c p_t) = ((((u_store pC p_c p_t).1 ++ ([(⟨([97] : Str), ([33] : Str), false⟩ : DWrite)] : List DWrite)), (((u_pick pC ((u_store pC p_c p_t).2) 12).2).1, ((u_pick pC ((u_store pC p_c p_t).2) 12).2).2))) := by first | (simp only [u_bentStore, hb45, cL]; done) | (simp only [u_bentStore, hb45, cond_true, cond_false, loopE_done, loopE_ret, pairE]; done) | exact (show (u_bentStore pC p_c p_t) = ((((u_store pC p_c p_t).1 ++ ([(⟨([97] : Str), ([33] : Str), false⟩ : DWrite)] : List DWrite)), ((u_pick pC ((u_store pC p_c p_t).2) 12).2))) from by simp only [u_bentStore, hb45, cond_true, cond_false, loopE_done, loopE_ret, pairE])
  have hol67 : ((u_store pC p_c p_t).1).length ≤ 2147483648 := ho31.1
  rw [hM66]
  exact ⟨A56, c57, lp60, hp61, rfl, hO62, (okL.mk (xs := ((u_store pC p_c p_t).1 ++ ([(⟨([97] : Str), ([33] : Str), false⟩ : DWrite)] : List DWrite))) (by first | omega | (simp only [lN, toS_length]; omega)) (okE.append (ho31).2 ((okL.mk (Nat.le_of_ble_eq_true rfl) (okE.cons ⟨(okS.lit rfl), (okS.lit rfl)⟩ okE.nil))).2)), (by (try dsimp only); first | omega | assumption | (simp only [wI] at *; omega)), (Box.grown (Box.ex hB44 hE51) hG63 (fun k hk => by have := hrg64 k hk; omega)), (by omega), (Chg.tgrown (Chg.tex (Chg.tchg (Chg.tchg (Chg.tex (Chg.refl (InR [(b1, b1 + 1)]) w) hE24) hc35 (fun k hk => by simp only [InR, or_false] at hk ⊢; omega)) hc43 (fun k hk => by simp only [InR, or_false] at hk ⊢; omega)) hE51) hG63 (fun k hk => by have := hrg64 k hk; simp only [InR, or_false]; omega))⟩
 ·have hb45p := dec_f hb45
  refine CW.cond_f rfl hb45 (CW.seq (CW.region (sd rfl (yl_eql rfl rfl rfl (sd rfl (yA rfl rfl (dn (bcase (decide (((u_pick pC ((u_store pC p_c p_t).2) 12).1) = 1)) (fun hb75 => ?_) (fun hb75 => ?_)))))))))
  ·have hb75p := dec_t hb75
   refine CW.cond_t rfl hb75 ?_
   have q76 := Box.chg hB23 hc35 (by have := Box.lt hB23; simp only [InR, or_false]; omega)
   have q77 := Box.chg q76 hc43 (by have := Box.lt q76; simp only [InR, or_false]; omega)
   have hol78 : p_t.Name.length ≤ 1073741824 := o13.1
   have q82 := RdS.chg gU q38 hc43 (fun k hl hk => by simp only [InR, or_false, Iv, Ge] at hk ⊢; omega)
   have hol87 : p_t.Name.length ≤ 1073741824 := o13.1
   have hrf102 := of_len 4 pC ((u_pick pC ((u_store pC p_c p_t).2) 12).2) ([[97, 98, 99, 100], [97], [49]] : List Str) (by decide)
   have hrf103 := of_len 5 pC ((u_of pC ((u_pick pC ((u_store pC p_c p_t).2) 12).2) ([[97, 98, 99, 100], [97], [49]] : List Str)).2) ([[120], [120, 44, 44, 121], [], [120, 44, 121, 44, 122]] : List Str) (by decide)
   refine CW.drawsG 14 (fun G b => (G.dn 6 = true ∧ InR [(b1, b1 + 1)] b) ∨ (G.dn 10 = true ∧ InR [(b1, b1 + 1)] b)) (fun i G b => (i = 6 ∧ b1 ≤ b ∧ b < b1 + 1) ∨ (i = 10 ∧ b1 ≤ b ∧ b < b1 + 1)) (vgetG [DetG (.slice A30 (((u_store pC p_c p_t).1).length) c30), DetG (.pointer (some ⟨b19, 0 + 0, none⟩)), DetG (.string (bs (p_t.Name))), DetG (.string (bs (p_t.Name ++ ([47] : Str)))), DetG (.pointer (some ⟨b1, 0, none⟩)), fun G v wq => ∃ A79, v = .slice A79 3 3 ∧ OwnL wq (G.fl 5) (G.fh 5) 9 1 (RF e_Str) A79 3 3 ([[97, 98, 99, 100], [97], [49]] : List Str), fun G v wq => v = .string (bs ((u_of pC ((u_pick pC ((u_store pC p_c p_t).2) 12).2) ([[97, 98, 99, 100], [97], [49]] : List Str)).1)) ∧ okS ((u_of pC ((u_pick pC ((u_store pC p_c p_t).2) 12).2) ([[97, 98, 99, 100], [97], [49]] : List Str)).1) ∧ (((u_pick pC ((u_store pC p_c p_t).2) 12).2).1 ≤ ((u_of pC ((u_pick pC ((u_store pC p_c p_t).2) 12).2) ([[97, 98, 99, 100], [97], [49]] : List Str)).2).1 ∧ ((u_of pC ((u_pick pC ((u_store pC p_c p_t).2) 12).2) ([[97, 98, 99, 100], [97], [49]] : List Str)).2).1 ≤ ((u_pick pC ((u_store pC p_c p_t).2) 12).2).1 + 2) ∧ (G.dn 10 = false → Box wq b1 46 [.slice A3 pC.length c3, .int .i64 (((u_of pC ((u_pick pC ((u_store pC p_c p_t).2) 12).2) ([[97, 98, 99, 100], [97], [49]] : List Str)).2).1), .int .u64 (((u_of pC ((u_pick pC ((u_store pC p_c p_t).2) 12).2) ([[97, 98, 99, 100], [97], [49]] : List Str)).2).2)]), DetG (.string (bs ((p_t.Name ++ ([47] : Str)) ++ ((u_of pC ((u_pick pC ((u_store pC p_c p_t).2) 12).2) ([[97, 98, 99, 100], [97], [49]] : List Str)).1)))), DetG (.pointer (some ⟨b1, 0, none⟩)), fun G v wq => ∃ A88, v = .slice A88 4 4 ∧ OwnL wq (G.fl 9) (G.fh 9) 9 1 (RF e_Str) A88 4 4 ([[120], [120, 44, 44, 121], [], [120, 44, 121, 44, 122]] : List Str), fun G v wq => v = .string (bs ((u_of pC ((u_of pC ((u_pick pC ((u_store pC p_c p_t).2) 12).2) ([[97, 98, 99, 100], [97], [49]] : List Str)).2) ([[120], [120, 44, 44, 121], [], [120, 44, 121, 44, 122]] : List Str)).1)) ∧ okS ((u_of pC ((u_of pC ((u_pick pC ((u_store pC p_c p_t).2) 12).2) ([[97, 98, 99, 100], [97], [49]] : List Str)).2) ([[120], [120, 44, 44, 121], [], [120, 44, 121, 44, 122]] : List Str)).1) ∧ (((u_of pC ((u_pick pC ((u_store pC p_c p_t).2) 12).2) ([[97, 98, 99, 100], [97], [49]] : List Str)).2).1 ≤ ((u_of pC ((u_of pC ((u_pick pC ((u_store pC p_c p_t).2) 12).2) ([[97, 98, 99, 100], [97], [49]] : List Str)).2) ([[120], [120, 44, 44, 121], [], [120, 44, 121, 44, 122]] : List Str)).2).1 ∧ ((u_of pC ((u_of pC ((u_pick pC ((u_store pC p_c p_t).2) 12).2) ([[97, 98, 99, 100], [97], [49]] : List Str)).2) ([[120], [120, 44, 44, 121], [], [120, 44, 121, 44, 122]] : List Str)).2).1 ≤ ((u_of pC ((u_pick pC ((u_store pC p_c p_t).2) 12).2) ([[97, 98, 99, 100], [97], [49]] : List Str)).2).1 + 2) ∧ Box wq b1 46 [.slice A3 pC.length c3, .int .i64 (((u_of pC ((u_of pC ((u_pick pC ((u_store pC p_c p_t).2) 12).2) ([[97, 98, 99, 100], [97], [49]] : List Str)).2) ([[120], [120, 44, 44, 121], [], [120, 44, 121, 44, 122]] : List Str)).2).1), .int .u64 (((u_of pC ((u_of pC ((u_pick pC ((u_store pC p_c p_t).2) 12).2) ([[97, 98, 99, 100], [97], [49]] : List Str)).2) ([[120], [120, 44, 44, 121], [], [120, 44, 121, 44, 122]] : List Str)).2).2)], DetG (.agg #[.string (bs ((p_t.Name ++ ([47] : Str)) ++ ((u_of pC ((u_pick pC ((u_store pC p_c p_t).2) 12).2) ([[97, 98, 99, 100], [97], [49]] : List Str)).1))), .string (bs ((u_of pC ((u_of pC ((u_pick pC ((u_store pC p_c p_t).2) 12).2) ([[97, 98, 99, 100], [97], [49]] : List Str)).2) ([[120], [120, 44, 44, 121], [], [120, 44, 121, 44, 122]] : List Str)).1)), .bool (false)]), fun G v wq => ∃ A98 c98 lo98 hi98, v = .slice A98 ((s_l5PutW ((u_store pC p_c p_t).1) (⟨(p_t.Name ++ ([47] : Str)) ++ ((u_of pC ((u_pick pC ((u_store pC p_c p_t).2) 12).2) ([[97, 98, 99, 100], [97], [49]] : List Str)).1), (u_of pC ((u_of pC ((u_pick pC ((u_store pC p_c p_t).2) 12).2) ([[97, 98, 99, 100], [97], [49]] : List Str)).2) ([[120], [120, 44, 44, 121], [], [120, 44, 121, 44, 122]] : List Str)).1, false⟩ : DWrite)).length) c98 ∧ OwnL wq lo98 hi98 66 3 (RF e_Write) A98 ((s_l5PutW ((u_store pC p_c p_t).1) (⟨(p_t.Name ++ ([47] : Str)) ++ ((u_of pC ((u_pick pC ((u_store pC p_c p_t).2) 12).2) ([[97, 98, 99, 100], [97], [49]] : List Str)).1), (u_of pC ((u_of pC ((u_pick pC ((u_store pC p_c p_t).2) 12).2) ([[97, 98, 99, 100], [97], [49]] : List Str)).2) ([[120], [120, 44, 44, 121], [], [120, 44, 121, 44, 122]] : List Str)).1, false⟩ : DWrite)).length) c98 (s_l5PutW ((u_store pC p_c p_t).1) (⟨(p_t.Name ++ ([47] : Str)) ++ ((u_of pC ((u_pick pC ((u_store pC p_c p_t).2) 12).2) ([[97, 98, 99, 100], [97], [49]] : List Str)).1), (u_of pC ((u_of pC ((u_pick pC ((u_store pC p_c p_t).2) 12).2) ([[97, 98, 99, 100], [97], [49]] : List Str)).2) ([[120], [120, 44, 44, 121], [], [120, 44, 121, 44, 122]] : List Str)).1, false⟩ : DWrite)) ∧ (okL ok_Write) (s_l5PutW ((u_store pC p_c p_t).1) (⟨(p_t.Name ++ ([47] : Str)) ++ ((u_of pC ((u_pick pC ((u_store pC p_c p_t).2) 12).2) ([[97, 98, 99, 100], [97], [49]] : List Str)).1), (u_of pC ((u_of pC ((u_pick pC ((u_store pC p_c p_t).2) 12).2) ([[97, 98, 99, 100], [97], [49]] : List Str)).2) ([[120], [120, 44, 44, 121], [], [120, 44, 121, 44, 122]] : List Str)).1, false⟩ : DWrite)) ∧ (s_l5PutW ((u_store pC p_c p_t).1) (⟨(p_t.Name ++ ([47] : Str)) ++ ((u_of pC ((u_pick pC ((u_store pC p_c p_t).2) 12).2) ([[97, 98, 99, 100], [97], [49]] : List Str)).1), (u_of pC ((u_of pC ((u_pick pC ((u_store pC p_c p_t).2) 12).2) ([[97, 98, 99, 100], [97], [49]] : List Str)).2) ([[120], [120, 44, 44, 121], [], [120, 44, 121, 44, 122]] : List Str)).1, false⟩ : DWrite)).length ≤ ((u_store pC p_c p_t).1).length + 1 ∧ ((G.fl 12) ≤ lo98 ∧ lo98 ≤ hi98 ∧ hi98 ≤ (G.fh 12)), fun G v wq => ∃ A98 c98 lo98 hi98, v = .slice A98 ((s_l5PutW ((u_store pC p_c p_t).1) (⟨(p_t.Name ++ ([47] : Str)) ++ ((u_of pC ((u_pick pC ((u_store pC p_c p_t).2) 12).2) ([[97, 98, 99, 100], [97], [49]] : List Str)).1), (u_of pC ((u_of pC ((u_pick pC ((u_store pC p_c p_t).2) 12).2) ([[97, 98, 99, 100], [97], [49]] : List Str)).2) ([[120], [120, 44, 44, 121], [], [120, 44, 121, 44, 122]] : List Str)).1, false⟩ : DWrite)).length) c98 ∧ OwnL wq lo98 hi98 66 3 (RF e_Write) A98 ((s_l5PutW ((u_store pC p_c p_t).1) (⟨(p_t.Name ++ ([47] : Str)) ++ ((u_of pC ((u_pick pC ((u_store pC p_c p_t).2) 12).2) ([[97, 98, 99, 100], [97], [49]] : List Str)).1), (u_of pC ((u_of pC ((u_pick pC ((u_store pC p_c p_t).2) 12).2) ([[97, 98, 99, 100], [97], [49]] : List Str)).2) ([[120], [120, 44, 44, 121], [], [120, 44, 121, 44, 122]] : List Str)).1, false⟩ : DWrite)).length) c98 (s_l5PutW ((u_store pC p_c p_t).1) (⟨(p_t.Name ++ ([47] : Str)) ++ ((u_of pC ((u_pick pC ((u_store pC p_c p_t).2) 12).2) ([[97, 98, 99, 100], [97], [49]] : List Str)).1), (u_of pC ((u_of pC ((u_pick pC ((u_store pC p_c p_t).2) 12).2) ([[97, 98, 99, 100], [97], [49]] : List Str)).2) ([[120], [120, 44, 44, 121], [], [120, 44, 121, 44, 122]] : List Str)).1, false⟩ : DWrite)) ∧ ((G.fl 12) ≤ lo98 ∧ lo98 ≤ hi98 ∧ hi98 ≤ (G.fh 12))]) Tryz.follows rfl rfl rfl rfl rfl rfl (fun _ _ _ _ _ h => (fun h => h.imp (fun h => ⟨Gh.udn h.1, h.2⟩) (fun h => ⟨Gh.udn h.1, h.2⟩)) h) (fun i G w lo hi b K hn hh hp => by exact (hp.elim (fun ⟨e, q1, q2⟩ => by subst e; exact .inl (.inl ⟨Gh.sdn, .inl ⟨q1, q2⟩⟩)) (fun hp => (match hp with | ⟨e, q1, q2⟩ => by subst e; exact .inl (.inr (⟨Gh.sdn, .inl ⟨q1, q2⟩⟩)))))) (vgetG_kept ⟨(KeptG.det _), (KeptG.det _), (KeptG.det _), (KeptG.det _), (KeptG.det _), (by rintro i G v w w' K hn hh hj ⟨A79, hv, h0⟩ e; have d5 : G.dn 5 = true := hj; have u5 := Gh.ufl (lo := w.heap.size) (hi := w'.heap.size) d5 hn; have t5 := Gh.ufh (lo := w.heap.size) (hi := w'.heap.size) d5 hn; exact ⟨A79, hv, (by simp only [u5, t5]; exact OwnL.chg gS h0 e (fun b hb hp => by exact (hp.elim (fun ⟨e, q1, q2⟩ => by subst e; have := K.rng 5 d5; skip; omega) (fun hp => (match hp with | ⟨e, q1, q2⟩ => by subst e; have := K.rng 5 d5; skip; omega)))))⟩), (by rintro i G v w w' K hn hh hj ⟨hv, h0, h1, h2⟩ e; exact ⟨hv, h0, h1, (by intro hd; exact Box.chg (h2 (Gh.off hd).2) e (fun hp => by exact (hp.elim (fun ⟨e, q1, q2⟩ => by subst e; rw [hj] at hn; cases hn) (fun hp => (match hp with | ⟨e, q1, q2⟩ => by subst e; exact absurd rfl (Gh.off hd).1)))))⟩), (KeptG.det _), (KeptG.det _), (by rintro i G v w w' K hn hh hj ⟨A88, hv, h0⟩ e; have d9 : G.dn 9 = true := hj; have u9 := Gh.ufl (lo := w.heap.size) (hi := w'.heap.size) d9 hn; have t9 := Gh.ufh (lo := w.heap.size) (hi := w'.heap.size) d9 hn; exact ⟨A88, hv, (by simp only [u9, t9]; exact OwnL.chg gS h0 e (fun b hb hp => by exact (hp.elim (fun ⟨e, q1, q2⟩ => by subst e; have := K.rng 9 d9; skip; omega) (fun hp => (match hp with | ⟨e, q1, q2⟩ => by subst e; have := K.rng 9 d9; skip; omega)))))⟩), (by rintro i G v w w' K hn hh hj ⟨hv, h0, h1, h2⟩ e; exact ⟨hv, h0, h1, (by exact Box.chg h2 e (fun hp => by exact (hp.elim (fun ⟨e, q1, q2⟩ => by subst e; rw [K.cl 10 6 hj rfl] at hn; cases hn) (fun hp => (match hp with | ⟨e, q1, q2⟩ => by subst e; rw [hj] at hn; cases hn)))))⟩), (KeptG.det _), (by rintro i G v w w' K hn hh hj ⟨A98, c98, lo98, hi98, hv, h0, h1, h2, hr0⟩ e; have d12 : G.dn 12 = true := hj; have u12 := Gh.ufl (lo := w.heap.size) (hi := w'.heap.size) d12 hn; have t12 := Gh.ufh (lo := w.heap.size) (hi := w'.heap.size) d12 hn; exact ⟨A98, c98, lo98, hi98, hv, (by exact OwnL.chg gW h0 e (fun b hb hp => by exact (hp.elim (fun ⟨e, q1, q2⟩ => by subst e; rw [K.cl 12 6 hj rfl] at hn; cases hn) (fun hp => (match hp with | ⟨e, q1, q2⟩ => by subst e; rw [K.cl 12 10 hj rfl] at hn; cases hn))))), h1, h2, (by simp only [u12, t12]; exact hr0)⟩), (by rintro i G v w w' K hn hh hj ⟨A98, c98, lo98, hi98, hv, h0, hr0⟩ e; have d12 : G.dn 12 = true := K.cl 13 12 hj rfl; have u12 := Gh.ufl (lo := w.heap.size) (hi := w'.heap.size) d12 hn; have t12 := Gh.ufh (lo := w.heap.size) (hi := w'.heap.size) d12 hn; exact ⟨A98, c98, lo98, hi98, hv, (by exact OwnL.chg gW h0 e (fun b hb hp => by exact (hp.elim (fun ⟨e, q1, q2⟩ => by subst e; rw [K.cl 13 6 hj rfl] at hn; cases hn) (fun hp => (match hp with | ⟨e, q1, q2⟩ => by subst e; rw [K.cl 13 10 hj rfl] at hn; cases hn))))), (by simp only [u12, t12]; exact hr0)⟩), trivial⟩) ⟨?_, ?_, ?_, ?_, ?_, ?_, ?_, ?_, ?_, ?_, ?_, ?_, ?_, ?_, trivial⟩ ?_
   ·intro L105 w106 G104 hgk107
    have hE108 : Chg (fun b => InR [(b1, b1 + 1)] b ∨ w39.heap.size ≤ b) w39 w106 := hgk107.st.ex.imp (fun b _ h => h.imp (fun h => h.elim (fun h => h.2) (fun h => h.2)) (fun h => h))
    have hE108z := Chg.size hE108
    exact OpR.op' rfl (Yl.sameG (yM rfl (hgk107.old 5 _ rfl rfl) kI))
   ·intro L111 w112 G110 hgk113
    have hE114 : Chg (fun b => InR [(b1, b1 + 1)] b ∨ w39.heap.size ≤ b) w39 w112 := hgk113.st.ex.imp (fun b _ h => h.imp (fun h => h.elim (fun h => h.2) (fun h => h.2)) (fun h => h))
    have hE114z := Chg.size hE114
    exact OpR.op' rfl (Yl.sameG (yl_fieldAddr fd26_0 rfl (hgk113.old 3 _ rfl rfl) kI))
   ·intro L117 w118 G116 hgk119
    have hE120 : Chg (fun b => InR [(b1, b1 + 1)] b ∨ w39.heap.size ≤ b) w39 w118 := hgk119.st.ex.imp (fun b _ h => h.imp (fun h => h.elim (fun h => h.2) (fun h => h.2)) (fun h => h))
    have hE120z := Chg.size hE120
    obtain ⟨_, hx121, rfl⟩ := hgk119.val 1 20 rfl rfl
    exact OpR.op' rfl (Yl.sameG (yl_load1 ty9 rfl hx121 (((Box.chg q77 hE120 (by have := Box.lt q77; simp only [InR, or_false]; omega)).cell 0).trans rfl) kI))
   ·intro L124 w125 G123 hgk126
    have hE127 : Chg (fun b => InR [(b1, b1 + 1)] b ∨ w39.heap.size ≤ b) w39 w125 := hgk126.st.ex.imp (fun b _ h => h.imp (fun h => h.elim (fun h => h.2) (fun h => h.2)) (fun h => h))
    have hE127z := Chg.size hE127
    obtain ⟨_, hx128, rfl⟩ := hgk126.val 2 21 rfl rfl
    have hol129 : p_t.Name.length ≤ 1073741824 := o13.1
    exact OpR.op' rfl (Yl.sameG (yl_sadd (a := p_t.Name) (b := ([47] : Str)) rfl hx128 rfl (by first | omega | (simp only [lN, toS_length]; omega)) kI))
   ·intro L131 w132 G130 hgk133
    have hE134 := hgk133.st.ex.ex (fun b h => h.elim (fun h => h.elim (fun h => hgk133.no rfl h) (fun h => hgk133.no rfl h)) (fun h => h))
    have hE134z := Ex.size hE134
    exact OpR.op' rfl (Yl.sameG (yM rfl (hgk133.old 0 _ rfl rfl) kI))
   ·intro L137 w138 G136 hgk139
    have hE140 := hgk139.st.ex.ex (fun b h => h.elim (fun h => h.elim (fun h => hgk139.no rfl h) (fun h => hgk139.no rfl h)) (fun h => h))
    have hE140z := Ex.size hE140
    refine OpR.op' rfl (yl_buildSlice (cs := [.string (bs (([97, 98, 99, 100] : Str))), .string (bs (([97] : Str))), .string (bs (([49] : Str)))]) un23 ty9 (by decide) rfl (oc rfl (oc rfl (oc rfl oz))) (by kernel_rfl) ?_)
    intro b141 w142 hs143 hz144 hB145 hE146
    have hO147 : OwnL w142 b141 (b141 + 1) 9 1 (RF e_Str) (some ⟨b141, 0, none⟩) 3 3 ([[97, 98, 99, 100], [97], [49]] : List Str) := OwnL.of_box (S := fun _ => False) hB145 (Nat.le_refl _) (Nat.lt_succ_self _) (EncL.cons (c := [.string (bs (([97, 98, 99, 100] : Str)))]) rfl rfl (EncL.cons (c := [.string (bs (([97] : Str)))]) rfl rfl (EncL.cons (c := [.string (bs (([49] : Str)))]) rfl rfl EncL.nil))) (Nat.le_of_ble_eq_true rfl) (fun h => h) (fun _ h => False.elim h)
    exact ⟨Chg.of_ex hE146, (some ⟨b141, 0, none⟩), rfl, OwnL.more (lo' := w138.heap.size) (hi' := w142.heap.size) hO147 (by omega) (by omega)⟩
   ·intro L149 w150 G148 hgk151
    have hE152 := hgk151.st.ex.ex (fun b h => h.elim (fun h => h.elim (fun h => hgk151.nw h) (fun h => hgk151.no rfl h)) (fun h => h))
    have hE152z := Ex.size hE152
    obtain ⟨_, hx153, rfl⟩ := hgk151.val 4 23 rfl rfl
    obtain ⟨_, hx154, A79_155, rfl, h156⟩ := hgk151.val 5 24 rfl rfl
    have hr157 := hgk151.st.rng 5 (hgk151.has 5 rfl)
    have hle160 := OwnL.len h156
    refine OpR.op' rfl (yC en17 rfl (oc hx153 (oc hx154 oz)) (Cal.mono (Cal.args (by rw [← hle160] <;> rfl) (c_u_of pC ((u_pick pC ((u_store pC p_c p_t).2) 12).2) ([[97, 98, 99, 100], [97], [49]] : List Str) (Box.ex hB44 hE152) (RdS.ex gU q82 hE152) (by omega) (by omega) (RdS.fix (OwnL.rdI gS h156)) (by omega) (by omega) o6 (okL.mk (Nat.le_of_ble_eq_true rfl) (okE.cons (okS.lit rfl) (okE.cons (okS.lit rfl) (okE.cons (okS.lit rfl) okE.nil)))) (by first | omega | assumption | (simp only [wI] at *; omega) | (simp only [lN]; omega)) (by omega) (by assumption))) ?_))
    rintro v164 w161 ⟨rfl, ho162, hp163, hB166, hE165⟩
    exact ⟨hE165.imp (fun k _ hk => hk.elim (fun hk => (.inl ⟨rfl, hk.1, hk.2⟩)) False.elim), rfl, ho162, hp163, fun _ => hB166⟩
   ·intro L168 w169 G167 hgk170
    have hE171 : Chg (fun b => InR [(b1, b1 + 1)] b ∨ w39.heap.size ≤ b) w39 w169 := hgk170.st.ex.imp (fun b _ h => h.imp (fun h => h.elim (fun h => h.2) (fun h => h.2)) (fun h => h))
    have hE171z := Chg.size hE171
    obtain ⟨_, hx172, rfl⟩ := hgk170.val 3 22 rfl rfl
    obtain ⟨_, hx173, rfl, h174, h175, -⟩ := hgk170.val 6 25 rfl rfl
    have hr176 := hgk170.st.rng 6 (hgk170.has 6 rfl)
    have hol177 : p_t.Name.length ≤ 1073741824 := o13.1
    have hol178 : ((u_of pC ((u_pick pC ((u_store pC p_c p_t).2) 12).2) ([[97, 98, 99, 100], [97], [49]] : List Str)).1).length ≤ 1073741824 := h174
    exact OpR.op' rfl (Yl.sameG (yl_sadd (a := (p_t.Name ++ ([47] : Str))) (b := ((u_of pC ((u_pick pC ((u_store pC p_c p_t).2) 12).2) ([[97, 98, 99, 100], [97], [49]] : List Str)).1)) rfl hx172 hx173 (by first | omega | (simp only [lN, toS_length]; omega)) kI))
   ·intro L180 w181 G179 hgk182
    have hE183 : Chg (fun b => InR [(b1, b1 + 1)] b ∨ w39.heap.size ≤ b) w39 w181 := hgk182.st.ex.imp (fun b _ h => h.imp (fun h => h.elim (fun h => h.2) (fun h => hgk182.no rfl h)) (fun h => h))
    have hE183z := Chg.size hE183
    exact OpR.op' rfl (Yl.sameG (yM rfl (hgk182.old 0 _ rfl rfl) kI))
   ·intro L186 w187 G185 hgk188
    have hE189 : Chg (fun b => InR [(b1, b1 + 1)] b ∨ w39.heap.size ≤ b) w39 w187 := hgk188.st.ex.imp (fun b _ h => h.imp (fun h => h.elim (fun h => h.2) (fun h => hgk188.no rfl h)) (fun h => h))
    have hE189z := Chg.size hE189
    refine OpR.op' rfl (yl_buildSlice (cs := [.string (bs (([120] : Str))), .string (bs (([120, 44, 44, 121] : Str))), .string (bs (([] : Str))), .string (bs (([120, 44, 121, 44, 122] : Str)))]) un23 ty9 (by decide) rfl (oc rfl (oc rfl (oc rfl (oc rfl oz)))) (by kernel_rfl) ?_)
    intro b190 w191 hs192 hz193 hB194 hE195
    have hO196 : OwnL w191 b190 (b190 + 1) 9 1 (RF e_Str) (some ⟨b190, 0, none⟩) 4 4 ([[120], [120, 44, 44, 121], [], [120, 44, 121, 44, 122]] : List Str) := OwnL.of_box (S := fun _ => False) hB194 (Nat.le_refl _) (Nat.lt_succ_self _) (EncL.cons (c := [.string (bs (([120] : Str)))]) rfl rfl (EncL.cons (c := [.string (bs (([120, 44, 44, 121] : Str)))]) rfl rfl (EncL.cons (c := [.string (bs (([] : Str)))]) rfl rfl (EncL.cons (c := [.string (bs (([120, 44, 121, 44, 122] : Str)))]) rfl rfl EncL.nil)))) (Nat.le_of_ble_eq_true rfl) (fun h => h) (fun _ h => False.elim h)
    exact ⟨Chg.of_ex hE195, (some ⟨b190, 0, none⟩), rfl, OwnL.more (lo' := w187.heap.size) (hi' := w191.heap.size) hO196 (by omega) (by omega)⟩
   ·intro L198 w199 G197 hgk200
    have hE201 : Chg (fun b => InR [(b1, b1 + 1)] b ∨ w39.heap.size ≤ b) w39 w199 := hgk200.st.ex.imp (fun b _ h => h.imp (fun h => h.elim (fun h => h.2) (fun h => hgk200.nw h)) (fun h => h))
    have hE201z := Chg.size hE201
    obtain ⟨_, hx202, rfl⟩ := hgk200.val 8 27 rfl rfl
    obtain ⟨_, rfl, h203, h204, h205⟩ := hgk200.fact 6 rfl
    have h205 := h205 hgk200.new
    obtain ⟨_, hx206, A88_207, rfl, h208⟩ := hgk200.val 9 28 rfl rfl
    have hr209 := hgk200.st.rng 6 (hgk200.has 6 rfl)
    have hr210 := hgk200.st.rng 9 (hgk200.has 9 rfl)
    have hsp211 := hgk200.st.sep 6 9 (hgk200.has 6 rfl) (hgk200.has 9 rfl) rfl
    have hle213 := OwnL.len h208
    refine OpR.op' rfl (yC en17 rfl (oc hx202 (oc hx206 oz)) (Cal.mono (Cal.args (by rw [← hle213] <;> rfl) (c_u_of pC ((u_of pC ((u_pick pC ((u_store pC p_c p_t).2) 12).2) ([[97, 98, 99, 100], [97], [49]] : List Str)).2) ([[120], [120, 44, 44, 121], [], [120, 44, 121, 44, 122]] : List Str) h205 (RdS.chg gU q82 hE201 (fun k hl hk => by simp only [InR, or_false, Iv, Ge] at hk ⊢; omega)) (by omega) (by omega) (RdS.fix (OwnL.rdI gS h208)) (by omega) (by omega) o6 (okL.mk (Nat.le_of_ble_eq_true rfl) (okE.cons (okS.lit rfl) (okE.cons (okS.lit rfl) (okE.cons (okS.lit rfl) (okE.cons (okS.lit rfl) okE.nil))))) (by first | omega | assumption | (simp only [wI] at *; omega) | (simp only [lN]; omega)) (by omega) (by assumption))) ?_))
    rintro v217 w214 ⟨rfl, ho215, hp216, hB219, hE218⟩
    exact ⟨hE218.imp (fun k _ hk => hk.elim (fun hk => (.inr (⟨rfl, hk.1, hk.2⟩))) False.elim), rfl, ho215, hp216, hB219⟩
   ·intro L221 w222 G220 hgk223
    have hE224 : Chg (fun b => InR [(b1, b1 + 1)] b ∨ w39.heap.size ≤ b) w39 w222 := hgk223.st.ex.imp (fun b _ h => h.imp (fun h => h.elim (fun h => h.2) (fun h => h.2)) (fun h => h))
    have hE224z := Chg.size hE224
    obtain ⟨_, hx225, rfl⟩ := hgk223.val 7 26 rfl rfl
    obtain ⟨_, hx226, rfl, h227, h228, h229⟩ := hgk223.val 10 29 rfl rfl
    have hr230 := hgk223.st.rng 10 (hgk223.has 10 rfl)
    exact OpR.op' rfl (Yl.sameG (yl_build (cs := [.string (bs ((p_t.Name ++ ([47] : Str)) ++ ((u_of pC ((u_pick pC ((u_store pC p_c p_t).2) 12).2) ([[97, 98, 99, 100], [97], [49]] : List Str)).1))), .string (bs ((u_of pC ((u_of pC ((u_pick pC ((u_store pC p_c p_t).2) 12).2) ([[97, 98, 99, 100], [97], [49]] : List Str)).2) ([[120], [120, 44, 44, 121], [], [120, 44, 121, 44, 122]] : List Str)).1)), .bool (false)]) rfl (oc hx225 (oc hx226 oz)) (by kernel_rfl) kI))
   ·intro L232 w233 G231 hgk234
    have hE235 : Chg (fun b => InR [(b1, b1 + 1)] b ∨ w39.heap.size ≤ b) w39 w233 := hgk234.st.ex.imp (fun b _ h => h.imp (fun h => h.elim (fun h => h.2) (fun h => h.2)) (fun h => h))
    have hE235z := Chg.size hE235
    obtain ⟨_, hx236, rfl⟩ := hgk234.val 0 19 rfl rfl
    obtain ⟨_, hx237, rfl⟩ := hgk234.val 11 30 rfl rfl
    obtain ⟨_, rfl, h238, h239, -⟩ := hgk234.fact 6 rfl
    obtain ⟨_, rfl, h240, h241, h242⟩ := hgk234.fact 10 rfl
    have hr243 := hgk234.st.rng 6 (hgk234.has 6 rfl)
    have hr244 := hgk234.st.rng 10 (hgk234.has 10 rfl)
    have hsp245 := hgk234.st.ord 10 6 (hgk234.has 10 rfl) rfl
    refine OpR.op' rfl (yC en41 rfl (oc hx236 (oc hx237 oz)) (Cal.mono (c_s_l5PutW ((u_store pC p_c p_t).1) (⟨(p_t.Name ++ ([47] : Str)) ++ ((u_of pC ((u_pick pC ((u_store pC p_c p_t).2) 12).2) ([[97, 98, 99, 100], [97], [49]] : List Str)).1), (u_of pC ((u_of pC ((u_pick pC ((u_store pC p_c p_t).2) 12).2) ([[97, 98, 99, 100], [97], [49]] : List Str)).2) ([[120], [120, 44, 44, 121], [], [120, 44, 121, 44, 122]] : List Str)).1, false⟩ : DWrite) (RdS.up (OwnL.rd gW (OwnL.chg gW (OwnL.chg gW h30 hc43 (fun k hl hk => by simp only [InR, or_false] at hk; omega)) hE235 (fun k hl hk => by simp only [InR, or_false] at hk; omega))) gW) ho31 (⟨(by unfold okS; simp only [lN]; omega), h240⟩) (by first | omega | assumption | (simp only [wI] at *; omega))) ?_))
    rintro v252 w248 ⟨A249, c249, lo249, hi249, rfl, h249, ho250, hp251, hrn254, hE253⟩
    exact ⟨Chg.of_ex hE253, A249, c249, lo249, hi249, rfl, h249, ho250, hp251, hrn254⟩
   ·intro L256 w257 G255 hgk258
    have hE259 : Chg (fun b => InR [(b1, b1 + 1)] b ∨ w39.heap.size ≤ b) w39 w257 := hgk258.st.ex.imp (fun b _ h => h.imp (fun h => h.elim (fun h => h.2) (fun h => h.2)) (fun h => h))
    have hE259z := Chg.size hE259
    obtain ⟨_, hx260, A98_261, c98_262, lo98_263, hi98_264, rfl, h265, h266, h267, hrn268⟩ := hgk258.val 12 31 rfl rfl
    have hr269 := hgk258.st.rng 12 (hgk258.has 12 rfl)
    exact OpR.op' rfl (Yl.sameG (yA rfl hx260 ⟨fun _ _ => ⟨A98_261, c98_262, lo98_263, hi98_264, rfl, h265, (show ((G255.fl 12) ≤ lo98_263 ∧ lo98_263 ≤ hi98_264 ∧ hi98_264 ≤ (G255.fh 12)) by omega)⟩, rfl⟩))
   ·intro G270 L271 w272 hgp273
    have hE274 : Chg (fun b => InR [(b1, b1 + 1)] b ∨ w39.heap.size ≤ b) w39 w272 := hgp273.st.ex.imp (fun b _ h => h.imp (fun h => h.elim (fun h => h.2) (fun h => h.2)) (fun h => h))
    have hE274z := Chg.size hE274
    obtain ⟨_, hx275, A79_276, rfl, h277⟩ := hgp273.val 5 24 rfl rfl
    obtain ⟨_, hx278, rfl, h279, h280, -⟩ := hgp273.val 6 25 rfl rfl
    obtain ⟨_, hx281, A88_282, rfl, h283⟩ := hgp273.val 9 28 rfl rfl
    obtain ⟨_, hx284, rfl, h285, h286, h287⟩ := hgp273.val 10 29 rfl rfl
    obtain ⟨_, hx288, A98_289, c98_290, lo98_291, hi98_292, rfl, h293, h294, h295, hrn296⟩ := hgp273.val 12 31 rfl rfl
    obtain ⟨_, hx297, A98_298, c98_299, lo98_300, hi98_301, rfl, h302, hrn303⟩ := hgp273.val 13 5 rfl rfl
    have hbz304 := Box.lt h287
    have hr305 := hgp273.st.rng 5 (hgp273.has 5 rfl)
    have hr306 := hgp273.st.rng 6 (hgp273.has 6 rfl)
    have hr307 := hgp273.st.rng 9 (hgp273.has 9 rfl)
    have hr308 := hgp273.st.rng 10 (hgp273.has 10 rfl)
    have hr309 := hgp273.st.rng 12 (hgp273.has 12 rfl)
    have hr310 := hgp273.st.rng 13 (hgp273.has 13 rfl)
    have hsp311 := hgp273.st.ord 6 5 (hgp273.has 6 rfl) rfl
    have hsp312 := hgp273.st.sep 5 9 (hgp273.has 5 rfl) (hgp273.has 9 rfl) rfl
    have hsp313 := hgp273.st.ord 10 5 (hgp273.has 10 rfl) rfl
    have hsp314 := hgp273.st.ord 12 5 (hgp273.has 12 rfl) rfl
    have hsp315 := hgp273.st.ord 13 5 (hgp273.has 13 rfl) rfl
    have hsp316 := hgp273.st.sep 6 9 (hgp273.has 6 rfl) (hgp273.has 9 rfl) rfl
    have hsp317 := hgp273.st.ord 10 6 (hgp273.has 10 rfl) rfl
    have hsp318 := hgp273.st.ord 12 6 (hgp273.has 12 rfl) rfl
    have hsp319 := hgp273.st.ord 13 6 (hgp273.has 13 rfl) rfl
    have hsp320 := hgp273.st.ord 10 9 (hgp273.has 10 rfl) rfl
    have hsp321 := hgp273.st.ord 12 9 (hgp273.has 12 rfl) rfl
    have hsp322 := hgp273.st.ord 13 9 (hgp273.has 13 rfl) rfl
    have hsp323 := hgp273.st.ord 12 10 (hgp273.has 12 rfl) rfl
    have hsp324 := hgp273.st.ord 13 10 (hgp273.has 13 rfl) rfl
    have hsp325 := hgp273.st.ord 13 12 (hgp273.has 13 rfl) rfl
    refine SeqR.done (bn (tn (CW.sub (Sub.cons (d := 5) hx297 (Sub.nil _)) (CW.seq (CW.region (sd rfl (yM rfl rfl (sd rfl (yA rfl rfl (SeqR.done ?_))))))))))
    refine tn (CW.ret (rr rfl (.cons rfl .nil) ?_))
    have hM326 : (u_bentStore pC p_c p_t) = (((s_l5PutW ((u_store pC p_c p_t).1) (⟨(p_t.Name ++ ([47] : Str)) ++ ((u_of pC ((u_pick pC ((u_store pC p_c p_t).2) 12).2) ([[97, 98, 99, 100], [97], [49]] : List Str)).1), (u_of pC ((u_of pC ((u_pick pC ((u_store pC p_c p_t).2) 12).2) ([[97, 98, 99, 100], [97], [49]] : List Str)).2) ([[120], [120, 44, 44, 121], [], [120, 44, 121, 44, 122]] : List Str)).1, false⟩ : DWrite)), (((u_of pC ((u_of pC ((u_pick pC ((u_store pC p_c p_t).2) 12).2) ([[97, 98, 99, 100], [97], [49]] : List Str)).2) ([[120], [120, 44, 44, 121], [], [120, 44, 121, 44, 122]] : List Str)).2).1, ((u_of pC ((u_of pC ((u_pick pC ((u_store pC p_c p_t).2) 12).2) ([[97, 98, 99, 100], [97], [49]] : List Str)).2) ([[120], [120, 44, 44, 121], [], [120, 44, 121, 44, 122]] : List Str)).2).2))) := by first | (simp only [u_bentStore, hb45, hb75, cL]; done) | (simp only [u_bentStore, hb45, hb75, cond_true, cond_false, loopE_done, loopE_ret, pairE]; done) | exact (show (u_bentStore pC p_c p_t) = (((s_l5PutW ((u_store pC p_c p_t).1) (⟨(p_t.Name ++ ([47] : Str)) ++ ((u_of pC ((u_pick pC ((u_store pC p_c p_t).2) 12).2) ([[97, 98, 99, 100], [97], [49]] : List Str)).1), (u_of pC ((u_of pC ((u_pick pC ((u_store pC p_c p_t).2) 12).2) ([[97, 98, 99, 100], [97], [49]] : List Str)).2) ([[120], [120, 44, 44, 121], [], [120, 44, 121, 44, 122]] : List Str)).1, false⟩ : DWrite)), ((u_of pC ((u_of pC ((u_pick pC ((u_store pC p_c p_t).2) 12).2) ([[97, 98, 99, 100], [97], [49]] : List Str)).2) ([[120], [120, 44, 44, 121], [], [120, 44, 121, 44, 122]] : List Str)).2))) from by simp only [u_bentStore, hb45, hb75, cond_true, cond_false, loopE_done, loopE_ret, pairE])
    rw [hM326]
    exact ⟨A98_298, c98_299, lo98_300, hi98_301, rfl, h302, h294, (by (try dsimp only); first | omega | assumption | (simp only [wI] at *; omega)), h287, (by omega), (Chg.tchg (Chg.tchg (Chg.tchg (Chg.tex (Chg.refl (InR [(b1, b1 + 1)]) w) hE24) hc35 (fun k hk => by simp only [InR, or_false] at hk ⊢; omega)) hc43 (fun k hk => by simp only [InR, or_false] at hk ⊢; omega)) hE274 (fun k hk => by simp only [InR, or_false] at hk ⊢; omega))⟩
  ·have hb75p := dec_f hb75
   refine CW.cond_f rfl hb75 (CW.seq (CW.region (sd rfl (yl_eql rfl rfl rfl (sd rfl (yA rfl rfl (dn (bcase (decide (((u_pick pC ((u_store pC p_c p_t).2) 12).1) = 2)) (fun hb331 => ?_) (fun hb331 => ?_)))))))))
   ·have hb331p := dec_t hb331
    refine CW.cond_t rfl hb331 (CW.seq (CW.region (sd rfl (yM rfl rfl (sd rfl (yL un27 rfl rfl (sd rfl (yl_gtr rfl rfl rfl (dn (bcase (decide (0 < (((u_store pC p_c p_t).1).length : Int))) (fun hb332 => ?_) (fun hb332 => ?_)))))))))))
    ·have hb332p := dec_t hb332
     refine CW.cond_t rfl hb332 (CW.region (sd rfl (yM rfl rfl (sd rfl (yM rfl rfl (sd rfl (yM rfl rfl (sd rfl (yL un27 rfl rfl (sd rfl (yC en39 rfl (oc rfl (oc rfl oz)) (Cal.mono (c_u_pick pC ((u_pick pC ((u_store pC p_c p_t).2) 12).2) (((u_store pC p_c p_t).1).length : Int) hB44 (RdS.chg gU q38 hc43 (fun k hl hk => by simp only [InR, or_false, Iv, Ge] at hk ⊢; omega)) (by omega) (by omega) o6 (by omega) (by assumption)) ?_))))))))))))
     rintro v337 w334 ⟨rfl, hp335, hp336, hB339, hc338⟩
     have hc338z := Chg.size hc338
     have hB339z := Box.lt hB339
     have q342 := OwnL.chg gW (OwnL.chg gW h30 hc43 (fun k hl hk => by simp only [InR, or_false] at hk; omega)) hc338 (fun k hl hk => by simp only [InR, or_false] at hk; omega)
     obtain ⟨eb343, eo343, _, eA343, _, ebl343, _, eR343, eC343⟩ := RdS.atD (OwnL.rd gW q342) d_Write (i := ((u_pick pC ((u_pick pC ((u_store pC p_c p_t).2) 12).2) (((u_store pC p_c p_t).1).length : Int)).1).toNat) (by first | omega | assumption | (simp only [wI] at *; omega))
     obtain rfl := eR343
     have eC343 : Cells w334 eb343 (eo343 + (((u_pick pC ((u_pick pC ((u_store pC p_c p_t).2) 12).2) (((u_store pC p_c p_t).1).length : Int)).1).toNat) * 3) [.string (bs ((((u_store pC p_c p_t).1).getD (((u_pick pC ((u_pick pC ((u_store pC p_c p_t).2) 12).2) (((u_store pC p_c p_t).1).length : Int)).1).toNat) d_Write).Key)), .string (bs ((((u_store pC p_c p_t).1).getD (((u_pick pC ((u_pick pC ((u_store pC p_c p_t).2) 12).2) (((u_store pC p_c p_t).1).length : Int)).1).toNat) d_Write).Val)), .bool ((((u_store pC p_c p_t).1).getD (((u_pick pC ((u_pick pC ((u_store pC p_c p_t).2) 12).2) (((u_store pC p_c p_t).1).length : Int)).1).toNat) d_Write).Gone)] := eC343
     refine sd rfl (yl_indexAddr un27 ty66 rfl rfl rfl eA343 (by first | omega | assumption | (simp only [wI] at *; omega)) (by first | omega | assumption | (simp only [wI] at *; omega)) (sd rfl (yl_fieldAddr fd66_2 rfl rfl ?_)))
     have hrg344 := OwnL.rng q342 (i := ((u_pick pC ((u_pick pC ((u_store pC p_c p_t).2) 12).2) (((u_store pC p_c p_t).1).length : Int)).1).toNat) (by first | omega | assumption | (simp only [wI] at *; omega)) eb343 (by rw [eA343]; rfl)
     refine SeqR.u rfl rfl (yl_storeF (off := eo343) (i := ((u_pick pC ((u_pick pC ((u_store pC p_c p_t).2) 12).2) (((u_store pC p_c p_t).1).length : Int)).1).toNat) (d := 2) (dx := d_Write) (x' := (⟨(((u_store pC p_c p_t).1).getD (((u_pick pC ((u_pick pC ((u_store pC p_c p_t).2) 12).2) (((u_store pC p_c p_t).1).length : Int)).1).toNat) d_Write).Key, (((u_store pC p_c p_t).1).getD (((u_pick pC ((u_pick pC ((u_store pC p_c p_t).2) 12).2) (((u_store pC p_c p_t).1).length : Int)).1).toNat) d_Write).Val, true⟩ : DWrite)) (vs := [.bool (true)]) ty4 rfl q342 eA343 rfl rfl rfl rfl rfl (by first | omega | assumption | (simp only [wI] at *; omega)) (Nat.le_of_ble_eq_true rfl) rfl rfl ?_)
     intro w345 hB346 hO347
     have hO347z := hO347.size
     refine SeqR.done (bn (tn (CW.seq (CW.region (sd rfl (yM rfl rfl (sd rfl (yA rfl rfl (dn ?_)))))))))
     refine CW.ret (rr rfl (.cons rfl .nil) ?_)
     have hM348 : (u_bentStore pC p_c p_t) = (((((u_store pC p_c p_t).1).set (((u_pick pC ((u_pick pC ((u_store pC p_c p_t).2) 12).2) (((u_store pC p_c p_t).1).length : Int)).1).toNat) (⟨(((u_store pC p_c p_t).1).getD (((u_pick pC ((u_pick pC ((u_store pC p_c p_t).2) 12).2) (((u_store pC p_c p_t).1).length : Int)).1).toNat) d_Write).Key, (((u_store pC p_c p_t).1).getD (((u_pick pC ((u_pick pC ((u_store pC p_c p_t).2) 12).2) (((u_store pC p_c p_t).1).length : Int)).1).toNat) d_Write).Val, true⟩ : DWrite)), (((u_pick pC ((u_pick pC ((u_store pC p_c p_t).2) 12).2) (((u_store pC p_c p_t).1).length : Int)).2).1, ((u_pick pC ((u_pick pC ((u_store pC p_c p_t).2) 12).2) (((u_store pC p_c p_t).1).length : Int)).2).2))) := by first | (simp only [u_bentStore, hb45, hb75, hb331, hb332, cL]; done) | (simp only [u_bentStore, hb45, hb75, hb331, hb332, cond_true, cond_false, loopE_done, loopE_ret, pairE]; done) | exact (show (u_bentStore pC p_c p_t) = (((((u_store pC p_c p_t).1).set (((u_pick pC ((u_pick pC ((u_store pC p_c p_t).2) 12).2) (((u_store pC p_c p_t).1).length : Int)).1).toNat) (⟨(((u_store pC p_c p_t).1).getD (((u_pick pC ((u_pick pC ((u_store pC p_c p_t).2) 12).2) (((u_store pC p_c p_t).1).length : Int)).1).toNat) d_Write).Key, (((u_store pC p_c p_t).1).getD (((u_pick pC ((u_pick pC ((u_store pC p_c p_t).2) 12).2) (((u_store pC p_c p_t).1).length : Int)).1).toNat) d_Write).Val, true⟩ : DWrite)), ((u_pick pC ((u_pick pC ((u_store pC p_c p_t).2) 12).2) (((u_store pC p_c p_t).1).length : Int)).2))) from by simp only [u_bentStore, hb45, hb75, hb331, hb332, cond_true, cond_false, loopE_done, loopE_ret, pairE])
     have hfx349 := (hB346).1
     have hol350 : ((u_store pC p_c p_t).1).length ≤ 2147483648 := ho31.1
     rw [hM348]
     exact ⟨A30, c30, lo30, hi30, (by first | rfl | (simp only [List.length_replicate, List.length_set]; done) | (simp only [List.length_replicate, List.length_set]; rfl) | rw [hfx349]), (OwnL.fix hB346), (okL.mk (xs := (((u_store pC p_c p_t).1).set (((u_pick pC ((u_pick pC ((u_store pC p_c p_t).2) 12).2) (((u_store pC p_c p_t).1).length : Int)).1).toNat) (⟨(((u_store pC p_c p_t).1).getD (((u_pick pC ((u_pick pC ((u_store pC p_c p_t).2) 12).2) (((u_store pC p_c p_t).1).length : Int)).1).toNat) d_Write).Key, (((u_store pC p_c p_t).1).getD (((u_pick pC ((u_pick pC ((u_store pC p_c p_t).2) 12).2) (((u_store pC p_c p_t).1).length : Int)).1).toNat) d_Write).Val, true⟩ : DWrite))) (by first | omega | (simp only [lN, toS_length]; omega)) (okE.set (ho31).2 ⟨(okL.getD ho31 ok_d_Write _).1, (okL.getD ho31 ok_d_Write _).2⟩)), (by (try dsimp only); first | omega | assumption | (simp only [wI] at *; omega)), (Box.only hB339 hO347 (by omega)), (by omega), (Chg.tonly (Chg.tchg (Chg.tchg (Chg.tchg (Chg.tex (Chg.refl (InR [(b1, b1 + 1)]) w) hE24) hc35 (fun k hk => by simp only [InR, or_false] at hk ⊢; omega)) hc43 (fun k hk => by simp only [InR, or_false] at hk ⊢; omega)) hc338 (fun k hk => by simp only [InR, or_false] at hk ⊢; omega)) hO347 (by simp only [InR, or_false]; omega))⟩
    ·have hb332p := dec_f hb332
     refine CW.cond_f rfl hb332 (CW.skip (bn (tn (CW.seq (CW.region (sd rfl (yM rfl rfl (sd rfl (yA rfl rfl (SeqR.done ?_))))))))))
     refine tn (CW.ret (rr rfl (.cons rfl .nil) ?_))
     have hM357 : (u_bentStore pC p_c p_t) = (((u_store pC p_c p_t).1, (((u_pick pC ((u_store pC p_c p_t).2) 12).2).1, ((u_pick pC ((u_store pC p_c p_t).2) 12).2).2))) := by first | (simp only [u_bentStore, hb45, hb75, hb331, hb332, cL]; done) | (simp only [u_bentStore, hb45, hb75, hb331, hb332, cond_true, cond_false, loopE_done, loopE_ret, pairE]; done) | exact (show (u_bentStore pC p_c p_t) = (((u_store pC p_c p_t).1, ((u_pick pC ((u_store pC p_c p_t).2) 12).2))) from by simp only [u_bentStore, hb45, hb75, hb331, hb332, cond_true, cond_false, loopE_done, loopE_ret, pairE])
     rw [hM357]
     exact ⟨A30, c30, lo30, hi30, rfl, (OwnL.chg gW h30 hc43 (fun k hl hk => by simp only [InR, or_false] at hk; omega)), ho31, (by (try dsimp only); first | omega | assumption | (simp only [wI] at *; omega)), hB44, (by omega), (Chg.tchg (Chg.tchg (Chg.tex (Chg.refl (InR [(b1, b1 + 1)]) w) hE24) hc35 (fun k hk => by simp only [InR, or_false] at hk ⊢; omega)) hc43 (fun k hk => by simp only [InR, or_false] at hk ⊢; omega))⟩
   ·have hb331p := dec_f hb331
    refine CW.cond_f rfl hb331 (CW.seq (CW.region (sd rfl (yl_eql rfl rfl rfl (sd rfl (yA rfl rfl (dn (bcase (decide (((u_pick pC ((u_store pC p_c p_t).2) 12).1) = 3)) (fun hb362 => ?_) (fun hb362 => ?_)))))))))
    ·have hb362p := dec_t hb362
     refine CW.cond_t rfl hb362 ?_
     have q363 := Box.chg hB23 hc35 (by have := Box.lt hB23; simp only [InR, or_false]; omega)
     have q364 := Box.chg q363 hc43 (by have := Box.lt q363; simp only [InR, or_false]; omega)
     have hol365 : p_t.Name.length ≤ 1073741824 := o13.1
     have hol374 : p_t.Name.length ≤ 1073741824 := o13.1
     have hrf382 := of_len 6 pC ((u_pick pC ((u_store pC p_c p_t).2) 12).2) ([[120], [120, 47, 49, 47, 50], [47, 49], [97, 98, 99, 100, 47, 49]] : List Str) (by decide)
     refine CW.drawsG 11 (fun G b => G.dn 6 = true ∧ InR [(b1, b1 + 1)] b) (fun i G b => (i = 6 ∧ b1 ≤ b ∧ b < b1 + 1)) (vgetG [DetG (.slice A30 (((u_store pC p_c p_t).1).length) c30), DetG (.pointer (some ⟨b19, 0 + 0, none⟩)), DetG (.string (bs (p_t.Name))), DetG (.string (bs (p_t.Name ++ ([46, 105, 47] : Str)))), DetG (.pointer (some ⟨b1, 0, none⟩)), fun G v wq => ∃ A366, v = .slice A366 4 4 ∧ OwnL wq (G.fl 5) (G.fh 5) 9 1 (RF e_Str) A366 4 4 ([[120], [120, 47, 49, 47, 50], [47, 49], [97, 98, 99, 100, 47, 49]] : List Str), fun G v wq => v = .string (bs ((u_of pC ((u_pick pC ((u_store pC p_c p_t).2) 12).2) ([[120], [120, 47, 49, 47, 50], [47, 49], [97, 98, 99, 100, 47, 49]] : List Str)).1)) ∧ okS ((u_of pC ((u_pick pC ((u_store pC p_c p_t).2) 12).2) ([[120], [120, 47, 49, 47, 50], [47, 49], [97, 98, 99, 100, 47, 49]] : List Str)).1) ∧ (((u_pick pC ((u_store pC p_c p_t).2) 12).2).1 ≤ ((u_of pC ((u_pick pC ((u_store pC p_c p_t).2) 12).2) ([[120], [120, 47, 49, 47, 50], [47, 49], [97, 98, 99, 100, 47, 49]] : List Str)).2).1 ∧ ((u_of pC ((u_pick pC ((u_store pC p_c p_t).2) 12).2) ([[120], [120, 47, 49, 47, 50], [47, 49], [97, 98, 99, 100, 47, 49]] : List Str)).2).1 ≤ ((u_pick pC ((u_store pC p_c p_t).2) 12).2).1 + 2) ∧ Box wq b1 46 [.slice A3 pC.length c3, .int .i64 (((u_of pC ((u_pick pC ((u_store pC p_c p_t).2) 12).2) ([[120], [120, 47, 49, 47, 50], [47, 49], [97, 98, 99, 100, 47, 49]] : List Str)).2).1), .int .u64 (((u_of pC ((u_pick pC ((u_store pC p_c p_t).2) 12).2) ([[120], [120, 47, 49, 47, 50], [47, 49], [97, 98, 99, 100, 47, 49]] : List Str)).2).2)], DetG (.string (bs ((p_t.Name ++ ([46, 105, 47] : Str)) ++ ((u_of pC ((u_pick pC ((u_store pC p_c p_t).2) 12).2) ([[120], [120, 47, 49, 47, 50], [47, 49], [97, 98, 99, 100, 47, 49]] : List Str)).1)))), DetG (.agg #[.string (bs ((p_t.Name ++ ([46, 105, 47] : Str)) ++ ((u_of pC ((u_pick pC ((u_store pC p_c p_t).2) 12).2) ([[120], [120, 47, 49, 47, 50], [47, 49], [97, 98, 99, 100, 47, 49]] : List Str)).1))), .string (bs (([] : Str))), .bool (false)]), fun G v wq => ∃ A378 c378 lo378 hi378, v = .slice A378 ((s_l5PutW ((u_store pC p_c p_t).1) (⟨(p_t.Name ++ ([46, 105, 47] : Str)) ++ ((u_of pC ((u_pick pC ((u_store pC p_c p_t).2) 12).2) ([[120], [120, 47, 49, 47, 50], [47, 49], [97, 98, 99, 100, 47, 49]] : List Str)).1), ([] : Str), false⟩ : DWrite)).length) c378 ∧ OwnL wq lo378 hi378 66 3 (RF e_Write) A378 ((s_l5PutW ((u_store pC p_c p_t).1) (⟨(p_t.Name ++ ([46, 105, 47] : Str)) ++ ((u_of pC ((u_pick pC ((u_store pC p_c p_t).2) 12).2) ([[120], [120, 47, 49, 47, 50], [47, 49], [97, 98, 99, 100, 47, 49]] : List Str)).1), ([] : Str), false⟩ : DWrite)).length) c378 (s_l5PutW ((u_store pC p_c p_t).1) (⟨(p_t.Name ++ ([46, 105, 47] : Str)) ++ ((u_of pC ((u_pick pC ((u_store pC p_c p_t).2) 12).2) ([[120], [120, 47, 49, 47, 50], [47, 49], [97, 98, 99, 100, 47, 49]] : List Str)).1), ([] : Str), false⟩ : DWrite)) ∧ (okL ok_Write) (s_l5PutW ((u_store pC p_c p_t).1) (⟨(p_t.Name ++ ([46, 105, 47] : Str)) ++ ((u_of pC ((u_pick pC ((u_store pC p_c p_t).2) 12).2) ([[120], [120, 47, 49, 47, 50], [47, 49], [97, 98, 99, 100, 47, 49]] : List Str)).1), ([] : Str), false⟩ : DWrite)) ∧ (s_l5PutW ((u_store pC p_c p_t).1) (⟨(p_t.Name ++ ([46, 105, 47] : Str)) ++ ((u_of pC ((u_pick pC ((u_store pC p_c p_t).2) 12).2) ([[120], [120, 47, 49, 47, 50], [47, 49], [97, 98, 99, 100, 47, 49]] : List Str)).1), ([] : Str), false⟩ : DWrite)).length ≤ ((u_store pC p_c p_t).1).length + 1 ∧ ((G.fl 9) ≤ lo378 ∧ lo378 ≤ hi378 ∧ hi378 ≤ (G.fh 9)), fun G v wq => ∃ A378 c378 lo378 hi378, v = .slice A378 ((s_l5PutW ((u_store pC p_c p_t).1) (⟨(p_t.Name ++ ([46, 105, 47] : Str)) ++ ((u_of pC ((u_pick pC ((u_store pC p_c p_t).2) 12).2) ([[120], [120, 47, 49, 47, 50], [47, 49], [97, 98, 99, 100, 47, 49]] : List Str)).1), ([] : Str), false⟩ : DWrite)).length) c378 ∧ OwnL wq lo378 hi378 66 3 (RF e_Write) A378 ((s_l5PutW ((u_store pC p_c p_t).1) (⟨(p_t.Name ++ ([46, 105, 47] : Str)) ++ ((u_of pC ((u_pick pC ((u_store pC p_c p_t).2) 12).2) ([[120], [120, 47, 49, 47, 50], [47, 49], [97, 98, 99, 100, 47, 49]] : List Str)).1), ([] : Str), false⟩ : DWrite)).length) c378 (s_l5PutW ((u_store pC p_c p_t).1) (⟨(p_t.Name ++ ([46, 105, 47] : Str)) ++ ((u_of pC ((u_pick pC ((u_store pC p_c p_t).2) 12).2) ([[120], [120, 47, 49, 47, 50], [47, 49], [97, 98, 99, 100, 47, 49]] : List Str)).1), ([] : Str), false⟩ : DWrite)) ∧ ((G.fl 9) ≤ lo378 ∧ lo378 ≤ hi378 ∧ hi378 ≤ (G.fh 9))]) Tryz.follows rfl rfl rfl rfl rfl rfl (fun _ _ _ _ _ h => ⟨Gh.udn h.1, h.2⟩) (fun i G w lo hi b K hn hh hp => by exact (match hp with | ⟨e, q1, q2⟩ => by subst e; exact .inl ⟨Gh.sdn, .inl ⟨q1, q2⟩⟩)) (vgetG_kept ⟨(KeptG.det _), (KeptG.det _), (KeptG.det _), (KeptG.det _), (KeptG.det _), (by rintro i G v w w' K hn hh hj ⟨A366, hv, h0⟩ e; have d5 : G.dn 5 = true := hj; have u5 := Gh.ufl (lo := w.heap.size) (hi := w'.heap.size) d5 hn; have t5 := Gh.ufh (lo := w.heap.size) (hi := w'.heap.size) d5 hn; exact ⟨A366, hv, (by simp only [u5, t5]; exact OwnL.chg gS h0 e (fun b hb hp => by obtain ⟨rfl, q1, q2⟩ := hp; have := K.rng 5 d5; skip; omega))⟩), (by rintro i G v w w' K hn hh hj ⟨hv, h0, h1, h2⟩ e; exact ⟨hv, h0, h1, (by exact Box.chg h2 e (fun hp => by obtain ⟨rfl, q1, q2⟩ := hp; rw [hj] at hn; cases hn))⟩), (KeptG.det _), (KeptG.det _), (by rintro i G v w w' K hn hh hj ⟨A378, c378, lo378, hi378, hv, h0, h1, h2, hr0⟩ e; have d9 : G.dn 9 = true := hj; have u9 := Gh.ufl (lo := w.heap.size) (hi := w'.heap.size) d9 hn; have t9 := Gh.ufh (lo := w.heap.size) (hi := w'.heap.size) d9 hn; exact ⟨A378, c378, lo378, hi378, hv, (by exact OwnL.chg gW h0 e (fun b hb hp => by obtain ⟨rfl, q1, q2⟩ := hp; rw [K.cl 9 6 hj rfl] at hn; cases hn)), h1, h2, (by simp only [u9, t9]; exact hr0)⟩), (by rintro i G v w w' K hn hh hj ⟨A378, c378, lo378, hi378, hv, h0, hr0⟩ e; have d9 : G.dn 9 = true := K.cl 10 9 hj rfl; have u9 := Gh.ufl (lo := w.heap.size) (hi := w'.heap.size) d9 hn; have t9 := Gh.ufh (lo := w.heap.size) (hi := w'.heap.size) d9 hn; exact ⟨A378, c378, lo378, hi378, hv, (by exact OwnL.chg gW h0 e (fun b hb hp => by obtain ⟨rfl, q1, q2⟩ := hp; rw [K.cl 10 6 hj rfl] at hn; cases hn)), (by simp only [u9, t9]; exact hr0)⟩), trivial⟩) ⟨?_, ?_, ?_, ?_, ?_, ?_, ?_, ?_, ?_, ?_, ?_, trivial⟩ ?_
     ·intro L384 w385 G383 hgk386
      have hE387 : Chg (fun b => InR [(b1, b1 + 1)] b ∨ w39.heap.size ≤ b) w39 w385 := hgk386.st.ex.imp (fun b _ h => h.imp (fun h => h.2) (fun h => h))
      have hE387z := Chg.size hE387
      exact OpR.op' rfl (Yl.sameG (yM rfl (hgk386.old 5 _ rfl rfl) kI))
     ·intro L390 w391 G389 hgk392
      have hE393 : Chg (fun b => InR [(b1, b1 + 1)] b ∨ w39.heap.size ≤ b) w39 w391 := hgk392.st.ex.imp (fun b _ h => h.imp (fun h => h.2) (fun h => h))
      have hE393z := Chg.size hE393
      exact OpR.op' rfl (Yl.sameG (yl_fieldAddr fd26_0 rfl (hgk392.old 3 _ rfl rfl) kI))
     ·intro L396 w397 G395 hgk398
      have hE399 : Chg (fun b => InR [(b1, b1 + 1)] b ∨ w39.heap.size ≤ b) w39 w397 := hgk398.st.ex.imp (fun b _ h => h.imp (fun h => h.2) (fun h => h))
      have hE399z := Chg.size hE399
      obtain ⟨_, hx400, rfl⟩ := hgk398.val 1 47 rfl rfl
      exact OpR.op' rfl (Yl.sameG (yl_load1 ty9 rfl hx400 (((Box.chg q364 hE399 (by have := Box.lt q364; simp only [InR, or_false]; omega)).cell 0).trans rfl) kI))
     ·intro L403 w404 G402 hgk405
      have hE406 : Chg (fun b => InR [(b1, b1 + 1)] b ∨ w39.heap.size ≤ b) w39 w404 := hgk405.st.ex.imp (fun b _ h => h.imp (fun h => h.2) (fun h => h))
      have hE406z := Chg.size hE406
      obtain ⟨_, hx407, rfl⟩ := hgk405.val 2 48 rfl rfl
      have hol408 : p_t.Name.length ≤ 1073741824 := o13.1
      exact OpR.op' rfl (Yl.sameG (yl_sadd (a := p_t.Name) (b := ([46, 105, 47] : Str)) rfl hx407 rfl (by first | omega | (simp only [lN, toS_length]; omega)) kI))
     ·intro L410 w411 G409 hgk412
      have hE413 := hgk412.st.ex.ex (fun b h => h.elim (fun h => hgk412.no rfl h) (fun h => h))
      have hE413z := Ex.size hE413
      exact OpR.op' rfl (Yl.sameG (yM rfl (hgk412.old 0 _ rfl rfl) kI))
     ·intro L416 w417 G415 hgk418
      have hE419 := hgk418.st.ex.ex (fun b h => h.elim (fun h => hgk418.no rfl h) (fun h => h))
      have hE419z := Ex.size hE419
      refine OpR.op' rfl (yl_buildSlice (cs := [.string (bs (([120] : Str))), .string (bs (([120, 47, 49, 47, 50] : Str))), .string (bs (([47, 49] : Str))), .string (bs (([97, 98, 99, 100, 47, 49] : Str)))]) un23 ty9 (by decide) rfl (oc rfl (oc rfl (oc rfl (oc rfl oz)))) (by kernel_rfl) ?_)
      intro b420 w421 hs422 hz423 hB424 hE425
      have hO426 : OwnL w421 b420 (b420 + 1) 9 1 (RF e_Str) (some ⟨b420, 0, none⟩) 4 4 ([[120], [120, 47, 49, 47, 50], [47, 49], [97, 98, 99, 100, 47, 49]] : List Str) := OwnL.of_box (S := fun _ => False) hB424 (Nat.le_refl _) (Nat.lt_succ_self _) (EncL.cons (c := [.string (bs (([120] : Str)))]) rfl rfl (EncL.cons (c := [.string (bs (([120, 47, 49, 47, 50] : Str)))]) rfl rfl (EncL.cons (c := [.string (bs (([47, 49] : Str)))]) rfl rfl (EncL.cons (c := [.string (bs (([97, 98, 99, 100, 47, 49] : Str)))]) rfl rfl EncL.nil)))) (Nat.le_of_ble_eq_true rfl) (fun h => h) (fun _ h => False.elim h)
      exact ⟨Chg.of_ex hE425, (some ⟨b420, 0, none⟩), rfl, OwnL.more (lo' := w417.heap.size) (hi' := w421.heap.size) hO426 (by omega) (by omega)⟩
     ·intro L428 w429 G427 hgk430
      have hE431 := hgk430.st.ex.ex (fun b h => h.elim (fun h => hgk430.nw h) (fun h => h))
      have hE431z := Ex.size hE431
      obtain ⟨_, hx432, rfl⟩ := hgk430.val 4 50 rfl rfl
      obtain ⟨_, hx433, A366_434, rfl, h435⟩ := hgk430.val 5 51 rfl rfl
      have hr436 := hgk430.st.rng 5 (hgk430.has 5 rfl)
      have hle439 := OwnL.len h435
      refine OpR.op' rfl (yC en17 rfl (oc hx432 (oc hx433 oz)) (Cal.mono (Cal.args (by rw [← hle439] <;> rfl) (c_u_of pC ((u_pick pC ((u_store pC p_c p_t).2) 12).2) ([[120], [120, 47, 49, 47, 50], [47, 49], [97, 98, 99, 100, 47, 49]] : List Str) (Box.ex hB44 hE431) (RdS.ex gU (RdS.chg gU q38 hc43 (fun k hl hk => by simp only [InR, or_false, Iv, Ge] at hk ⊢; omega)) hE431) (by omega) (by omega) (RdS.fix (OwnL.rdI gS h435)) (by omega) (by omega) o6 (okL.mk (Nat.le_of_ble_eq_true rfl) (okE.cons (okS.lit rfl) (okE.cons (okS.lit rfl) (okE.cons (okS.lit rfl) (okE.cons (okS.lit rfl) okE.nil))))) (by first | omega | assumption | (simp only [wI] at *; omega) | (simp only [lN]; omega)) (by omega) (by assumption))) ?_))
      rintro v443 w440 ⟨rfl, ho441, hp442, hB445, hE444⟩
      exact ⟨hE444.imp (fun k _ hk => hk.elim (fun hk => (⟨rfl, hk.1, hk.2⟩)) False.elim), rfl, ho441, hp442, hB445⟩
     ·intro L447 w448 G446 hgk449
      have hE450 : Chg (fun b => InR [(b1, b1 + 1)] b ∨ w39.heap.size ≤ b) w39 w448 := hgk449.st.ex.imp (fun b _ h => h.imp (fun h => h.2) (fun h => h))
      have hE450z := Chg.size hE450
      obtain ⟨_, hx451, rfl⟩ := hgk449.val 3 49 rfl rfl
      obtain ⟨_, hx452, rfl, h453, h454, h455⟩ := hgk449.val 6 52 rfl rfl
      have hr456 := hgk449.st.rng 6 (hgk449.has 6 rfl)
      have hol457 : p_t.Name.length ≤ 1073741824 := o13.1
      have hol458 : ((u_of pC ((u_pick pC ((u_store pC p_c p_t).2) 12).2) ([[120], [120, 47, 49, 47, 50], [47, 49], [97, 98, 99, 100, 47, 49]] : List Str)).1).length ≤ 1073741824 := h453
      exact OpR.op' rfl (Yl.sameG (yl_sadd (a := (p_t.Name ++ ([46, 105, 47] : Str))) (b := ((u_of pC ((u_pick pC ((u_store pC p_c p_t).2) 12).2) ([[120], [120, 47, 49, 47, 50], [47, 49], [97, 98, 99, 100, 47, 49]] : List Str)).1)) rfl hx451 hx452 (by first | omega | (simp only [lN, toS_length]; omega)) kI))
     ·intro L460 w461 G459 hgk462
      have hE463 : Chg (fun b => InR [(b1, b1 + 1)] b ∨ w39.heap.size ≤ b) w39 w461 := hgk462.st.ex.imp (fun b _ h => h.imp (fun h => h.2) (fun h => h))
      have hE463z := Chg.size hE463
      obtain ⟨_, hx464, rfl⟩ := hgk462.val 7 53 rfl rfl
      exact OpR.op' rfl (Yl.sameG (yl_build (cs := [.string (bs ((p_t.Name ++ ([46, 105, 47] : Str)) ++ ((u_of pC ((u_pick pC ((u_store pC p_c p_t).2) 12).2) ([[120], [120, 47, 49, 47, 50], [47, 49], [97, 98, 99, 100, 47, 49]] : List Str)).1))), .string (bs (([] : Str))), .bool (false)]) rfl (oc hx464 oz) (by kernel_rfl) kI))
     ·intro L466 w467 G465 hgk468
      have hE469 : Chg (fun b => InR [(b1, b1 + 1)] b ∨ w39.heap.size ≤ b) w39 w467 := hgk468.st.ex.imp (fun b _ h => h.imp (fun h => h.2) (fun h => h))
      have hE469z := Chg.size hE469
      obtain ⟨_, hx470, rfl⟩ := hgk468.val 0 46 rfl rfl
      obtain ⟨_, hx471, rfl⟩ := hgk468.val 8 54 rfl rfl
      obtain ⟨_, rfl, h472, h473, h474⟩ := hgk468.fact 6 rfl
      have hr475 := hgk468.st.rng 6 (hgk468.has 6 rfl)
      refine OpR.op' rfl (yC en41 rfl (oc hx470 (oc hx471 oz)) (Cal.mono (c_s_l5PutW ((u_store pC p_c p_t).1) (⟨(p_t.Name ++ ([46, 105, 47] : Str)) ++ ((u_of pC ((u_pick pC ((u_store pC p_c p_t).2) 12).2) ([[120], [120, 47, 49, 47, 50], [47, 49], [97, 98, 99, 100, 47, 49]] : List Str)).1), ([] : Str), false⟩ : DWrite) (RdS.up (OwnL.rd gW (OwnL.chg gW (OwnL.chg gW h30 hc43 (fun k hl hk => by simp only [InR, or_false] at hk; omega)) hE469 (fun k hl hk => by simp only [InR, or_false] at hk; omega))) gW) ho31 (⟨(by unfold okS; simp only [lN]; omega), (okS.lit rfl)⟩) (by first | omega | assumption | (simp only [wI] at *; omega))) ?_))
      rintro v482 w478 ⟨A479, c479, lo479, hi479, rfl, h479, ho480, hp481, hrn484, hE483⟩
      exact ⟨Chg.of_ex hE483, A479, c479, lo479, hi479, rfl, h479, ho480, hp481, hrn484⟩
     ·intro L486 w487 G485 hgk488
      have hE489 : Chg (fun b => InR [(b1, b1 + 1)] b ∨ w39.heap.size ≤ b) w39 w487 := hgk488.st.ex.imp (fun b _ h => h.imp (fun h => h.2) (fun h => h))
      have hE489z := Chg.size hE489
      obtain ⟨_, hx490, A378_491, c378_492, lo378_493, hi378_494, rfl, h495, h496, h497, hrn498⟩ := hgk488.val 9 55 rfl rfl
      have hr499 := hgk488.st.rng 9 (hgk488.has 9 rfl)
      exact OpR.op' rfl (Yl.sameG (yA rfl hx490 ⟨fun _ _ => ⟨A378_491, c378_492, lo378_493, hi378_494, rfl, h495, (show ((G485.fl 9) ≤ lo378_493 ∧ lo378_493 ≤ hi378_494 ∧ hi378_494 ≤ (G485.fh 9)) by omega)⟩, rfl⟩))
     ·intro G500 L501 w502 hgp503
      have hE504 : Chg (fun b => InR [(b1, b1 + 1)] b ∨ w39.heap.size ≤ b) w39 w502 := hgp503.st.ex.imp (fun b _ h => h.imp (fun h => h.2) (fun h => h))
      have hE504z := Chg.size hE504
      obtain ⟨_, hx505, A366_506, rfl, h507⟩ := hgp503.val 5 51 rfl rfl
      obtain ⟨_, hx508, rfl, h509, h510, h511⟩ := hgp503.val 6 52 rfl rfl
      obtain ⟨_, hx512, A378_513, c378_514, lo378_515, hi378_516, rfl, h517, h518, h519, hrn520⟩ := hgp503.val 9 55 rfl rfl
      obtain ⟨_, hx521, A378_522, c378_523, lo378_524, hi378_525, rfl, h526, hrn527⟩ := hgp503.val 10 5 rfl rfl
      have hbz528 := Box.lt h511
      have hr529 := hgp503.st.rng 5 (hgp503.has 5 rfl)
      have hr530 := hgp503.st.rng 6 (hgp503.has 6 rfl)
      have hr531 := hgp503.st.rng 9 (hgp503.has 9 rfl)
      have hr532 := hgp503.st.rng 10 (hgp503.has 10 rfl)
      have hsp533 := hgp503.st.ord 6 5 (hgp503.has 6 rfl) rfl
      have hsp534 := hgp503.st.ord 9 5 (hgp503.has 9 rfl) rfl
      have hsp535 := hgp503.st.ord 10 5 (hgp503.has 10 rfl) rfl
      have hsp536 := hgp503.st.ord 9 6 (hgp503.has 9 rfl) rfl
      have hsp537 := hgp503.st.ord 10 6 (hgp503.has 10 rfl) rfl
      have hsp538 := hgp503.st.ord 10 9 (hgp503.has 10 rfl) rfl
      refine SeqR.done (bn (tn (CW.sub (Sub.cons (d := 5) hx521 (Sub.nil _)) (CW.seq (CW.region (sd rfl (yM rfl rfl (sd rfl (yA rfl rfl (SeqR.done ?_))))))))))
      refine tn (CW.ret (rr rfl (.cons rfl .nil) ?_))
      have hM539 : (u_bentStore pC p_c p_t) = (((s_l5PutW ((u_store pC p_c p_t).1) (⟨(p_t.Name ++ ([46, 105, 47] : Str)) ++ ((u_of pC ((u_pick pC ((u_store pC p_c p_t).2) 12).2) ([[120], [120, 47, 49, 47, 50], [47, 49], [97, 98, 99, 100, 47, 49]] : List Str)).1), ([] : Str), false⟩ : DWrite)), (((u_of pC ((u_pick pC ((u_store pC p_c p_t).2) 12).2) ([[120], [120, 47, 49, 47, 50], [47, 49], [97, 98, 99, 100, 47, 49]] : List Str)).2).1, ((u_of pC ((u_pick pC ((u_store pC p_c p_t).2) 12).2) ([[120], [120, 47, 49, 47, 50], [47, 49], [97, 98, 99, 100, 47, 49]] : List Str)).2).2))) := by first | (simp only [u_bentStore, hb45, hb75, hb331, hb362, cL]; done) | (simp only [u_bentStore, hb45, hb75, hb331, hb362, cond_true, cond_false, loopE_done, loopE_ret, pairE]; done) | exact (show (u_bentStore pC p_c p_t) = (((s_l5PutW ((u_store pC p_c p_t).1) (⟨(p_t.Name ++ ([46, 105, 47] : Str)) ++ ((u_of pC ((u_pick pC ((u_store pC p_c p_t).2) 12).2) ([[120], [120, 47, 49, 47, 50], [47, 49], [97, 98, 99, 100, 47, 49]] : List Str)).1), ([] : Str), false⟩ : DWrite)), ((u_of pC ((u_pick pC ((u_store pC p_c p_t).2) 12).2) ([[120], [120, 47, 49, 47, 50], [47, 49], [97, 98, 99, 100, 47, 49]] : List Str)).2))) from by simp only [u_bentStore, hb45, hb75, hb331, hb362, cond_true, cond_false, loopE_done, loopE_ret, pairE])
      rw [hM539]
      exact ⟨A378_522, c378_523, lo378_524, hi378_525, rfl, h526, h518, (by (try dsimp only); first | omega | assumption | (simp only [wI] at *; omega)), h511, (by omega), (Chg.tchg (Chg.tchg (Chg.tchg (Chg.tex (Chg.refl (InR [(b1, b1 + 1)]) w) hE24) hc35 (fun k hk => by simp only [InR, or_false] at hk ⊢; omega)) hc43 (fun k hk => by simp only [InR, or_false] at hk ⊢; omega)) hE504 (fun k hk => by simp only [InR, or_false] at hk ⊢; omega))⟩
    ·have hb362p := dec_f hb362
     refine CW.cond_f rfl hb362 (CW.skip (bn (tn (CW.seq (CW.region (sd rfl (yM rfl rfl (sd rfl (yA rfl rfl (SeqR.done ?_))))))))))
     refine tn (CW.ret (rr rfl (.cons rfl .nil) ?_))
     have hM544 : (u_bentStore pC p_c p_t) = (((u_store pC p_c p_t).1, (((u_pick pC ((u_store pC p_c p_t).2) 12).2).1, ((u_pick pC ((u_store pC p_c p_t).2) 12).2).2))) := by first | (simp only [u_bentStore, hb45, hb75, hb331, hb362, cL]; done) | (simp only [u_bentStore, hb45, hb75, hb331, hb362, cond_true, cond_false, loopE_done, loopE_ret, pairE]; done) | exact (show (u_bentStore pC p_c p_t) = (((u_store pC p_c p_t).1, ((u_pick pC ((u_store pC p_c p_t).2) 12).2))) from by simp only [u_bentStore, hb45, hb75, hb331, hb362, cond_true, cond_false, loopE_done, loopE_ret, pairE])
     rw [hM544]
     exact ⟨A30, c30, lo30, hi30, rfl, (OwnL.chg gW h30 hc43 (fun k hl hk => by simp only [InR, or_false] at hk; omega)), ho31, (by (try dsimp only); first | omega | assumption | (simp only [wI] at *; omega)), hB44, (by omega), (Chg.tchg (Chg.tchg (Chg.tex (Chg.refl (InR [(b1, b1 + 1)]) w) hE24) hc35 (fun k hk => by simp only [InR, or_false] at hk ⊢; omega)) hc43 (fun k hk => by simp only [InR, or_false] at hk ⊢; omega))⟩
end Go.Proofs.YtlnjgkmpaebioaaGreatDoor
