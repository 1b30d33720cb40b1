/- Fn Entries: what each call returns, part 4. -/
import Derived.Test.YtlnjgkmpaebioaaGreatDoorFnEntriesC3
set_option maxRecDepth 100000
set_option maxHeartbeats 2000000
open Go.Proofs.Tryz Go.Proofs.YtlnjgkmpaebioaaGreatDoor.Tryz
set_option linter.unusedVariables false
set_option linter.unusedSimpArgs false
namespace Go.Proofs.YtlnjgkmpaebioaaGreatDoor
open Go.RowKit Go.X
theorem c_s_GoodTable {A1 : Option Addr} {c1 : Nat} {A2 : Option Addr} {c2 : Nat} {w : World} (p_0 : DTable) (h1 : RdS w (Iv 0 w.heap.size) (RF e_Str) 1 A1 p_0.Cols.length c1 p_0.Cols) (h2 : RdS w (Iv 0 w.heap.size) (RF e_Idx) 3 A2 p_0.Idxs.length c2 p_0.Idxs) (o3 : ok_Table p_0) : Cal Tryz.prog 33 #[.agg #[.string (bs (p_0.Name)), .slice A1 p_0.Cols.length c1, .slice A2 p_0.Idxs.length c2]] w fun v w' => v = .bool ((s_GoodTable p_0)) ∧ Ex w w' := by
 have hol4 : p_0.Name.length ≤ 1073741824 := o3.1
 have hol5 := o3.2.1.1
 have hol6 := o3.2.2.1
 refine Cal.of func33 rfl ntmps33 rfl (CW.seq (CW.region (sd rfl (yl_box rfl rfl rfl ?_))))
 intro b7 w8 hs9 hz10 hB11 hE12
 refine sd rfl (yA rfl rfl (dn (CW.seq (CW.seq (CW.region (sd rfl (yl_fieldAddr fd26_0 rfl rfl (sd rfl (yl_load1 ty9 rfl rfl ((hB11.cell 0).trans rfl) (sd rfl (yC en57 rfl (oc rfl (oc rfl oz)) (Cal.mono (c_s_l24Letters p_0.Name 1 o3.1) ?_))))))))))))
 rintro v14 w13 ⟨rfl, hE15⟩
 have hE15z := Ex.size hE15
 refine sd rfl (yl_not rfl rfl (sd rfl (yM rfl rfl (bcase (s_l24Letters p_0.Name 1) (fun hb16 => ?_) (fun hb16 => ?_)))))
 ·refine sy rfl rfl (not_t hb16) (yl_fieldAddr fd26_1 rfl rfl ?_)
  have q17 := Box.ex hB11 hE15
  refine sy rfl rfl (not_t hb16) (yl_load1 ty23 rfl rfl ((q17.cell 1).trans rfl) ?_)
  have q19 := RdS.ex gS (RdS.ex gS h1 hE12) hE15
  refine sy rfl rfl (not_t hb16) (yC en58 rfl (oc rfl oz) (Cal.mono (c_s_l24Cols p_0.Cols (RdS.up q19 gS) o3.2.1) ?_))
  rintro v21 w20 ⟨rfl, hE22⟩
  have hE22z := Ex.size hE22
  refine sy rfl rfl (not_t hb16) (yl_not rfl rfl (sd rfl (yl_pick_f rfl rfl (not_t hb16) rfl (sd rfl (yM rfl rfl (bcase (s_l24Cols p_0.Cols) (fun hb23 => ?_) (fun hb23 => ?_)))))))
  ·refine sy rfl rfl (not_t hb23) (yl_fieldAddr fd26_2 rfl rfl ?_)
   have q24 := Box.ex q17 hE22
   refine sy rfl rfl (not_t hb23) (yl_load1 ty24 rfl rfl ((q24.cell 2).trans rfl) (sy rfl rfl (not_t hb23) (yL un24 rfl rfl (sy rfl rfl (not_t hb23) (yl_gtr rfl rfl rfl (sd rfl (yl_pick_f rfl rfl (not_t hb23) rfl (dn (bcase (decide (3 < (p_0.Idxs.length : Int))) (fun hb25 => ?_) (fun hb25 => ?_))))))))))
   ·have hb25p := dec_t hb25
    refine CW.cond_t rfl hb25 (CW.seq (CW.region (sd rfl (yA rfl rfl (dn (CW.ret (tr (rr rfl (.cons rfl .nil) ?_))))))))
    have hM26 : (s_GoodTable p_0) = (false) := by simp only [s_GoodTable, hb16, hb23, hb25, cL]
    rw [hM26]
    exact ⟨rfl, (Ex.trans (Ex.trans (Ex.trans (Ex.refl w) hE12) hE15) hE22)⟩
   ·have hb25p := dec_f hb25
    refine CW.cond_f rfl hb25 (CW.skip (tn (CW.seq (CW.seq (CW.region (sd rfl (yl_fieldAddr fd26_2 rfl rfl (sd rfl (yl_load1 ty24 rfl rfl ((q24.cell 2).trans rfl) (sd rfl (yL un24 rfl rfl ?_)))))))))))
    refine sd rfl (yM rfl rfl (dn (CW.block (CW.loop (fun m68 L69 w70 => ∃ (k30 : Nat), m68 = p_0.Idxs.length - k30 ∧ k30 ≤ p_0.Idxs.length ∧ w20.heap.size ≤ w70.heap.size ∧ lkp L69 1 = some (.pointer (some ⟨b7, 0, none⟩)) ∧ lkp L69 22 = some (.slice A2 p_0.Idxs.length c2) ∧ lkp L69 23 = some (.int .i64 ((p_0.Idxs.length : Int))) ∧ lkp L69 24 = some (.int .i64 ((k30 : Int))) ∧ Box w70 b7 26 [.string (bs (p_0.Name)), .slice A1 p_0.Cols.length c1, .slice A2 p_0.Idxs.length c2] ∧ RdS w70 (Iv 0 w.heap.size) (RF e_Str) 1 A1 p_0.Cols.length c1 p_0.Cols ∧ RdS w70 (Iv 0 w.heap.size) (RF e_Idx) 3 A2 p_0.Idxs.length c2 p_0.Idxs ∧ Ex w w70 ∧ loopM (B_s_GoodTable_0 p_0) (p_0.Idxs.length - k30) k30 () = loopM (B_s_GoodTable_0 p_0) (p_0.Idxs.length - 0) 0 ()) (p_0.Idxs.length - 0) ?_ ?_))))
    ·exact ⟨0, rfl, (by omega), Nat.le_refl _, rfl, rfl, rfl, rfl, q24, (RdS.ex gS q19 hE22), (RdS.ex gI (RdS.ex gI (RdS.ex gI h2 hE12) hE15) hE22), (Ex.trans (Ex.trans (Ex.trans (Ex.refl w) hE12) hE15) hE22), rfl⟩
    ·rintro m78 L79 w80 ⟨k30, rfl, hk81, hsz83, hl84, hl85, hl86, hl87, hf88, hf89, hf90, hf91, hI82⟩
     refine CW.sub (Sub.cons hl84 (Sub.cons hl85 (Sub.cons hl86 (Sub.cons hl87 (Sub.nil _))))) ?_
     have hf88z := Box.lt hf88
     have hf91z := Ex.size hf91
     have hbg92 := RdS.big hf90
     rcases Nat.lt_or_ge k30 p_0.Idxs.length with hlt93 | hlt93
     ·refine CW.seq (CW.region (sd rfl (yl_lss rfl rfl rfl (dn (CW.seq (CW.cond_t rfl (lt_t hlt93) (CW.skip (tn ?_))))))))
      refine CW.seq (CW.block (CW.seq (CW.region (sd rfl (yM rfl rfl ?_)))))
      obtain ⟨eb94, eo94, _, eA94, _, ebl94, _, eR94, eC94⟩ := RdS.aD hf90 d_Idx (i := k30)
      obtain rfl := eR94
      have eC94 : Cells w80 eb94 (eo94 + k30 * 3) [.string (bs ((p_0.Idxs.getD k30 d_Idx).Name)), .int .i64 ((p_0.Idxs.getD k30 d_Idx).Col), .int .i64 ((p_0.Idxs.getD k30 d_Idx).Stage)] := eC94
      refine sd rfl (yl_ixN un24 ty64 rfl rfl rfl eA94 (sd rfl (yl_loadN ty64 rfl rfl eC94 rfl (sd rfl (yB ty64 (cs := [.string (bs (([] : Str))), .int .i64 (0), .int .i64 (0)]) rfl rfl ?_)))))
      intro b95 w96 hs97 hz98 hB99 hE100
      refine sd rfl (yA rfl rfl (SeqR.u rfl rfl (yl_store (vs := [.string (bs ((p_0.Idxs.getD k30 d_Idx).Name)), .int .i64 ((p_0.Idxs.getD k30 d_Idx).Col), .int .i64 ((p_0.Idxs.getD k30 d_Idx).Stage)]) ty64 rfl rfl rfl rfl rfl rfl hB99 (Nat.le_of_ble_eq_true rfl) ?_)))
      intro w101 hB102 hO103
      have hB102 : Box w101 b95 64 [.string (bs ((p_0.Idxs.getD k30 d_Idx).Name)), .int .i64 ((p_0.Idxs.getD k30 d_Idx).Col), .int .i64 ((p_0.Idxs.getD k30 d_Idx).Stage)] := hB102
      have hO103z := hO103.size
      refine dn (CW.seq (bcase (s_l24Letters ((p_0.Idxs.getD k30 d_Idx).Name) 1) (fun hb105 => ?_) (fun hb105 => ?_)))
      ·refine bcase (s_l1In ((p_0.Idxs.getD k30 d_Idx).Col) 1 (IntKind.wrap .i64 ((p_0.Cols.length : Int) - 1))) (fun hb110 => ?_) (fun hb110 => ?_)
       ·have hb110p := f_l1In hb110
        refine bcase (s_l1In ((p_0.Idxs.getD k30 d_Idx).Stage) 0 3) (fun hb116 => ?_) (fun hb116 => ?_)
        ·have hb116p := f_l1In hb116
         refine bcase (decide (0 < (k30 : Int))) (fun hb122 => ?_) (fun hb122 => ?_)
         ·have hb122p := dec_t hb122
          have q125 := Box.only (Box.ex hf88 hE100) hO103 (by omega)
          have q129 := RdS.only gI (RdS.ex gI hf90 hE100) hO103 (by simp only [Iv]; omega)
          obtain ⟨eb130, eo130, _, eA130, _, ebl130, _, eR130, eC130⟩ := RdS.atD q129 d_Idx (i := (IntKind.wrap .i64 ((k30 : Int) - 1)).toNat) (by first | omega | assumption | (simp only [wI] at *; omega))
          obtain rfl := eR130
          have eC130 : Cells w101 eb130 (eo130 + ((IntKind.wrap .i64 ((k30 : Int) - 1)).toNat) * 3) [.string (bs ((p_0.Idxs.getD ((IntKind.wrap .i64 ((k30 : Int) - 1)).toNat) d_Idx).Name)), .int .i64 ((p_0.Idxs.getD ((IntKind.wrap .i64 ((k30 : Int) - 1)).toNat) d_Idx).Col), .int .i64 ((p_0.Idxs.getD ((IntKind.wrap .i64 ((k30 : Int) - 1)).toNat) d_Idx).Stage)] := eC130
          refine CW.drawsI 36 (vgetI ([.pointer (some ⟨b95, 0 + 0, none⟩), .string (bs ((p_0.Idxs.getD k30 d_Idx).Name)), .bool ((s_l24Letters ((p_0.Idxs.getD k30 d_Idx).Name) 1)), .bool (!(s_l24Letters ((p_0.Idxs.getD k30 d_Idx).Name) 1)), .bool (!(s_l24Letters ((p_0.Idxs.getD k30 d_Idx).Name) 1)), .pointer (some ⟨b95, 0 + 1, none⟩), .int .i64 ((p_0.Idxs.getD k30 d_Idx).Col), .pointer (some ⟨b7, 0 + 1, none⟩), .slice A1 p_0.Cols.length c1, .int .i64 ((p_0.Cols.length : Int)), .int .i64 (IntKind.wrap .i64 ((p_0.Cols.length : Int) - 1)), .bool ((s_l1In ((p_0.Idxs.getD k30 d_Idx).Col) 1 (IntKind.wrap .i64 ((p_0.Cols.length : Int) - 1)))), .bool (!(s_l1In ((p_0.Idxs.getD k30 d_Idx).Col) 1 (IntKind.wrap .i64 ((p_0.Cols.length : Int) - 1)))), .bool (!(s_l1In ((p_0.Idxs.getD k30 d_Idx).Col) 1 (IntKind.wrap .i64 ((p_0.Cols.length : Int) - 1)))), .bool (!(s_l1In ((p_0.Idxs.getD k30 d_Idx).Col) 1 (IntKind.wrap .i64 ((p_0.Cols.length : Int) - 1)))), .pointer (some ⟨b95, 0 + 2, none⟩), .int .i64 ((p_0.Idxs.getD k30 d_Idx).Stage), .bool ((s_l1In ((p_0.Idxs.getD k30 d_Idx).Stage) 0 3)), .bool (!(s_l1In ((p_0.Idxs.getD k30 d_Idx).Stage) 0 3)), .bool (!(s_l1In ((p_0.Idxs.getD k30 d_Idx).Stage) 0 3)), .bool (!(s_l1In ((p_0.Idxs.getD k30 d_Idx).Stage) 0 3)), .int .i64 ((k30 : Int)), .bool (decide (0 < (k30 : Int))), .bool (decide (0 < (k30 : Int))), .pointer (some ⟨b7, 0 + 2, none⟩), .slice A2 p_0.Idxs.length c2, .int .i64 ((k30 : Int)), .int .i64 (IntKind.wrap .i64 ((k30 : Int) - 1)), .pointer (some ⟨eb130, eo130 + ((IntKind.wrap .i64 ((k30 : Int) - 1)).toNat) * 3, none⟩), .pointer (some ⟨eb130, eo130 + ((IntKind.wrap .i64 ((k30 : Int) - 1)).toNat) * 3 + 0, none⟩), .string (bs ((p_0.Idxs.getD ((IntKind.wrap .i64 ((k30 : Int) - 1)).toNat) d_Idx).Name)), .pointer (some ⟨b95, 0 + 0, none⟩), .string (bs ((p_0.Idxs.getD k30 d_Idx).Name)), .bool (!(sLt ((p_0.Idxs.getD ((IntKind.wrap .i64 ((k30 : Int) - 1)).toNat) d_Idx).Name) ((p_0.Idxs.getD k30 d_Idx).Name))), .bool (!(sLt ((p_0.Idxs.getD ((IntKind.wrap .i64 ((k30 : Int) - 1)).toNat) d_Idx).Name) ((p_0.Idxs.getD k30 d_Idx).Name))), .bool (!(sLt ((p_0.Idxs.getD ((IntKind.wrap .i64 ((k30 : Int) - 1)).toNat) d_Idx).Name) ((p_0.Idxs.getD k30 d_Idx).Name)))].map DetI)) Tryz.follows rfl rfl rfl rfl rfl rfl (vgetI_stable (stD _)) ⟨?_, ?_, ?_, ?_, ?_, ?_, ?_, ?_, ?_, ?_, ?_, ?_, ?_, ?_, ?_, ?_, ?_, ?_, ?_, ?_, ?_, ?_, ?_, ?_, ?_, ?_, ?_, ?_, ?_, ?_, ?_, ?_, ?_, ?_, ?_, ?_, trivial⟩ ?_
          ·exact oI rfl fun h => yl_fieldAddr fd64_0 rfl (h.old 4 _ rfl rfl) kI
          ·exact oI rfl fun h => yl_load1 ty9 rfl (h.dt 0 29 rfl rfl rfl) (((Box.ex hB102 h.ex).cell 0).trans rfl) kI
          ·intro L142 w143 hi144
           exact OpR.op' rfl (yC en57 rfl (oc (hi144.dt 1 30 rfl rfl rfl) (oc rfl oz)) (Cal.mono (c_s_l24Letters ((p_0.Idxs.getD k30 d_Idx).Name) 1 (okL.getD o3.2.2 ok_d_Idx _)) fun _ _ h => h))
          ·exact oI rfl fun h => yl_not rfl (h.dt 2 31 rfl rfl rfl) kI
          ·exact oI rfl fun h => yM rfl (h.dt 3 32 rfl rfl rfl) kI
          ·exact oW rfl rfl rfl rfl (not_t hb105) fun h => yl_fieldAddr fd64_1 rfl (h.old 4 _ rfl rfl) kI
          ·exact oW rfl rfl rfl rfl (not_t hb105) fun h => yl_load1 ty3 rfl (h.dt 5 34 rfl rfl rfl) (((Box.ex hB102 h.ex).cell 1).trans rfl) kI
          ·exact oW rfl rfl rfl rfl (not_t hb105) fun h => yl_fieldAddr fd26_1 rfl (h.old 1 _ rfl rfl) kI
          ·exact oW rfl rfl rfl rfl (not_t hb105) fun h => yl_load1 ty23 rfl (h.dt 7 36 rfl rfl rfl) (((Box.ex q125 h.ex).cell 1).trans rfl) kI
          ·exact oW rfl rfl rfl rfl (not_t hb105) fun h => yL un23 rfl (h.dt 8 37 rfl rfl rfl) kI
          ·exact oW rfl rfl rfl rfl (not_t hb105) fun h => yl_sub rfl (h.dt 9 38 rfl rfl rfl) rfl kI
          ·intro L198 w199 hi200
           exact OpR.want rfl rfl (hi200.dt 4 33 rfl rfl rfl) (not_t hb105) (yC en59 rfl (oc (hi200.dt 6 35 rfl rfl rfl) (oc rfl (oc (hi200.dt 10 39 rfl rfl rfl) oz))) (Cal.mono (c_s_l1In ((p_0.Idxs.getD k30 d_Idx).Col) 1 (IntKind.wrap .i64 ((p_0.Cols.length : Int) - 1))) fun _ _ h => h))
          ·exact oW rfl rfl rfl rfl (not_t hb105) fun h => yl_not rfl (h.dt 11 40 rfl rfl rfl) kI
          ·exact oI rfl fun h => yl_pick_f rfl (h.dt 4 33 rfl rfl rfl) (not_t hb105) (h.dt 12 41 rfl rfl rfl) kI
          ·exact oI rfl fun h => yM rfl (h.dt 13 42 rfl rfl rfl) kI
          ·exact oW rfl rfl rfl rfl (not_t hb110) fun h => yl_fieldAddr fd64_2 rfl (h.old 4 _ rfl rfl) kI
          ·exact oW rfl rfl rfl rfl (not_t hb110) fun h => yl_load1 ty3 rfl (h.dt 15 44 rfl rfl rfl) (((Box.ex hB102 h.ex).cell 2).trans rfl) kI
          ·intro L238 w239 hi240
           exact OpR.want rfl rfl (hi240.dt 14 43 rfl rfl rfl) (not_t hb110) (yC en59 rfl (oc (hi240.dt 16 45 rfl rfl rfl) (oc rfl (oc rfl oz))) (Cal.mono (c_s_l1In ((p_0.Idxs.getD k30 d_Idx).Stage) 0 3) fun _ _ h => h))
          ·exact oW rfl rfl rfl rfl (not_t hb110) fun h => yl_not rfl (h.dt 17 46 rfl rfl rfl) kI
          ·exact oI rfl fun h => yl_pick_f rfl (h.dt 14 43 rfl rfl rfl) (not_t hb110) (h.dt 18 47 rfl rfl rfl) kI
          ·exact oI rfl fun h => yM rfl (h.dt 19 48 rfl rfl rfl) kI
          ·exact oW rfl rfl rfl rfl (not_t hb116) fun h => yM rfl (h.old 3 _ rfl rfl) kI
          ·exact oW rfl rfl rfl rfl (not_t hb116) fun h => yl_gtr rfl (h.dt 21 50 rfl rfl rfl) rfl kI
          ·exact oW rfl rfl rfl rfl (not_t hb116) fun h => yM rfl (h.dt 22 51 rfl rfl rfl) kI
          ·exact oW rfl rfl rfl rfl hb122 fun h => yl_fieldAddr fd26_2 rfl (h.old 1 _ rfl rfl) kI
          ·exact oW rfl rfl rfl rfl hb122 fun h => yl_load1 ty24 rfl (h.dt 24 53 rfl rfl rfl) (((Box.ex q125 h.ex).cell 2).trans rfl) kI
          ·exact oW rfl rfl rfl rfl hb122 fun h => yM rfl (h.old 3 _ rfl rfl) kI
          ·exact oW rfl rfl rfl rfl hb122 fun h => yl_sub rfl (h.dt 26 55 rfl rfl rfl) rfl kI
          ·intro L307 w308 hi309
           have hE310 := hi309.ex
           have hE310z := Ex.size hE310
           exact OpR.want rfl rfl (hi309.dt 23 52 rfl rfl rfl) hb122 (Yl.sameI (yl_indexAddr un24 ty64 rfl (hi309.dt 25 54 rfl rfl rfl) (hi309.dt 27 56 rfl rfl rfl) eA130 (by first | omega | assumption | (simp only [wI] at *; omega)) (by first | omega | assumption | (simp only [wI] at *; omega)) kI))
          ·exact oW rfl rfl rfl rfl hb122 fun h => yl_fieldAddr fd64_0 rfl (h.dt 28 57 rfl rfl rfl) kI
          ·exact oW rfl rfl rfl rfl hb122 fun h => yl_load1 ty9 rfl (h.dt 29 58 rfl rfl rfl) ((Cells.ex eC130 h.ex) 0 _ rfl) kI
          ·exact oW rfl rfl rfl rfl hb122 fun h => yl_fieldAddr fd64_0 rfl (h.old 4 _ rfl rfl) kI
          ·exact oW rfl rfl rfl rfl hb122 fun h => yl_load1 ty9 rfl (h.dt 31 60 rfl rfl rfl) (((Box.ex hB102 h.ex).cell 0).trans rfl) kI
          ·exact oW rfl rfl rfl rfl hb122 fun h => yl_sgeq (a := ((p_0.Idxs.getD ((IntKind.wrap .i64 ((k30 : Int) - 1)).toNat) d_Idx).Name)) (b := ((p_0.Idxs.getD k30 d_Idx).Name)) rfl (h.dt 30 59 rfl rfl rfl) (h.dt 32 61 rfl rfl rfl) kI
          ·exact oW rfl rfl rfl rfl (not_t hb116) fun h => yl_pick_t rfl (h.dt 23 52 rfl rfl rfl) hb122 (h.dt 33 62 rfl rfl rfl) kI
          ·exact oI rfl fun h => yl_pick_f rfl (h.dt 20 49 rfl rfl rfl) (not_t hb116) (h.dt 34 63 rfl rfl rfl) kI
          ·intro fl363 fh364 L360 w361 hp362
           have hE365 := hp362.ex
           have hE365z := Ex.size hE365
           refine dn (CW.sub (Sub.cons (d := 1) (hp362.old 1 _ rfl rfl) (Sub.cons (d := 22) (hp362.old 22 _ rfl rfl) (Sub.cons (d := 23) (hp362.old 23 _ rfl rfl) (Sub.cons (d := 24) (hp362.old 24 _ rfl rfl) (Sub.cons (d := 34) (hp362.nt 5 34 rfl rfl rfl) (Sub.cons (d := 35) (hp362.nt 6 35 rfl rfl rfl) (Sub.cons (d := 36) (hp362.nt 7 36 rfl rfl rfl) (Sub.cons (d := 37) (hp362.nt 8 37 rfl rfl rfl) (Sub.cons (d := 38) (hp362.nt 9 38 rfl rfl rfl) (Sub.cons (d := 39) (hp362.nt 10 39 rfl rfl rfl) (Sub.cons (d := 40) (hp362.nt 11 40 rfl rfl rfl) (Sub.cons (d := 41) (hp362.nt 12 41 rfl rfl rfl) (Sub.cons (d := 44) (hp362.nt 15 44 rfl rfl rfl) (Sub.cons (d := 45) (hp362.nt 16 45 rfl rfl rfl) (Sub.cons (d := 46) (hp362.nt 17 46 rfl rfl rfl) (Sub.cons (d := 47) (hp362.nt 18 47 rfl rfl rfl) (Sub.cons (d := 50) (hp362.nt 21 50 rfl rfl rfl) (Sub.cons (d := 51) (hp362.nt 22 51 rfl rfl rfl) (Sub.cons (d := 52) (hp362.nt 23 52 rfl rfl rfl) (Sub.cons (d := 53) (hp362.nt 24 53 rfl rfl rfl) (Sub.cons (d := 54) (hp362.nt 25 54 rfl rfl rfl) (Sub.cons (d := 55) (hp362.nt 26 55 rfl rfl rfl) (Sub.cons (d := 56) (hp362.nt 27 56 rfl rfl rfl) (Sub.cons (d := 57) (hp362.nt 28 57 rfl rfl rfl) (Sub.cons (d := 58) (hp362.nt 29 58 rfl rfl rfl) (Sub.cons (d := 59) (hp362.nt 30 59 rfl rfl rfl) (Sub.cons (d := 60) (hp362.nt 31 60 rfl rfl rfl) (Sub.cons (d := 61) (hp362.nt 32 61 rfl rfl rfl) (Sub.cons (d := 62) (hp362.nt 33 62 rfl rfl rfl) (Sub.cons (d := 63) (hp362.nt 34 63 rfl rfl rfl) (Sub.cons (d := 64) (hp362.nt 35 64 rfl rfl rfl) (Sub.nil _)))))))))))))))))))))))))))))))) ?_)
           refine bcase (sLt ((p_0.Idxs.getD ((IntKind.wrap .i64 ((k30 : Int) - 1)).toNat) d_Idx).Name) ((p_0.Idxs.getD k30 d_Idx).Name)) (fun hb397 => ?_) (fun hb397 => ?_)
           ·refine CW.cond_f rfl (not_t hb397) (CW.skip (bn (tn (CW.region (sd rfl (yl_inc rfl rfl rfl (by omega) (sd rfl (yM rfl rfl (dn ?_)))))))))
            have hB398 : B_s_GoodTable_0 p_0 k30 () = .cont () := by simp only [B_s_GoodTable_0, hb16, hb23, hb25, hb105, hb110, hb116, hb122, hb397, cL]
            exact ⟨p_0.Idxs.length - (k30 + 1), by omega, k30 + 1, rfl, hlt93, (by omega), rfl, rfl, rfl, rfl, (Box.ex q125 hE365), (RdS.ex gS (RdS.only gS (RdS.ex gS hf89 hE100) hO103 (by simp only [Iv]; omega)) hE365), (RdS.ex gI q129 hE365), (Ex.trans (Below.only (Ex.trans hf91 hE100) hO103 (by omega)) hE365), (loopM.cont hlt93 hB398).symm.trans hI82⟩
           ·refine CW.cond_t rfl (not_f hb397) (CW.seq (CW.region (sd rfl (yA rfl rfl (dn (CW.ret (br (tr ?_))))))))
            refine tr ?_
            have hB408 : B_s_GoodTable_0 p_0 k30 () = .ret false := by simp only [B_s_GoodTable_0, hb16, hb23, hb25, hb105, hb110, hb116, hb122, hb397, cL]
            have hL407 : loopM (B_s_GoodTable_0 p_0) (p_0.Idxs.length - 0) 0 () = .ret false := hI82.symm.trans (loopM.ret hlt93 hB408)
            refine br (tr (rr rfl (.cons rfl .nil) ?_))
            have hM409 : (s_GoodTable p_0) = (false) := by simp only [s_GoodTable, hb16, hb23, hb25, hb105, hb110, hb116, hb122, hb397, hL407, cL]
            rw [hM409]
            exact ⟨rfl, (Ex.trans (Below.only (Ex.trans hf91 hE100) hO103 (by omega)) hE365)⟩
         ·have hb122p := dec_f hb122
          have q415 := Box.only (Box.ex hf88 hE100) hO103 (by omega)
          refine CW.drawsI 36 (vgetI ([.pointer (some ⟨b95, 0 + 0, none⟩), .string (bs ((p_0.Idxs.getD k30 d_Idx).Name)), .bool ((s_l24Letters ((p_0.Idxs.getD k30 d_Idx).Name) 1)), .bool (!(s_l24Letters ((p_0.Idxs.getD k30 d_Idx).Name) 1)), .bool (!(s_l24Letters ((p_0.Idxs.getD k30 d_Idx).Name) 1)), .pointer (some ⟨b95, 0 + 1, none⟩), .int .i64 ((p_0.Idxs.getD k30 d_Idx).Col), .pointer (some ⟨b7, 0 + 1, none⟩), .slice A1 p_0.Cols.length c1, .int .i64 ((p_0.Cols.length : Int)), .int .i64 (IntKind.wrap .i64 ((p_0.Cols.length : Int) - 1)), .bool ((s_l1In ((p_0.Idxs.getD k30 d_Idx).Col) 1 (IntKind.wrap .i64 ((p_0.Cols.length : Int) - 1)))), .bool (!(s_l1In ((p_0.Idxs.getD k30 d_Idx).Col) 1 (IntKind.wrap .i64 ((p_0.Cols.length : Int) - 1)))), .bool (!(s_l1In ((p_0.Idxs.getD k30 d_Idx).Col) 1 (IntKind.wrap .i64 ((p_0.Cols.length : Int) - 1)))), .bool (!(s_l1In ((p_0.Idxs.getD k30 d_Idx).Col) 1 (IntKind.wrap .i64 ((p_0.Cols.length : Int) - 1)))), .pointer (some ⟨b95, 0 + 2, none⟩), .int .i64 ((p_0.Idxs.getD k30 d_Idx).Stage), .bool ((s_l1In ((p_0.Idxs.getD k30 d_Idx).Stage) 0 3)), .bool (!(s_l1In ((p_0.Idxs.getD k30 d_Idx).Stage) 0 3)), .bool (!(s_l1In ((p_0.Idxs.getD k30 d_Idx).Stage) 0 3)), .bool (!(s_l1In ((p_0.Idxs.getD k30 d_Idx).Stage) 0 3)), .int .i64 ((k30 : Int)), .bool (decide (0 < (k30 : Int))), .bool (decide (0 < (k30 : Int))), undef, undef, undef, undef, undef, undef, undef, undef, undef, undef, .bool (false), .bool (false)].map DetI)) Tryz.follows rfl rfl rfl rfl rfl rfl (vgetI_stable (stD _)) ⟨?_, ?_, ?_, ?_, ?_, ?_, ?_, ?_, ?_, ?_, ?_, ?_, ?_, ?_, ?_, ?_, ?_, ?_, ?_, ?_, ?_, ?_, ?_, ?_, ?_, ?_, ?_, ?_, ?_, ?_, ?_, ?_, ?_, ?_, ?_, ?_, trivial⟩ ?_
          ·exact oI rfl fun h => yl_fieldAddr fd64_0 rfl (h.old 4 _ rfl rfl) kI
          ·exact oI rfl fun h => yl_load1 ty9 rfl (h.dt 0 29 rfl rfl rfl) (((Box.ex hB102 h.ex).cell 0).trans rfl) kI
          ·intro L429 w430 hi431
           exact OpR.op' rfl (yC en57 rfl (oc (hi431.dt 1 30 rfl rfl rfl) (oc rfl oz)) (Cal.mono (c_s_l24Letters ((p_0.Idxs.getD k30 d_Idx).Name) 1 (okL.getD o3.2.2 ok_d_Idx _)) fun _ _ h => h))
          ·exact oI rfl fun h => yl_not rfl (h.dt 2 31 rfl rfl rfl) kI
          ·exact oI rfl fun h => yM rfl (h.dt 3 32 rfl rfl rfl) kI
          ·exact oW rfl rfl rfl rfl (not_t hb105) fun h => yl_fieldAddr fd64_1 rfl (h.old 4 _ rfl rfl) kI
          ·exact oW rfl rfl rfl rfl (not_t hb105) fun h => yl_load1 ty3 rfl (h.dt 5 34 rfl rfl rfl) (((Box.ex hB102 h.ex).cell 1).trans rfl) kI
          ·exact oW rfl rfl rfl rfl (not_t hb105) fun h => yl_fieldAddr fd26_1 rfl (h.old 1 _ rfl rfl) kI
          ·exact oW rfl rfl rfl rfl (not_t hb105) fun h => yl_load1 ty23 rfl (h.dt 7 36 rfl rfl rfl) (((Box.ex q415 h.ex).cell 1).trans rfl) kI
          ·exact oW rfl rfl rfl rfl (not_t hb105) fun h => yL un23 rfl (h.dt 8 37 rfl rfl rfl) kI
          ·exact oW rfl rfl rfl rfl (not_t hb105) fun h => yl_sub rfl (h.dt 9 38 rfl rfl rfl) rfl kI
          ·intro L485 w486 hi487
           exact OpR.want rfl rfl (hi487.dt 4 33 rfl rfl rfl) (not_t hb105) (yC en59 rfl (oc (hi487.dt 6 35 rfl rfl rfl) (oc rfl (oc (hi487.dt 10 39 rfl rfl rfl) oz))) (Cal.mono (c_s_l1In ((p_0.Idxs.getD k30 d_Idx).Col) 1 (IntKind.wrap .i64 ((p_0.Cols.length : Int) - 1))) fun _ _ h => h))
          ·exact oW rfl rfl rfl rfl (not_t hb105) fun h => yl_not rfl (h.dt 11 40 rfl rfl rfl) kI
          ·exact oI rfl fun h => yl_pick_f rfl (h.dt 4 33 rfl rfl rfl) (not_t hb105) (h.dt 12 41 rfl rfl rfl) kI
          ·exact oI rfl fun h => yM rfl (h.dt 13 42 rfl rfl rfl) kI
          ·exact oW rfl rfl rfl rfl (not_t hb110) fun h => yl_fieldAddr fd64_2 rfl (h.old 4 _ rfl rfl) kI
          ·exact oW rfl rfl rfl rfl (not_t hb110) fun h => yl_load1 ty3 rfl (h.dt 15 44 rfl rfl rfl) (((Box.ex hB102 h.ex).cell 2).trans rfl) kI
          ·intro L525 w526 hi527
           exact OpR.want rfl rfl (hi527.dt 14 43 rfl rfl rfl) (not_t hb110) (yC en59 rfl (oc (hi527.dt 16 45 rfl rfl rfl) (oc rfl (oc rfl oz))) (Cal.mono (c_s_l1In ((p_0.Idxs.getD k30 d_Idx).Stage) 0 3) fun _ _ h => h))
          ·exact oW rfl rfl rfl rfl (not_t hb110) fun h => yl_not rfl (h.dt 17 46 rfl rfl rfl) kI
          ·exact oI rfl fun h => yl_pick_f rfl (h.dt 14 43 rfl rfl rfl) (not_t hb110) (h.dt 18 47 rfl rfl rfl) kI
          ·exact oI rfl fun h => yM rfl (h.dt 19 48 rfl rfl rfl) kI
          ·exact oW rfl rfl rfl rfl (not_t hb116) fun h => yM rfl (h.old 3 _ rfl rfl) kI
          ·exact oW rfl rfl rfl rfl (not_t hb116) fun h => yl_gtr rfl (h.dt 21 50 rfl rfl rfl) rfl kI
          ·exact oW rfl rfl rfl rfl (not_t hb116) fun h => yM rfl (h.dt 22 51 rfl rfl rfl) kI
          ·exact oS rfl rfl rfl rfl rfl hb122
          ·exact oS rfl rfl rfl rfl rfl hb122
          ·exact oS rfl rfl rfl rfl rfl hb122
          ·exact oS rfl rfl rfl rfl rfl hb122
          ·exact oS rfl rfl rfl rfl rfl hb122
          ·exact oS rfl rfl rfl rfl rfl hb122
          ·exact oS rfl rfl rfl rfl rfl hb122
          ·exact oS rfl rfl rfl rfl rfl hb122
          ·exact oS rfl rfl rfl rfl rfl hb122
          ·exact oS rfl rfl rfl rfl rfl hb122
          ·exact oW rfl rfl rfl rfl (not_t hb116) fun h => yl_pick_f rfl (h.dt 23 52 rfl rfl rfl) hb122 rfl kI
          ·exact oI rfl fun h => yl_pick_f rfl (h.dt 20 49 rfl rfl rfl) (not_t hb116) (h.dt 34 63 rfl rfl rfl) kI
          ·intro fl635 fh636 L632 w633 hp634
           have hE637 := hp634.ex
           have hE637z := Ex.size hE637
           refine dn (CW.sub (Sub.cons (d := 1) (hp634.old 1 _ rfl rfl) (Sub.cons (d := 22) (hp634.old 22 _ rfl rfl) (Sub.cons (d := 23) (hp634.old 23 _ rfl rfl) (Sub.cons (d := 24) (hp634.old 24 _ rfl rfl) (Sub.cons (d := 34) (hp634.nt 5 34 rfl rfl rfl) (Sub.cons (d := 35) (hp634.nt 6 35 rfl rfl rfl) (Sub.cons (d := 36) (hp634.nt 7 36 rfl rfl rfl) (Sub.cons (d := 37) (hp634.nt 8 37 rfl rfl rfl) (Sub.cons (d := 38) (hp634.nt 9 38 rfl rfl rfl) (Sub.cons (d := 39) (hp634.nt 10 39 rfl rfl rfl) (Sub.cons (d := 40) (hp634.nt 11 40 rfl rfl rfl) (Sub.cons (d := 41) (hp634.nt 12 41 rfl rfl rfl) (Sub.cons (d := 44) (hp634.nt 15 44 rfl rfl rfl) (Sub.cons (d := 45) (hp634.nt 16 45 rfl rfl rfl) (Sub.cons (d := 46) (hp634.nt 17 46 rfl rfl rfl) (Sub.cons (d := 47) (hp634.nt 18 47 rfl rfl rfl) (Sub.cons (d := 50) (hp634.nt 21 50 rfl rfl rfl) (Sub.cons (d := 51) (hp634.nt 22 51 rfl rfl rfl) (Sub.cons (d := 52) (hp634.nt 23 52 rfl rfl rfl) (Sub.cons (d := 53) (hp634.nt 24 53 rfl rfl rfl) (Sub.cons (d := 54) (hp634.nt 25 54 rfl rfl rfl) (Sub.cons (d := 55) (hp634.nt 26 55 rfl rfl rfl) (Sub.cons (d := 56) (hp634.nt 27 56 rfl rfl rfl) (Sub.cons (d := 57) (hp634.nt 28 57 rfl rfl rfl) (Sub.cons (d := 58) (hp634.nt 29 58 rfl rfl rfl) (Sub.cons (d := 59) (hp634.nt 30 59 rfl rfl rfl) (Sub.cons (d := 60) (hp634.nt 31 60 rfl rfl rfl) (Sub.cons (d := 61) (hp634.nt 32 61 rfl rfl rfl) (Sub.cons (d := 62) (hp634.nt 33 62 rfl rfl rfl) (Sub.cons (d := 63) (hp634.nt 34 63 rfl rfl rfl) (Sub.cons (d := 64) (hp634.nt 35 64 rfl rfl rfl) (Sub.nil _)))))))))))))))))))))))))))))))) ?_)
           refine CW.cond_f rfl rfl (CW.skip (bn (tn (CW.region (sd rfl (yl_inc rfl rfl rfl (by omega) (sd rfl (yM rfl rfl (dn ?_)))))))))
           have hB669 : B_s_GoodTable_0 p_0 k30 () = .cont () := by simp only [B_s_GoodTable_0, hb16, hb23, hb25, hb105, hb110, hb116, hb122, cL]
           exact ⟨p_0.Idxs.length - (k30 + 1), by omega, k30 + 1, rfl, hlt93, (by omega), rfl, rfl, rfl, rfl, (Box.ex q415 hE637), (RdS.ex gS (RdS.only gS (RdS.ex gS hf89 hE100) hO103 (by simp only [Iv]; omega)) hE637), (RdS.ex gI (RdS.only gI (RdS.ex gI hf90 hE100) hO103 (by simp only [Iv]; omega)) hE637), (Ex.trans (Below.only (Ex.trans hf91 hE100) hO103 (by omega)) hE637), (loopM.cont hlt93 hB669).symm.trans hI82⟩
        ·refine CW.drawsI 36 (vgetI ([.pointer (some ⟨b95, 0 + 0, none⟩), .string (bs ((p_0.Idxs.getD k30 d_Idx).Name)), .bool ((s_l24Letters ((p_0.Idxs.getD k30 d_Idx).Name) 1)), .bool (!(s_l24Letters ((p_0.Idxs.getD k30 d_Idx).Name) 1)), .bool (!(s_l24Letters ((p_0.Idxs.getD k30 d_Idx).Name) 1)), .pointer (some ⟨b95, 0 + 1, none⟩), .int .i64 ((p_0.Idxs.getD k30 d_Idx).Col), .pointer (some ⟨b7, 0 + 1, none⟩), .slice A1 p_0.Cols.length c1, .int .i64 ((p_0.Cols.length : Int)), .int .i64 (IntKind.wrap .i64 ((p_0.Cols.length : Int) - 1)), .bool ((s_l1In ((p_0.Idxs.getD k30 d_Idx).Col) 1 (IntKind.wrap .i64 ((p_0.Cols.length : Int) - 1)))), .bool (!(s_l1In ((p_0.Idxs.getD k30 d_Idx).Col) 1 (IntKind.wrap .i64 ((p_0.Cols.length : Int) - 1)))), .bool (!(s_l1In ((p_0.Idxs.getD k30 d_Idx).Col) 1 (IntKind.wrap .i64 ((p_0.Cols.length : Int) - 1)))), .bool (!(s_l1In ((p_0.Idxs.getD k30 d_Idx).Col) 1 (IntKind.wrap .i64 ((p_0.Cols.length : Int) - 1)))), .pointer (some ⟨b95, 0 + 2, none⟩), .int .i64 ((p_0.Idxs.getD k30 d_Idx).Stage), .bool ((s_l1In ((p_0.Idxs.getD k30 d_Idx).Stage) 0 3)), .bool (!(s_l1In ((p_0.Idxs.getD k30 d_Idx).Stage) 0 3)), .bool (!(s_l1In ((p_0.Idxs.getD k30 d_Idx).Stage) 0 3)), .bool (!(s_l1In ((p_0.Idxs.getD k30 d_Idx).Stage) 0 3)), undef, undef, undef, undef, undef, undef, undef, undef, undef, undef, undef, undef, undef, undef, .bool (true)].map DetI)) Tryz.follows rfl rfl rfl rfl rfl rfl (vgetI_stable (stD _)) ⟨?_, ?_, ?_, ?_, ?_, ?_, ?_, ?_, ?_, ?_, ?_, ?_, ?_, ?_, ?_, ?_, ?_, ?_, ?_, ?_, ?_, ?_, ?_, ?_, ?_, ?_, ?_, ?_, ?_, ?_, ?_, ?_, ?_, ?_, ?_, ?_, trivial⟩ ?_
         ·exact oI rfl fun h => yl_fieldAddr fd64_0 rfl (h.old 4 _ rfl rfl) kI
         ·exact oI rfl fun h => yl_load1 ty9 rfl (h.dt 0 29 rfl rfl rfl) (((Box.ex hB102 h.ex).cell 0).trans rfl) kI
         ·intro L696 w697 hi698
          exact OpR.op' rfl (yC en57 rfl (oc (hi698.dt 1 30 rfl rfl rfl) (oc rfl oz)) (Cal.mono (c_s_l24Letters ((p_0.Idxs.getD k30 d_Idx).Name) 1 (okL.getD o3.2.2 ok_d_Idx _)) fun _ _ h => h))
         ·exact oI rfl fun h => yl_not rfl (h.dt 2 31 rfl rfl rfl) kI
         ·exact oI rfl fun h => yM rfl (h.dt 3 32 rfl rfl rfl) kI
         ·exact oW rfl rfl rfl rfl (not_t hb105) fun h => yl_fieldAddr fd64_1 rfl (h.old 4 _ rfl rfl) kI
         ·exact oW rfl rfl rfl rfl (not_t hb105) fun h => yl_load1 ty3 rfl (h.dt 5 34 rfl rfl rfl) (((Box.ex hB102 h.ex).cell 1).trans rfl) kI
         ·exact oW rfl rfl rfl rfl (not_t hb105) fun h => yl_fieldAddr fd26_1 rfl (h.old 1 _ rfl rfl) kI
         ·intro L733 w734 hi735
          have hE736 := hi735.ex
          have hE736z := Ex.size hE736
          exact OpR.want rfl rfl (hi735.dt 4 33 rfl rfl rfl) (not_t hb105) (Yl.sameI (yl_load1 ty23 rfl (hi735.dt 7 36 rfl rfl rfl) (((Box.ex (Box.only (Box.ex hf88 hE100) hO103 (by omega)) hE736).cell 1).trans rfl) kI))
         ·exact oW rfl rfl rfl rfl (not_t hb105) fun h => yL un23 rfl (h.dt 8 37 rfl rfl rfl) kI
         ·exact oW rfl rfl rfl rfl (not_t hb105) fun h => yl_sub rfl (h.dt 9 38 rfl rfl rfl) rfl kI
         ·intro L752 w753 hi754
          exact OpR.want rfl rfl (hi754.dt 4 33 rfl rfl rfl) (not_t hb105) (yC en59 rfl (oc (hi754.dt 6 35 rfl rfl rfl) (oc rfl (oc (hi754.dt 10 39 rfl rfl rfl) oz))) (Cal.mono (c_s_l1In ((p_0.Idxs.getD k30 d_Idx).Col) 1 (IntKind.wrap .i64 ((p_0.Cols.length : Int) - 1))) fun _ _ h => h))
         ·exact oW rfl rfl rfl rfl (not_t hb105) fun h => yl_not rfl (h.dt 11 40 rfl rfl rfl) kI
         ·exact oI rfl fun h => yl_pick_f rfl (h.dt 4 33 rfl rfl rfl) (not_t hb105) (h.dt 12 41 rfl rfl rfl) kI
         ·exact oI rfl fun h => yM rfl (h.dt 13 42 rfl rfl rfl) kI
         ·exact oW rfl rfl rfl rfl (not_t hb110) fun h => yl_fieldAddr fd64_2 rfl (h.old 4 _ rfl rfl) kI
         ·exact oW rfl rfl rfl rfl (not_t hb110) fun h => yl_load1 ty3 rfl (h.dt 15 44 rfl rfl rfl) (((Box.ex hB102 h.ex).cell 2).trans rfl) kI
         ·intro L792 w793 hi794
          exact OpR.want rfl rfl (hi794.dt 14 43 rfl rfl rfl) (not_t hb110) (yC en59 rfl (oc (hi794.dt 16 45 rfl rfl rfl) (oc rfl (oc rfl oz))) (Cal.mono (c_s_l1In ((p_0.Idxs.getD k30 d_Idx).Stage) 0 3) fun _ _ h => h))
         ·exact oW rfl rfl rfl rfl (not_t hb110) fun h => yl_not rfl (h.dt 17 46 rfl rfl rfl) kI
         ·exact oI rfl fun h => yl_pick_f rfl (h.dt 14 43 rfl rfl rfl) (not_t hb110) (h.dt 18 47 rfl rfl rfl) kI
         ·exact oI rfl fun h => yM rfl (h.dt 19 48 rfl rfl rfl) kI
         ·exact oS rfl rfl rfl rfl rfl (not_f hb116)
         ·exact oS rfl rfl rfl rfl rfl (not_f hb116)
         ·exact oS rfl rfl rfl rfl rfl (not_f hb116)
         ·exact oU rfl rfl rfl rfl rfl
         ·exact oU rfl rfl rfl rfl rfl
         ·exact oU rfl rfl rfl rfl rfl
         ·exact oU rfl rfl rfl rfl rfl
         ·exact oU rfl rfl rfl rfl rfl
         ·exact oU rfl rfl rfl rfl rfl
         ·exact oU rfl rfl rfl rfl rfl
         ·exact oU rfl rfl rfl rfl rfl
         ·exact oU rfl rfl rfl rfl rfl
         ·exact oU rfl rfl rfl rfl rfl
         ·exact oS rfl rfl rfl rfl rfl (not_f hb116)
         ·exact oI rfl fun h => yl_pick_t rfl (h.dt 20 49 rfl rfl rfl) (not_f hb116) rfl kI
         ·intro fl897 fh898 L894 w895 hp896
          have hE899 := hp896.ex
          have hE899z := Ex.size hE899
          refine dn (CW.sub (Sub.cons (d := 1) (hp896.old 1 _ rfl rfl) (Sub.cons (d := 22) (hp896.old 22 _ rfl rfl) (Sub.cons (d := 23) (hp896.old 23 _ rfl rfl) (Sub.cons (d := 24) (hp896.old 24 _ rfl rfl) (Sub.cons (d := 34) (hp896.nt 5 34 rfl rfl rfl) (Sub.cons (d := 35) (hp896.nt 6 35 rfl rfl rfl) (Sub.cons (d := 36) (hp896.nt 7 36 rfl rfl rfl) (Sub.cons (d := 37) (hp896.nt 8 37 rfl rfl rfl) (Sub.cons (d := 38) (hp896.nt 9 38 rfl rfl rfl) (Sub.cons (d := 39) (hp896.nt 10 39 rfl rfl rfl) (Sub.cons (d := 40) (hp896.nt 11 40 rfl rfl rfl) (Sub.cons (d := 41) (hp896.nt 12 41 rfl rfl rfl) (Sub.cons (d := 44) (hp896.nt 15 44 rfl rfl rfl) (Sub.cons (d := 45) (hp896.nt 16 45 rfl rfl rfl) (Sub.cons (d := 46) (hp896.nt 17 46 rfl rfl rfl) (Sub.cons (d := 47) (hp896.nt 18 47 rfl rfl rfl) (Sub.cons (d := 50) (hp896.nt 21 50 rfl rfl rfl) (Sub.cons (d := 51) (hp896.nt 22 51 rfl rfl rfl) (Sub.cons (d := 52) (hp896.nt 23 52 rfl rfl rfl) (Sub.cons (d := 53) (hp896.nt 24 53 rfl rfl rfl) (Sub.cons (d := 54) (hp896.nt 25 54 rfl rfl rfl) (Sub.cons (d := 55) (hp896.nt 26 55 rfl rfl rfl) (Sub.cons (d := 56) (hp896.nt 27 56 rfl rfl rfl) (Sub.cons (d := 57) (hp896.nt 28 57 rfl rfl rfl) (Sub.cons (d := 58) (hp896.nt 29 58 rfl rfl rfl) (Sub.cons (d := 59) (hp896.nt 30 59 rfl rfl rfl) (Sub.cons (d := 60) (hp896.nt 31 60 rfl rfl rfl) (Sub.cons (d := 61) (hp896.nt 32 61 rfl rfl rfl) (Sub.cons (d := 62) (hp896.nt 33 62 rfl rfl rfl) (Sub.cons (d := 63) (hp896.nt 34 63 rfl rfl rfl) (Sub.cons (d := 64) (hp896.nt 35 64 rfl rfl rfl) (Sub.nil _)))))))))))))))))))))))))))))))) ?_)
          refine CW.cond_t rfl rfl (CW.seq (CW.region (sd rfl (yA rfl rfl (dn (CW.ret (br (tr ?_))))))))
          refine tr ?_
          have hB932 : B_s_GoodTable_0 p_0 k30 () = .ret false := by simp only [B_s_GoodTable_0, hb16, hb23, hb25, hb105, hb110, hb116, cL]
          have hL931 : loopM (B_s_GoodTable_0 p_0) (p_0.Idxs.length - 0) 0 () = .ret false := hI82.symm.trans (loopM.ret hlt93 hB932)
          refine br (tr (rr rfl (.cons rfl .nil) ?_))
          have hM933 : (s_GoodTable p_0) = (false) := by simp only [s_GoodTable, hb16, hb23, hb25, hb105, hb110, hb116, hL931, cL]
          rw [hM933]
          exact ⟨rfl, (Ex.trans (Below.only (Ex.trans hf91 hE100) hO103 (by omega)) hE899)⟩
       ·refine CW.drawsI 36 (vgetI ([.pointer (some ⟨b95, 0 + 0, none⟩), .string (bs ((p_0.Idxs.getD k30 d_Idx).Name)), .bool ((s_l24Letters ((p_0.Idxs.getD k30 d_Idx).Name) 1)), .bool (!(s_l24Letters ((p_0.Idxs.getD k30 d_Idx).Name) 1)), .bool (!(s_l24Letters ((p_0.Idxs.getD k30 d_Idx).Name) 1)), .pointer (some ⟨b95, 0 + 1, none⟩), .int .i64 ((p_0.Idxs.getD k30 d_Idx).Col), .pointer (some ⟨b7, 0 + 1, none⟩), .slice A1 p_0.Cols.length c1, .int .i64 ((p_0.Cols.length : Int)), .int .i64 (IntKind.wrap .i64 ((p_0.Cols.length : Int) - 1)), .bool ((s_l1In ((p_0.Idxs.getD k30 d_Idx).Col) 1 (IntKind.wrap .i64 ((p_0.Cols.length : Int) - 1)))), .bool (!(s_l1In ((p_0.Idxs.getD k30 d_Idx).Col) 1 (IntKind.wrap .i64 ((p_0.Cols.length : Int) - 1)))), .bool (!(s_l1In ((p_0.Idxs.getD k30 d_Idx).Col) 1 (IntKind.wrap .i64 ((p_0.Cols.length : Int) - 1)))), .bool (!(s_l1In ((p_0.Idxs.getD k30 d_Idx).Col) 1 (IntKind.wrap .i64 ((p_0.Cols.length : Int) - 1)))), undef, undef, undef, undef, .bool (true), .bool (true), undef, undef, undef, undef, undef, undef, undef, undef, undef, undef, undef, undef, undef, undef, .bool (true)].map DetI)) Tryz.follows rfl rfl rfl rfl rfl rfl (vgetI_stable (stD _)) ⟨?_, ?_, ?_, ?_, ?_, ?_, ?_, ?_, ?_, ?_, ?_, ?_, ?_, ?_, ?_, ?_, ?_, ?_, ?_, ?_, ?_, ?_, ?_, ?_, ?_, ?_, ?_, ?_, ?_, ?_, ?_, ?_, ?_, ?_, ?_, ?_, trivial⟩ ?_
        ·exact oI rfl fun h => yl_fieldAddr fd64_0 rfl (h.old 4 _ rfl rfl) kI
        ·exact oI rfl fun h => yl_load1 ty9 rfl (h.dt 0 29 rfl rfl rfl) (((Box.ex hB102 h.ex).cell 0).trans rfl) kI
        ·intro L952 w953 hi954
         exact OpR.op' rfl (yC en57 rfl (oc (hi954.dt 1 30 rfl rfl rfl) (oc rfl oz)) (Cal.mono (c_s_l24Letters ((p_0.Idxs.getD k30 d_Idx).Name) 1 (okL.getD o3.2.2 ok_d_Idx _)) fun _ _ h => h))
        ·exact oI rfl fun h => yl_not rfl (h.dt 2 31 rfl rfl rfl) kI
        ·exact oI rfl fun h => yM rfl (h.dt 3 32 rfl rfl rfl) kI
        ·exact oW rfl rfl rfl rfl (not_t hb105) fun h => yl_fieldAddr fd64_1 rfl (h.old 4 _ rfl rfl) kI
        ·exact oW rfl rfl rfl rfl (not_t hb105) fun h => yl_load1 ty3 rfl (h.dt 5 34 rfl rfl rfl) (((Box.ex hB102 h.ex).cell 1).trans rfl) kI
        ·exact oW rfl rfl rfl rfl (not_t hb105) fun h => yl_fieldAddr fd26_1 rfl (h.old 1 _ rfl rfl) kI
        ·intro L989 w990 hi991
         have hE992 := hi991.ex
         have hE992z := Ex.size hE992
         exact OpR.want rfl rfl (hi991.dt 4 33 rfl rfl rfl) (not_t hb105) (Yl.sameI (yl_load1 ty23 rfl (hi991.dt 7 36 rfl rfl rfl) (((Box.ex (Box.only (Box.ex hf88 hE100) hO103 (by omega)) hE992).cell 1).trans rfl) kI))
        ·exact oW rfl rfl rfl rfl (not_t hb105) fun h => yL un23 rfl (h.dt 8 37 rfl rfl rfl) kI
        ·exact oW rfl rfl rfl rfl (not_t hb105) fun h => yl_sub rfl (h.dt 9 38 rfl rfl rfl) rfl kI
        ·intro L1008 w1009 hi1010
         exact OpR.want rfl rfl (hi1010.dt 4 33 rfl rfl rfl) (not_t hb105) (yC en59 rfl (oc (hi1010.dt 6 35 rfl rfl rfl) (oc rfl (oc (hi1010.dt 10 39 rfl rfl rfl) oz))) (Cal.mono (c_s_l1In ((p_0.Idxs.getD k30 d_Idx).Col) 1 (IntKind.wrap .i64 ((p_0.Cols.length : Int) - 1))) fun _ _ h => h))
        ·exact oW rfl rfl rfl rfl (not_t hb105) fun h => yl_not rfl (h.dt 11 40 rfl rfl rfl) kI
        ·exact oI rfl fun h => yl_pick_f rfl (h.dt 4 33 rfl rfl rfl) (not_t hb105) (h.dt 12 41 rfl rfl rfl) kI
        ·exact oI rfl fun h => yM rfl (h.dt 13 42 rfl rfl rfl) kI
        ·exact oS rfl rfl rfl rfl rfl (not_f hb110)
        ·exact oS rfl rfl rfl rfl rfl (not_f hb110)
        ·exact oS rfl rfl rfl rfl rfl (not_f hb110)
        ·exact oS rfl rfl rfl rfl rfl (not_f hb110)
        ·exact oI rfl fun h => yl_pick_t rfl (h.dt 14 43 rfl rfl rfl) (not_f hb110) rfl kI
        ·exact oI rfl fun h => yM rfl (h.dt 19 48 rfl rfl rfl) kI
        ·exact oS rfl rfl rfl rfl rfl rfl
        ·exact oS rfl rfl rfl rfl rfl rfl
        ·exact oS rfl rfl rfl rfl rfl rfl
        ·exact oU rfl rfl rfl rfl rfl
        ·exact oU rfl rfl rfl rfl rfl
        ·exact oU rfl rfl rfl rfl rfl
        ·exact oU rfl rfl rfl rfl rfl
        ·exact oU rfl rfl rfl rfl rfl
        ·exact oU rfl rfl rfl rfl rfl
        ·exact oU rfl rfl rfl rfl rfl
        ·exact oU rfl rfl rfl rfl rfl
        ·exact oU rfl rfl rfl rfl rfl
        ·exact oU rfl rfl rfl rfl rfl
        ·exact oS rfl rfl rfl rfl rfl rfl
        ·exact oI rfl fun h => yl_pick_t rfl (h.dt 20 49 rfl rfl rfl) rfl rfl kI
        ·intro fl1145 fh1146 L1142 w1143 hp1144
         have hE1147 := hp1144.ex
         have hE1147z := Ex.size hE1147
         refine dn (CW.sub (Sub.cons (d := 1) (hp1144.old 1 _ rfl rfl) (Sub.cons (d := 22) (hp1144.old 22 _ rfl rfl) (Sub.cons (d := 23) (hp1144.old 23 _ rfl rfl) (Sub.cons (d := 24) (hp1144.old 24 _ rfl rfl) (Sub.cons (d := 34) (hp1144.nt 5 34 rfl rfl rfl) (Sub.cons (d := 35) (hp1144.nt 6 35 rfl rfl rfl) (Sub.cons (d := 36) (hp1144.nt 7 36 rfl rfl rfl) (Sub.cons (d := 37) (hp1144.nt 8 37 rfl rfl rfl) (Sub.cons (d := 38) (hp1144.nt 9 38 rfl rfl rfl) (Sub.cons (d := 39) (hp1144.nt 10 39 rfl rfl rfl) (Sub.cons (d := 40) (hp1144.nt 11 40 rfl rfl rfl) (Sub.cons (d := 41) (hp1144.nt 12 41 rfl rfl rfl) (Sub.cons (d := 44) (hp1144.nt 15 44 rfl rfl rfl) (Sub.cons (d := 45) (hp1144.nt 16 45 rfl rfl rfl) (Sub.cons (d := 46) (hp1144.nt 17 46 rfl rfl rfl) (Sub.cons (d := 47) (hp1144.nt 18 47 rfl rfl rfl) (Sub.cons (d := 50) (hp1144.nt 21 50 rfl rfl rfl) (Sub.cons (d := 51) (hp1144.nt 22 51 rfl rfl rfl) (Sub.cons (d := 52) (hp1144.nt 23 52 rfl rfl rfl) (Sub.cons (d := 53) (hp1144.nt 24 53 rfl rfl rfl) (Sub.cons (d := 54) (hp1144.nt 25 54 rfl rfl rfl) (Sub.cons (d := 55) (hp1144.nt 26 55 rfl rfl rfl) (Sub.cons (d := 56) (hp1144.nt 27 56 rfl rfl rfl) (Sub.cons (d := 57) (hp1144.nt 28 57 rfl rfl rfl) (Sub.cons (d := 58) (hp1144.nt 29 58 rfl rfl rfl) (Sub.cons (d := 59) (hp1144.nt 30 59 rfl rfl rfl) (Sub.cons (d := 60) (hp1144.nt 31 60 rfl rfl rfl) (Sub.cons (d := 61) (hp1144.nt 32 61 rfl rfl rfl) (Sub.cons (d := 62) (hp1144.nt 33 62 rfl rfl rfl) (Sub.cons (d := 63) (hp1144.nt 34 63 rfl rfl rfl) (Sub.cons (d := 64) (hp1144.nt 35 64 rfl rfl rfl) (Sub.nil _)))))))))))))))))))))))))))))))) ?_)
         refine CW.cond_t rfl rfl (CW.seq (CW.region (sd rfl (yA rfl rfl (dn (CW.ret (br (tr ?_))))))))
         refine tr ?_
         have hB1180 : B_s_GoodTable_0 p_0 k30 () = .ret false := by simp only [B_s_GoodTable_0, hb16, hb23, hb25, hb105, hb110, cL]
         have hL1179 : loopM (B_s_GoodTable_0 p_0) (p_0.Idxs.length - 0) 0 () = .ret false := hI82.symm.trans (loopM.ret hlt93 hB1180)
         refine br (tr (rr rfl (.cons rfl .nil) ?_))
         have hM1181 : (s_GoodTable p_0) = (false) := by simp only [s_GoodTable, hb16, hb23, hb25, hb105, hb110, hL1179, cL]
         rw [hM1181]
         exact ⟨rfl, (Ex.trans (Below.only (Ex.trans hf91 hE100) hO103 (by omega)) hE1147)⟩
      ·refine CW.drawsI 36 (vgetI ([.pointer (some ⟨b95, 0 + 0, none⟩), .string (bs ((p_0.Idxs.getD k30 d_Idx).Name)), .bool ((s_l24Letters ((p_0.Idxs.getD k30 d_Idx).Name) 1)), .bool (!(s_l24Letters ((p_0.Idxs.getD k30 d_Idx).Name) 1)), .bool (!(s_l24Letters ((p_0.Idxs.getD k30 d_Idx).Name) 1)), undef, undef, undef, undef, undef, undef, undef, undef, .bool (true), .bool (true), undef, undef, undef, undef, .bool (true), .bool (true), undef, undef, undef, undef, undef, undef, undef, undef, undef, undef, undef, undef, undef, undef, .bool (true)].map DetI)) Tryz.follows rfl rfl rfl rfl rfl rfl (vgetI_stable (stD _)) ⟨?_, ?_, ?_, ?_, ?_, ?_, ?_, ?_, ?_, ?_, ?_, ?_, ?_, ?_, ?_, ?_, ?_, ?_, ?_, ?_, ?_, ?_, ?_, ?_, ?_, ?_, ?_, ?_, ?_, ?_, ?_, ?_, ?_, ?_, ?_, ?_, trivial⟩ ?_
       ·exact oI rfl fun h => yl_fieldAddr fd64_0 rfl (h.old 4 _ rfl rfl) kI
       ·exact oI rfl fun h => yl_load1 ty9 rfl (h.dt 0 29 rfl rfl rfl) (((Box.ex hB102 h.ex).cell 0).trans rfl) kI
       ·intro L1197 w1198 hi1199
        exact OpR.op' rfl (yC en57 rfl (oc (hi1199.dt 1 30 rfl rfl rfl) (oc rfl oz)) (Cal.mono (c_s_l24Letters ((p_0.Idxs.getD k30 d_Idx).Name) 1 (okL.getD o3.2.2 ok_d_Idx _)) fun _ _ h => h))
       ·exact oI rfl fun h => yl_not rfl (h.dt 2 31 rfl rfl rfl) kI
       ·exact oI rfl fun h => yM rfl (h.dt 3 32 rfl rfl rfl) kI
       ·exact oS rfl rfl rfl rfl rfl (not_f hb105)
       ·exact oS rfl rfl rfl rfl rfl (not_f hb105)
       ·exact oS rfl rfl rfl rfl rfl (not_f hb105)
       ·exact oS rfl rfl rfl rfl rfl (not_f hb105)
       ·exact oS rfl rfl rfl rfl rfl (not_f hb105)
       ·exact oS rfl rfl rfl rfl rfl (not_f hb105)
       ·exact oS rfl rfl rfl rfl rfl (not_f hb105)
       ·exact oS rfl rfl rfl rfl rfl (not_f hb105)
       ·exact oI rfl fun h => yl_pick_t rfl (h.dt 4 33 rfl rfl rfl) (not_f hb105) rfl kI
       ·exact oI rfl fun h => yM rfl (h.dt 13 42 rfl rfl rfl) kI
       ·exact oS rfl rfl rfl rfl rfl rfl
       ·exact oS rfl rfl rfl rfl rfl rfl
       ·exact oS rfl rfl rfl rfl rfl rfl
       ·exact oS rfl rfl rfl rfl rfl rfl
       ·exact oI rfl fun h => yl_pick_t rfl (h.dt 14 43 rfl rfl rfl) rfl rfl kI
       ·exact oI rfl fun h => yM rfl (h.dt 19 48 rfl rfl rfl) kI
       ·exact oS rfl rfl rfl rfl rfl rfl
       ·exact oS rfl rfl rfl rfl rfl rfl
       ·exact oS rfl rfl rfl rfl rfl rfl
       ·exact oU rfl rfl rfl rfl rfl
       ·exact oU rfl rfl rfl rfl rfl
       ·exact oU rfl rfl rfl rfl rfl
       ·exact oU rfl rfl rfl rfl rfl
       ·exact oU rfl rfl rfl rfl rfl
       ·exact oU rfl rfl rfl rfl rfl
       ·exact oU rfl rfl rfl rfl rfl
       ·exact oU rfl rfl rfl rfl rfl
       ·exact oU rfl rfl rfl rfl rfl
       ·exact oU rfl rfl rfl rfl rfl
       ·exact oS rfl rfl rfl rfl rfl rfl
       ·exact oI rfl fun h => yl_pick_t rfl (h.dt 20 49 rfl rfl rfl) rfl rfl kI
       ·intro fl1376 fh1377 L1373 w1374 hp1375
        have hE1378 := hp1375.ex
        have hE1378z := Ex.size hE1378
        refine dn (CW.sub (Sub.cons (d := 1) (hp1375.old 1 _ rfl rfl) (Sub.cons (d := 22) (hp1375.old 22 _ rfl rfl) (Sub.cons (d := 23) (hp1375.old 23 _ rfl rfl) (Sub.cons (d := 24) (hp1375.old 24 _ rfl rfl) (Sub.cons (d := 34) (hp1375.nt 5 34 rfl rfl rfl) (Sub.cons (d := 35) (hp1375.nt 6 35 rfl rfl rfl) (Sub.cons (d := 36) (hp1375.nt 7 36 rfl rfl rfl) (Sub.cons (d := 37) (hp1375.nt 8 37 rfl rfl rfl) (Sub.cons (d := 38) (hp1375.nt 9 38 rfl rfl rfl) (Sub.cons (d := 39) (hp1375.nt 10 39 rfl rfl rfl) (Sub.cons (d := 40) (hp1375.nt 11 40 rfl rfl rfl) (Sub.cons (d := 41) (hp1375.nt 12 41 rfl rfl rfl) (Sub.cons (d := 44) (hp1375.nt 15 44 rfl rfl rfl) (Sub.cons (d := 45) (hp1375.nt 16 45 rfl rfl rfl) (Sub.cons (d := 46) (hp1375.nt 17 46 rfl rfl rfl) (Sub.cons (d := 47) (hp1375.nt 18 47 rfl rfl rfl) (Sub.cons (d := 50) (hp1375.nt 21 50 rfl rfl rfl) (Sub.cons (d := 51) (hp1375.nt 22 51 rfl rfl rfl) (Sub.cons (d := 52) (hp1375.nt 23 52 rfl rfl rfl) (Sub.cons (d := 53) (hp1375.nt 24 53 rfl rfl rfl) (Sub.cons (d := 54) (hp1375.nt 25 54 rfl rfl rfl) (Sub.cons (d := 55) (hp1375.nt 26 55 rfl rfl rfl) (Sub.cons (d := 56) (hp1375.nt 27 56 rfl rfl rfl) (Sub.cons (d := 57) (hp1375.nt 28 57 rfl rfl rfl) (Sub.cons (d := 58) (hp1375.nt 29 58 rfl rfl rfl) (Sub.cons (d := 59) (hp1375.nt 30 59 rfl rfl rfl) (Sub.cons (d := 60) (hp1375.nt 31 60 rfl rfl rfl) (Sub.cons (d := 61) (hp1375.nt 32 61 rfl rfl rfl) (Sub.cons (d := 62) (hp1375.nt 33 62 rfl rfl rfl) (Sub.cons (d := 63) (hp1375.nt 34 63 rfl rfl rfl) (Sub.cons (d := 64) (hp1375.nt 35 64 rfl rfl rfl) (Sub.nil _)))))))))))))))))))))))))))))))) ?_)
        refine CW.cond_t rfl rfl (CW.seq (CW.region (sd rfl (yA rfl rfl (dn (CW.ret (br (tr ?_))))))))
        refine tr ?_
        have hB1411 : B_s_GoodTable_0 p_0 k30 () = .ret false := by simp only [B_s_GoodTable_0, hb16, hb23, hb25, hb105, cL]
        have hL1410 : loopM (B_s_GoodTable_0 p_0) (p_0.Idxs.length - 0) 0 () = .ret false := hI82.symm.trans (loopM.ret hlt93 hB1411)
        refine br (tr (rr rfl (.cons rfl .nil) ?_))
        have hM1412 : (s_GoodTable p_0) = (false) := by simp only [s_GoodTable, hb16, hb23, hb25, hb105, hL1410, cL]
        rw [hM1412]
        exact ⟨rfl, (Ex.trans (Below.only (Ex.trans hf91 hE100) hO103 (by omega)) hE1378)⟩
     ·refine CW.seq (CW.region (sd rfl (yl_lss rfl rfl rfl (dn (CW.seq (CW.cond_f rfl (lt_f hlt93) (CW.exit (tx ?_))))))))
      refine tx ?_
      have hL1416 : loopM (B_s_GoodTable_0 p_0) (p_0.Idxs.length - 0) 0 () = .done () := hI82.symm.trans (loopM.stop hlt93)
      refine bx (tn (CW.seq (CW.region (sd rfl (yA rfl rfl (dn (CW.ret (rr rfl (.cons rfl .nil) ?_))))))))
      have hM1417 : (s_GoodTable p_0) = (true) := by simp only [s_GoodTable, hb16, hb23, hb25, hL1416, cL]
      rw [hM1417]
      exact ⟨rfl, hf91⟩
  ·refine sz rfl rfl (not_f hb23) (sz rfl rfl (not_f hb23) (sz rfl rfl (not_f hb23) (sz rfl rfl (not_f hb23) (sd rfl (yl_pick_t rfl rfl (not_f hb23) rfl (dn (CW.cond_t rfl rfl (CW.seq ?_))))))))
   refine CW.region (sd rfl (yA rfl rfl (dn (CW.ret (tr (rr rfl (.cons rfl .nil) ?_))))))
   have hM1418 : (s_GoodTable p_0) = (false) := by simp only [s_GoodTable, hb16, hb23, cL]
   rw [hM1418]
   exact ⟨rfl, (Ex.trans (Ex.trans (Ex.trans (Ex.refl w) hE12) hE15) hE22)⟩
 ·refine sz rfl rfl (not_f hb16) (sz rfl rfl (not_f hb16) (sz rfl rfl (not_f hb16) (sz rfl rfl (not_f hb16) (sd rfl (yl_pick_t rfl rfl (not_f hb16) rfl (sd rfl (yM rfl rfl (sz rfl rfl rfl (sz rfl rfl rfl (sz rfl rfl rfl ?_))))))))))
  refine sz rfl rfl rfl (sd rfl (yl_pick_t rfl rfl rfl rfl (dn (CW.cond_t rfl rfl (CW.seq (CW.region (sd rfl (yA rfl rfl (SeqR.done ?_)))))))))
  refine tn (CW.ret (tr (rr rfl (.cons rfl .nil) ?_)))
  have hM1422 : (s_GoodTable p_0) = (false) := by simp only [s_GoodTable, hb16, cL]
  rw [hM1422]
  exact ⟨rfl, (Ex.trans (Ex.trans (Ex.refl w) hE12) hE15)⟩
theorem c_s_l3Key {w : World} (p_s : Str) (o1 : okS p_s) : Cal Tryz.prog 103 #[.string (bs (p_s))] w fun v w' => v = .bool ((s_l3Key p_s)) ∧ Ex w w' := by
 refine Cal.of func103 rfl ntmps103 rfl (CW.seq (CW.region (sd rfl (yA rfl rfl (dn (CW.seq (CW.region (sd rfl (yM rfl rfl ?_)))))))))
 refine sd rfl (yl_slen un9 (a := p_s) rfl rfl (sd rfl (yC en59 rfl (oc rfl (oc rfl (oc rfl oz))) (Cal.mono (c_s_l1In (p_s.length : Int) 1 12) ?_))))
 rintro v4 w3 ⟨rfl, hE5⟩
 refine sd rfl (yM rfl rfl (bcase (s_l1In (p_s.length : Int) 1 12) (fun hb6 => ?_) (fun hb6 => ?_)))
 ·have hb6p := f_l1In hb6
  refine sy rfl rfl hb6 (yM rfl rfl (sy rfl rfl hb6 (yC en97 rfl (oc rfl (oc rfl oz)) (Cal.mono (c_s_l3Bytes p_s ([46, 47] : Str) o1 (okS.lit rfl)) ?_))))
  rintro v8 w7 ⟨rfl, hE9⟩
  refine sd rfl (yl_pick_t rfl rfl hb6 rfl (sd rfl (yA rfl rfl (dn (CW.ret (rr rfl (.cons rfl .nil) ?_))))))
  have hM10 : (s_l3Key p_s) = ((s_l3Bytes p_s ([46, 47] : Str))) := by simp only [s_l3Key, hb6, cL]
  rw [hM10]
  exact ⟨rfl, (Ex.trans (Ex.trans (Ex.refl w) hE5) hE9)⟩
 ·refine sz rfl rfl hb6 (sz rfl rfl hb6 (sd rfl (yl_pick_f rfl rfl hb6 rfl (sd rfl (yA rfl rfl (dn (CW.ret (rr rfl (.cons rfl .nil) ?_))))))))
  have hM13 : (s_l3Key p_s) = (false) := by simp only [s_l3Key, hb6, cL]
  rw [hM13]
  exact ⟨rfl, (Ex.trans (Ex.refl w) hE5)⟩
theorem c_s_l3Val {w : World} (p_s : Str) (o1 : okS p_s) : Cal Tryz.prog 104 #[.string (bs (p_s))] w fun v w' => v = .bool ((s_l3Val p_s)) ∧ Ex w w' := by
 refine Cal.of func104 rfl ntmps104 rfl (CW.seq (CW.region (sd rfl (yA rfl rfl (dn (CW.seq (CW.region (sd rfl (yM rfl rfl ?_)))))))))
 refine sd rfl (yl_slen un9 (a := p_s) rfl rfl (sd rfl (yl_leq rfl rfl rfl (sd rfl (yM rfl rfl (bcase (decide ((p_s.length : Int) ≤ 24)) (fun hb3 => ?_) (fun hb3 => ?_)))))))
 ·have hb3p := dec_t hb3
  refine sy rfl rfl hb3 (yM rfl rfl (sy rfl rfl hb3 (yC en97 rfl (oc rfl (oc rfl oz)) (Cal.mono (c_s_l3Bytes p_s ([46, 45, 44, 95] : Str) o1 (okS.lit rfl)) ?_))))
  rintro v5 w4 ⟨rfl, hE6⟩
  refine sd rfl (yl_pick_t rfl rfl hb3 rfl (sd rfl (yA rfl rfl (dn (CW.ret (rr rfl (.cons rfl .nil) ?_))))))
  have hM7 : (s_l3Val p_s) = ((s_l3Bytes p_s ([46, 45, 44, 95] : Str))) := by simp only [s_l3Val, hb3, cL]
  rw [hM7]
  exact ⟨rfl, (Ex.trans (Ex.refl w) hE6)⟩
 ·have hb3p := dec_f hb3
  refine sz rfl rfl hb3 (sz rfl rfl hb3 (sd rfl (yl_pick_f rfl rfl hb3 rfl (sd rfl (yA rfl rfl (dn (CW.ret (rr rfl (.cons rfl .nil) ?_))))))))
  have hM9 : (s_l3Val p_s) = (false) := by simp only [s_l3Val, hb3, cL]
  rw [hM9]
  exact ⟨rfl, (Ex.refl w)⟩
theorem c_s_l3Write {w : World} (p_key : Str) (p_val : Str) (p_gone : Bool) (o1 : okS p_key) (o2 : okS p_val) : Cal Tryz.prog 87 #[.string (bs (p_key)), .string (bs (p_val)), .bool (p_gone)] w fun v w' => v = .bool ((s_l3Write p_key p_val p_gone)) ∧ Ex w w' := by
 refine Cal.of func87 rfl ntmps87 rfl (CW.seq (CW.region (sd rfl (yA rfl rfl (dn (CW.seq (CW.region (sd rfl (yM rfl rfl ?_)))))))))
 refine sd rfl (yC en103 rfl (oc rfl oz) (Cal.mono (c_s_l3Key p_key o1) ?_))
 rintro v6 w5 ⟨rfl, hE7⟩
 refine sd rfl (yM rfl rfl (bcase (s_l3Key p_key) (fun hb8 => ?_) (fun hb8 => ?_)))
 ·refine sy rfl rfl hb8 (yM rfl rfl (sy rfl rfl hb8 (yC en104 rfl (oc rfl oz) (Cal.mono (c_s_l3Val p_val o2) ?_))))
  rintro v10 w9 ⟨rfl, hE11⟩
  refine sd rfl (yl_pick_t rfl rfl hb8 rfl (sd rfl (yM rfl rfl (bcase (s_l3Val p_val) (fun hb12 => ?_) (fun hb12 => ?_)))))
  ·refine sy rfl rfl hb12 (yM rfl rfl (sy rfl rfl hb12 (yl_not rfl rfl (sy rfl rfl hb12 (yM rfl rfl (bcase (p_gone) (fun hb13 => ?_) (fun hb13 => ?_)))))))
   ·refine sy rfl rfl (not_t hb13) (yM rfl rfl (sy rfl rfl (not_t hb13) (yl_seql (a := p_val) (b := ([] : Str)) rfl rfl rfl (sy rfl rfl hb12 (yl_pick_f rfl rfl (not_t hb13) rfl (sd rfl (yl_pick_t rfl rfl hb12 rfl (sd rfl (yA rfl rfl (dn (CW.ret (rr rfl (.cons rfl .nil) ?_))))))))))))
    have hM14 : (s_l3Write p_key p_val p_gone) = (p_val == ([] : Str)) := by simp only [s_l3Write, hb8, hb12, hb13, cL]
    rw [hM14]
    exact ⟨rfl, (Ex.trans (Ex.trans (Ex.refl w) hE7) hE11)⟩
   ·refine sz rfl rfl (not_f hb13) (sz rfl rfl (not_f hb13) (sy rfl rfl hb12 (yl_pick_t rfl rfl (not_f hb13) rfl (sd rfl (yl_pick_t rfl rfl hb12 rfl (sd rfl (yA rfl rfl (dn (CW.ret (rr rfl (.cons rfl .nil) ?_))))))))))
    have hM17 : (s_l3Write p_key p_val p_gone) = (true) := by simp only [s_l3Write, hb8, hb12, hb13, cL]
    rw [hM17]
    exact ⟨rfl, (Ex.trans (Ex.trans (Ex.refl w) hE7) hE11)⟩
  ·refine sz rfl rfl hb12 (sz rfl rfl hb12 (sz rfl rfl hb12 (sq rfl rfl (sq rfl rfl (sz rfl rfl hb12 (sd rfl (yl_pick_f rfl rfl hb12 rfl (sd rfl (yA rfl rfl (SeqR.done ?_))))))))))
   refine tn (CW.ret (rr rfl (.cons rfl .nil) ?_))
   have hM20 : (s_l3Write p_key p_val p_gone) = (false) := by simp only [s_l3Write, hb8, hb12, cL]
   rw [hM20]
   exact ⟨rfl, (Ex.trans (Ex.trans (Ex.refl w) hE7) hE11)⟩
 ·refine sz rfl rfl hb8 (sz rfl rfl hb8 (sd rfl (yl_pick_f rfl rfl hb8 rfl (sd rfl (yM rfl rfl (sz rfl rfl rfl (sz rfl rfl rfl (sz rfl rfl rfl (sq rfl rfl (sq rfl rfl ?_))))))))))
  refine sz rfl rfl rfl (sd rfl (yl_pick_f rfl rfl rfl rfl (sd rfl (yA rfl rfl (dn (CW.ret (rr rfl (.cons rfl .nil) ?_)))))))
  have hM23 : (s_l3Write p_key p_val p_gone) = (false) := by simp only [s_l3Write, hb8, cL]
  rw [hM23]
  exact ⟨rfl, (Ex.trans (Ex.refl w) hE7)⟩
theorem c_s_l3Writes {A1 : Option Addr} {c1 : Nat} {w : World} (p_l : List DWrite) (h1 : RdS w (Iv 0 w.heap.size) (RF e_Write) 3 A1 p_l.length c1 p_l) (o2 : (okL ok_Write) p_l) : Cal Tryz.prog 60 #[.slice A1 p_l.length c1] w fun v w' => v = .bool ((s_l3Writes p_l)) ∧ Ex w w' := by
 have hol3 := o2.1
 refine Cal.of func60 rfl ntmps60 rfl (CW.seq (CW.region (sd rfl (yA rfl rfl (dn (CW.seq (CW.seq (CW.region ?_))))))))
 refine sd rfl (yM rfl rfl (sd rfl (yL un27 rfl rfl (sd rfl (yM rfl rfl (dn (CW.block (CW.loop (fun m24 L25 w26 => ∃ (k4 : Nat), m24 = p_l.length - k4 ∧ k4 ≤ p_l.length ∧ w.heap.size ≤ w26.heap.size ∧ lkp L25 0 = some (.slice A1 p_l.length c1) ∧ lkp L25 5 = some (.slice A1 p_l.length c1) ∧ lkp L25 6 = some (.int .i64 ((p_l.length : Int))) ∧ lkp L25 7 = some (.int .i64 ((k4 : Int))) ∧ RdS w26 (Iv 0 w.heap.size) (RF e_Write) 3 A1 p_l.length c1 p_l ∧ Ex w w26 ∧ loopM (B_s_l3Writes_0 p_l) (p_l.length - k4) k4 () = loopM (B_s_l3Writes_0 p_l) (p_l.length - 0) 0 ()) (p_l.length - 0) ?_ ?_))))))))
 ·exact ⟨0, rfl, (by omega), Nat.le_refl _, rfl, rfl, rfl, rfl, h1, (Ex.refl w), rfl⟩
 ·rintro m27 L28 w29 ⟨k4, rfl, hk30, hsz32, hl33, hl34, hl35, hl36, hf37, hf38, hI31⟩
  refine CW.sub (Sub.cons hl33 (Sub.cons hl34 (Sub.cons hl35 (Sub.cons hl36 (Sub.nil _))))) ?_
  have hf38z := Ex.size hf38
  have hbg39 := RdS.big hf37
  rcases Nat.lt_or_ge k4 p_l.length with hlt40 | hlt40
  ·refine CW.seq (CW.region (sd rfl (yl_lss rfl rfl rfl (dn (CW.seq (CW.cond_t rfl (lt_t hlt40) (CW.skip (tn ?_))))))))
   refine CW.seq (CW.block (CW.seq (CW.region (sd rfl (yM rfl rfl ?_)))))
   obtain ⟨eb41, eo41, _, eA41, _, ebl41, _, eR41, eC41⟩ := RdS.aD hf37 d_Write (i := k4)
   obtain rfl := eR41
   have eC41 : Cells w29 eb41 (eo41 + k4 * 3) [.string (bs ((p_l.getD k4 d_Write).Key)), .string (bs ((p_l.getD k4 d_Write).Val)), .bool ((p_l.getD k4 d_Write).Gone)] := eC41
   refine sd rfl (yl_ixN un27 ty66 rfl rfl rfl eA41 (sd rfl (yl_loadN ty66 rfl rfl eC41 rfl (sd rfl (yB ty66 (cs := [.string (bs (([] : Str))), .string (bs (([] : Str))), .bool (false)]) rfl rfl ?_)))))
   intro b42 w43 hs44 hz45 hB46 hE47
   refine sd rfl (yA rfl rfl (SeqR.u rfl rfl (yl_store (vs := [.string (bs ((p_l.getD k4 d_Write).Key)), .string (bs ((p_l.getD k4 d_Write).Val)), .bool ((p_l.getD k4 d_Write).Gone)]) ty66 rfl rfl rfl rfl rfl rfl hB46 (Nat.le_of_ble_eq_true rfl) ?_)))
   intro w48 hB49 hO50
   have hB49 : Box w48 b42 66 [.string (bs ((p_l.getD k4 d_Write).Key)), .string (bs ((p_l.getD k4 d_Write).Val)), .bool ((p_l.getD k4 d_Write).Gone)] := hB49
   have hO50z := hO50.size
   refine dn (CW.seq (bcase (s_l3Write ((p_l.getD k4 d_Write).Key) ((p_l.getD k4 d_Write).Val) ((p_l.getD k4 d_Write).Gone)) (fun hb52 => ?_) (fun hb52 => ?_)))
   ·refine bcase (decide (0 < (k4 : Int))) (fun hb54 => ?_) (fun hb54 => ?_)
    ·have hb54p := dec_t hb54
     have q57 := RdS.only gW (RdS.ex gW hf37 hE47) hO50 (by simp only [Iv]; omega)
     obtain ⟨eb58, eo58, _, eA58, _, ebl58, _, eR58, eC58⟩ := RdS.atD q57 d_Write (i := (IntKind.wrap .i64 ((k4 : Int) - 1)).toNat) (by first | omega | assumption | (simp only [wI] at *; omega))
     obtain rfl := eR58
     have eC58 : Cells w48 eb58 (eo58 + ((IntKind.wrap .i64 ((k4 : Int) - 1)).toNat) * 3) [.string (bs ((p_l.getD ((IntKind.wrap .i64 ((k4 : Int) - 1)).toNat) d_Write).Key)), .string (bs ((p_l.getD ((IntKind.wrap .i64 ((k4 : Int) - 1)).toNat) d_Write).Val)), .bool ((p_l.getD ((IntKind.wrap .i64 ((k4 : Int) - 1)).toNat) d_Write).Gone)] := eC58
     refine CW.drawsI 23 (vgetI ([.pointer (some ⟨b42, 0 + 0, none⟩), .string (bs ((p_l.getD k4 d_Write).Key)), .pointer (some ⟨b42, 0 + 1, none⟩), .string (bs ((p_l.getD k4 d_Write).Val)), .pointer (some ⟨b42, 0 + 2, none⟩), .bool ((p_l.getD k4 d_Write).Gone), .bool ((s_l3Write ((p_l.getD k4 d_Write).Key) ((p_l.getD k4 d_Write).Val) ((p_l.getD k4 d_Write).Gone))), .bool (!(s_l3Write ((p_l.getD k4 d_Write).Key) ((p_l.getD k4 d_Write).Val) ((p_l.getD k4 d_Write).Gone))), .bool (!(s_l3Write ((p_l.getD k4 d_Write).Key) ((p_l.getD k4 d_Write).Val) ((p_l.getD k4 d_Write).Gone))), .int .i64 ((k4 : Int)), .bool (decide (0 < (k4 : Int))), .bool (decide (0 < (k4 : Int))), .slice A1 p_l.length c1, .int .i64 ((k4 : Int)), .int .i64 (IntKind.wrap .i64 ((k4 : Int) - 1)), .pointer (some ⟨eb58, eo58 + ((IntKind.wrap .i64 ((k4 : Int) - 1)).toNat) * 3, none⟩), .pointer (some ⟨eb58, eo58 + ((IntKind.wrap .i64 ((k4 : Int) - 1)).toNat) * 3 + 0, none⟩), .string (bs ((p_l.getD ((IntKind.wrap .i64 ((k4 : Int) - 1)).toNat) d_Write).Key)), .pointer (some ⟨b42, 0 + 0, none⟩), .string (bs ((p_l.getD k4 d_Write).Key)), .bool (!(sLt ((p_l.getD ((IntKind.wrap .i64 ((k4 : Int) - 1)).toNat) d_Write).Key) ((p_l.getD k4 d_Write).Key))), .bool (!(sLt ((p_l.getD ((IntKind.wrap .i64 ((k4 : Int) - 1)).toNat) d_Write).Key) ((p_l.getD k4 d_Write).Key))), .bool (!(sLt ((p_l.getD ((IntKind.wrap .i64 ((k4 : Int) - 1)).toNat) d_Write).Key) ((p_l.getD k4 d_Write).Key)))].map DetI)) Tryz.follows rfl rfl rfl rfl rfl rfl (vgetI_stable (stD _)) ⟨?_, ?_, ?_, ?_, ?_, ?_, ?_, ?_, ?_, ?_, ?_, ?_, ?_, ?_, ?_, ?_, ?_, ?_, ?_, ?_, ?_, ?_, ?_, trivial⟩ ?_
     ·exact oI rfl fun h => yl_fieldAddr fd66_0 rfl (h.old 4 _ rfl rfl) kI
     ·exact oI rfl fun h => yl_load1 ty9 rfl (h.dt 0 12 rfl rfl rfl) (((Box.ex hB49 h.ex).cell 0).trans rfl) kI
     ·exact oI rfl fun h => yl_fieldAddr fd66_1 rfl (h.old 4 _ rfl rfl) kI
     ·exact oI rfl fun h => yl_load1 ty9 rfl (h.dt 2 14 rfl rfl rfl) (((Box.ex hB49 h.ex).cell 1).trans rfl) kI
     ·exact oI rfl fun h => yl_fieldAddr fd66_2 rfl (h.old 4 _ rfl rfl) kI
     ·exact oI rfl fun h => yl_load1 ty4 rfl (h.dt 4 16 rfl rfl rfl) (((Box.ex hB49 h.ex).cell 2).trans rfl) kI
     ·intro L92 w93 hi94
      exact OpR.op' rfl (yC en87 rfl (oc (hi94.dt 1 13 rfl rfl rfl) (oc (hi94.dt 3 15 rfl rfl rfl) (oc (hi94.dt 5 17 rfl rfl rfl) oz))) (Cal.mono (c_s_l3Write ((p_l.getD k4 d_Write).Key) ((p_l.getD k4 d_Write).Val) ((p_l.getD k4 d_Write).Gone) ((okL.getD o2 ok_d_Write _).1) ((okL.getD o2 ok_d_Write _).2)) fun _ _ h => h))
     ·exact oI rfl fun h => yl_not rfl (h.dt 6 18 rfl rfl rfl) kI
     ·exact oI rfl fun h => yM rfl (h.dt 7 19 rfl rfl rfl) kI
     ·exact oW rfl rfl rfl rfl (not_t hb52) fun h => yM rfl (h.old 3 _ rfl rfl) kI
     ·exact oW rfl rfl rfl rfl (not_t hb52) fun h => yl_gtr rfl (h.dt 9 21 rfl rfl rfl) rfl kI
     ·exact oW rfl rfl rfl rfl (not_t hb52) fun h => yM rfl (h.dt 10 22 rfl rfl rfl) kI
     ·exact oW rfl rfl rfl rfl hb54 fun h => yM rfl (h.old 0 _ rfl rfl) kI
     ·exact oW rfl rfl rfl rfl hb54 fun h => yM rfl (h.old 3 _ rfl rfl) kI
     ·exact oW rfl rfl rfl rfl hb54 fun h => yl_sub rfl (h.dt 13 25 rfl rfl rfl) rfl kI
     ·intro L148 w149 hi150
      have hE151 := hi150.ex
      have hE151z := Ex.size hE151
      exact OpR.want rfl rfl (hi150.dt 11 23 rfl rfl rfl) hb54 (Yl.sameI (yl_indexAddr un27 ty66 rfl (hi150.dt 12 24 rfl rfl rfl) (hi150.dt 14 26 rfl rfl rfl) eA58 (by first | omega | assumption | (simp only [wI] at *; omega)) (by first | omega | assumption | (simp only [wI] at *; omega)) kI))
     ·exact oW rfl rfl rfl rfl hb54 fun h => yl_fieldAddr fd66_0 rfl (h.dt 15 27 rfl rfl rfl) kI
     ·exact oW rfl rfl rfl rfl hb54 fun h => yl_load1 ty9 rfl (h.dt 16 28 rfl rfl rfl) ((Cells.ex eC58 h.ex) 0 _ rfl) kI
     ·exact oW rfl rfl rfl rfl hb54 fun h => yl_fieldAddr fd66_0 rfl (h.old 4 _ rfl rfl) kI
     ·exact oW rfl rfl rfl rfl hb54 fun h => yl_load1 ty9 rfl (h.dt 18 30 rfl rfl rfl) (((Box.ex hB49 h.ex).cell 0).trans rfl) kI
     ·exact oW rfl rfl rfl rfl hb54 fun h => yl_sgeq (a := ((p_l.getD ((IntKind.wrap .i64 ((k4 : Int) - 1)).toNat) d_Write).Key)) (b := ((p_l.getD k4 d_Write).Key)) rfl (h.dt 17 29 rfl rfl rfl) (h.dt 19 31 rfl rfl rfl) kI
     ·exact oW rfl rfl rfl rfl (not_t hb52) fun h => yl_pick_t rfl (h.dt 11 23 rfl rfl rfl) hb54 (h.dt 20 32 rfl rfl rfl) kI
     ·exact oI rfl fun h => yl_pick_f rfl (h.dt 8 20 rfl rfl rfl) (not_t hb52) (h.dt 21 33 rfl rfl rfl) kI
     ·intro fl204 fh205 L201 w202 hp203
      have hE206 := hp203.ex
      have hE206z := Ex.size hE206
      refine dn (CW.sub (Sub.cons (d := 0) (hp203.old 0 _ rfl rfl) (Sub.cons (d := 5) (hp203.old 5 _ rfl rfl) (Sub.cons (d := 6) (hp203.old 6 _ rfl rfl) (Sub.cons (d := 7) (hp203.old 7 _ rfl rfl) (Sub.cons (d := 21) (hp203.nt 9 21 rfl rfl rfl) (Sub.cons (d := 22) (hp203.nt 10 22 rfl rfl rfl) (Sub.cons (d := 23) (hp203.nt 11 23 rfl rfl rfl) (Sub.cons (d := 24) (hp203.nt 12 24 rfl rfl rfl) (Sub.cons (d := 25) (hp203.nt 13 25 rfl rfl rfl) (Sub.cons (d := 26) (hp203.nt 14 26 rfl rfl rfl) (Sub.cons (d := 27) (hp203.nt 15 27 rfl rfl rfl) (Sub.cons (d := 28) (hp203.nt 16 28 rfl rfl rfl) (Sub.cons (d := 29) (hp203.nt 17 29 rfl rfl rfl) (Sub.cons (d := 30) (hp203.nt 18 30 rfl rfl rfl) (Sub.cons (d := 31) (hp203.nt 19 31 rfl rfl rfl) (Sub.cons (d := 32) (hp203.nt 20 32 rfl rfl rfl) (Sub.cons (d := 33) (hp203.nt 21 33 rfl rfl rfl) (Sub.cons (d := 34) (hp203.nt 22 34 rfl rfl rfl) (Sub.nil _))))))))))))))))))) (bcase (sLt ((p_l.getD ((IntKind.wrap .i64 ((k4 : Int) - 1)).toNat) d_Write).Key) ((p_l.getD k4 d_Write).Key)) (fun hb225 => ?_) (fun hb225 => ?_)))
      ·refine CW.cond_f rfl (not_t hb225) (CW.skip (bn (tn (CW.region (sd rfl (yl_inc rfl rfl rfl (by omega) (sd rfl (yM rfl rfl (dn ?_)))))))))
       have hB226 : B_s_l3Writes_0 p_l k4 () = .cont () := by simp only [B_s_l3Writes_0, hb52, hb54, hb225, cL]
       exact ⟨p_l.length - (k4 + 1), by omega, k4 + 1, rfl, hlt40, (by omega), rfl, rfl, rfl, rfl, (RdS.ex gW q57 hE206), (Ex.trans (Below.only (Ex.trans hf38 hE47) hO50 (by omega)) hE206), (loopM.cont hlt40 hB226).symm.trans hI31⟩
      ·refine CW.cond_t rfl (not_f hb225) (CW.seq (CW.region (sd rfl (yA rfl rfl (dn (CW.ret (br (tr ?_))))))))
       refine tr ?_
       have hB232 : B_s_l3Writes_0 p_l k4 () = .ret false := by simp only [B_s_l3Writes_0, hb52, hb54, hb225, cL]
       have hL231 : loopM (B_s_l3Writes_0 p_l) (p_l.length - 0) 0 () = .ret false := hI31.symm.trans (loopM.ret hlt40 hB232)
       refine br (tr (rr rfl (.cons rfl .nil) ?_))
       have hM233 : (s_l3Writes p_l) = (false) := by simp only [s_l3Writes, hb52, hb54, hb225, hL231, cL]
       rw [hM233]
       exact ⟨rfl, (Ex.trans (Below.only (Ex.trans hf38 hE47) hO50 (by omega)) hE206)⟩
    ·have hb54p := dec_f hb54
     refine CW.drawsI 23 (vgetI ([.pointer (some ⟨b42, 0 + 0, none⟩), .string (bs ((p_l.getD k4 d_Write).Key)), .pointer (some ⟨b42, 0 + 1, none⟩), .string (bs ((p_l.getD k4 d_Write).Val)), .pointer (some ⟨b42, 0 + 2, none⟩), .bool ((p_l.getD k4 d_Write).Gone), .bool ((s_l3Write ((p_l.getD k4 d_Write).Key) ((p_l.getD k4 d_Write).Val) ((p_l.getD k4 d_Write).Gone))), .bool (!(s_l3Write ((p_l.getD k4 d_Write).Key) ((p_l.getD k4 d_Write).Val) ((p_l.getD k4 d_Write).Gone))), .bool (!(s_l3Write ((p_l.getD k4 d_Write).Key) ((p_l.getD k4 d_Write).Val) ((p_l.getD k4 d_Write).Gone))), .int .i64 ((k4 : Int)), .bool (decide (0 < (k4 : Int))), .bool (decide (0 < (k4 : Int))), undef, undef, undef, undef, undef, undef, undef, undef, undef, .bool (false), .bool (false)].map DetI)) Tryz.follows rfl rfl rfl rfl rfl rfl (vgetI_stable (stD _)) ⟨?_, ?_, ?_, ?_, ?_, ?_, ?_, ?_, ?_, ?_, ?_, ?_, ?_, ?_, ?_, ?_, ?_, ?_, ?_, ?_, ?_, ?_, ?_, trivial⟩ ?_
     ·exact oI rfl fun h => yl_fieldAddr fd66_0 rfl (h.old 4 _ rfl rfl) kI
     ·exact oI rfl fun h => yl_load1 ty9 rfl (h.dt 0 12 rfl rfl rfl) (((Box.ex hB49 h.ex).cell 0).trans rfl) kI
     ·exact oI rfl fun h => yl_fieldAddr fd66_1 rfl (h.old 4 _ rfl rfl) kI
     ·exact oI rfl fun h => yl_load1 ty9 rfl (h.dt 2 14 rfl rfl rfl) (((Box.ex hB49 h.ex).cell 1).trans rfl) kI
     ·exact oI rfl fun h => yl_fieldAddr fd66_2 rfl (h.old 4 _ rfl rfl) kI
     ·exact oI rfl fun h => yl_load1 ty4 rfl (h.dt 4 16 rfl rfl rfl) (((Box.ex hB49 h.ex).cell 2).trans rfl) kI
     ·intro L271 w272 hi273
      exact OpR.op' rfl (yC en87 rfl (oc (hi273.dt 1 13 rfl rfl rfl) (oc (hi273.dt 3 15 rfl rfl rfl) (oc (hi273.dt 5 17 rfl rfl rfl) oz))) (Cal.mono (c_s_l3Write ((p_l.getD k4 d_Write).Key) ((p_l.getD k4 d_Write).Val) ((p_l.getD k4 d_Write).Gone) ((okL.getD o2 ok_d_Write _).1) ((okL.getD o2 ok_d_Write _).2)) fun _ _ h => h))
     ·exact oI rfl fun h => yl_not rfl (h.dt 6 18 rfl rfl rfl) kI
     ·exact oI rfl fun h => yM rfl (h.dt 7 19 rfl rfl rfl) kI
     ·exact oW rfl rfl rfl rfl (not_t hb52) fun h => yM rfl (h.old 3 _ rfl rfl) kI
     ·exact oW rfl rfl rfl rfl (not_t hb52) fun h => yl_gtr rfl (h.dt 9 21 rfl rfl rfl) rfl kI
     ·exact oW rfl rfl rfl rfl (not_t hb52) fun h => yM rfl (h.dt 10 22 rfl rfl rfl) kI
     ·exact oS rfl rfl rfl rfl rfl hb54
     ·exact oS rfl rfl rfl rfl rfl hb54
     ·exact oS rfl rfl rfl rfl rfl hb54
     ·exact oS rfl rfl rfl rfl rfl hb54
     ·exact oS rfl rfl rfl rfl rfl hb54
     ·exact oS rfl rfl rfl rfl rfl hb54
     ·exact oS rfl rfl rfl rfl rfl hb54
     ·exact oS rfl rfl rfl rfl rfl hb54
     ·exact oS rfl rfl rfl rfl rfl hb54
     ·exact oW rfl rfl rfl rfl (not_t hb52) fun h => yl_pick_f rfl (h.dt 11 23 rfl rfl rfl) hb54 rfl kI
     ·exact oI rfl fun h => yl_pick_f rfl (h.dt 8 20 rfl rfl rfl) (not_t hb52) (h.dt 21 33 rfl rfl rfl) kI
     ·intro fl370 fh371 L367 w368 hp369
      have hE372 := hp369.ex
      have hE372z := Ex.size hE372
      refine dn (CW.sub (Sub.cons (d := 0) (hp369.old 0 _ rfl rfl) (Sub.cons (d := 5) (hp369.old 5 _ rfl rfl) (Sub.cons (d := 6) (hp369.old 6 _ rfl rfl) (Sub.cons (d := 7) (hp369.old 7 _ rfl rfl) (Sub.cons (d := 21) (hp369.nt 9 21 rfl rfl rfl) (Sub.cons (d := 22) (hp369.nt 10 22 rfl rfl rfl) (Sub.cons (d := 23) (hp369.nt 11 23 rfl rfl rfl) (Sub.cons (d := 24) (hp369.nt 12 24 rfl rfl rfl) (Sub.cons (d := 25) (hp369.nt 13 25 rfl rfl rfl) (Sub.cons (d := 26) (hp369.nt 14 26 rfl rfl rfl) (Sub.cons (d := 27) (hp369.nt 15 27 rfl rfl rfl) (Sub.cons (d := 28) (hp369.nt 16 28 rfl rfl rfl) (Sub.cons (d := 29) (hp369.nt 17 29 rfl rfl rfl) (Sub.cons (d := 30) (hp369.nt 18 30 rfl rfl rfl) (Sub.cons (d := 31) (hp369.nt 19 31 rfl rfl rfl) (Sub.cons (d := 32) (hp369.nt 20 32 rfl rfl rfl) (Sub.cons (d := 33) (hp369.nt 21 33 rfl rfl rfl) (Sub.cons (d := 34) (hp369.nt 22 34 rfl rfl rfl) (Sub.nil _))))))))))))))))))) (CW.cond_f rfl rfl (CW.skip (bn (tn (CW.region (sd rfl (yl_inc rfl rfl rfl (by omega) ?_))))))))
      refine sd rfl (yM rfl rfl (dn ?_))
      have hB391 : B_s_l3Writes_0 p_l k4 () = .cont () := by simp only [B_s_l3Writes_0, hb52, hb54, cL]
      exact ⟨p_l.length - (k4 + 1), by omega, k4 + 1, rfl, hlt40, (by omega), rfl, rfl, rfl, rfl, (RdS.ex gW (RdS.only gW (RdS.ex gW hf37 hE47) hO50 (by simp only [Iv]; omega)) hE372), (Ex.trans (Below.only (Ex.trans hf38 hE47) hO50 (by omega)) hE372), (loopM.cont hlt40 hB391).symm.trans hI31⟩
   ·refine CW.drawsI 23 (vgetI ([.pointer (some ⟨b42, 0 + 0, none⟩), .string (bs ((p_l.getD k4 d_Write).Key)), .pointer (some ⟨b42, 0 + 1, none⟩), .string (bs ((p_l.getD k4 d_Write).Val)), .pointer (some ⟨b42, 0 + 2, none⟩), .bool ((p_l.getD k4 d_Write).Gone), .bool ((s_l3Write ((p_l.getD k4 d_Write).Key) ((p_l.getD k4 d_Write).Val) ((p_l.getD k4 d_Write).Gone))), .bool (!(s_l3Write ((p_l.getD k4 d_Write).Key) ((p_l.getD k4 d_Write).Val) ((p_l.getD k4 d_Write).Gone))), .bool (!(s_l3Write ((p_l.getD k4 d_Write).Key) ((p_l.getD k4 d_Write).Val) ((p_l.getD k4 d_Write).Gone))), undef, undef, undef, undef, undef, undef, undef, undef, undef, undef, undef, undef, undef, .bool (true)].map DetI)) Tryz.follows rfl rfl rfl rfl rfl rfl (vgetI_stable (stD _)) ⟨?_, ?_, ?_, ?_, ?_, ?_, ?_, ?_, ?_, ?_, ?_, ?_, ?_, ?_, ?_, ?_, ?_, ?_, ?_, ?_, ?_, ?_, ?_, trivial⟩ ?_
    ·exact oI rfl fun h => yl_fieldAddr fd66_0 rfl (h.old 4 _ rfl rfl) kI
    ·exact oI rfl fun h => yl_load1 ty9 rfl (h.dt 0 12 rfl rfl rfl) (((Box.ex hB49 h.ex).cell 0).trans rfl) kI
    ·exact oI rfl fun h => yl_fieldAddr fd66_1 rfl (h.old 4 _ rfl rfl) kI
    ·exact oI rfl fun h => yl_load1 ty9 rfl (h.dt 2 14 rfl rfl rfl) (((Box.ex hB49 h.ex).cell 1).trans rfl) kI
    ·exact oI rfl fun h => yl_fieldAddr fd66_2 rfl (h.old 4 _ rfl rfl) kI
    ·exact oI rfl fun h => yl_load1 ty4 rfl (h.dt 4 16 rfl rfl rfl) (((Box.ex hB49 h.ex).cell 2).trans rfl) kI
    ·intro L432 w433 hi434
     exact OpR.op' rfl (yC en87 rfl (oc (hi434.dt 1 13 rfl rfl rfl) (oc (hi434.dt 3 15 rfl rfl rfl) (oc (hi434.dt 5 17 rfl rfl rfl) oz))) (Cal.mono (c_s_l3Write ((p_l.getD k4 d_Write).Key) ((p_l.getD k4 d_Write).Val) ((p_l.getD k4 d_Write).Gone) ((okL.getD o2 ok_d_Write _).1) ((okL.getD o2 ok_d_Write _).2)) fun _ _ h => h))
    ·exact oI rfl fun h => yl_not rfl (h.dt 6 18 rfl rfl rfl) kI
    ·exact oI rfl fun h => yM rfl (h.dt 7 19 rfl rfl rfl) kI
    ·exact oS rfl rfl rfl rfl rfl (not_f hb52)
    ·exact oS rfl rfl rfl rfl rfl (not_f hb52)
    ·exact oS rfl rfl rfl rfl rfl (not_f hb52)
    ·exact oU rfl rfl rfl rfl rfl
    ·exact oU rfl rfl rfl rfl rfl
    ·exact oU rfl rfl rfl rfl rfl
    ·exact oU rfl rfl rfl rfl rfl
    ·exact oU rfl rfl rfl rfl rfl
    ·exact oU rfl rfl rfl rfl rfl
    ·exact oU rfl rfl rfl rfl rfl
    ·exact oU rfl rfl rfl rfl rfl
    ·exact oU rfl rfl rfl rfl rfl
    ·exact oS rfl rfl rfl rfl rfl (not_f hb52)
    ·exact oI rfl fun h => yl_pick_t rfl (h.dt 8 20 rfl rfl rfl) (not_f hb52) rfl kI
    ·intro fl526 fh527 L523 w524 hp525
     have hE528 := hp525.ex
     have hE528z := Ex.size hE528
     refine dn (CW.sub (Sub.cons (d := 0) (hp525.old 0 _ rfl rfl) (Sub.cons (d := 5) (hp525.old 5 _ rfl rfl) (Sub.cons (d := 6) (hp525.old 6 _ rfl rfl) (Sub.cons (d := 7) (hp525.old 7 _ rfl rfl) (Sub.cons (d := 21) (hp525.nt 9 21 rfl rfl rfl) (Sub.cons (d := 22) (hp525.nt 10 22 rfl rfl rfl) (Sub.cons (d := 23) (hp525.nt 11 23 rfl rfl rfl) (Sub.cons (d := 24) (hp525.nt 12 24 rfl rfl rfl) (Sub.cons (d := 25) (hp525.nt 13 25 rfl rfl rfl) (Sub.cons (d := 26) (hp525.nt 14 26 rfl rfl rfl) (Sub.cons (d := 27) (hp525.nt 15 27 rfl rfl rfl) (Sub.cons (d := 28) (hp525.nt 16 28 rfl rfl rfl) (Sub.cons (d := 29) (hp525.nt 17 29 rfl rfl rfl) (Sub.cons (d := 30) (hp525.nt 18 30 rfl rfl rfl) (Sub.cons (d := 31) (hp525.nt 19 31 rfl rfl rfl) (Sub.cons (d := 32) (hp525.nt 20 32 rfl rfl rfl) (Sub.cons (d := 33) (hp525.nt 21 33 rfl rfl rfl) (Sub.cons (d := 34) (hp525.nt 22 34 rfl rfl rfl) (Sub.nil _))))))))))))))))))) (CW.cond_t rfl rfl (CW.seq (CW.region (sd rfl (yA rfl rfl (dn ?_)))))))
     refine CW.ret (br (tr (tr ?_)))
     have hB548 : B_s_l3Writes_0 p_l k4 () = .ret false := by simp only [B_s_l3Writes_0, hb52, cL]
     have hL547 : loopM (B_s_l3Writes_0 p_l) (p_l.length - 0) 0 () = .ret false := hI31.symm.trans (loopM.ret hlt40 hB548)
     refine br (tr (rr rfl (.cons rfl .nil) ?_))
     have hM549 : (s_l3Writes p_l) = (false) := by simp only [s_l3Writes, hb52, hL547, cL]
     rw [hM549]
     exact ⟨rfl, (Ex.trans (Below.only (Ex.trans hf38 hE47) hO50 (by omega)) hE528)⟩
  ·refine CW.seq (CW.region (sd rfl (yl_lss rfl rfl rfl (dn (CW.seq (CW.cond_f rfl (lt_f hlt40) (CW.exit (tx ?_))))))))
   refine tx ?_
   have hL553 : loopM (B_s_l3Writes_0 p_l) (p_l.length - 0) 0 () = .done () := hI31.symm.trans (loopM.stop hlt40)
   refine bx (tn (CW.seq (CW.region (sd rfl (yM rfl rfl (sd rfl (yL un27 rfl rfl (sd rfl (yl_leq rfl rfl rfl (sd rfl (yA rfl rfl (SeqR.done ?_))))))))))))
   refine tn (CW.ret (rr rfl (.cons rfl .nil) ?_))
   have hM554 : (s_l3Writes p_l) = (decide ((p_l.length : Int) ≤ 24)) := by simp only [s_l3Writes, hL553, cL]
   rw [hM554]
   exact ⟨rfl, hf38⟩
theorem c_s_l5Rows {A1 : Option Addr} {c1 : Nat} {w : World} (p_l : List DWrite) (h1 : RdS w (Iv 0 w.heap.size) (RF e_Write) 3 A1 p_l.length c1 p_l) (o2 : (okL ok_Write) p_l) : Cal Tryz.prog 34 #[.slice A1 p_l.length c1] w fun v w' => v = .bool ((s_l5Rows p_l)) ∧ Ex w w' := by
 have hol3 := o2.1
 refine Cal.of func34 rfl ntmps34 rfl (CW.seq (CW.region (sd rfl (yA rfl rfl (dn (CW.seq (CW.seq (CW.region ?_))))))))
 refine sd rfl (yM rfl rfl (sd rfl (yL un27 rfl rfl (sd rfl (yM rfl rfl (dn (CW.block (CW.loop (fun m16 L17 w18 => ∃ (k4 : Nat), m16 = p_l.length - k4 ∧ k4 ≤ p_l.length ∧ w.heap.size ≤ w18.heap.size ∧ lkp L17 0 = some (.slice A1 p_l.length c1) ∧ lkp L17 5 = some (.slice A1 p_l.length c1) ∧ lkp L17 6 = some (.int .i64 ((p_l.length : Int))) ∧ lkp L17 7 = some (.int .i64 ((k4 : Int))) ∧ RdS w18 (Iv 0 w.heap.size) (RF e_Write) 3 A1 p_l.length c1 p_l ∧ Ex w w18 ∧ loopM (B_s_l5Rows_0 p_l) (p_l.length - k4) k4 () = loopM (B_s_l5Rows_0 p_l) (p_l.length - 0) 0 ()) (p_l.length - 0) ?_ ?_))))))))
 ·exact ⟨0, rfl, (by omega), Nat.le_refl _, rfl, rfl, rfl, rfl, h1, (Ex.refl w), rfl⟩
 ·rintro m19 L20 w21 ⟨k4, rfl, hk22, hsz24, hl25, hl26, hl27, hl28, hf29, hf30, hI23⟩
  refine CW.sub (Sub.cons hl25 (Sub.cons hl26 (Sub.cons hl27 (Sub.cons hl28 (Sub.nil _))))) ?_
  have hf30z := Ex.size hf30
  have hbg31 := RdS.big hf29
  rcases Nat.lt_or_ge k4 p_l.length with hlt32 | hlt32
  ·refine CW.seq (CW.region (sd rfl (yl_lss rfl rfl rfl (dn (CW.seq (CW.cond_t rfl (lt_t hlt32) (CW.skip (tn ?_))))))))
   refine CW.seq (CW.block (CW.seq (CW.region ?_)))
   obtain ⟨eb33, eo33, _, eA33, _, ebl33, _, eR33, eC33⟩ := RdS.aD hf29 d_Write (i := k4)
   obtain rfl := eR33
   have eC33 : Cells w21 eb33 (eo33 + k4 * 3) [.string (bs ((p_l.getD k4 d_Write).Key)), .string (bs ((p_l.getD k4 d_Write).Val)), .bool ((p_l.getD k4 d_Write).Gone)] := eC33
   refine sd rfl (yl_ixN un27 ty66 rfl rfl rfl eA33 (sd rfl (yl_loadN ty66 rfl rfl eC33 rfl (sd rfl (yB ty66 (cs := [.string (bs (([] : Str))), .string (bs (([] : Str))), .bool (false)]) rfl rfl ?_)))))
   intro b34 w35 hs36 hz37 hB38 hE39
   refine SeqR.u rfl rfl (yl_store (vs := [.string (bs ((p_l.getD k4 d_Write).Key)), .string (bs ((p_l.getD k4 d_Write).Val)), .bool ((p_l.getD k4 d_Write).Gone)]) ty66 rfl rfl rfl rfl rfl rfl hB38 (Nat.le_of_ble_eq_true rfl) ?_)
   intro w40 hB41 hO42
   have hB41 : Box w40 b34 66 [.string (bs ((p_l.getD k4 d_Write).Key)), .string (bs ((p_l.getD k4 d_Write).Val)), .bool ((p_l.getD k4 d_Write).Gone)] := hB41
   have hO42z := hO42.size
   refine dn (CW.seq (CW.region (sd rfl (yl_fieldAddr fd66_2 rfl rfl (sd rfl (yl_load1 ty4 rfl rfl ((hB41.cell 2).trans rfl) (dn (bcase ((p_l.getD k4 d_Write).Gone) (fun hb43 => ?_) (fun hb43 => ?_)))))))))
   ·refine CW.cond_t rfl hb43 (CW.seq (CW.region (sd rfl (yA rfl rfl (dn (CW.ret (br (tr ?_))))))))
    refine tr ?_
    have hB45 : B_s_l5Rows_0 p_l k4 () = .ret false := by simp only [B_s_l5Rows_0, hb43, cL]
    have hL44 : loopM (B_s_l5Rows_0 p_l) (p_l.length - 0) 0 () = .ret false := hI23.symm.trans (loopM.ret hlt32 hB45)
    refine br (tr (rr rfl (.cons rfl .nil) ?_))
    have hM46 : (s_l5Rows p_l) = (false) := by simp only [s_l5Rows, hb43, hL44, cL]
    rw [hM46]
    exact ⟨rfl, (Below.only (Ex.trans hf30 hE39) hO42 (by omega))⟩
   ·refine CW.cond_f rfl hb43 (CW.skip (bn (tn (CW.region (sd rfl (yl_inc rfl rfl rfl (by omega) (sd rfl (yM rfl rfl (dn ?_)))))))))
    have hB49 : B_s_l5Rows_0 p_l k4 () = .cont () := by simp only [B_s_l5Rows_0, hb43, cL]
    exact ⟨p_l.length - (k4 + 1), by omega, k4 + 1, rfl, hlt32, (by omega), rfl, rfl, rfl, rfl, (RdS.only gW (RdS.ex gW hf29 hE39) hO42 (by simp only [Iv]; omega)), (Below.only (Ex.trans hf30 hE39) hO42 (by omega)), (loopM.cont hlt32 hB49).symm.trans hI23⟩
  ·refine CW.seq (CW.region (sd rfl (yl_lss rfl rfl rfl (dn (CW.seq (CW.cond_f rfl (lt_f hlt32) (CW.exit (tx ?_))))))))
   refine tx ?_
   have hL54 : loopM (B_s_l5Rows_0 p_l) (p_l.length - 0) 0 () = .done () := hI23.symm.trans (loopM.stop hlt32)
   refine bx (tn (CW.seq (CW.region (sd rfl (yM rfl rfl (sd rfl (yC en60 rfl (oc rfl oz) (Cal.mono (c_s_l3Writes p_l (RdS.up hf29 gW) o2) ?_))))))))
   rintro v56 w55 ⟨rfl, hE57⟩
   have hE57z := Ex.size hE57
   refine sd rfl (yA rfl rfl (dn (CW.ret (rr rfl (.cons rfl .nil) ?_))))
   have hM58 : (s_l5Rows p_l) = ((s_l3Writes p_l)) := by simp only [s_l5Rows, hL54, cL]
   rw [hM58]
   exact ⟨rfl, (Ex.trans hf30 hE57)⟩
theorem c_s_l24Idx {A1 : Option Addr} {c1 : Nat} {A2 : Option Addr} {c2 : Nat} {w : World} (p_t : DTable) (pn : Str) (h1 : RdS w (Iv 0 w.heap.size) (RF e_Str) 1 A1 p_t.Cols.length c1 p_t.Cols) (h2 : RdS w (Iv 0 w.heap.size) (RF e_Idx) 3 A2 p_t.Idxs.length c2 p_t.Idxs) (o3 : ok_Table p_t) (o4 : okS pn) : Cal Tryz.prog 43 #[.agg #[.string (bs (p_t.Name)), .slice A1 p_t.Cols.length c1, .slice A2 p_t.Idxs.length c2], .string (bs (pn))] w fun v w' => v = .int .i64 ((s_l24Idx p_t pn)) ∧ Ex w w' := by
 have hol5 : p_t.Name.length ≤ 1073741824 := o3.1
 have hol6 := o3.2.1.1
 have hol7 := o3.2.2.1
 have hol8 : pn.length ≤ 1073741824 := o4
 refine Cal.of func43 rfl ntmps43 rfl (CW.seq (CW.region (sd rfl (yl_box rfl rfl rfl ?_))))
 intro b9 w10 hs11 hz12 hB13 hE14
 refine sd rfl (yA rfl rfl (dn (CW.seq (CW.seq (CW.region (sd rfl (yl_fieldAddr fd26_2 rfl rfl (sd rfl (yl_load1 ty24 rfl rfl ((hB13.cell 2).trans rfl) (sd rfl (yL un24 rfl rfl ?_)))))))))))
 refine sd rfl (yM rfl rfl (dn (CW.block (CW.loop (fun m27 L28 w29 => ∃ (k15 : Nat), m27 = p_t.Idxs.length - k15 ∧ k15 ≤ p_t.Idxs.length ∧ w10.heap.size ≤ w29.heap.size ∧ lkp L28 1 = some (.string (bs (pn))) ∧ lkp L28 8 = some (.slice A2 p_t.Idxs.length c2) ∧ lkp L28 9 = some (.int .i64 ((p_t.Idxs.length : Int))) ∧ lkp L28 10 = some (.int .i64 ((k15 : Int))) ∧ RdS w29 (Iv 0 w.heap.size) (RF e_Idx) 3 A2 p_t.Idxs.length c2 p_t.Idxs ∧ Ex w w29 ∧ loopM (B_s_l24Idx_0 p_t pn) (p_t.Idxs.length - k15) k15 () = loopM (B_s_l24Idx_0 p_t pn) (p_t.Idxs.length - 0) 0 ()) (p_t.Idxs.length - 0) ?_ ?_))))
 ·exact ⟨0, rfl, (by omega), Nat.le_refl _, rfl, rfl, rfl, rfl, (RdS.ex gI h2 hE14), (Ex.trans (Ex.refl w) hE14), rfl⟩
 ·rintro m32 L33 w34 ⟨k15, rfl, hk35, hsz37, hl38, hl39, hl40, hl41, hf42, hf43, hI36⟩
  refine CW.sub (Sub.cons hl38 (Sub.cons hl39 (Sub.cons hl40 (Sub.cons hl41 (Sub.nil _))))) ?_
  have hf43z := Ex.size hf43
  have hbg44 := RdS.big hf42
  rcases Nat.lt_or_ge k15 p_t.Idxs.length with hlt45 | hlt45
  ·refine CW.seq (CW.region (sd rfl (yl_lss rfl rfl rfl (dn (CW.seq (CW.cond_t rfl (lt_t hlt45) (CW.skip (tn ?_))))))))
   refine CW.seq (CW.block (CW.seq (CW.region (sd rfl (yM rfl rfl ?_)))))
   obtain ⟨eb46, eo46, _, eA46, _, ebl46, _, eR46, eC46⟩ := RdS.aD hf42 d_Idx (i := k15)
   obtain rfl := eR46
   have eC46 : Cells w34 eb46 (eo46 + k15 * 3) [.string (bs ((p_t.Idxs.getD k15 d_Idx).Name)), .int .i64 ((p_t.Idxs.getD k15 d_Idx).Col), .int .i64 ((p_t.Idxs.getD k15 d_Idx).Stage)] := eC46
   refine sd rfl (yl_ixN un24 ty64 rfl rfl rfl eA46 (sd rfl (yl_loadN ty64 rfl rfl eC46 rfl (sd rfl (yB ty64 (cs := [.string (bs (([] : Str))), .int .i64 (0), .int .i64 (0)]) rfl rfl ?_)))))
   intro b47 w48 hs49 hz50 hB51 hE52
   refine sd rfl (yA rfl rfl (SeqR.u rfl rfl (yl_store (vs := [.string (bs ((p_t.Idxs.getD k15 d_Idx).Name)), .int .i64 ((p_t.Idxs.getD k15 d_Idx).Col), .int .i64 ((p_t.Idxs.getD k15 d_Idx).Stage)]) ty64 rfl rfl rfl rfl rfl rfl hB51 (Nat.le_of_ble_eq_true rfl) ?_)))
   intro w53 hB54 hO55
   have hB54 : Box w53 b47 64 [.string (bs ((p_t.Idxs.getD k15 d_Idx).Name)), .int .i64 ((p_t.Idxs.getD k15 d_Idx).Col), .int .i64 ((p_t.Idxs.getD k15 d_Idx).Stage)] := hB54
   have hO55z := hO55.size
   refine dn (CW.seq (CW.region (sd rfl (yl_fieldAddr fd64_0 rfl rfl (sd rfl (yl_load1 ty9 rfl rfl ((hB54.cell 0).trans rfl) (sd rfl (yM rfl rfl (sd rfl (yl_seql (a := ((p_t.Idxs.getD k15 d_Idx).Name)) (b := pn) rfl rfl rfl (SeqR.done ?_)))))))))))
   refine tn (bcase (((p_t.Idxs.getD k15 d_Idx).Name) == pn) (fun hb56 => ?_) (fun hb56 => ?_))
   ·refine CW.cond_t rfl hb56 (CW.seq (CW.region (sd rfl (yM rfl rfl (sd rfl (yA rfl rfl (dn (CW.ret (br ?_)))))))))
    refine tr (tr ?_)
    have hB58 : B_s_l24Idx_0 p_t pn k15 () = .ret (k15 : Int) := by simp only [B_s_l24Idx_0, hb56, cL]
    have hL57 : loopM (B_s_l24Idx_0 p_t pn) (p_t.Idxs.length - 0) 0 () = .ret (k15 : Int) := hI36.symm.trans (loopM.ret hlt45 hB58)
    refine br (tr (rr rfl (.cons rfl .nil) ?_))
    have hM59 : (s_l24Idx p_t pn) = ((k15 : Int)) := by simp only [s_l24Idx, hb56, hL57, cL]
    rw [hM59]
    exact ⟨rfl, (Below.only (Ex.trans hf43 hE52) hO55 (by omega))⟩
   ·refine CW.cond_f rfl hb56 (CW.skip (bn (tn (CW.region (sd rfl (yl_inc rfl rfl rfl (by omega) (sd rfl (yM rfl rfl (dn ?_)))))))))
    have hB62 : B_s_l24Idx_0 p_t pn k15 () = .cont () := by simp only [B_s_l24Idx_0, hb56, cL]
    exact ⟨p_t.Idxs.length - (k15 + 1), by omega, k15 + 1, rfl, hlt45, (by omega), rfl, rfl, rfl, rfl, (RdS.only gI (RdS.ex gI hf42 hE52) hO55 (by simp only [Iv]; omega)), (Below.only (Ex.trans hf43 hE52) hO55 (by omega)), (loopM.cont hlt45 hB62).symm.trans hI36⟩
  ·refine CW.seq (CW.region (sd rfl (yl_lss rfl rfl rfl (dn (CW.seq (CW.cond_f rfl (lt_f hlt45) (CW.exit (tx ?_))))))))
   refine tx ?_
   have hL67 : loopM (B_s_l24Idx_0 p_t pn) (p_t.Idxs.length - 0) 0 () = .done () := hI36.symm.trans (loopM.stop hlt45)
   refine bx (tn (CW.seq (CW.region (sd rfl (yA rfl rfl (dn (CW.ret (rr rfl (.cons rfl .nil) ?_))))))))
   have hM68 : (s_l24Idx p_t pn) = (-1) := by simp only [s_l24Idx, hL67, cL]
   rw [hM68]
   exact ⟨rfl, hf43⟩
theorem c_s_l25Asked {A1 : Option Addr} {c1 : Nat} {A2 : Option Addr} {c2 : Nat} {A5 : Option Addr} {c5 : Nat} {w : World} (p_t : DTable) (pn : Str) (ps : List DWrite) (h1 : RdS w (Iv 0 w.heap.size) (RF e_Str) 1 A1 p_t.Cols.length c1 p_t.Cols) (h2 : RdS w (Iv 0 w.heap.size) (RF e_Idx) 3 A2 p_t.Idxs.length c2 p_t.Idxs) (h5 : RdS w (Iv 0 w.heap.size) (RF e_Write) 3 A5 ps.length c5 ps) (o3 : ok_Table p_t) (o4 : okS pn) (o6 : (okL ok_Write) ps) : Cal Tryz.prog 24 #[.agg #[.string (bs (p_t.Name)), .slice A1 p_t.Cols.length c1, .slice A2 p_t.Idxs.length c2], .string (bs (pn)), .slice A5 ps.length c5] w fun v w' => v = .bool ((s_l25Asked p_t pn ps)) ∧ Ex w w' := by
 refine Cal.of func24 rfl ntmps24 rfl (CW.seq (CW.region (sd rfl (yl_box rfl rfl rfl ?_))))
 intro b12 w13 hs14 hz15 hB16 hE17
 refine sd rfl (yA rfl rfl (dn (CW.seq (CW.region (sd rfl (yl_loadN ty26 rfl rfl (hB16.cells (n := 3) rfl) rfl ?_))))))
 have q18 := RdS.ex gS h1 hE17
 have q19 := RdS.ex gI h2 hE17
 refine sd rfl (yC en33 rfl (oc rfl oz) (Cal.mono (c_s_GoodTable p_t (RdS.up q18 gS) (RdS.up q19 gI) o3) ?_))
 rintro v21 w20 ⟨rfl, hE22⟩
 refine sd rfl (yM rfl rfl (bcase (s_GoodTable p_t) (fun hb23 => ?_) (fun hb23 => ?_)))
 ·have hb23p := f_s_GoodTable hb23
  refine sy rfl rfl hb23 (yl_loadN ty26 rfl rfl ((Box.ex hB16 hE22).cells (n := 3) rfl) rfl (sy rfl rfl hb23 (yM rfl rfl (sy rfl rfl hb23 (yC en43 rfl (oc rfl (oc rfl oz)) (Cal.mono (c_s_l24Idx p_t pn (RdS.up (RdS.ex gS q18 hE22) gS) (RdS.up (RdS.ex gI q19 hE22) gI) o3 o4) ?_))))))
  rintro v28 w27 ⟨rfl, hE29⟩
  have hrf30 := rf_s_l24Idx p_t pn
  refine sy rfl rfl hb23 (yl_geq rfl rfl rfl (sd rfl (yl_pick_t rfl rfl hb23 rfl (sd rfl (yM rfl rfl (bcase (decide (0 ≤ (s_l24Idx p_t pn))) (fun hb31 => ?_) (fun hb31 => ?_)))))))
  ·have hb31p := dec_t hb31
   refine sy rfl rfl hb31 (yM rfl rfl (sy rfl rfl hb31 (yC en34 rfl (oc rfl oz) (Cal.mono (c_s_l5Rows ps (RdS.up (RdS.ex gW (RdS.ex gW (RdS.ex gW h5 hE17) hE22) hE29) gW) o6) ?_))))
   rintro v36 w35 ⟨rfl, hE37⟩
   refine sd rfl (yl_pick_t rfl rfl hb31 rfl (sd rfl (yA rfl rfl (dn (CW.ret (rr rfl (.cons rfl .nil) ?_))))))
   have hM38 : (s_l25Asked p_t pn ps) = ((s_l5Rows ps)) := by simp only [s_l25Asked, hb23, hb31, cL]
   rw [hM38]
   exact ⟨rfl, (Ex.trans (Ex.trans (Ex.trans (Ex.trans (Ex.refl w) hE17) hE22) hE29) hE37)⟩
  ·have hb31p := dec_f hb31
   refine sz rfl rfl hb31 (sz rfl rfl hb31 (sd rfl (yl_pick_f rfl rfl hb31 rfl (sd rfl (yA rfl rfl (dn (CW.ret (rr rfl (.cons rfl .nil) ?_))))))))
   have hM43 : (s_l25Asked p_t pn ps) = (false) := by simp only [s_l25Asked, hb23, hb31, cL]
   rw [hM43]
   exact ⟨rfl, (Ex.trans (Ex.trans (Ex.trans (Ex.refl w) hE17) hE22) hE29)⟩
 ·refine sz rfl rfl hb23 (sz rfl rfl hb23 (sz rfl rfl hb23 (sz rfl rfl hb23 (sd rfl (yl_pick_f rfl rfl hb23 rfl (sd rfl (yM rfl rfl (sz rfl rfl rfl (sz rfl rfl rfl (sd rfl (yl_pick_f rfl rfl rfl rfl ?_)))))))))))
  refine sd rfl (yA rfl rfl (dn (CW.ret (rr rfl (.cons rfl .nil) ?_))))
  have hM47 : (s_l25Asked p_t pn ps) = (false) := by simp only [s_l25Asked, hb23, cL]
  rw [hM47]
  exact ⟨rfl, (Ex.trans (Ex.trans (Ex.refl w) hE17) hE22)⟩
theorem c_s_l25ReadEntry {A1 : Option Addr} {c1 : Nat} {A2 : Option Addr} {c2 : Nat} {w : World} (p_t : DTable) (pn : Str) (p_key : Str) (h1 : RdS w (Iv 0 w.heap.size) (RF e_Str) 1 A1 p_t.Cols.length c1 p_t.Cols) (h2 : RdS w (Iv 0 w.heap.size) (RF e_Idx) 3 A2 p_t.Idxs.length c2 p_t.Idxs) (o3 : ok_Table p_t) (o4 : okS pn) (o5 : okS p_key) : Cal Tryz.prog 44 #[.agg #[.string (bs (p_t.Name)), .slice A1 p_t.Cols.length c1, .slice A2 p_t.Idxs.length c2], .string (bs (pn)), .string (bs (p_key))] w fun v w' => v = .tuple #[.string (bs ((s_l25ReadEntry p_t pn p_key).1)), .string (bs ((s_l25ReadEntry p_t pn p_key).2.1)), .bool ((s_l25ReadEntry p_t pn p_key).2.2)] ∧ okS ((s_l25ReadEntry p_t pn p_key).1) ∧ okS ((s_l25ReadEntry p_t pn p_key).2.1) ∧ Ex w w' := by
 have hol6 : p_t.Name.length ≤ 1073741824 := o3.1
 have hol7 := o3.2.1.1
 have hol8 := o3.2.2.1
 have hol9 : pn.length ≤ 1073741824 := o4
 have hol10 : p_key.length ≤ 1073741824 := o5
 refine Cal.of func44 rfl ntmps44 rfl (CW.seq (CW.region (sd rfl (yl_box rfl rfl rfl ?_))))
 intro b11 w12 hs13 hz14 hB15 hE16
 refine sd rfl (yA rfl rfl (sd rfl (yA rfl rfl (sd rfl (yA rfl rfl (dn (CW.seq (CW.region (sd rfl (yM rfl rfl (sd rfl (yC en74 rfl (oc rfl (oc rfl oz)) (Cal.mono (c_s_l1Split p_key 47 o5) ?_)))))))))))))
 rintro v20 w17 ⟨A18, c18, lo18, hi18, rfl, h18, ho19, hrn22, hE21⟩
 have hE21z := Ex.size hE21
 have hrf23 := rf_l1Split p_key 47
 refine sd rfl (yA rfl rfl (dn (CW.seq (CW.seq (bcase (decide (((s_l1Split p_key 47).length : Int) = 3)) (fun hb24 => ?_) (fun hb24 => ?_))))))
 ·have hb24p := dec_t hb24
  obtain ⟨eb26, eo26, _, eA26, _, ebl26, _, eR26, eC26⟩ := RdS.aD (OwnL.rd gS h18) d_Str (i := 0)
  obtain rfl := eR26
  have eC26 : Cells w17 eb26 (eo26 + 0 * 1) [.string (bs (((s_l1Split p_key 47).getD 0 d_Str)))] := eC26
  have hol28 : p_t.Name.length ≤ 1073741824 := o3.1
  have hol29 : p_t.Name.length ≤ 1073741824 := o3.1
  have hol30 : pn.length ≤ 1073741824 := o4
  refine CW.drawsI 12 (vgetI ([.slice A18 ((s_l1Split p_key 47).length) c18, .int .i64 (((s_l1Split p_key 47).length : Int)), .bool (!(decide (((s_l1Split p_key 47).length : Int) = 3))), .bool (!(decide (((s_l1Split p_key 47).length : Int) = 3))), .slice A18 ((s_l1Split p_key 47).length) c18, .pointer (some ⟨eb26, eo26 + 0 * 1, none⟩), .string (bs (((s_l1Split p_key 47).getD 0 d_Str))), .pointer (some ⟨b11, 0 + 0, none⟩), .string (bs (p_t.Name)), .string (bs (p_t.Name ++ ([46] : Str))), .string (bs (pn)), .string (bs ((p_t.Name ++ ([46] : Str)) ++ pn))].map DetI)) Tryz.follows rfl rfl rfl rfl rfl rfl (vgetI_stable (stD _)) ⟨?_, ?_, ?_, ?_, ?_, ?_, ?_, ?_, ?_, ?_, ?_, ?_, trivial⟩ ?_
  ·exact oI rfl fun h => yM rfl (h.old 9 _ rfl rfl) kI
  ·exact oI rfl fun h => yL un23 rfl (h.dt 0 12 rfl rfl rfl) kI
  ·exact oI rfl fun h => yl_neq rfl (h.dt 1 13 rfl rfl rfl) rfl kI
  ·exact oI rfl fun h => yM rfl (h.dt 2 14 rfl rfl rfl) kI
  ·exact oW rfl rfl rfl rfl (not_t hb24) fun h => yM rfl (h.old 9 _ rfl rfl) kI
  ·intro L57 w58 hi59
   have hE60 := hi59.ex
   have hE60z := Ex.size hE60
   exact OpR.want rfl rfl (hi59.dt 3 15 rfl rfl rfl) (not_t hb24) (Yl.sameI (yl_ixN un23 ty9 rfl (hi59.dt 4 16 rfl rfl rfl) rfl eA26 kI))
  ·exact oW rfl rfl rfl rfl (not_t hb24) fun h => yl_load1 ty9 rfl (h.dt 5 17 rfl rfl rfl) ((Cells.ex eC26 h.ex) 0 _ rfl) kI
  ·exact oW rfl rfl rfl rfl (not_t hb24) fun h => yl_fieldAddr fd26_0 rfl (h.old 3 _ rfl rfl) kI
  ·exact oW rfl rfl rfl rfl (not_t hb24) fun h => yl_load1 ty9 rfl (h.dt 7 19 rfl rfl rfl) (((Box.ex (Box.ex hB15 hE21) h.ex).cell 0).trans rfl) kI
  ·intro L83 w84 hi85
   have hE86 := hi85.ex
   have hE86z := Ex.size hE86
   have hol89 : p_t.Name.length ≤ 1073741824 := o3.1
   exact OpR.want rfl rfl (hi85.dt 3 15 rfl rfl rfl) (not_t hb24) (Yl.sameI (yl_sadd (a := p_t.Name) (b := ([46] : Str)) rfl (hi85.dt 8 20 rfl rfl rfl) rfl (by first | omega | (simp only [lN, toS_length]; omega)) kI))
  ·exact oW rfl rfl rfl rfl (not_t hb24) fun h => yM rfl (h.old 1 _ rfl rfl) kI
  ·intro L96 w97 hi98
   have hE99 := hi98.ex
   have hE99z := Ex.size hE99
   have hol103 : p_t.Name.length ≤ 1073741824 := o3.1
   have hol104 : pn.length ≤ 1073741824 := o4
   exact OpR.want rfl rfl (hi98.dt 3 15 rfl rfl rfl) (not_t hb24) (Yl.sameI (yl_sadd (a := (p_t.Name ++ ([46] : Str))) (b := pn) rfl (hi98.dt 9 21 rfl rfl rfl) (hi98.dt 10 22 rfl rfl rfl) (by first | omega | (simp only [lN, toS_length]; omega)) kI))
  ·intro fl108 fh109 L105 w106 hp107
   have hE110 := hp107.ex
   have hE110z := Ex.size hE110
   have hx111 := hp107.old 9 _ rfl rfl
   have hx112 := hp107.nt 3 15 rfl rfl rfl
   refine sy rfl hx112 (not_t hb24) (yl_sneq (a := ((s_l1Split p_key 47).getD 0 d_Str)) (b := ((p_t.Name ++ ([46] : Str)) ++ pn)) rfl (hp107.nt 6 18 rfl rfl rfl) (hp107.nt 11 23 rfl rfl rfl) (sd rfl (yl_pick_f rfl hx112 (not_t hb24) rfl (sd rfl (yM rfl rfl (bcase (((s_l1Split p_key 47).getD 0 d_Str) == ((p_t.Name ++ ([46] : Str)) ++ pn)) (fun hb115 => ?_) (fun hb115 => ?_)))))))
   ·refine sy rfl rfl (not_t hb115) (yM rfl hx111 ?_)
    have q117 := OwnL.ex gS h18 hE110
    obtain ⟨eb118, eo118, _, eA118, _, ebl118, _, eR118, eC118⟩ := RdS.aD (OwnL.rd gS q117) d_Str (i := 1)
    obtain rfl := eR118
    have eC118 : Cells w106 eb118 (eo118 + 1 * 1) [.string (bs (((s_l1Split p_key 47).getD 1 d_Str)))] := eC118
    refine sy rfl rfl (not_t hb115) (yl_ixN un23 ty9 rfl rfl rfl eA118 (sy rfl rfl (not_t hb115) (yl_load1 ty9 rfl rfl (eC118 0 _ rfl) (sy rfl rfl (not_t hb115) (yC en75 rfl (oc rfl oz) (Cal.mono (c_s_l25Field ((s_l1Split p_key 47).getD 1 d_Str) (okS_l1Split o5 _ _)) ?_))))))
    rintro v120 w119 ⟨rfl, hE121⟩
    have hE121z := Ex.size hE121
    refine sy rfl rfl (not_t hb115) (yl_not rfl rfl (sd rfl (yl_pick_f rfl rfl (not_t hb115) rfl (sd rfl (yM rfl rfl (bcase (s_l25Field ((s_l1Split p_key 47).getD 1 d_Str)) (fun hb122 => ?_) (fun hb122 => ?_)))))))
    ·refine sy rfl rfl (not_t hb122) (yM rfl hx111 ?_)
     obtain ⟨eb125, eo125, _, eA125, _, ebl125, _, eR125, eC125⟩ := RdS.atD (OwnL.rd gS (OwnL.ex gS q117 hE121)) d_Str (i := 2) (by first | omega | assumption)
     obtain rfl := eR125
     have eC125 : Cells w119 eb125 (eo125 + 2 * 1) [.string (bs (((s_l1Split p_key 47).getD 2 d_Str)))] := eC125
     refine sy rfl rfl (not_t hb122) (yl_ixN un23 ty9 rfl rfl rfl eA125 (sy rfl rfl (not_t hb122) (yl_load1 ty9 rfl rfl (eC125 0 _ rfl) (sy rfl rfl (not_t hb122) (yC en75 rfl (oc rfl oz) (Cal.mono (c_s_l25Field ((s_l1Split p_key 47).getD 2 d_Str) (okS_l1Split o5 _ _)) ?_))))))
     rintro v127 w126 ⟨rfl, hE128⟩
     have hE128z := Ex.size hE128
     refine sy rfl rfl (not_t hb122) (yl_not rfl rfl (sd rfl (yl_pick_f rfl rfl (not_t hb122) rfl (dn (CW.sub (Sub.cons (d := 9) hx111 (Sub.cons (d := 39) rfl (Sub.nil _))) (bcase (s_l25Field ((s_l1Split p_key 47).getD 2 d_Str)) (fun hb129 => ?_) (fun hb129 => ?_)))))))
     ·refine CW.cond_f rfl (not_t hb129) (CW.skip (tn (CW.seq (CW.drawsI 9 (vgetI ([.slice A18 ((s_l1Split p_key 47).length) c18, .pointer (some ⟨eb118, eo118 + 1 * 1, none⟩), .string (bs (((s_l1Split p_key 47).getD 1 d_Str))), .slice A18 ((s_l1Split p_key 47).length) c18, .pointer (some ⟨eb125, eo125 + 2 * 1, none⟩), .string (bs (((s_l1Split p_key 47).getD 2 d_Str))), .string (bs (((s_l1Split p_key 47).getD 1 d_Str))), .string (bs (((s_l1Split p_key 47).getD 2 d_Str))), .bool (true)].map DetI)) Tryz.follows rfl rfl rfl rfl rfl rfl (vgetI_stable (stD _)) ⟨?_, ?_, ?_, ?_, ?_, ?_, ?_, ?_, ?_, trivial⟩ ?_))))
      ·exact oI rfl fun h => yM rfl (h.old 9 _ rfl rfl) kI
      ·intro L138 w139 hi140
       have hE141 := hi140.ex
       have hE141z := Ex.size hE141
       exact os rfl ((yl_ixN un23 ty9 rfl (hi140.dt 0 40 rfl rfl rfl) rfl eA118 kI))
      ·exact oI rfl fun h => yl_load1 ty9 rfl (h.dt 1 41 rfl rfl rfl) ((Cells.ex (Cells.ex (Cells.ex eC118 hE121) hE128) h.ex) 0 _ rfl) kI
      ·exact oI rfl fun h => yM rfl (h.old 9 _ rfl rfl) kI
      ·intro L154 w155 hi156
       have hE157 := hi156.ex
       have hE157z := Ex.size hE157
       exact os rfl ((yl_ixN un23 ty9 rfl (hi156.dt 3 43 rfl rfl rfl) rfl eA125 kI))
      ·exact oI rfl fun h => yl_load1 ty9 rfl (h.dt 4 44 rfl rfl rfl) ((Cells.ex (Cells.ex eC125 hE128) h.ex) 0 _ rfl) kI
      ·exact oI rfl fun h => yA rfl (h.dt 2 42 rfl rfl rfl) kI
      ·exact oI rfl fun h => yA rfl (h.dt 5 45 rfl rfl rfl) kI
      ·exact oI rfl fun _ => yA rfl rfl kI
      ·intro fl182 fh183 L179 w180 hp181
       have hE184 := hp181.ex
       have hE184z := Ex.size hE184
       refine dn (CW.sub (Sub.cons (d := 6) (hp181.nt 6 6 rfl rfl rfl) (Sub.cons (d := 7) (hp181.nt 7 7 rfl rfl rfl) (Sub.cons (d := 8) (hp181.nt 8 8 rfl rfl rfl) (Sub.nil _)))) (CW.ret (rr rfl (.cons rfl (.cons rfl (.cons rfl .nil))) ?_)))
       have hM188 : (s_l25ReadEntry p_t pn p_key) = ((((s_l1Split p_key 47).getD 1 d_Str), ((s_l1Split p_key 47).getD 2 d_Str), true)) := by simp only [s_l25ReadEntry, hb24, hb115, hb122, hb129, cL]
       rw [hM188]
       exact ⟨rfl, (okS_l1Split o5 _ _), (okS_l1Split o5 _ _), (Ex.trans (Ex.trans (Ex.trans (Ex.trans (Ex.trans (Ex.trans (Ex.refl w) hE16) hE21) hE110) hE121) hE128) hE184)⟩
     ·refine CW.cond_t rfl (not_f hb129) (CW.seq (CW.region (sd rfl (yA rfl rfl (sd rfl (yA rfl rfl (sd rfl (yA rfl rfl (dn (CW.ret ?_))))))))))
      refine tr (rr rfl (.cons rfl (.cons rfl (.cons rfl .nil))) ?_)
      have hM195 : (s_l25ReadEntry p_t pn p_key) = ((([] : Str), ([] : Str), false)) := by simp only [s_l25ReadEntry, hb24, hb115, hb122, hb129, cL]
      rw [hM195]
      exact ⟨rfl, (okS.lit rfl), (okS.lit rfl), (Ex.trans (Ex.trans (Ex.trans (Ex.trans (Ex.trans (Ex.refl w) hE16) hE21) hE110) hE121) hE128)⟩
    ·refine sz rfl rfl (not_f hb122) (sz rfl rfl (not_f hb122) (sz rfl rfl (not_f hb122) (sz rfl rfl (not_f hb122) (sz rfl rfl (not_f hb122) (sd rfl (yl_pick_t rfl rfl (not_f hb122) rfl (dn (CW.sub (Sub.cons (d := 9) hx111 (Sub.cons (d := 39) rfl (Sub.nil _))) ?_))))))))
     refine CW.cond_t rfl rfl (CW.seq (CW.region (sd rfl (yA rfl rfl (sd rfl (yA rfl rfl (sd rfl (yA rfl rfl (dn (CW.ret ?_))))))))))
     refine tr (rr rfl (.cons rfl (.cons rfl (.cons rfl .nil))) ?_)
     have hM201 : (s_l25ReadEntry p_t pn p_key) = ((([] : Str), ([] : Str), false)) := by simp only [s_l25ReadEntry, hb24, hb115, hb122, cL]
     rw [hM201]
     exact ⟨rfl, (okS.lit rfl), (okS.lit rfl), (Ex.trans (Ex.trans (Ex.trans (Ex.trans (Ex.refl w) hE16) hE21) hE110) hE121)⟩
   ·refine sz rfl rfl (not_f hb115) (sz rfl rfl (not_f hb115) (sz rfl rfl (not_f hb115) (sz rfl rfl (not_f hb115) (sz rfl rfl (not_f hb115) (sd rfl (yl_pick_t rfl rfl (not_f hb115) rfl (sd rfl (yM rfl rfl (sz rfl rfl rfl (sz rfl rfl rfl ?_))))))))))
    refine sz rfl rfl rfl (sz rfl rfl rfl (sz rfl rfl rfl (sd rfl (yl_pick_t rfl rfl rfl rfl (dn (CW.sub (Sub.cons (d := 9) hx111 (Sub.cons (d := 39) rfl (Sub.nil _))) (CW.cond_t rfl rfl (CW.seq ?_))))))))
    refine CW.region (sd rfl (yA rfl rfl (sd rfl (yA rfl rfl (sd rfl (yA rfl rfl (dn (CW.ret (tr (rr rfl (.cons rfl (.cons rfl (.cons rfl .nil))) ?_))))))))))
    have hM206 : (s_l25ReadEntry p_t pn p_key) = ((([] : Str), ([] : Str), false)) := by simp only [s_l25ReadEntry, hb24, hb115, cL]
    rw [hM206]
    exact ⟨rfl, (okS.lit rfl), (okS.lit rfl), (Ex.trans (Ex.trans (Ex.trans (Ex.refl w) hE16) hE21) hE110)⟩
 ·have hb24p := dec_f hb24
  refine CW.drawsI 12 (vgetI ([.slice A18 ((s_l1Split p_key 47).length) c18, .int .i64 (((s_l1Split p_key 47).length : Int)), .bool (!(decide (((s_l1Split p_key 47).length : Int) = 3))), .bool (!(decide (((s_l1Split p_key 47).length : Int) = 3))), undef, undef, undef, undef, undef, undef, undef, undef].map DetI)) Tryz.follows rfl rfl rfl rfl rfl rfl (vgetI_stable (stD _)) ⟨?_, ?_, ?_, ?_, ?_, ?_, ?_, ?_, ?_, ?_, ?_, ?_, trivial⟩ ?_
  ·exact oI rfl fun h => yM rfl (h.old 9 _ rfl rfl) kI
  ·exact oI rfl fun h => yL un23 rfl (h.dt 0 12 rfl rfl rfl) kI
  ·exact oI rfl fun h => yl_neq rfl (h.dt 1 13 rfl rfl rfl) rfl kI
  ·exact oI rfl fun h => yM rfl (h.dt 2 14 rfl rfl rfl) kI
  ·exact oS rfl rfl rfl rfl rfl (not_f hb24)
  ·exact oS rfl rfl rfl rfl rfl (not_f hb24)
  ·exact oS rfl rfl rfl rfl rfl (not_f hb24)
  ·exact oS rfl rfl rfl rfl rfl (not_f hb24)
  ·exact oS rfl rfl rfl rfl rfl (not_f hb24)
  ·exact oS rfl rfl rfl rfl rfl (not_f hb24)
  ·exact oS rfl rfl rfl rfl rfl (not_f hb24)
  ·exact oS rfl rfl rfl rfl rfl (not_f hb24)
  ·intro fl273 fh274 L270 w271 hp272
   have hE275 := hp272.ex
   have hE275z := Ex.size hE275
   have hx277 := hp272.nt 3 15 rfl rfl rfl
   refine sz rfl hx277 (not_f hb24) (sd rfl (yl_pick_t rfl hx277 (not_f hb24) rfl (sd rfl (yM rfl rfl (sz rfl rfl rfl (sz rfl rfl rfl (sz rfl rfl rfl (sz rfl rfl rfl (sz rfl rfl rfl (sd rfl (yl_pick_t rfl rfl rfl rfl ?_)))))))))))
   refine sd rfl (yM rfl rfl (sz rfl rfl rfl (sz rfl rfl rfl (sz rfl rfl rfl (sz rfl rfl rfl (sz rfl rfl rfl (sd rfl (yl_pick_t rfl rfl rfl rfl (dn ?_)))))))))
   refine CW.sub (Sub.cons (d := 9) (hp272.old 9 _ rfl rfl) (Sub.cons (d := 39) rfl (Sub.nil _))) (CW.cond_t rfl rfl (CW.seq (CW.region (sd rfl (yA rfl rfl (sd rfl (yA rfl rfl (sd rfl (yA rfl rfl (dn ?_))))))))))
   refine CW.ret (tr (rr rfl (.cons rfl (.cons rfl (.cons rfl .nil))) ?_))
   have hM280 : (s_l25ReadEntry p_t pn p_key) = ((([] : Str), ([] : Str), false)) := by simp only [s_l25ReadEntry, hb24, cL]
   rw [hM280]
   exact ⟨rfl, (okS.lit rfl), (okS.lit rfl), (Ex.trans (Ex.trans (Ex.trans (Ex.refl w) hE16) hE21) hE275)⟩
theorem c_s_l25Entries {A1 : Option Addr} {c1 : Nat} {A2 : Option Addr} {c2 : Nat} {A5 : Option Addr} {c5 : Nat} {w : World} (p_t : DTable) (pn : Str) (ps : List DWrite) (h1 : RdS w (Iv 0 w.heap.size) (RF e_Str) 1 A1 p_t.Cols.length c1 p_t.Cols) (h2 : RdS w (Iv 0 w.heap.size) (RF e_Idx) 3 A2 p_t.Idxs.length c2 p_t.Idxs) (h5 : RdS w (Iv 0 w.heap.size) (RF e_Write) 3 A5 ps.length c5 ps) (o3 : ok_Table p_t) (o4 : okS pn) (o6 : (okL ok_Write) ps) : Cal Tryz.prog 25 #[.agg #[.string (bs (p_t.Name)), .slice A1 p_t.Cols.length c1, .slice A2 p_t.Idxs.length c2], .string (bs (pn)), .slice A5 ps.length c5] w fun v w' => ∃ A_1 c_1 lo_1 hi_1, v = .slice A_1 ((s_l25Entries p_t pn ps).length) c_1 ∧ OwnL w' lo_1 hi_1 9 1 (RF e_Str) A_1 ((s_l25Entries p_t pn ps).length) c_1 (s_l25Entries p_t pn ps) ∧ (okL okS) (s_l25Entries p_t pn ps) ∧ (w.heap.size ≤ lo_1 ∧ lo_1 ≤ hi_1 ∧ hi_1 ≤ w'.heap.size) ∧ Ex w w' := by
 have hol7 : p_t.Name.length ≤ 1073741824 := o3.1
 have hol8 := o3.2.1.1
 have hol9 := o3.2.2.1
 have hol10 : pn.length ≤ 1073741824 := o4
 have hol11 := o6.1
 refine Cal.of func25 rfl ntmps25 rfl (CW.seq (CW.region (sd rfl (yl_box rfl rfl rfl ?_))))
 intro b12 w13 hs14 hz15 hB16 hE17
 refine sd rfl (yA rfl rfl (dn (CW.seq (CW.region (sd rfl (yA rfl rfl (dn (CW.seq ?_))))))))
 refine CW.seq (CW.region (sd rfl (yM rfl rfl (sd rfl (yL un27 rfl rfl (sd rfl (yM rfl rfl (dn (CW.block (CW.loop (fun m84 L85 w86 => ∃ (k18 : Nat) (x80 : List Str) (A81 : Option Addr) (c82 : Nat) (u83 : Nat), m84 = ps.length - k18 ∧ k18 ≤ ps.length ∧ w13.heap.size ≤ w86.heap.size ∧ lkp L85 1 = some (.string (bs (pn))) ∧ lkp L85 3 = some (.pointer (some ⟨b12, 0, none⟩)) ∧ lkp L85 7 = some (.slice A81 x80.length c82) ∧ lkp L85 13 = some (.slice A5 ps.length c5) ∧ lkp L85 14 = some (.int .i64 ((ps.length : Int))) ∧ lkp L85 15 = some (.int .i64 ((k18 : Int))) ∧ Box w86 b12 26 [.string (bs (p_t.Name)), .slice A1 p_t.Cols.length c1, .slice A2 p_t.Idxs.length c2] ∧ RdS w86 (Iv 0 w.heap.size) (RF e_Str) 1 A1 p_t.Cols.length c1 p_t.Cols ∧ RdS w86 (Iv 0 w.heap.size) (RF e_Idx) 3 A2 p_t.Idxs.length c2 p_t.Idxs ∧ OwnL w86 w13.heap.size u83 9 1 (RF e_Str) A81 x80.length c82 x80 ∧ RdS w86 (Iv 0 w.heap.size) (RF e_Write) 3 A5 ps.length c5 ps ∧ Ex w w86 ∧ (w13.heap.size ≤ u83 ∧ u83 ≤ w86.heap.size) ∧ x80.length ≤ 0 + 1 * (k18 - 0) ∧ (∀ y ∈ x80, okS y) ∧ loopM (B_s_l25Entries_0 p_t pn ps) (ps.length - k18) k18 (x80) = loopM (B_s_l25Entries_0 p_t pn ps) (ps.length - 0) 0 (([] : List Str))) (ps.length - 0) ?_ ?_))))))))))
 ·exact ⟨0, ([] : List Str), none, 0, w13.heap.size, rfl, (by omega), Nat.le_refl _, rfl, rfl, rfl, rfl, rfl, rfl, hB16, (RdS.ex gS h1 hE17), (RdS.ex gI h2 hE17), (OwnL.nil w13 w13.heap.size w13.heap.size 9 1 (RF e_Str)), (RdS.ex gW h5 hE17), (Ex.trans (Ex.refl w) hE17), (by omega), (by first | (simp; done) | (first | omega | (simp only [lN, toS_length]; omega))), okE.nil, rfl⟩
 ·rintro m91 L92 w93 ⟨k18, x80, A81, c82, u83, rfl, hk94, hsz96, hl97, hl98, hl99, hl100, hl101, hl102, hf103, hf104, hf105, hf106, hf107, hf108, hu109, hln110, hok111, hI95⟩
  refine CW.sub (Sub.cons hl97 (Sub.cons hl98 (Sub.cons hl99 (Sub.cons hl100 (Sub.cons hl101 (Sub.cons hl102 (Sub.nil _))))))) ?_
  have hf103z := Box.lt hf103
  have hf108z := Ex.size hf108
  have hbg112 := RdS.big hf107
  rcases Nat.lt_or_ge k18 ps.length with hlt113 | hlt113
  ·refine CW.seq (CW.region (sd rfl (yl_lss rfl rfl rfl (dn (CW.seq (CW.cond_t rfl (lt_t hlt113) (CW.skip (tn ?_))))))))
   refine CW.seq (CW.block (CW.seq (CW.region ?_)))
   obtain ⟨eb114, eo114, _, eA114, _, ebl114, _, eR114, eC114⟩ := RdS.aD hf107 d_Write (i := k18)
   obtain rfl := eR114
   have eC114 : Cells w93 eb114 (eo114 + k18 * 3) [.string (bs ((ps.getD k18 d_Write).Key)), .string (bs ((ps.getD k18 d_Write).Val)), .bool ((ps.getD k18 d_Write).Gone)] := eC114
   refine sd rfl (yl_ixN un27 ty66 rfl rfl rfl eA114 (sd rfl (yl_loadN ty66 rfl rfl eC114 rfl (sd rfl (yB ty66 (cs := [.string (bs (([] : Str))), .string (bs (([] : Str))), .bool (false)]) rfl rfl ?_)))))
   intro b115 w116 hs117 hz118 hB119 hE120
   refine SeqR.u rfl rfl (yl_store (vs := [.string (bs ((ps.getD k18 d_Write).Key)), .string (bs ((ps.getD k18 d_Write).Val)), .bool ((ps.getD k18 d_Write).Gone)]) ty66 rfl rfl rfl rfl rfl rfl hB119 (Nat.le_of_ble_eq_true rfl) ?_)
   intro w121 hB122 hO123
   have hB122 : Box w121 b115 66 [.string (bs ((ps.getD k18 d_Write).Key)), .string (bs ((ps.getD k18 d_Write).Val)), .bool ((ps.getD k18 d_Write).Gone)] := hB122
   have hO123z := hO123.size
   refine dn (CW.seq (CW.region ?_))
   have q125 := Box.only (Box.ex hf103 hE120) hO123 (by omega)
   refine sd rfl (yl_loadN ty26 rfl rfl (q125.cells (n := 3) rfl) rfl (sd rfl (yM rfl rfl (sd rfl (yl_fieldAddr fd66_0 rfl rfl (sd rfl (yl_load1 ty9 rfl rfl ((hB122.cell 0).trans rfl) ?_)))))))
   have q127 := RdS.only gS (RdS.ex gS hf104 hE120) hO123 (by simp only [Iv]; omega)
   have q129 := RdS.only gI (RdS.ex gI hf105 hE120) hO123 (by simp only [Iv]; omega)
   refine sd rfl (yC en44 rfl (oc rfl (oc rfl (oc rfl oz))) (Cal.mono (c_s_l25ReadEntry p_t pn ((ps.getD k18 d_Write).Key) (RdS.up q127 gS) (RdS.up q129 gI) o3 o4 ((okL.getD o6 ok_d_Write _).1)) ?_))
   rintro v133 w130 ⟨rfl, ho131, ho132, hE134⟩
   have hE134z := Ex.size hE134
   refine sd rfl (yM rfl rfl (sd rfl (yl_extract rfl rfl rfl (sd rfl (yl_extract rfl rfl rfl (sd rfl (yl_extract rfl rfl rfl (sd rfl (yA rfl rfl (sd rfl (yA rfl rfl (sd rfl (yA rfl rfl (dn ?_))))))))))))))
   refine CW.seq (CW.region (sd rfl (yM rfl rfl (dn (bcase ((s_l25ReadEntry p_t pn ((ps.getD k18 d_Write).Key)).2.2) (fun hb135 => ?_) (fun hb135 => ?_))))))
   ·refine CW.cond_t rfl hb135 (CW.region (sd rfl (yM rfl rfl (sd rfl (yl_fieldAddr fd66_0 rfl rfl (sd rfl (yl_load1 ty9 rfl rfl (((Box.ex hB122 hE134).cell 0).trans rfl) (sd rfl (yl_buildSlice (cs := [.string (bs ((ps.getD k18 d_Write).Key))]) un23 ty9 (by decide) rfl (oc rfl oz) (by kernel_rfl) ?_)))))))))
    intro b137 w138 hs139 hz140 hB141 hE142
    have hO143 : OwnL w138 b137 (b137 + 1) 9 1 (RF e_Str) (some ⟨b137, 0, none⟩) 1 1 ([(ps.getD k18 d_Write).Key] : List Str) := OwnL.of_box (S := fun _ => False) hB141 (Nat.le_refl _) (Nat.lt_succ_self _) (EncL.cons (c := [.string (bs ((ps.getD k18 d_Write).Key))]) rfl rfl EncL.nil) (Nat.le_of_ble_eq_true rfl) (fun h => h) (fun _ h => False.elim h)
    refine sd rfl (yl_appendL (S := (fun _ => False)) (lo := w13.heap.size) (hi := u83) (xs := x80) (ys := ([(ps.getD k18 d_Write).Key] : List Str)) gS un23 ty9 rfl (Nat.le_of_ble_eq_true rfl) rfl rfl rfl (OwnL.ex gS (OwnL.ex gS (OwnL.only gS (OwnL.ex gS hf106 hE120) hO123 (by omega)) hE134) hE142) (EncL.cons (c := [.string (bs ((ps.getD k18 d_Write).Key))]) rfl rfl EncL.nil) (Or.inr ⟨_, _, rfl, rfl, hB141.cells (o := 0) (n := 1) rfl⟩) rfl (by first | omega | (simp only [lN, toS_length]; omega)) (by first | omega | (simp only [lN, toS_length]; omega)) (by omega) (by omega) (fun _ h _ => False.elim h) (by omega) ?_)
    intro A148 c149 w150 row151 hO152 hG153 hrg154
    have hG153z := hG153.size
    refine sd rfl (yA rfl rfl (SeqR.done (bn (tn (CW.region (sd rfl (yl_inc rfl rfl rfl (by omega) (sd rfl (yM rfl rfl (dn ?_))))))))))
    have hB155 : B_s_l25Entries_0 p_t pn ps k18 (x80) = .cont ((x80 ++ ([(ps.getD k18 d_Write).Key] : List Str))) := by simp only [B_s_l25Entries_0, hb135, cL]
    exact ⟨ps.length - (k18 + 1), by omega, k18 + 1, (x80 ++ ([(ps.getD k18 d_Write).Key] : List Str)), A148, c149, w150.heap.size, rfl, hlt113, (by omega), rfl, rfl, rfl, rfl, rfl, rfl, (Box.grown (Box.ex (Box.ex q125 hE134) hE142) hG153 (fun k hk => by have := hrg154 k hk; omega)), (RdS.grown gS (RdS.ex gS (RdS.ex gS q127 hE134) hE142) hG153 (fun k hk => by have := hrg154 k hk; simp only [Iv]; omega)), (RdS.grown gI (RdS.ex gI (RdS.ex gI q129 hE134) hE142) hG153 (fun k hk => by have := hrg154 k hk; simp only [Iv]; omega)), hO152, (RdS.grown gW (RdS.ex gW (RdS.ex gW (RdS.only gW (RdS.ex gW hf107 hE120) hO123 (by simp only [Iv]; omega)) hE134) hE142) hG153 (fun k hk => by have := hrg154 k hk; simp only [Iv]; omega)), (Below.grown (Ex.trans (Ex.trans (Below.only (Ex.trans hf108 hE120) hO123 (by omega)) hE134) hE142) hG153 (by omega) (fun k hk => by have := hrg154 k hk; omega)), (by omega), (by first | omega | (simp only [lN, toS_length]; omega)), (okE.append hok111 ((okL.mk (Nat.le_of_ble_eq_true rfl) (okE.cons (okL.getD o6 ok_d_Write _).1 okE.nil))).2), (loopM.cont hlt113 hB155).symm.trans hI95⟩
   ·refine CW.cond_f rfl hb135 (CW.skip (bn (tn (CW.region (sd rfl (yl_inc rfl rfl rfl (by omega) (sd rfl (yM rfl rfl (dn ?_)))))))))
    have hB175 : B_s_l25Entries_0 p_t pn ps k18 (x80) = .cont (x80) := by simp only [B_s_l25Entries_0, hb135, cL]
    exact ⟨ps.length - (k18 + 1), by omega, k18 + 1, x80, A81, c82, u83, rfl, hlt113, (by omega), rfl, rfl, rfl, rfl, rfl, rfl, (Box.ex q125 hE134), (RdS.ex gS q127 hE134), (RdS.ex gI q129 hE134), (OwnL.ex gS (OwnL.only gS (OwnL.ex gS hf106 hE120) hO123 (by omega)) hE134), (RdS.ex gW (RdS.only gW (RdS.ex gW hf107 hE120) hO123 (by simp only [Iv]; omega)) hE134), (Ex.trans (Below.only (Ex.trans hf108 hE120) hO123 (by omega)) hE134), (by omega), (by first | omega | (simp only [lN, toS_length]; omega)), hok111, (loopM.cont hlt113 hB175).symm.trans hI95⟩
  ·refine CW.seq (CW.region (sd rfl (yl_lss rfl rfl rfl (dn (CW.seq (CW.cond_f rfl (lt_f hlt113) (CW.exit (tx ?_))))))))
   refine tx ?_
   have hL188 : loopM (B_s_l25Entries_0 p_t pn ps) (ps.length - 0) 0 (([] : List Str)) = .done (x80) := hI95.symm.trans (loopM.stop hlt113)
   refine bx (tn (CW.seq (CW.region (sd rfl (yM rfl rfl (sd rfl (yA rfl rfl (dn (CW.ret ?_)))))))))
   refine rr rfl (.cons rfl .nil) ?_
   have hM189 : (s_l25Entries p_t pn ps) = (x80) := by simp only [s_l25Entries, hL188, cL]
   rw [hM189]
   exact ⟨A81, c82, w13.heap.size, u83, rfl, hf106, (okL.mk (xs := x80) (by first | omega | (simp only [lN, toS_length]; omega)) hok111), (by omega), hf108⟩
theorem c_s_EntriesIn {A1 : Option Addr} {c1 : Nat} {A2 : Option Addr} {c2 : Nat} {A5 : Option Addr} {c5 : Nat} {w : World} (p_t : DTable) (pn : Str) (ps : List DWrite) (h1 : RdS w (Iv 0 w.heap.size) (RF e_Str) 1 A1 p_t.Cols.length c1 p_t.Cols) (h2 : RdS w (Iv 0 w.heap.size) (RF e_Idx) 3 A2 p_t.Idxs.length c2 p_t.Idxs) (h5 : RdS w (Iv 0 w.heap.size) (RF e_Write) 3 A5 ps.length c5 ps) (o3 : ok_Table p_t) (o4 : okS pn) (o6 : (okL ok_Write) ps) : Cal Tryz.prog 6 #[.agg #[.string (bs (p_t.Name)), .slice A1 p_t.Cols.length c1, .slice A2 p_t.Idxs.length c2], .string (bs (pn)), .slice A5 ps.length c5] w fun v w' => ∃ A_1 c_1 lo_1 hi_1, v = .tuple #[.slice A_1 (((s_EntriesIn p_t pn ps).1).length) c_1, .bool ((s_EntriesIn p_t pn ps).2)] ∧ OwnL w' lo_1 hi_1 9 1 (RF e_Str) A_1 (((s_EntriesIn p_t pn ps).1).length) c_1 ((s_EntriesIn p_t pn ps).1) ∧ (okL okS) ((s_EntriesIn p_t pn ps).1) ∧ (w.heap.size ≤ lo_1 ∧ lo_1 ≤ hi_1 ∧ hi_1 ≤ w'.heap.size) ∧ Ex w w' := by
 have hol7 : p_t.Name.length ≤ 1073741824 := o3.1
 have hol8 := o3.2.1.1
 have hol9 := o3.2.2.1
 have hol10 : pn.length ≤ 1073741824 := o4
 have hol11 := o6.1
 refine Cal.of func6 rfl ntmps6 rfl (CW.seq (CW.region (sd rfl (yl_box rfl rfl rfl ?_))))
 intro b12 w13 hs14 hz15 hB16 hE17
 refine sd rfl (yA rfl rfl (sd rfl (yA rfl rfl (dn (CW.seq (CW.seq (CW.region (sd rfl (yl_loadN ty26 rfl rfl (hB16.cells (n := 3) rfl) rfl (sd rfl (yM rfl rfl ?_)))))))))))
 refine sd rfl (yM rfl rfl ?_)
 have q18 := RdS.ex gS h1 hE17
 have q19 := RdS.ex gI h2 hE17
 have q20 := RdS.ex gW h5 hE17
 refine sd rfl (yC en24 rfl (oc rfl (oc rfl (oc rfl oz))) (Cal.mono (c_s_l25Asked p_t pn ps (RdS.up q18 gS) (RdS.up q19 gI) (RdS.up q20 gW) o3 o4 o6) ?_))
 rintro v22 w21 ⟨rfl, hE23⟩
 have hE23z := Ex.size hE23
 refine sd rfl (yl_not rfl rfl (dn (bcase (s_l25Asked p_t pn ps) (fun hb24 => ?_) (fun hb24 => ?_))))
 ·refine CW.cond_f rfl (not_t hb24) (CW.skip (tn (CW.seq (CW.region (sd rfl (yl_loadN ty26 rfl rfl ((Box.ex hB16 hE23).cells (n := 3) rfl) rfl (sd rfl (yM rfl rfl (sd rfl (yM rfl rfl (sd rfl (yC en25 rfl (oc rfl (oc rfl (oc rfl oz))) (Cal.mono (c_s_l25Entries p_t pn ps (RdS.up (RdS.ex gS q18 hE23) gS) (RdS.up (RdS.ex gI q19 hE23) gI) (RdS.up (RdS.ex gW q20 hE23) gW) o3 o4 o6) ?_)))))))))))))
  rintro v32 w29 ⟨A30, c30, lo30, hi30, rfl, h30, ho31, hrn34, hE33⟩
  have hE33z := Ex.size hE33
  refine sd rfl (yA rfl rfl (sd rfl (yA rfl rfl (dn (CW.ret (rr rfl (.cons rfl (.cons rfl .nil)) ?_))))))
  have hM35 : (s_EntriesIn p_t pn ps) = (((s_l25Entries p_t pn ps), true)) := by simp only [s_EntriesIn, hb24, cL]
  rw [hM35]
  exact ⟨A30, c30, lo30, hi30, rfl, h30, ho31, (by omega), (Ex.trans (Ex.trans (Ex.trans (Ex.refl w) hE17) hE23) hE33)⟩
 ·refine CW.cond_t rfl (not_f hb24) (CW.seq (CW.region (sd rfl (yA rfl rfl (sd rfl (yA rfl rfl (dn (CW.ret (tr ?_)))))))))
  refine rr rfl (.cons rfl (.cons rfl .nil)) ?_
  have hM39 : (s_EntriesIn p_t pn ps) = ((([] : List Str), false)) := by simp only [s_EntriesIn, hb24, cL]
  rw [hM39]
  exact ⟨none, 0, w21.heap.size, w21.heap.size, rfl, (OwnL.nil _ _ _ _ _ _), (okL.nil _), (by omega), (Ex.trans (Ex.trans (Ex.refl w) hE17) hE23)⟩
theorem c_g_slices_IndexFunc_string {A1 : Option Addr} {c1 : Nat} {g3 : Nat} {cp4 : List Value} {w : World} (p_s : List Str) (p_f : Str → Bool) (h1 : RdS w (Iv 0 w.heap.size) (RF e_Str) 1 A1 p_s.length c1 p_s) (hen5 : Go.X.Enters Tryz.prog g3) (hfn6 : ∀ (w1 : World) (y0 : Str), Ex w w1 → y0 ∈ p_s → okS y0 → Cal Tryz.prog g3 (([.string (bs (y0))] : List Value) ++ cp4).toArray w1 fun v w2 => v = .bool (p_f y0) ∧ Ex w1 w2) (o2 : (okL okS) p_s) : Cal Tryz.prog 98 #[.slice A1 p_s.length c1, .func (.func g3) #[] cp4.toArray] w fun v w' => v = .int .i64 ((g_slices_IndexFunc_string p_s p_f)) ∧ Ex w w' := by
 have hol7 := o2.1
 refine Cal.of func98 rfl ntmps98 rfl (CW.seq (CW.region (sd rfl (yA rfl rfl (dn (CW.seq (CW.seq (CW.region ?_))))))))
 refine sd rfl (yM rfl rfl (sd rfl (yL un23 rfl rfl (sd rfl (yM rfl rfl (dn (CW.block (CW.loop (fun m9 L10 w11 => ∃ (k8 : Nat), m9 = p_s.length - k8 ∧ k8 ≤ p_s.length ∧ w.heap.size ≤ w11.heap.size ∧ lkp L10 0 = some (.slice A1 p_s.length c1) ∧ lkp L10 1 = some (.func (.func g3) #[] cp4.toArray) ∧ lkp L10 7 = some (.int .i64 ((p_s.length : Int))) ∧ lkp L10 8 = some (.int .i64 ((k8 : Int))) ∧ RdS w11 (Iv 0 w.heap.size) (RF e_Str) 1 A1 p_s.length c1 p_s ∧ Ex w w11 ∧ loopM (B_g_slices_IndexFunc_string_0 p_s p_f) (p_s.length - k8) k8 () = loopM (B_g_slices_IndexFunc_string_0 p_s p_f) (p_s.length - 0) 0 ()) (p_s.length - 0) ?_ ?_))))))))
 ·exact ⟨0, rfl, (by omega), Nat.le_refl _, rfl, rfl, rfl, rfl, h1, (Ex.refl w), rfl⟩
 ·rintro m12 L13 w14 ⟨k8, rfl, hk15, hsz17, hl18, hl19, hl20, hl21, hf22, hf23, hI16⟩
  refine CW.sub (Sub.cons hl18 (Sub.cons hl19 (Sub.cons hl20 (Sub.cons hl21 (Sub.nil _))))) ?_
  have hf23z := Ex.size hf23
  have hbg24 := RdS.big hf22
  rcases Nat.lt_or_ge k8 p_s.length with hlt25 | hlt25
  ·refine CW.seq (CW.region (sd rfl (yl_lss rfl rfl rfl (dn (CW.seq (CW.cond_t rfl (lt_t hlt25) (CW.skip (tn ?_))))))))
   refine CW.seq (CW.block (CW.seq (CW.region (sd rfl (yM rfl rfl (sd rfl (yA rfl rfl (dn (CW.seq ?_)))))))))
   refine CW.region (sd rfl (yM rfl rfl (sd rfl (yM rfl rfl (sd rfl (yM rfl rfl ?_))))))
   obtain ⟨eb26, eo26, _, eA26, _, ebl26, _, eR26, eC26⟩ := RdS.aD hf22 d_Str (i := k8)
   obtain rfl := eR26
   have eC26 : Cells w14 eb26 (eo26 + k8 * 1) [.string (bs ((p_s.getD k8 d_Str)))] := eC26
   refine sd rfl (yl_ixN un23 ty9 rfl rfl rfl eA26 (sd rfl (yl_load1 ty9 rfl rfl (eC26 0 _ rfl) (sd rfl (yl_callv hen5 rfl rfl (oc rfl oz) (Cal.mono (hfn6 w14 (p_s.getD k8 d_Str) hf23 (getD_mem (by omega)) (okL.getD o2 ok_d_Str _)) ?_))))))
   rintro v28 w27 ⟨rfl, hE29⟩
   have hE29z := Ex.size hE29
   refine dn (bcase (p_f (p_s.getD k8 d_Str)) (fun hb30 => ?_) (fun hb30 => ?_))
   ·refine CW.cond_t rfl hb30 (CW.seq (CW.region (sd rfl (yM rfl rfl (sd rfl (yA rfl rfl (dn (CW.ret (br ?_)))))))))
    refine tr (tr ?_)
    have hB32 : B_g_slices_IndexFunc_string_0 p_s p_f k8 () = .ret (k8 : Int) := by simp only [B_g_slices_IndexFunc_string_0, hb30, cL]
    have hL31 : loopM (B_g_slices_IndexFunc_string_0 p_s p_f) (p_s.length - 0) 0 () = .ret (k8 : Int) := hI16.symm.trans (loopM.ret hlt25 hB32)
    refine br (tr (rr rfl (.cons rfl .nil) ?_))
    have hM33 : (g_slices_IndexFunc_string p_s p_f) = ((k8 : Int)) := by simp only [g_slices_IndexFunc_string, hb30, hL31, cL]
    rw [hM33]
    exact ⟨rfl, (Ex.trans hf23 hE29)⟩
   ·refine CW.cond_f rfl hb30 (CW.skip (bn (tn (CW.region (sd rfl (yl_inc rfl rfl rfl (by omega) (sd rfl (yM rfl rfl (dn ?_)))))))))
    have hB35 : B_g_slices_IndexFunc_string_0 p_s p_f k8 () = .cont () := by simp only [B_g_slices_IndexFunc_string_0, hb30, cL]
    exact ⟨p_s.length - (k8 + 1), by omega, k8 + 1, rfl, hlt25, (by omega), rfl, rfl, rfl, rfl, (RdS.ex gS hf22 hE29), (Ex.trans hf23 hE29), (loopM.cont hlt25 hB35).symm.trans hI16⟩
  ·refine CW.seq (CW.region (sd rfl (yl_lss rfl rfl rfl (dn (CW.seq (CW.cond_f rfl (lt_f hlt25) (CW.exit (tx ?_))))))))
   refine tx ?_
   have hL38 : loopM (B_g_slices_IndexFunc_string_0 p_s p_f) (p_s.length - 0) 0 () = .done () := hI16.symm.trans (loopM.stop hlt25)
   refine bx (tn (CW.seq (CW.region (sd rfl (yA rfl rfl (dn (CW.ret (rr rfl (.cons rfl .nil) ?_))))))))
   have hM39 : (g_slices_IndexFunc_string p_s p_f) = (-1) := by simp only [g_slices_IndexFunc_string, hL38, cL]
   rw [hM39]
   exact ⟨rfl, hf23⟩
theorem c_g_slices_DeleteFunc_string {A1 : Option Addr} {c1 : Nat} {lo1 hi1 : Nat} {g3 : Nat} {cp4 : List Value} {w : World} (p_s : List Str) (p_f : Str → Bool) (h1 : OwnL w lo1 hi1 9 1 (RF e_Str) A1 p_s.length c1 p_s) (hen5 : Go.X.Enters Tryz.prog g3) (hfn6 : ∀ (w1 : World) (y0 : Str), Mut [(lo1, hi1)] w w1 → y0 ∈ p_s → okS y0 → Cal Tryz.prog g3 (([.string (bs y0)] : List Value) ++ cp4).toArray w1 fun v w2 => v = .bool (p_f y0) ∧ Ex w1 w2) (hrn7 : (0 ≤ lo1 ∧ lo1 ≤ hi1 ∧ hi1 ≤ w.heap.size)) (o2 : (okL okS) p_s) : Cal Tryz.prog 76 #[.slice A1 p_s.length c1, .func (.func g3) #[] cp4.toArray] w fun v w' => ∃ A_1 c_1, v = .slice A_1 ((g_slices_DeleteFunc_string p_s p_f).length) c_1 ∧ OwnL w' lo1 hi1 9 1 (RF e_Str) A_1 ((g_slices_DeleteFunc_string p_s p_f).length) c_1 (g_slices_DeleteFunc_string p_s p_f) ∧ (okL okS) (g_slices_DeleteFunc_string p_s p_f) ∧ Mut [(lo1, hi1)] w w' := by
 have hn := o2.1
 have hok : (okL okS) (g_slices_DeleteFunc_string p_s p_f) := ⟨Nat.le_trans (List.length_filter_le _ _) o2.1, fun x hx => o2.2 x (List.mem_filter.1 hx).1⟩
 refine Cal.of func76 rfl ntmps76 rfl (CW.seq (CW.region (sd rfl (yA rfl rfl (dn (CW.seq (CW.region (sd rfl (yM rfl rfl (sd rfl (yM rfl rfl (sd rfl (yC en98 rfl (oc rfl (oc rfl oz)) (Cal.mono (c_g_slices_IndexFunc_string p_s p_f (RdS.up (OwnL.rd gS h1) gS) hen5 (fun w1 y0 hE => hfn6 w1 y0 (Mut.ex (Mut.refl w) hE)) o2) ?_))))))))))))))
 rintro v7 w8 ⟨rfl, hE9⟩
 refine sd rfl (yA rfl rfl (dn (CW.seq (CW.seq (CW.region (sd rfl (yM rfl rfl (sd rfl (yl_eql rfl rfl rfl (dn (bcase (decide (g_slices_IndexFunc_string p_s p_f = -1)) (fun hb => ?_) (fun hb => ?_))))))))))))
 ·have hbp := dec_t hb
  refine CW.cond_t rfl hb (CW.seq (CW.region (sd rfl (yM rfl rfl (sd rfl (yA rfl rfl (dn (CW.ret (tr (rr rfl (.cons rfl .nil) ?_))))))))))
  have hx : ∀ x ∈ p_s, p_f x = false := by
   rcases idxF_spec p_f d_Str p_s with ⟨_, h⟩ | ⟨k, _, h, _⟩
   ·exact h
   ·rw [show g_slices_IndexFunc_string p_s p_f = idxF p_f d_Str p_s from rfl, h] at hbp; omega
  have hM : (g_slices_DeleteFunc_string p_s p_f) = p_s := filter_none hx
  rw [hM]
  exact ⟨_, _, rfl, OwnL.ex gS h1 hE9, o2, Mut.ex (Mut.refl w) hE9⟩
 ·have hbp := dec_f hb
  obtain ⟨i0, hi0, hS⟩ : ∃ i0 : Nat, g_slices_IndexFunc_string p_s p_f = (i0 : Int) ∧ DF p_f p_s p_s i0 (i0 + 1) := by
   rcases idxF_spec p_f d_Str p_s with ⟨h, _⟩ | ⟨k, hk, h, ht, hbef⟩
   ·exact absurd h hbp
   ·exact ⟨k, h, DF.start hk ht hbef⟩
  have hw : IntKind.wrap .i64 (g_slices_IndexFunc_string p_s p_f + 1) = ((i0 + 1 : Nat) : Int) := by rw [hi0, wrap_in (by have := hS.le; omega)]; rfl
  refine CW.cond_f rfl hb (CW.skip (tn (CW.seq (CW.seq (CW.region (sd rfl (yM rfl rfl (sd rfl (yl_add rfl rfl rfl (sd rfl (yA rfl rfl (dn (CW.block (CW.loop (fun m L w2 => ∃ (i j : Nat) (xs : List Str), p_s.length - j < m ∧ w.heap.size ≤ w2.heap.size ∧ lkp L 0 = some (.slice A1 p_s.length c1) ∧ lkp L 1 = some (.func (.func g3) #[] cp4.toArray) ∧ lkp L 5 = some (.int .i64 (i : Int)) ∧ lkp L 6 = some (.int .i64 (j : Int)) ∧ OwnL w2 lo1 hi1 9 1 (RF e_Str) A1 p_s.length c1 xs ∧ Mut [(lo1, hi1)] w w2 ∧ DF p_f p_s xs i j) (p_s.length + 1) ?_ ?_))))))))))))))
  ·exact ⟨i0, i0 + 1, p_s, by omega, Ex.size hE9, rfl, rfl, by rw [← hi0]; rfl, by rw [← hw]; rfl, OwnL.ex gS h1 hE9, Mut.ex (Mut.refl w) hE9, hS⟩
  ·rintro m L w2 ⟨i, j, xs, hm, hsz, hl0, hl1, hl5, hl6, hO, hM, hD⟩
   have hij := hD.lt
   have hjn := hD.le
   refine CW.sub (Sub.cons hl0 (Sub.cons hl1 (Sub.cons hl5 (Sub.cons hl6 (Sub.nil _))))) ?_
   refine CW.seq (CW.seq (CW.region (sd rfl (yM rfl rfl (sd rfl (yM rfl rfl (sd rfl (yL un23 rfl rfl (sd rfl (yl_lss rfl rfl rfl (dn (bcase (decide ((j : Int) < (p_s.length : Int))) (fun hb2 => ?_) (fun hb2 => ?_)))))))))))))
   ·have hj : j < p_s.length := by have := dec_t hb2; omega
    obtain ⟨eb, eo, ec, eA, _, ebl, _, eR, eC⟩ := RdS.atD (OwnL.rd gS hO) d_Str (i := j) (by omega)
    have eC : Cells w2 eb (eo + j * 1) [.string (bs (p_s.getD j d_Str))] := by rw [hD.get hj] at eR; have e : ec = [.string (bs (p_s.getD j d_Str))] := eR; rw [← e]; exact eC
    refine CW.cond_t rfl hb2 (CW.skip (tn (CW.seq (CW.block (CW.seq (CW.region (sd rfl (yM rfl rfl (sd rfl (yM rfl rfl (sd rfl (yl_indexAddrN un23 ty9 rfl rfl rfl eA hj (sd rfl (yl_load1 ty9 rfl rfl (eC 0 _ rfl) (sd rfl (yA rfl rfl (dn (CW.seq (CW.region ?_)))))))))))))))))))
    refine sd rfl (yM rfl rfl (sd rfl (yM rfl rfl (sd rfl (yl_callv hen5 rfl rfl (oc rfl oz) (Cal.mono (hfn6 w2 (p_s.getD j d_Str) hM (getD_mem hj) (okL.getD o2 ok_d_Str _)) ?_))))))
    rintro v w3 ⟨rfl, hE3⟩
    refine sd rfl (yl_not rfl rfl (dn (bcase (p_f (p_s.getD j d_Str)) (fun hb3 => ?_) (fun hb3 => ?_))))
    ·refine CW.cond_f rfl (not_t hb3) (CW.skip (bn (tn (CW.region (sd rfl (yM rfl rfl (sd rfl (yl_add rfl rfl rfl (sd rfl (yA rfl rfl (SeqR.done (tn ?_))))))))))))
     exact ⟨m - 1, by omega, i, j + 1, xs, by omega, Nat.le_trans hsz (Ex.size hE3), rfl, rfl, rfl, by rw [← show IntKind.wrap .i64 ((j : Int) + 1) = ((j + 1 : Nat) : Int) from wrap_in (by omega)]; rfl, OwnL.ex gS hO hE3, Mut.ex hM hE3, hD.gone hj hb3⟩
    ·have hO3 := OwnL.ex gS hO hE3
     obtain ⟨fb, fo, fc, fA, _, fbl, _, fR, fC⟩ := RdS.atD (OwnL.rd gS hO3) d_Str (i := i) (by omega)
     refine CW.cond_t rfl (not_f hb3) (CW.seq (CW.region (sd rfl (yM rfl rfl (sd rfl (yM rfl rfl (sd rfl (yM rfl rfl (sd rfl (yl_indexAddrN un23 ty9 rfl rfl rfl fA (show i < p_s.length by omega) (SeqR.u rfl rfl (yl_storeF (enc := e_Str) (i := i) (d := 0) (x' := (p_s.getD j d_Str)) (dx := d_Str) ty9 rfl hO3 fA rfl rfl (vs := [.string (bs (p_s.getD j d_Str))]) rfl rfl rfl (by omega) (by decide) rfl rfl ?_))))))))))))
     intro w4 hO4 hN4
     refine dn (CW.region (sd rfl (yM rfl rfl (sd rfl (yl_add rfl rfl rfl (sd rfl (yA rfl rfl (SeqR.done (bn (tn (CW.region (sd rfl (yM rfl rfl (sd rfl (yl_add rfl rfl rfl (sd rfl (yA rfl rfl (SeqR.done (tn ?_)))))))))))))))))))
     exact ⟨m - 1, by omega, i + 1, j + 1, _, by omega, by rw [hN4.size]; exact Nat.le_trans hsz (Ex.size hE3), rfl, rfl, by rw [← show IntKind.wrap .i64 ((i : Int) + 1) = ((i + 1 : Nat) : Int) from wrap_in (by omega)]; rfl, by rw [← show IntKind.wrap .i64 ((j : Int) + 1) = ((j + 1 : Nat) : Int) from wrap_in (by omega)]; rfl, hO4, Mut.only (Mut.ex hM hE3) hN4 (Or.inl (hO3.rng (i := i) (by omega) fb (by rw [fA]; rfl))), hD.kept hj hb3⟩
   ·have hj : j = p_s.length := by have := dec_f hb2; omega
    subst hj
    obtain ⟨ht, hik⟩ := hD.done
    refine CW.cond_f rfl hb2 (CW.exit (tx (tx ?_)))
    refine bx (tn (CW.seq (CW.region (sd rfl (yM rfl rfl (sd rfl (yM rfl rfl (sd rfl (yl_slice (l := i) (h := p_s.length) (kh := .i64) un23 ty9 rfl rfl (Or.inr ⟨_, rfl, rfl⟩) (Or.inl ⟨rfl, rfl⟩) (by omega) (by have := (OwnL.rd gS hO).2.1; omega) (SeqR.u rfl rfl (yl_clearT gS un23 ty9 rfl rfl rfl rfl hO (by omega) ?_)))))))))))
    intro v5 w5 hO5 hM5
    obtain ⟨fb, fo, fc, fA, _, fbl, _, fR, fC⟩ := RdS.atD (OwnL.rd gS hO) d_Str (i := i) (by omega)
    have hic : i ≤ c1 := by have := (OwnL.rd gS hO).2.1; omega
    refine dn (CW.seq (CW.region (sd rfl (yM rfl rfl (sd rfl (yM rfl rfl (sd rfl (yl_slice (l := 0) (h := i) (kl := .i64) un23 ty9 rfl rfl (Or.inl ⟨rfl, rfl⟩) (Or.inr ⟨_, rfl, rfl⟩) (Nat.zero_le _) hic (sd rfl (yA rfl rfl (dn (CW.ret (rr rfl (.cons rfl .nil) ?_)))))))))))))
    have e : (if c1 = 0 then A1 else A1.map (·.add (0 * 1))) = A1 := by
     split
     ·rfl
     ·rw [Nat.zero_mul]; exact headA fA
    rw [ht] at hO5
    have hz : (g_slices_DeleteFunc_string p_s p_f).length = i := hik.symm
    rw [e, hz]
    exact ⟨_, _, rfl, hO5, hok, hM.mut hM5 fun _ h => h⟩
theorem c_g_slices_Clone_string {A1 : Option Addr} {c1 : Nat} {w : World} (p_s : List Str) (h1 : RdS w (Iv 0 w.heap.size) (RF e_Str) 1 A1 p_s.length c1 p_s) (o2 : (okL okS) p_s) : Cal Tryz.prog 77 #[.slice A1 p_s.length c1] w fun v w' => ∃ A_1 c_1 lo_1 hi_1, v = .slice A_1 ((g_slices_Clone_string p_s).length) c_1 ∧ OwnL w' lo_1 hi_1 9 1 (RF e_Str) A_1 ((g_slices_Clone_string p_s).length) c_1 (g_slices_Clone_string p_s) ∧ (okL okS) (g_slices_Clone_string p_s) ∧ (w.heap.size ≤ lo_1 ∧ lo_1 ≤ hi_1 ∧ hi_1 ≤ w'.heap.size) ∧ Ex w w' := by
 have hol3 := o2.1
 refine Cal.of func77 rfl ntmps77 rfl (CW.seq (CW.region (sd rfl (yA rfl rfl (dn (CW.seq (CW.seq (CW.region ?_))))))))
 refine sd rfl (yM rfl rfl (sd rfl (yl_snil un23 rfl rfl rfl (dn (bcase (A1.isNone) (fun hb4 => ?_) (fun hb4 => ?_))))))
 ·have hnil5 : p_s = [] := RdS.nilA h1 hb4
  refine CW.cond_t rfl hb4 (CW.seq (CW.region (sd rfl (yA rfl rfl (dn (CW.ret (tr (rr rfl (.cons rfl .nil) ?_))))))))
  have hM6 : (g_slices_Clone_string p_s) = (([] : List Str)) := by simp only [g_slices_Clone_string, hnil5, cond_true, cond_false, loopE_done, loopE_ret, List.append_nil]
  rw [hM6]
  exact ⟨none, 0, w.heap.size, w.heap.size, rfl, (OwnL.nil _ _ _ _ _ _), (okL.nil _), (by omega), (Ex.refl w)⟩
 ·refine CW.cond_f rfl hb4 (CW.skip (tn (CW.seq (CW.region (sd rfl (yl_buildSlice (cs := []) un23 ty9 (by decide) rfl opvs_nil (by kernel_rfl) ?_))))))
  intro b7 w8 hs9 hz10 hB11 hE12
  have hO13 : OwnL w8 b7 (b7 + 1) 9 1 (RF e_Str) (some ⟨b7, 0, none⟩) 0 0 ([] : List Str) := OwnL.of_box (S := fun _ => False) hB11 (Nat.le_refl _) (Nat.lt_succ_self _) EncL.nil (Nat.le_of_ble_eq_true rfl) (fun h => h) (fun _ h => False.elim h)
  refine sd rfl (yM rfl rfl ?_)
  obtain ⟨nw15, he16, hs17⟩ := RdS.src (RdS.ex gS h1 hE12)
  have hol18 : p_s.length ≤ 2147483648 := o2.1
  refine sd rfl (yl_appendL (S := (fun _ => False)) (lo := b7) (hi := (b7 + 1)) (xs := ([] : List Str)) (ys := p_s) gS un23 ty9 rfl (Nat.le_of_ble_eq_true rfl) rfl rfl rfl hO13 he16 hs17 rfl (by first | omega | (simp only [lN, toS_length]; omega)) (by first | omega | (simp only [lN, toS_length]; omega)) (by omega) (by omega) (fun _ h _ => False.elim h) (by omega) ?_)
  intro A19 c20 w21 row22 hO23 hG24 hrg25
  have hG24z := hG24.size
  refine sd rfl (yA rfl rfl (dn (CW.ret (rr rfl (.cons rfl .nil) ?_))))
  have hM26 : (g_slices_Clone_string p_s) = ((([] : List Str) ++ p_s)) := by simp only [g_slices_Clone_string, cL]
  have hol27 : p_s.length ≤ 2147483648 := o2.1
  rw [hM26]
  exact ⟨A19, c20, b7, w21.heap.size, rfl, hO23, (okL.mk (xs := (([] : List Str) ++ p_s)) (by first | omega | (simp only [lN, toS_length]; omega)) (okE.append okE.nil (o2).2)), (by omega), (Below.grown (Ex.trans (Ex.refl w) hE12) hG24 (by omega) (fun k hk => by have := hrg25 k hk; omega))⟩
theorem c_i_without_c1 {A2 : Option Addr} {c2 : Nat} {b3 : Nat} {w : World} (p_s : Str) (p_cap0 : List Str) (h2 : RdS w (Iv 0 w.heap.size) (RF e_Str) 1 A2 p_cap0.length c2 p_cap0) (h4 : Box w b3 23 [.slice A2 p_cap0.length c2]) (o1 : okS p_s) (o5 : (okL okS) p_cap0) : Cal Tryz.prog 78 #[.string (bs (p_s)), .pointer (some ⟨b3, 0, none⟩)] w fun v w' => v = .bool ((i_without_c1 p_s p_cap0)) ∧ Ex w w' := by
 refine Cal.of func78 rfl ntmps78 rfl (CW.seq (CW.region (sd rfl (yA rfl rfl (dn (CW.seq (CW.region (sd rfl (yl_load1 ty23 rfl rfl ((h4.cell 0).trans rfl) ?_)))))))))
 refine sd rfl (yM rfl rfl (sd rfl (yC en51 rfl (oc rfl (oc rfl oz)) (Cal.mono (c_g_slices_Contains_string p_cap0 p_s (RdS.up h2 gS) o5 o1) ?_))))
 rintro v9 w8 ⟨rfl, hE10⟩
 refine sd rfl (yA rfl rfl (dn (CW.ret (rr rfl (.cons rfl .nil) ?_))))
 have hM11 : (i_without_c1 p_s p_cap0) = ((g_slices_Contains_string p_cap0 p_s)) := by simp only [i_without_c1, cL]
 rw [hM11]
 exact ⟨rfl, (Ex.trans (Ex.refl w) hE10)⟩
theorem c_i_without {A1 : Option Addr} {c1 : Nat} {A3 : Option Addr} {c3 : Nat} {w : World} (p_l : List Str) (p_other : List Str) (h1 : RdS w (Iv 0 w.heap.size) (RF e_Str) 1 A1 p_l.length c1 p_l) (h3 : RdS w (Iv 0 w.heap.size) (RF e_Str) 1 A3 p_other.length c3 p_other) (o2 : (okL okS) p_l) (o4 : (okL okS) p_other) : Cal Tryz.prog 45 #[.slice A1 p_l.length c1, .slice A3 p_other.length c3] w fun v w' => ∃ A_1 c_1 lo_1 hi_1, v = .slice A_1 ((i_without p_l p_other).length) c_1 ∧ OwnL w' lo_1 hi_1 9 1 (RF e_Str) A_1 ((i_without p_l p_other).length) c_1 (i_without p_l p_other) ∧ (okL okS) (i_without p_l p_other) ∧ (w.heap.size ≤ lo_1 ∧ lo_1 ≤ hi_1 ∧ hi_1 ≤ w'.heap.size) ∧ Ex w w' := by
 have hol5 := o2.1
 have hol6 := o4.1
 refine Cal.of func45 rfl ntmps45 rfl (CW.seq (CW.region (sd rfl (yl_box rfl rfl rfl ?_))))
 intro b7 w8 hs9 hz10 hB11 hE12
 refine sd rfl (yA rfl rfl (dn (CW.seq (CW.region (sd rfl (yM rfl rfl (sd rfl (yC en77 rfl (oc rfl oz) (Cal.mono (c_g_slices_Clone_string p_l (RdS.up (RdS.ex gS h1 hE12) gS) o2) ?_)))))))))
 rintro v17 w14 ⟨A15, c15, lo15, hi15, rfl, h15, ho16, hrn19, hE18⟩
 have hE18z := Ex.size hE18
 refine sd rfl (yl_makeFunc rfl (oc rfl oz) (sd rfl (yC en76 rfl (oc rfl (oc rfl oz)) (Cal.mono (c_g_slices_DeleteFunc_string (g_slices_Clone_string p_l) (fun y0 => i_without_c1 y0 p_other) h15 en78 (fun _ y0 => fun hE hm0 ov0 => c_i_without_c1 y0 p_other (RdS.up (RdS.mut gS (RdS.ex gS (RdS.ex gS h3 hE12) hE18) hE (fun k hk => by simp only [InR, or_false, Iv, Ge] at hk ⊢; omega)) gS) (Box.mut (Box.ex hB11 hE18) hE (fun k hk => by simp only [InR, or_false] at hk; omega)) ov0 o4) (by omega) ho16) ?_))))
 rintro v26 w23 ⟨A24, c24, rfl, h24, ho25, hm27⟩
 have hm27z := Mut.size hm27
 refine sd rfl (yA rfl rfl (dn (CW.ret (rr rfl (.cons rfl .nil) ?_))))
 have hM28 : (i_without p_l p_other) = ((g_slices_DeleteFunc_string (g_slices_Clone_string p_l) (fun y0 => i_without_c1 y0 p_other))) := by simp only [i_without, cL]
 rw [hM28]
 exact ⟨A24, c24, lo15, hi15, rfl, h24, ho25, (by omega), (Ex.mut (Ex.trans (Ex.trans (Ex.refl w) hE12) hE18) hm27 (fun k hk => by simp only [InR, or_false] at hk; omega))⟩
theorem c_g_slices_ContainsFunc_string {A1 : Option Addr} {c1 : Nat} {g3 : Nat} {cp4 : List Value} {w : World} (p_s : List Str) (p_f : Str → Bool) (h1 : RdS w (Iv 0 w.heap.size) (RF e_Str) 1 A1 p_s.length c1 p_s) (hen5 : Go.X.Enters Tryz.prog g3) (hfn6 : ∀ (w1 : World) (y0 : Str), Ex w w1 → y0 ∈ p_s → okS y0 → Cal Tryz.prog g3 (([.string (bs (y0))] : List Value) ++ cp4).toArray w1 fun v w2 => v = .bool (p_f y0) ∧ Ex w1 w2) (o2 : (okL okS) p_s) : Cal Tryz.prog 89 #[.slice A1 p_s.length c1, .func (.func g3) #[] cp4.toArray] w fun v w' => v = .bool ((g_slices_ContainsFunc_string p_s p_f)) ∧ Ex w w' := by
 refine Cal.of func89 rfl ntmps89 rfl (CW.seq (CW.region (sd rfl (yA rfl rfl (dn (CW.seq (CW.region (sd rfl (yM rfl rfl ?_)))))))))
 refine sd rfl (yM rfl rfl (sd rfl (yC en98 rfl (oc rfl (oc rfl oz)) (Cal.mono (c_g_slices_IndexFunc_string p_s p_f (RdS.up h1 gS) hen5 (fun w1 y0 => fun hE => hfn6 w1 y0 (Ex.trans (Ex.refl w) hE)) o2) ?_))))
 rintro v9 w8 ⟨rfl, hE10⟩
 refine sd rfl (yl_geq rfl rfl rfl (sd rfl (yA rfl rfl (dn (CW.ret (rr rfl (.cons rfl .nil) ?_))))))
 have hM11 : (g_slices_ContainsFunc_string p_s p_f) = (decide (0 ≤ (g_slices_IndexFunc_string p_s p_f))) := by simp only [g_slices_ContainsFunc_string, cL]
 rw [hM11]
 exact ⟨rfl, (Ex.trans (Ex.refl w) hE10)⟩
theorem c_i_Table_isRow_c1 {w : World} (p_s : Str) (o1 : okS p_s) : Cal Tryz.prog 90 #[.string (bs (p_s))] w fun v w' => v = .bool ((i_Table_isRow_c1 p_s)) ∧ Ex w w' := by
 refine Cal.of func90 rfl ntmps90 rfl (CW.seq (CW.region (sd rfl (yA rfl rfl (dn (CW.seq (CW.region (sd rfl (yM rfl rfl ?_)))))))))
 refine sd rfl (yC en73 rfl (oc rfl oz) (Cal.mono (c_i_isField p_s o1) ?_))
 rintro v4 w3 ⟨rfl, hE5⟩
 refine sd rfl (yl_not rfl rfl (sd rfl (yA rfl rfl (dn (CW.ret (rr rfl (.cons rfl .nil) ?_))))))
 have hM6 : (i_Table_isRow_c1 p_s) = (!(i_isField p_s)) := by simp only [i_Table_isRow_c1, cL]
 rw [hM6]
 exact ⟨rfl, (Ex.trans (Ex.refl w) hE5)⟩
theorem c_i_Table_isRow {A1 : Option Addr} {c1 : Nat} {A2 : Option Addr} {c2 : Nat} {A4 : Option Addr} {c4 : Nat} {w : World} (p_t : DTable) (p_r : DRow) (h1 : RdS w (Iv 0 w.heap.size) (RF e_Str) 1 A1 p_t.Cols.length c1 p_t.Cols) (h2 : RdS w (Iv 0 w.heap.size) (RF e_Idx) 3 A2 p_t.Idxs.length c2 p_t.Idxs) (h4 : RdS w (Iv 0 w.heap.size) (RF e_Str) 1 A4 p_r.Vals.length c4 p_r.Vals) (o3 : ok_Table p_t) (o5 : ok_Row p_r) : Cal Tryz.prog 62 #[.agg #[.string (bs (p_t.Name)), .slice A1 p_t.Cols.length c1, .slice A2 p_t.Idxs.length c2], .agg #[.slice A4 p_r.Vals.length c4]] w fun v w' => v = .bool ((i_Table_isRow p_t p_r)) ∧ Ex w w' := by
 refine Cal.of func62 rfl ntmps62 rfl (CW.seq (CW.region (sd rfl (yl_box rfl rfl rfl ?_))))
 intro b10 w11 hs12 hz13 hB14 hE15
 refine sd rfl (yl_box rfl rfl rfl ?_)
 intro b16 w17 hs18 hz19 hB20 hE21
 refine sd rfl (yA rfl rfl (dn (CW.seq (CW.region (sd rfl (yl_fieldAddr fd38_0 rfl rfl (sd rfl (yl_load1 ty23 rfl rfl ((hB20.cell 0).trans rfl) (sd rfl (yL un23 rfl rfl (sd rfl (yl_fieldAddr fd26_1 rfl rfl ?_))))))))))))
 refine sd rfl (yl_load1 ty23 rfl rfl (((Box.ex hB14 hE21).cell 1).trans rfl) (sd rfl (yL un23 rfl rfl (sd rfl (yl_eql rfl rfl rfl (sd rfl (yM rfl rfl (bcase (decide ((p_r.Vals.length : Int) = (p_t.Cols.length : Int))) (fun hb23 => ?_) (fun hb23 => ?_)))))))))
 ·have hb23p := dec_t hb23
  refine sy rfl rfl hb23 (yl_fieldAddr fd38_0 rfl rfl (sy rfl rfl hb23 (yl_load1 ty23 rfl rfl ((hB20.cell 0).trans rfl) (sy rfl rfl hb23 (yC en89 rfl (oc rfl (oc rfl oz)) (Cal.mono (c_g_slices_ContainsFunc_string p_r.Vals (fun y0 => i_Table_isRow_c1 y0) (RdS.up (RdS.ex gS (RdS.ex gS h4 hE15) hE21) gS) en90 (fun _ y0 => fun hE hm0 ov0 => c_i_Table_isRow_c1 y0 ov0) o5) ?_))))))
  rintro v27 w26 ⟨rfl, hE28⟩
  refine sy rfl rfl hb23 (yl_not rfl rfl (sd rfl (yl_pick_t rfl rfl hb23 rfl (sd rfl (yA rfl rfl (dn (CW.ret (rr rfl (.cons rfl .nil) ?_))))))))
  have hM29 : (i_Table_isRow p_t p_r) = (!(g_slices_ContainsFunc_string p_r.Vals (fun y0 => i_Table_isRow_c1 y0))) := by simp only [i_Table_isRow, hb23, cL]
  rw [hM29]
  exact ⟨rfl, (Ex.trans (Ex.trans (Ex.trans (Ex.refl w) hE15) hE21) hE28)⟩
 ·have hb23p := dec_f hb23
  refine sz rfl rfl hb23 (sz rfl rfl hb23 (sz rfl rfl hb23 (sz rfl rfl hb23 (sd rfl (yl_pick_f rfl rfl hb23 rfl (sd rfl (yA rfl rfl (dn (CW.ret ?_)))))))))
  refine rr rfl (.cons rfl .nil) ?_
  have hM33 : (i_Table_isRow p_t p_r) = (false) := by simp only [i_Table_isRow, hb23, cL]
  rw [hM33]
  exact ⟨rfl, (Ex.trans (Ex.trans (Ex.refl w) hE15) hE21)⟩
theorem c_i_Table_rowWrite {A1 : Option Addr} {c1 : Nat} {A2 : Option Addr} {c2 : Nat} {A4 : Option Addr} {c4 : Nat} {w : World} (p_t : DTable) (p_r : DRow) (h1 : RdS w (Iv 0 w.heap.size) (RF e_Str) 1 A1 p_t.Cols.length c1 p_t.Cols) (h2 : RdS w (Iv 0 w.heap.size) (RF e_Idx) 3 A2 p_t.Idxs.length c2 p_t.Idxs) (h4 : RdS w (Iv 0 w.heap.size) (RF e_Str) 1 A4 p_r.Vals.length c4 p_r.Vals) (o3 : ok_Table p_t) (o5 : ok_Row p_r) (pre0 : 0 < p_r.Vals.length) (pre1 : p_r.Vals.length ≤ 4) (pre2 : rowShort p_r) : Cal Tryz.prog 86 #[.agg #[.string (bs (p_t.Name)), .slice A1 p_t.Cols.length c1, .slice A2 p_t.Idxs.length c2], .agg #[.slice A4 p_r.Vals.length c4]] w fun v w' => v = .agg #[.string (bs ((i_Table_rowWrite p_t p_r).Key)), .string (bs ((i_Table_rowWrite p_t p_r).Val)), .bool ((i_Table_rowWrite p_t p_r).Gone)] ∧ Ex w w' := by
 have hol6 : p_t.Name.length ≤ 1073741824 := o3.1
 have hol7 := o3.2.1.1
 have hol8 := o3.2.2.1
 have hol9 := o5.1
 refine Cal.of func86 rfl ntmps86 rfl (CW.seq (CW.region (sd rfl (yl_box rfl rfl rfl ?_))))
 intro b10 w11 hs12 hz13 hB14 hE15
 refine sd rfl (yl_box rfl rfl rfl ?_)
 intro b16 w17 hs18 hz19 hB20 hE21
 refine sd rfl (yB ty66 (cs := [.string (bs (([] : Str))), .string (bs (([] : Str))), .bool (false)]) rfl rfl ?_)
 intro b22 w23 hs24 hz25 hB26 hE27
 refine dn (CW.seq ?_)
 have hol30 : p_t.Name.length ≤ 1073741824 := o3.1
 have q31 := Box.ex hB20 hE27
 have q34 := RdS.ex gS (RdS.ex gS (RdS.ex gS h4 hE15) hE21) hE27
 obtain ⟨eb35, eo35, _, eA35, _, ebl35, _, eR35, eC35⟩ := RdS.aD q34 d_Str (i := 0)
 obtain rfl := eR35
 have eC35 : Cells w23 eb35 (eo35 + 0 * 1) [.string (bs ((p_r.Vals.getD 0 d_Str)))] := eC35
 have hol36 : p_t.Name.length ≤ 1073741824 := o3.1
 have hol37 : (p_r.Vals.getD 0 d_Str).length ≤ 1073741824 := (okL.getD o5 ok_d_Str _)
 obtain ⟨A38, c39, he42, h41⟩ := RdS.sl (RdS.drop q34 (k := 1) (by omega))
 have hrc43 := (q34).2.1
 refine CW.drawsI 12 (vgetI [DetI (.pointer (some ⟨b10, 0 + 0, none⟩)), DetI (.string (bs (p_t.Name))), DetI (.string (bs (p_t.Name ++ ([47] : Str)))), DetI (.pointer (some ⟨b16, 0 + 0, none⟩)), DetI (.slice A4 p_r.Vals.length c4), DetI (.pointer (some ⟨eb35, eo35 + 0 * 1, none⟩)), DetI (.string (bs ((p_r.Vals.getD 0 d_Str)))), DetI (.string (bs ((p_t.Name ++ ([47] : Str)) ++ (p_r.Vals.getD 0 d_Str)))), DetI (.pointer (some ⟨b16, 0 + 0, none⟩)), DetI (.slice A4 p_r.Vals.length c4), fun lo hi v wq => ∃ A38 c39, v = .slice A38 ((p_r.Vals.drop 1).length) c39 ∧ RdS wq (Iv 0 w.heap.size) (RF e_Str) 1 A38 (p_r.Vals.drop 1).length c39 (p_r.Vals.drop 1), fun lo hi v wq => v = .string (bs ((g_strings_Join (p_r.Vals.drop 1) ([44] : Str)))) ∧ okS (g_strings_Join (p_r.Vals.drop 1) ([44] : Str))]) Tryz.follows rfl rfl rfl rfl rfl rfl (vgetI_stable ⟨StableI.det _, StableI.det _, StableI.det _, StableI.det _, StableI.det _, StableI.det _, StableI.det _, StableI.det _, StableI.det _, StableI.det _, (fun _ _ _ _ _ ⟨A38, c39, hv, h44⟩ e => ⟨A38, c39, hv, RdS.ex gS h44 e⟩), (fun _ _ _ _ _ ⟨hv, ho46⟩ e => ⟨hv, ho46⟩), trivial⟩) ⟨?_, ?_, ?_, ?_, ?_, ?_, ?_, ?_, ?_, ?_, ?_, ?_, trivial⟩ ?_
 ·exact oI rfl fun h => yl_fieldAddr fd26_0 rfl (h.old 2 _ rfl rfl) kI
 ·exact oI rfl fun h => yl_load1 ty9 rfl (h.dt 0 5 rfl rfl rfl) (((Box.ex (Box.ex (Box.ex hB14 hE21) hE27) h.ex).cell 0).trans rfl) kI
 ·intro L58 w59 hi60
  have hE61 := hi60.ex
  have hE61z := Ex.size hE61
  have hol63 : p_t.Name.length ≤ 1073741824 := o3.1
  exact os rfl ((yl_sadd (a := p_t.Name) (b := ([47] : Str)) rfl (hi60.dt 1 6 rfl rfl rfl) rfl (by first | omega | (simp only [lN, toS_length]; omega)) kI))
 ·exact oI rfl fun h => yl_fieldAddr fd38_0 rfl (h.old 3 _ rfl rfl) kI
 ·exact oI rfl fun h => yl_load1 ty23 rfl (h.dt 3 8 rfl rfl rfl) (((Box.ex q31 h.ex).cell 0).trans rfl) kI
 ·intro L75 w76 hi77
  have hE78 := hi77.ex
  have hE78z := Ex.size hE78
  exact os rfl ((yl_ixN un23 ty9 rfl (hi77.dt 4 9 rfl rfl rfl) rfl eA35 kI))
 ·exact oI rfl fun h => yl_load1 ty9 rfl (h.dt 5 10 rfl rfl rfl) ((Cells.ex eC35 h.ex) 0 _ rfl) kI
 ·intro L86 w87 hi88
  have hE89 := hi88.ex
  have hE89z := Ex.size hE89
  have hol92 : p_t.Name.length ≤ 1073741824 := o3.1
  have hol93 : (p_r.Vals.getD 0 d_Str).length ≤ 1073741824 := (okL.getD o5 ok_d_Str _)
  exact os rfl ((yl_sadd (a := (p_t.Name ++ ([47] : Str))) (b := (p_r.Vals.getD 0 d_Str)) rfl (hi88.dt 2 7 rfl rfl rfl) (hi88.dt 6 11 rfl rfl rfl) (by first | omega | (simp only [lN, toS_length]; omega)) kI))
 ·exact oI rfl fun h => yl_fieldAddr fd38_0 rfl (h.old 3 _ rfl rfl) kI
 ·exact oI rfl fun h => yl_load1 ty23 rfl (h.dt 8 13 rfl rfl rfl) (((Box.ex q31 h.ex).cell 0).trans rfl) kI
 ·intro L105 w106 hi107
  have hE108 := hi107.ex
  have hE108z := Ex.size hE108
  have q110 := RdS.ex gS q34 hE108
  obtain ⟨A111, c112, he115, h114⟩ := RdS.sl (RdS.drop q110 (k := 1) (by omega))
  have hrc116 := (q110).2.1
  exact os rfl ((yl_sliceR (kh := .i64) (l := 1) (h := p_r.Vals.length) un23 ty9 rfl (hi107.dt 9 14 rfl rfl rfl) (.inr ⟨_, rfl, rfl⟩) (.inl ⟨rfl, rfl⟩) (by omega) (by omega) he115 ⟨fun _ _ => ⟨A111, c112, rfl, h114⟩, rfl⟩))
 ·intro L117 w118 hi119
  obtain ⟨lo122, hh123, _, hx121, hr124, hr125, hr126, A38_127, c39_128, rfl, h129⟩ := hi119.dep 10 15 rfl rfl
  refine OpR.op' rfl (yC en102 rfl (oc hx121 (oc rfl oz)) (Cal.mono (c_g_strings_Join (p_r.Vals.drop 1) ([44] : Str) (RdS.up h129 gS) (okL.drop o5 _) (okS.lit rfl) (join_drop pre1 pre2)) ?_))
  rintro v132 w130 ⟨rfl, ho131, hE133⟩
  exact ⟨⟨rfl, ho131⟩, hE133⟩
 ·intro fl137 fh138 L134 w135 hp136
  have hE139 := hp136.ex
  have hE139z := Ex.size hE139
  have hx140 := hp136.old 4 _ rfl rfl
  obtain ⟨_, hx142, rfl, h143⟩ := hp136.new 11 16 rfl rfl
  refine sd rfl (yl_build (cs := [.string (bs ((p_t.Name ++ ([47] : Str)) ++ (p_r.Vals.getD 0 d_Str))), .string (bs ((g_strings_Join (p_r.Vals.drop 1) ([44] : Str)))), .bool (false)]) rfl (oc (hp136.nt 7 12 rfl rfl rfl) (oc hx142 oz)) (by kernel_rfl) (SeqR.u rfl rfl (yl_store (vs := [.string (bs ((p_t.Name ++ ([47] : Str)) ++ (p_r.Vals.getD 0 d_Str))), .string (bs ((g_strings_Join (p_r.Vals.drop 1) ([44] : Str)))), .bool (false)]) ty66 rfl hx140 rfl rfl rfl rfl (Box.ex hB26 hE139) (Nat.le_of_ble_eq_true rfl) ?_)))
  intro w145 hB146 hO147
  have hB146 : Box w145 b22 66 [.string (bs ((p_t.Name ++ ([47] : Str)) ++ (p_r.Vals.getD 0 d_Str))), .string (bs ((g_strings_Join (p_r.Vals.drop 1) ([44] : Str)))), .bool (false)] := hB146
  have hO147z := hO147.size
  refine dn (CW.sub (Sub.cons (d := 4) hx140 (Sub.nil _)) (CW.ret (rr rfl (.cons ⟨_, rfl, run_loadN ty66 (cs := [.string (bs ((p_t.Name ++ ([47] : Str)) ++ (p_r.Vals.getD 0 d_Str))), .string (bs ((g_strings_Join (p_r.Vals.drop 1) ([44] : Str)))), .bool (false)]) rfl (hB146.cells (n := 3) rfl)⟩ .nil) ?_)))
  have hM148 : (i_Table_rowWrite p_t p_r) = ((⟨(p_t.Name ++ ([47] : Str)) ++ (p_r.Vals.getD 0 d_Str), (g_strings_Join (p_r.Vals.drop 1) ([44] : Str)), false⟩ : DWrite)) := by simp only [i_Table_rowWrite, cL]
  rw [hM148]
  exact ⟨rfl, (Below.only (Ex.trans (Ex.trans (Ex.trans (Ex.trans (Ex.refl w) hE15) hE21) hE27) hE139) hO147 (by omega))⟩
theorem c_i_Table_readRow {A1 : Option Addr} {c1 : Nat} {A2 : Option Addr} {c2 : Nat} {w : World} (p_t : DTable) (p_w : DWrite) (h1 : RdS w (Iv 0 w.heap.size) (RF e_Str) 1 A1 p_t.Cols.length c1 p_t.Cols) (h2 : RdS w (Iv 0 w.heap.size) (RF e_Idx) 3 A2 p_t.Idxs.length c2 p_t.Idxs) (o3 : ok_Table p_t) (o4 : ok_Write p_w) (pre0 : s_GoodTable p_t = true) : Cal Tryz.prog 56 #[.agg #[.string (bs (p_t.Name)), .slice A1 p_t.Cols.length c1, .slice A2 p_t.Idxs.length c2], .agg #[.string (bs (p_w.Key)), .string (bs (p_w.Val)), .bool (p_w.Gone)]] w fun v w' => ∃ A_1 c_1 lo_1 hi_1, v = .tuple #[.agg #[.slice A_1 (((i_Table_readRow p_t p_w).1.Vals).length) c_1], .bool ((i_Table_readRow p_t p_w).2)] ∧ OwnL w' lo_1 hi_1 9 1 (RF e_Str) A_1 (((i_Table_readRow p_t p_w).1.Vals).length) c_1 ((i_Table_readRow p_t p_w).1.Vals) ∧ ok_Row ((i_Table_readRow p_t p_w).1) ∧ (w.heap.size ≤ lo_1 ∧ lo_1 ≤ hi_1 ∧ hi_1 ≤ w'.heap.size) ∧ Ex w w' := by
 have hol5 : p_t.Name.length ≤ 1073741824 := o3.1
 have hol6 := o3.2.1.1
 have hol7 := o3.2.2.1
 have hol8 : p_w.Key.length ≤ 1073741824 := o4.1
 have hol9 : p_w.Val.length ≤ 1073741824 := o4.2
 have hgt := f_s_GoodTable pre0
 have hgn := gt_name pre0
 refine Cal.of func56 rfl ntmps56 rfl (CW.seq (CW.region (sd rfl (yl_box rfl rfl rfl ?_))))
 intro b10 w11 hs12 hz13 hB14 hE15
 refine sd rfl (yl_box rfl rfl rfl ?_)
 intro b16 w17 hs18 hz19 hB20 hE21
 refine sd rfl (yB ty38 (cs := [.slice none 0 0]) rfl rfl ?_)
 intro b22 w23 hs24 hz25 hB26 hE27
 refine sd rfl (yA rfl rfl (dn (CW.seq (CW.region (sd rfl (yl_fieldAddr fd66_0 rfl rfl ?_))))))
 have q28 := Box.ex hB20 hE27
 refine sd rfl (yl_load1 ty9 rfl rfl ((q28.cell 0).trans rfl) (sd rfl (yl_fieldAddr fd26_0 rfl rfl ?_)))
 have q30 := Box.ex (Box.ex hB14 hE21) hE27
 refine sd rfl (yl_load1 ty9 rfl rfl ((q30.cell 0).trans rfl) ?_)
 have hol31 : p_t.Name.length ≤ 1073741824 := o3.1
 refine sd rfl (yl_sadd (a := p_t.Name) (b := ([47] : Str)) rfl rfl rfl (by first | omega | (simp only [lN, toS_length]; omega)) (sd rfl (yC en71 rfl (oc rfl (oc rfl oz)) (Cal.mono (c_g_strings_CutPrefix p_w.Key (p_t.Name ++ ([47] : Str)) o4.1 (okS_nm hgn)) ?_))))
 rintro v34 w32 ⟨rfl, ho33, hE35⟩
 have hE35z := Ex.size hE35
 refine sd rfl (yM rfl rfl (sd rfl (yl_extract rfl rfl rfl (sd rfl (yl_extract rfl rfl rfl (sd rfl (yA rfl rfl (sd rfl (yA rfl rfl (dn (CW.seq (CW.region ?_))))))))))))
 refine sd rfl (yM rfl rfl (sd rfl (yl_buildSlice (cs := [.string (bs ((g_strings_CutPrefix p_w.Key (p_t.Name ++ ([47] : Str))).1))]) un23 ty9 (by decide) rfl (oc rfl oz) (by kernel_rfl) ?_)))
 intro b36 w37 hs38 hz39 hB40 hE41
 have hO42 : OwnL w37 b36 (b36 + 1) 9 1 (RF e_Str) (some ⟨b36, 0, none⟩) 1 1 ([(g_strings_CutPrefix p_w.Key (p_t.Name ++ ([47] : Str))).1] : List Str) := OwnL.of_box (S := fun _ => False) hB40 (Nat.le_refl _) (Nat.lt_succ_self _) (EncL.cons (c := [.string (bs ((g_strings_CutPrefix p_w.Key (p_t.Name ++ ([47] : Str))).1))]) rfl rfl EncL.nil) (Nat.le_of_ble_eq_true rfl) (fun h => h) (fun _ h => False.elim h)
 refine sd rfl (yl_fieldAddr fd66_1 rfl rfl ?_)
 have q44 := Box.ex (Box.ex q28 hE35) hE41
 refine sd rfl (yl_load1 ty9 rfl rfl ((q44.cell 1).trans rfl) (sd rfl (yC en85 rfl (oc rfl (oc rfl oz)) (Cal.mono (c_g_strings_Split p_w.Val ([44] : Str) o4.2 (okS.lit rfl) rfl) ?_))))
 rintro v48 w45 ⟨A46, c46, lo46, hi46, rfl, h46, ho47, hrn50, hE49⟩
 have hE49z := Ex.size hE49
 have hrf51 := rf_Split p_w.Val ([44] : Str)
 obtain ⟨nw54, he55, hs56⟩ := RdS.src (OwnL.rd gS h46)
 have hol57 : (g_strings_Split p_w.Val ([44] : Str)).length ≤ 2147483648 := ho47.1
 refine sd rfl (yl_appendL (S := (fun _ => False)) (lo := b36) (hi := (b36 + 1)) (xs := ([(g_strings_CutPrefix p_w.Key (p_t.Name ++ ([47] : Str))).1] : List Str)) (ys := (g_strings_Split p_w.Val ([44] : Str))) gS un23 ty9 rfl (Nat.le_of_ble_eq_true rfl) rfl rfl rfl (OwnL.ex gS hO42 hE49) he55 hs56 rfl (by first | omega | (simp only [lN, toS_length]; omega)) (by first | omega | (simp only [lN, toS_length]; omega)) (by omega) (by omega) (fun _ h _ => False.elim h) (by omega) ?_)
 intro A58 c59 w60 row61 hO62 hG63 hrg64
 have hG63z := hG63.size
 refine sd rfl (yl_build (cs := [.slice A58 ((([(g_strings_CutPrefix p_w.Key (p_t.Name ++ ([47] : Str))).1] : List Str) ++ (g_strings_Split p_w.Val ([44] : Str))).length) c59]) rfl (oc rfl oz) (by kernel_rfl) (sd rfl (yB ty38 (cs := [.slice none 0 0]) rfl rfl ?_)))
 intro b65 w66 hs67 hz68 hB69 hE70
 refine SeqR.u rfl rfl (yl_store (vs := [.slice A58 ((([(g_strings_CutPrefix p_w.Key (p_t.Name ++ ([47] : Str))).1] : List Str) ++ (g_strings_Split p_w.Val ([44] : Str))).length) c59]) ty38 rfl rfl rfl rfl rfl rfl hB69 (Nat.le_of_ble_eq_true rfl) ?_)
 intro w71 hB72 hO73
 have hB72 : Box w71 b65 38 [.slice A58 ((([(g_strings_CutPrefix p_w.Key (p_t.Name ++ ([47] : Str))).1] : List Str) ++ (g_strings_Split p_w.Val ([44] : Str))).length) c59] := hB72
 have hO73z := hO73.size
 refine dn (CW.seq (CW.seq (bcase ((g_strings_CutPrefix p_w.Key (p_t.Name ++ ([47] : Str))).2) (fun hb74 => ?_) (fun hb74 => ?_))))
 ·have hol102 : (g_strings_Split p_w.Val ([44] : Str)).length ≤ 2147483648 := ho47.1
  refine bcase (i_Table_isRow p_t (⟨(([(g_strings_CutPrefix p_w.Key (p_t.Name ++ ([47] : Str))).1] : List Str) ++ (g_strings_Split p_w.Val ([44] : Str)))⟩ : DRow)) (fun hb104 => ?_) (fun hb104 => ?_)
  ·obtain ⟨hb104p0, hb104p1⟩ := f_i_isRow hb104
   have q110 := Box.only (Box.ex (Box.grown (Box.ex (Box.ex (Box.ex q30 hE35) hE41) hE49) hG63 (fun k hk => by have := hrg64 k hk; omega)) hE70) hO73 (by omega)
   have q119 := RdS.only gS (RdS.ex gS (RdS.grown gS (RdS.ex gS (RdS.ex gS (RdS.ex gS (RdS.ex gS (RdS.ex gS (RdS.ex gS h1 hE15) hE21) hE27) hE35) hE41) hE49) hG63 (fun k hk => by have := hrg64 k hk; simp only [Iv]; omega)) hE70) hO73 (by simp only [Iv]; omega)
   have q128 := RdS.only gI (RdS.ex gI (RdS.grown gI (RdS.ex gI (RdS.ex gI (RdS.ex gI (RdS.ex gI (RdS.ex gI (RdS.ex gI h2 hE15) hE21) hE27) hE35) hE41) hE49) hG63 (fun k hk => by have := hrg64 k hk; simp only [Iv]; omega)) hE70) hO73 (by simp only [Iv]; omega)
   have q131 := OwnL.only gS (OwnL.ex gS hO62 hE70) hO73 (by omega)
   have hol132 : (g_strings_Split p_w.Val ([44] : Str)).length ≤ 2147483648 := ho47.1
   have hol139 : (g_strings_Split p_w.Val ([44] : Str)).length ≤ 2147483648 := ho47.1
   refine CW.drawsI 15 (vgetI ([.bool ((g_strings_CutPrefix p_w.Key (p_t.Name ++ ([47] : Str))).2), .bool (!((g_strings_CutPrefix p_w.Key (p_t.Name ++ ([47] : Str))).2)), .bool (!((g_strings_CutPrefix p_w.Key (p_t.Name ++ ([47] : Str))).2)), .agg #[.string (bs (p_t.Name)), .slice A1 p_t.Cols.length c1, .slice A2 p_t.Idxs.length c2], .agg #[.slice A58 ((([(g_strings_CutPrefix p_w.Key (p_t.Name ++ ([47] : Str))).1] : List Str) ++ (g_strings_Split p_w.Val ([44] : Str))).length) c59], .bool ((i_Table_isRow p_t (⟨(([(g_strings_CutPrefix p_w.Key (p_t.Name ++ ([47] : Str))).1] : List Str) ++ (g_strings_Split p_w.Val ([44] : Str)))⟩ : DRow))), .bool (!(i_Table_isRow p_t (⟨(([(g_strings_CutPrefix p_w.Key (p_t.Name ++ ([47] : Str))).1] : List Str) ++ (g_strings_Split p_w.Val ([44] : Str)))⟩ : DRow))), .bool (!(i_Table_isRow p_t (⟨(([(g_strings_CutPrefix p_w.Key (p_t.Name ++ ([47] : Str))).1] : List Str) ++ (g_strings_Split p_w.Val ([44] : Str)))⟩ : DRow))), .bool (!(i_Table_isRow p_t (⟨(([(g_strings_CutPrefix p_w.Key (p_t.Name ++ ([47] : Str))).1] : List Str) ++ (g_strings_Split p_w.Val ([44] : Str)))⟩ : DRow))), .agg #[.string (bs (p_w.Key)), .string (bs (p_w.Val)), .bool (p_w.Gone)], .agg #[.string (bs (p_t.Name)), .slice A1 p_t.Cols.length c1, .slice A2 p_t.Idxs.length c2], .agg #[.slice A58 ((([(g_strings_CutPrefix p_w.Key (p_t.Name ++ ([47] : Str))).1] : List Str) ++ (g_strings_Split p_w.Val ([44] : Str))).length) c59], .agg #[.string (bs ((i_Table_rowWrite p_t (⟨(([(g_strings_CutPrefix p_w.Key (p_t.Name ++ ([47] : Str))).1] : List Str) ++ (g_strings_Split p_w.Val ([44] : Str)))⟩ : DRow)).Key)), .string (bs ((i_Table_rowWrite p_t (⟨(([(g_strings_CutPrefix p_w.Key (p_t.Name ++ ([47] : Str))).1] : List Str) ++ (g_strings_Split p_w.Val ([44] : Str)))⟩ : DRow)).Val)), .bool ((i_Table_rowWrite p_t (⟨(([(g_strings_CutPrefix p_w.Key (p_t.Name ++ ([47] : Str))).1] : List Str) ++ (g_strings_Split p_w.Val ([44] : Str)))⟩ : DRow)).Gone)], .bool (!((p_w.Key == ((i_Table_rowWrite p_t (⟨(([(g_strings_CutPrefix p_w.Key (p_t.Name ++ ([47] : Str))).1] : List Str) ++ (g_strings_Split p_w.Val ([44] : Str)))⟩ : DRow)).Key)) && ((p_w.Val == ((i_Table_rowWrite p_t (⟨(([(g_strings_CutPrefix p_w.Key (p_t.Name ++ ([47] : Str))).1] : List Str) ++ (g_strings_Split p_w.Val ([44] : Str)))⟩ : DRow)).Val)) && (p_w.Gone == ((i_Table_rowWrite p_t (⟨(([(g_strings_CutPrefix p_w.Key (p_t.Name ++ ([47] : Str))).1] : List Str) ++ (g_strings_Split p_w.Val ([44] : Str)))⟩ : DRow)).Gone))))), .bool (!((p_w.Key == ((i_Table_rowWrite p_t (⟨(([(g_strings_CutPrefix p_w.Key (p_t.Name ++ ([47] : Str))).1] : List Str) ++ (g_strings_Split p_w.Val ([44] : Str)))⟩ : DRow)).Key)) && ((p_w.Val == ((i_Table_rowWrite p_t (⟨(([(g_strings_CutPrefix p_w.Key (p_t.Name ++ ([47] : Str))).1] : List Str) ++ (g_strings_Split p_w.Val ([44] : Str)))⟩ : DRow)).Val)) && (p_w.Gone == ((i_Table_rowWrite p_t (⟨(([(g_strings_CutPrefix p_w.Key (p_t.Name ++ ([47] : Str))).1] : List Str) ++ (g_strings_Split p_w.Val ([44] : Str)))⟩ : DRow)).Gone)))))].map DetI)) Tryz.follows rfl rfl rfl rfl rfl rfl (vgetI_stable (stD _)) ⟨?_, ?_, ?_, ?_, ?_, ?_, ?_, ?_, ?_, ?_, ?_, ?_, ?_, ?_, ?_, trivial⟩ ?_
   ·exact oI rfl fun h => yM rfl (h.old 7 _ rfl rfl) kI
   ·exact oI rfl fun h => yl_not rfl (h.dt 0 25 rfl rfl rfl) kI
   ·exact oI rfl fun h => yM rfl (h.dt 1 26 rfl rfl rfl) kI
   ·exact oW rfl rfl rfl rfl (not_t hb74) fun h => yl_loadN ty26 rfl (h.old 2 _ rfl rfl) ((Box.ex q110 h.ex).cells (n := 3) rfl) rfl kI
   ·exact oW rfl rfl rfl rfl (not_t hb74) fun h => yl_loadN ty38 rfl (h.old 8 _ rfl rfl) ((Box.ex hB72 h.ex).cells (n := 1) rfl) rfl kI
   ·intro L170 w171 hi172
    have hE173 := hi172.ex
    have hE173z := Ex.size hE173
    have hol181 : (g_strings_Split p_w.Val ([44] : Str)).length ≤ 2147483648 := ho47.1
    exact OpR.want rfl rfl (hi172.dt 2 27 rfl rfl rfl) (not_t hb74) (yC en62 rfl (oc (hi172.dt 3 28 rfl rfl rfl) (oc (hi172.dt 4 29 rfl rfl rfl) oz)) (Cal.mono (c_i_Table_isRow p_t (⟨(([(g_strings_CutPrefix p_w.Key (p_t.Name ++ ([47] : Str))).1] : List Str) ++ (g_strings_Split p_w.Val ([44] : Str)))⟩ : DRow) (RdS.up (RdS.ex gS q119 hE173) gS) (RdS.up (RdS.ex gI q128 hE173) gI) (RdS.up (OwnL.rd gS (OwnL.ex gS q131 hE173)) gS) o3 (okL.mk (xs := (([(g_strings_CutPrefix p_w.Key (p_t.Name ++ ([47] : Str))).1] : List Str) ++ (g_strings_Split p_w.Val ([44] : Str)))) (by first | omega | (simp only [lN, toS_length]; omega)) (okE.append ((okL.mk (Nat.le_of_ble_eq_true rfl) (okE.cons ho33 okE.nil))).2 (ho47).2))) fun _ _ h => h))
   ·exact oW rfl rfl rfl rfl (not_t hb74) fun h => yl_not rfl (h.dt 5 30 rfl rfl rfl) kI
   ·exact oI rfl fun h => yl_pick_f rfl (h.dt 2 27 rfl rfl rfl) (not_t hb74) (h.dt 6 31 rfl rfl rfl) kI
   ·exact oI rfl fun h => yM rfl (h.dt 7 32 rfl rfl rfl) kI
   ·intro L202 w203 hi204
    have hE205 := hi204.ex
    have hE205z := Ex.size hE205
    exact OpR.want rfl rfl (hi204.dt 8 33 rfl rfl rfl) (not_t hb104) (Yl.sameI (yl_loadN ty66 rfl (hi204.old 3 _ rfl rfl) ((Box.ex (Box.only (Box.ex (Box.grown (Box.ex q44 hE49) hG63 (fun k hk => by have := hrg64 k hk; omega)) hE70) hO73 (by omega)) hE205).cells (n := 3) rfl) rfl kI))
   ·exact oW rfl rfl rfl rfl (not_t hb104) fun h => yl_loadN ty26 rfl (h.old 2 _ rfl rfl) ((Box.ex q110 h.ex).cells (n := 3) rfl) rfl kI
   ·exact oW rfl rfl rfl rfl (not_t hb104) fun h => yl_loadN ty38 rfl (h.old 8 _ rfl rfl) ((Box.ex hB72 h.ex).cells (n := 1) rfl) rfl kI
   ·intro L223 w224 hi225
    have hE226 := hi225.ex
    have hE226z := Ex.size hE226
    have hol234 : (g_strings_Split p_w.Val ([44] : Str)).length ≤ 2147483648 := ho47.1
    exact OpR.want rfl rfl (hi225.dt 8 33 rfl rfl rfl) (not_t hb104) (yC en86 rfl (oc (hi225.dt 10 35 rfl rfl rfl) (oc (hi225.dt 11 36 rfl rfl rfl) oz)) (Cal.mono (c_i_Table_rowWrite p_t (⟨(([(g_strings_CutPrefix p_w.Key (p_t.Name ++ ([47] : Str))).1] : List Str) ++ (g_strings_Split p_w.Val ([44] : Str)))⟩ : DRow) (RdS.up (RdS.ex gS q119 hE226) gS) (RdS.up (RdS.ex gI q128 hE226) gI) (RdS.up (OwnL.rd gS (OwnL.ex gS q131 hE226)) gS) o3 (okL.mk (xs := (([(g_strings_CutPrefix p_w.Key (p_t.Name ++ ([47] : Str))).1] : List Str) ++ (g_strings_Split p_w.Val ([44] : Str)))) (by first | omega | (simp only [lN, toS_length]; omega)) (okE.append ((okL.mk (Nat.le_of_ble_eq_true rfl) (okE.cons ho33 okE.nil))).2 (ho47).2)) (by first | omega | assumption | (simp only [wI] at *; omega) | (simp only [lN]; omega)) (by first | omega | assumption | (simp only [wI] at *; omega) | (simp only [lN]; omega)) (by first | omega | assumption | (simp only [wI] at *; omega) | (simp only [lN]; omega))) fun _ _ h => h))
   ·exact oW rfl rfl rfl rfl (not_t hb104) fun h => yl_aneq (xs := [.string (bs (p_w.Key)), .string (bs (p_w.Val)), .bool (p_w.Gone)]) (ys := [.string (bs ((i_Table_rowWrite p_t (⟨(([(g_strings_CutPrefix p_w.Key (p_t.Name ++ ([47] : Str))).1] : List Str) ++ (g_strings_Split p_w.Val ([44] : Str)))⟩ : DRow)).Key)), .string (bs ((i_Table_rowWrite p_t (⟨(([(g_strings_CutPrefix p_w.Key (p_t.Name ++ ([47] : Str))).1] : List Str) ++ (g_strings_Split p_w.Val ([44] : Str)))⟩ : DRow)).Val)), .bool ((i_Table_rowWrite p_t (⟨(([(g_strings_CutPrefix p_w.Key (p_t.Name ++ ([47] : Str))).1] : List Str) ++ (g_strings_Split p_w.Val ([44] : Str)))⟩ : DRow)).Gone)]) Tryz.ae66 rfl (h.dt 9 34 rfl rfl rfl) (h.dt 12 37 rfl rfl rfl) kI
   ·exact oI rfl fun h => yl_pick_f rfl (h.dt 8 33 rfl rfl rfl) (not_t hb104) (h.dt 13 38 rfl rfl rfl) kI
   ·intro fl254 fh255 L251 w252 hp253
    have hE256 := hp253.ex
    have hE256z := Ex.size hE256
    refine dn (CW.sub (Sub.cons (d := 4) (hp253.old 4 _ rfl rfl) (Sub.cons (d := 8) (hp253.old 8 _ rfl rfl) (Sub.cons (d := 39) (hp253.nt 14 39 rfl rfl rfl) (Sub.nil _)))) (bcase ((p_w.Key == ((i_Table_rowWrite p_t (⟨(([(g_strings_CutPrefix p_w.Key (p_t.Name ++ ([47] : Str))).1] : List Str) ++ (g_strings_Split p_w.Val ([44] : Str)))⟩ : DRow)).Key)) && ((p_w.Val == ((i_Table_rowWrite p_t (⟨(([(g_strings_CutPrefix p_w.Key (p_t.Name ++ ([47] : Str))).1] : List Str) ++ (g_strings_Split p_w.Val ([44] : Str)))⟩ : DRow)).Val)) && (p_w.Gone == ((i_Table_rowWrite p_t (⟨(([(g_strings_CutPrefix p_w.Key (p_t.Name ++ ([47] : Str))).1] : List Str) ++ (g_strings_Split p_w.Val ([44] : Str)))⟩ : DRow)).Gone)))) (fun hb260 => ?_) (fun hb260 => ?_)))
    ·refine CW.cond_f rfl (not_t hb260) (CW.skip (tn (CW.seq (CW.region (sd rfl (yl_loadN ty38 rfl rfl ((Box.ex hB72 hE256).cells (n := 1) rfl) rfl (SeqR.u rfl rfl (yl_store (vs := [.slice A58 ((([(g_strings_CutPrefix p_w.Key (p_t.Name ++ ([47] : Str))).1] : List Str) ++ (g_strings_Split p_w.Val ([44] : Str))).length) c59]) ty38 rfl rfl rfl rfl rfl rfl (Box.ex (Box.only (Box.ex (Box.grown (Box.ex (Box.ex (Box.ex hB26 hE35) hE41) hE49) hG63 (fun k hk => by have := hrg64 k hk; omega)) hE70) hO73 (by omega)) hE256) (Nat.le_of_ble_eq_true rfl) ?_))))))))
     intro w269 hB270 hO271
     have hB270 : Box w269 b22 38 [.slice A58 ((([(g_strings_CutPrefix p_w.Key (p_t.Name ++ ([47] : Str))).1] : List Str) ++ (g_strings_Split p_w.Val ([44] : Str))).length) c59] := hB270
     have hO271z := hO271.size
     refine sd rfl (yA rfl rfl (dn (CW.ret (rr rfl (.cons ⟨_, rfl, run_loadN ty38 (cs := [.slice A58 ((([(g_strings_CutPrefix p_w.Key (p_t.Name ++ ([47] : Str))).1] : List Str) ++ (g_strings_Split p_w.Val ([44] : Str))).length) c59]) rfl (hB270.cells (n := 1) rfl)⟩ (.cons rfl .nil)) ?_))))
     have hM272 : (i_Table_readRow p_t p_w) = (((⟨(([(g_strings_CutPrefix p_w.Key (p_t.Name ++ ([47] : Str))).1] : List Str) ++ (g_strings_Split p_w.Val ([44] : Str)))⟩ : DRow), true)) := by simp only [i_Table_readRow, hb74, hb104, hb260, cL]
     have hol275 : (g_strings_Split p_w.Val ([44] : Str)).length ≤ 2147483648 := ho47.1
     rw [hM272]
     exact ⟨A58, c59, b36, w60.heap.size, rfl, (OwnL.only gS (OwnL.ex gS q131 hE256) hO271 (by omega)), (okL.mk (xs := (([(g_strings_CutPrefix p_w.Key (p_t.Name ++ ([47] : Str))).1] : List Str) ++ (g_strings_Split p_w.Val ([44] : Str)))) (by first | omega | (simp only [lN, toS_length]; omega)) (okE.append ((okL.mk (Nat.le_of_ble_eq_true rfl) (okE.cons ho33 okE.nil))).2 (ho47).2)), (by omega), (Below.only (Ex.trans (Below.only (Ex.trans (Below.grown (Ex.trans (Ex.trans (Ex.trans (Ex.trans (Ex.trans (Ex.trans (Ex.refl w) hE15) hE21) hE27) hE35) hE41) hE49) hG63 (by omega) (fun k hk => by have := hrg64 k hk; omega)) hE70) hO73 (by omega)) hE256) hO271 (by omega))⟩
    ·refine CW.cond_t rfl (not_f hb260) (CW.seq (CW.region (sd rfl (yl_build (cs := [.slice none 0 0]) rfl opvs_nil (by kernel_rfl) (SeqR.u rfl rfl (yl_store (vs := [.slice none 0 0]) ty38 rfl rfl rfl rfl rfl rfl (Box.ex (Box.only (Box.ex (Box.grown (Box.ex (Box.ex (Box.ex hB26 hE35) hE41) hE49) hG63 (fun k hk => by have := hrg64 k hk; omega)) hE70) hO73 (by omega)) hE256) (Nat.le_of_ble_eq_true rfl) ?_))))))
     intro w294 hB295 hO296
     have hB295 : Box w294 b22 38 [.slice none 0 0] := hB295
     have hO296z := hO296.size
     refine sd rfl (yA rfl rfl (dn (CW.ret (tr (rr rfl (.cons ⟨_, rfl, run_loadN ty38 (cs := [.slice none 0 0]) rfl (hB295.cells (n := 1) rfl)⟩ (.cons rfl .nil)) ?_)))))
     have hM297 : (i_Table_readRow p_t p_w) = (((⟨[]⟩ : DRow), false)) := by simp only [i_Table_readRow, hb74, hb104, hb260, cL]
     rw [hM297]
     exact ⟨none, 0, w294.heap.size, w294.heap.size, rfl, (OwnL.nil _ _ _ _ _ _), (okL.nil _), (by omega), (Below.only (Ex.trans (Below.only (Ex.trans (Below.grown (Ex.trans (Ex.trans (Ex.trans (Ex.trans (Ex.trans (Ex.trans (Ex.refl w) hE15) hE21) hE27) hE35) hE41) hE49) hG63 (by omega) (fun k hk => by have := hrg64 k hk; omega)) hE70) hO73 (by omega)) hE256) hO296 (by omega))⟩
  ·have hol336 : (g_strings_Split p_w.Val ([44] : Str)).length ≤ 2147483648 := ho47.1
   refine CW.drawsI 15 (vgetI ([.bool ((g_strings_CutPrefix p_w.Key (p_t.Name ++ ([47] : Str))).2), .bool (!((g_strings_CutPrefix p_w.Key (p_t.Name ++ ([47] : Str))).2)), .bool (!((g_strings_CutPrefix p_w.Key (p_t.Name ++ ([47] : Str))).2)), .agg #[.string (bs (p_t.Name)), .slice A1 p_t.Cols.length c1, .slice A2 p_t.Idxs.length c2], .agg #[.slice A58 ((([(g_strings_CutPrefix p_w.Key (p_t.Name ++ ([47] : Str))).1] : List Str) ++ (g_strings_Split p_w.Val ([44] : Str))).length) c59], .bool ((i_Table_isRow p_t (⟨(([(g_strings_CutPrefix p_w.Key (p_t.Name ++ ([47] : Str))).1] : List Str) ++ (g_strings_Split p_w.Val ([44] : Str)))⟩ : DRow))), .bool (!(i_Table_isRow p_t (⟨(([(g_strings_CutPrefix p_w.Key (p_t.Name ++ ([47] : Str))).1] : List Str) ++ (g_strings_Split p_w.Val ([44] : Str)))⟩ : DRow))), .bool (!(i_Table_isRow p_t (⟨(([(g_strings_CutPrefix p_w.Key (p_t.Name ++ ([47] : Str))).1] : List Str) ++ (g_strings_Split p_w.Val ([44] : Str)))⟩ : DRow))), .bool (!(i_Table_isRow p_t (⟨(([(g_strings_CutPrefix p_w.Key (p_t.Name ++ ([47] : Str))).1] : List Str) ++ (g_strings_Split p_w.Val ([44] : Str)))⟩ : DRow))), undef, undef, undef, undef, undef, .bool (true)].map DetI)) Tryz.follows rfl rfl rfl rfl rfl rfl (vgetI_stable (stD _)) ⟨?_, ?_, ?_, ?_, ?_, ?_, ?_, ?_, ?_, ?_, ?_, ?_, ?_, ?_, ?_, trivial⟩ ?_
   ·exact oI rfl fun h => yM rfl (h.old 7 _ rfl rfl) kI
   ·exact oI rfl fun h => yl_not rfl (h.dt 0 25 rfl rfl rfl) kI
   ·exact oI rfl fun h => yM rfl (h.dt 1 26 rfl rfl rfl) kI
   ·intro L353 w354 hi355
    have hE356 := hi355.ex
    have hE356z := Ex.size hE356
    exact OpR.want rfl rfl (hi355.dt 2 27 rfl rfl rfl) (not_t hb74) (Yl.sameI (yl_loadN ty26 rfl (hi355.old 2 _ rfl rfl) ((Box.ex (Box.only (Box.ex (Box.grown (Box.ex (Box.ex (Box.ex q30 hE35) hE41) hE49) hG63 (fun k hk => by have := hrg64 k hk; omega)) hE70) hO73 (by omega)) hE356).cells (n := 3) rfl) rfl kI))
   ·exact oW rfl rfl rfl rfl (not_t hb74) fun h => yl_loadN ty38 rfl (h.old 8 _ rfl rfl) ((Box.ex hB72 h.ex).cells (n := 1) rfl) rfl kI
   ·intro L367 w368 hi369
    have hE370 := hi369.ex
    have hE370z := Ex.size hE370
    have hol378 : (g_strings_Split p_w.Val ([44] : Str)).length ≤ 2147483648 := ho47.1
    exact OpR.want rfl rfl (hi369.dt 2 27 rfl rfl rfl) (not_t hb74) (yC en62 rfl (oc (hi369.dt 3 28 rfl rfl rfl) (oc (hi369.dt 4 29 rfl rfl rfl) oz)) (Cal.mono (c_i_Table_isRow p_t (⟨(([(g_strings_CutPrefix p_w.Key (p_t.Name ++ ([47] : Str))).1] : List Str) ++ (g_strings_Split p_w.Val ([44] : Str)))⟩ : DRow) (RdS.up (RdS.ex gS (RdS.only gS (RdS.ex gS (RdS.grown gS (RdS.ex gS (RdS.ex gS (RdS.ex gS (RdS.ex gS (RdS.ex gS (RdS.ex gS h1 hE15) hE21) hE27) hE35) hE41) hE49) hG63 (fun k hk => by have := hrg64 k hk; simp only [Iv]; omega)) hE70) hO73 (by simp only [Iv]; omega)) hE370) gS) (RdS.up (RdS.ex gI (RdS.only gI (RdS.ex gI (RdS.grown gI (RdS.ex gI (RdS.ex gI (RdS.ex gI (RdS.ex gI (RdS.ex gI (RdS.ex gI h2 hE15) hE21) hE27) hE35) hE41) hE49) hG63 (fun k hk => by have := hrg64 k hk; simp only [Iv]; omega)) hE70) hO73 (by simp only [Iv]; omega)) hE370) gI) (RdS.up (OwnL.rd gS (OwnL.ex gS (OwnL.only gS (OwnL.ex gS hO62 hE70) hO73 (by omega)) hE370)) gS) o3 (okL.mk (xs := (([(g_strings_CutPrefix p_w.Key (p_t.Name ++ ([47] : Str))).1] : List Str) ++ (g_strings_Split p_w.Val ([44] : Str)))) (by first | omega | (simp only [lN, toS_length]; omega)) (okE.append ((okL.mk (Nat.le_of_ble_eq_true rfl) (okE.cons ho33 okE.nil))).2 (ho47).2))) fun _ _ h => h))
   ·exact oW rfl rfl rfl rfl (not_t hb74) fun h => yl_not rfl (h.dt 5 30 rfl rfl rfl) kI
   ·exact oI rfl fun h => yl_pick_f rfl (h.dt 2 27 rfl rfl rfl) (not_t hb74) (h.dt 6 31 rfl rfl rfl) kI
   ·exact oI rfl fun h => yM rfl (h.dt 7 32 rfl rfl rfl) kI
   ·exact oS rfl rfl rfl rfl rfl (not_f hb104)
   ·exact oS rfl rfl rfl rfl rfl (not_f hb104)
   ·exact oS rfl rfl rfl rfl rfl (not_f hb104)
   ·exact oS rfl rfl rfl rfl rfl (not_f hb104)
   ·exact oS rfl rfl rfl rfl rfl (not_f hb104)
   ·exact oI rfl fun h => yl_pick_t rfl (h.dt 8 33 rfl rfl rfl) (not_f hb104) rfl kI
   ·intro fl433 fh434 L430 w431 hp432
    have hE435 := hp432.ex
    have hE435z := Ex.size hE435
    refine dn (CW.sub (Sub.cons (d := 4) (hp432.old 4 _ rfl rfl) (Sub.cons (d := 8) (hp432.old 8 _ rfl rfl) (Sub.cons (d := 39) (hp432.nt 14 39 rfl rfl rfl) (Sub.nil _)))) (CW.cond_t rfl rfl (CW.seq (CW.region (sd rfl (yl_build (cs := [.slice none 0 0]) rfl opvs_nil (by kernel_rfl) (SeqR.u rfl rfl (yl_store (vs := [.slice none 0 0]) ty38 rfl rfl rfl rfl rfl rfl (Box.ex (Box.only (Box.ex (Box.grown (Box.ex (Box.ex (Box.ex hB26 hE35) hE41) hE49) hG63 (fun k hk => by have := hrg64 k hk; omega)) hE70) hO73 (by omega)) hE435) (Nat.le_of_ble_eq_true rfl) ?_))))))))
    intro w446 hB447 hO448
    have hB447 : Box w446 b22 38 [.slice none 0 0] := hB447
    have hO448z := hO448.size
    refine sd rfl (yA rfl rfl (dn (CW.ret (tr (rr rfl (.cons ⟨_, rfl, run_loadN ty38 (cs := [.slice none 0 0]) rfl (hB447.cells (n := 1) rfl)⟩ (.cons rfl .nil)) ?_)))))
    have hM449 : (i_Table_readRow p_t p_w) = (((⟨[]⟩ : DRow), false)) := by simp only [i_Table_readRow, hb74, hb104, cL]
    rw [hM449]
    exact ⟨none, 0, w446.heap.size, w446.heap.size, rfl, (OwnL.nil _ _ _ _ _ _), (okL.nil _), (by omega), (Below.only (Ex.trans (Below.only (Ex.trans (Below.grown (Ex.trans (Ex.trans (Ex.trans (Ex.trans (Ex.trans (Ex.trans (Ex.refl w) hE15) hE21) hE27) hE35) hE41) hE49) hG63 (by omega) (fun k hk => by have := hrg64 k hk; omega)) hE70) hO73 (by omega)) hE435) hO448 (by omega))⟩
 ·refine CW.drawsI 15 (vgetI ([.bool ((g_strings_CutPrefix p_w.Key (p_t.Name ++ ([47] : Str))).2), .bool (!((g_strings_CutPrefix p_w.Key (p_t.Name ++ ([47] : Str))).2)), .bool (!((g_strings_CutPrefix p_w.Key (p_t.Name ++ ([47] : Str))).2)), undef, undef, undef, undef, .bool (true), .bool (true), undef, undef, undef, undef, undef, .bool (true)].map DetI)) Tryz.follows rfl rfl rfl rfl rfl rfl (vgetI_stable (stD _)) ⟨?_, ?_, ?_, ?_, ?_, ?_, ?_, ?_, ?_, ?_, ?_, ?_, ?_, ?_, ?_, trivial⟩ ?_
  ·exact oI rfl fun h => yM rfl (h.old 7 _ rfl rfl) kI
  ·exact oI rfl fun h => yl_not rfl (h.dt 0 25 rfl rfl rfl) kI
  ·exact oI rfl fun h => yM rfl (h.dt 1 26 rfl rfl rfl) kI
  ·exact oS rfl rfl rfl rfl rfl (not_f hb74)
  ·exact oS rfl rfl rfl rfl rfl (not_f hb74)
  ·exact oS rfl rfl rfl rfl rfl (not_f hb74)
  ·exact oS rfl rfl rfl rfl rfl (not_f hb74)
  ·exact oI rfl fun h => yl_pick_t rfl (h.dt 2 27 rfl rfl rfl) (not_f hb74) rfl kI
  ·exact oI rfl fun h => yM rfl (h.dt 7 32 rfl rfl rfl) kI
  ·exact oS rfl rfl rfl rfl rfl rfl
  ·exact oS rfl rfl rfl rfl rfl rfl
  ·exact oS rfl rfl rfl rfl rfl rfl
  ·exact oS rfl rfl rfl rfl rfl rfl
  ·exact oS rfl rfl rfl rfl rfl rfl
  ·exact oI rfl fun h => yl_pick_t rfl (h.dt 8 33 rfl rfl rfl) rfl rfl kI
  ·intro fl541 fh542 L538 w539 hp540
   have hE543 := hp540.ex
   have hE543z := Ex.size hE543
   refine dn (CW.sub (Sub.cons (d := 4) (hp540.old 4 _ rfl rfl) (Sub.cons (d := 8) (hp540.old 8 _ rfl rfl) (Sub.cons (d := 39) (hp540.nt 14 39 rfl rfl rfl) (Sub.nil _)))) (CW.cond_t rfl rfl (CW.seq (CW.region (sd rfl (yl_build (cs := [.slice none 0 0]) rfl opvs_nil (by kernel_rfl) (SeqR.u rfl rfl (yl_store (vs := [.slice none 0 0]) ty38 rfl rfl rfl rfl rfl rfl (Box.ex (Box.only (Box.ex (Box.grown (Box.ex (Box.ex (Box.ex hB26 hE35) hE41) hE49) hG63 (fun k hk => by have := hrg64 k hk; omega)) hE70) hO73 (by omega)) hE543) (Nat.le_of_ble_eq_true rfl) ?_))))))))
   intro w554 hB555 hO556
   have hB555 : Box w554 b22 38 [.slice none 0 0] := hB555
   have hO556z := hO556.size
   refine sd rfl (yA rfl rfl (dn (CW.ret (tr (rr rfl (.cons ⟨_, rfl, run_loadN ty38 (cs := [.slice none 0 0]) rfl (hB555.cells (n := 1) rfl)⟩ (.cons rfl .nil)) ?_)))))
   have hM557 : (i_Table_readRow p_t p_w) = (((⟨[]⟩ : DRow), false)) := by simp only [i_Table_readRow, hb74, cL]
   rw [hM557]
   exact ⟨none, 0, w554.heap.size, w554.heap.size, rfl, (OwnL.nil _ _ _ _ _ _), (okL.nil _), (by omega), (Below.only (Ex.trans (Below.only (Ex.trans (Below.grown (Ex.trans (Ex.trans (Ex.trans (Ex.trans (Ex.trans (Ex.trans (Ex.refl w) hE15) hE21) hE27) hE35) hE41) hE49) hG63 (by omega) (fun k hk => by have := hrg64 k hk; omega)) hE70) hO73 (by omega)) hE543) hO556 (by omega))⟩
theorem c_i_Table_rowsIn {A1 : Option Addr} {c1 : Nat} {A2 : Option Addr} {c2 : Nat} {A4 : Option Addr} {c4 : Nat} {w : World} (p_t : DTable) (ps : List DWrite) (h1 : RdS w (Iv 0 w.heap.size) (RF e_Str) 1 A1 p_t.Cols.length c1 p_t.Cols) (h2 : RdS w (Iv 0 w.heap.size) (RF e_Idx) 3 A2 p_t.Idxs.length c2 p_t.Idxs) (h4 : RdS w (Iv 0 w.heap.size) (RF e_Write) 3 A4 ps.length c4 ps) (o3 : ok_Table p_t) (o5 : (okL ok_Write) ps) (pre0 : s_GoodTable p_t = true) : Cal Tryz.prog 32 #[.agg #[.string (bs (p_t.Name)), .slice A1 p_t.Cols.length c1, .slice A2 p_t.Idxs.length c2], .slice A4 ps.length c4] w fun v w' => ∃ A_1 c_1 lo_1 hi_1, v = .slice A_1 ((i_Table_rowsIn p_t ps).length) c_1 ∧ OwnD w' lo_1 hi_1 38 1 RO_Row A_1 ((i_Table_rowsIn p_t ps).length) c_1 (i_Table_rowsIn p_t ps) ∧ (okL ok_Row) (i_Table_rowsIn p_t ps) ∧ (w.heap.size ≤ lo_1 ∧ lo_1 ≤ hi_1 ∧ hi_1 ≤ w'.heap.size) ∧ Ex w w' := by
 have hol6 : p_t.Name.length ≤ 1073741824 := o3.1
 have hol7 := o3.2.1.1
 have hol8 := o3.2.2.1
 have hol9 := o5.1
 refine Cal.of func32 rfl ntmps32 rfl (CW.seq (CW.region (sd rfl (yl_box rfl rfl rfl ?_))))
 intro b10 w11 hs12 hz13 hB14 hE15
 refine sd rfl (yA rfl rfl (dn (CW.seq (CW.region (sd rfl (yl_buildSlice (cs := []) un32 ty38 (by decide) rfl opvs_nil (by kernel_rfl) ?_))))))
 intro b16 w17 hs18 hz19 hB20 hE21
 have hO22 : OwnL w17 b16 (b16 + 1) 38 1 R_Row (some ⟨b16, 0, none⟩) 0 0 ([] : List DRow) := OwnL.of_box (S := fun _ => False) hB20 (Nat.le_refl _) (Nat.lt_succ_self _) EncL.nil (Nat.le_of_ble_eq_true rfl) (fun h => h) (fun _ h => False.elim h)
 refine sd rfl (yA rfl rfl (dn (CW.seq (CW.seq (CW.region (sd rfl (yM rfl rfl (sd rfl (yL un27 rfl rfl (sd rfl (yM rfl rfl ?_)))))))))))
 refine dn (CW.block (CW.loop (fun m109 L110 w111 => ∃ (k23 : Nat) (x105 : List DRow) (A106 : Option Addr) (c107 : Nat) (u108 : Nat), m109 = ps.length - k23 ∧ k23 ≤ ps.length ∧ w17.heap.size ≤ w111.heap.size ∧ lkp L110 2 = some (.pointer (some ⟨b10, 0, none⟩)) ∧ lkp L110 5 = some (.slice A106 x105.length c107) ∧ lkp L110 11 = some (.slice A4 ps.length c4) ∧ lkp L110 12 = some (.int .i64 ((ps.length : Int))) ∧ lkp L110 13 = some (.int .i64 ((k23 : Int))) ∧ Box w111 b10 26 [.string (bs (p_t.Name)), .slice A1 p_t.Cols.length c1, .slice A2 p_t.Idxs.length c2] ∧ RdS w111 (Iv 0 w.heap.size) (RF e_Str) 1 A1 p_t.Cols.length c1 p_t.Cols ∧ RdS w111 (Iv 0 w.heap.size) (RF e_Idx) 3 A2 p_t.Idxs.length c2 p_t.Idxs ∧ OwnD w111 b16 u108 38 1 RO_Row A106 x105.length c107 x105 ∧ RdS w111 (Iv 0 w.heap.size) (RF e_Write) 3 A4 ps.length c4 ps ∧ Ex w w111 ∧ (b16 ≤ u108 ∧ u108 ≤ w111.heap.size) ∧ x105.length ≤ 0 + 1 * (k23 - 0) ∧ (∀ y ∈ x105, ok_Row y) ∧ loopM (B_i_Table_rowsIn_0 p_t ps) (ps.length - k23) k23 (x105) = loopM (B_i_Table_rowsIn_0 p_t ps) (ps.length - 0) 0 (([] : List DRow))) (ps.length - 0) ?_ ?_))
 ·exact ⟨0, ([] : List DRow), (some ⟨b16, 0, none⟩), 0, (b16 + 1), rfl, (by omega), Nat.le_refl _, rfl, rfl, rfl, rfl, rfl, (Box.ex hB14 hE21), (RdS.ex gS (RdS.ex gS h1 hE15) hE21), (RdS.ex gI (RdS.ex gI h2 hE15) hE21), (OwnD.empty w17 b16 (b16 + 1) 38 1 RO_Row (some ⟨b16, 0, none⟩)), (RdS.ex gW (RdS.ex gW h4 hE15) hE21), (Ex.trans (Ex.trans (Ex.refl w) hE15) hE21), (by omega), (by first | (simp; done) | (first | omega | (simp only [lN, toS_length]; omega))), okE.nil, rfl⟩
 ·rintro m121 L122 w123 ⟨k23, x105, A106, c107, u108, rfl, hk124, hsz126, hl127, hl128, hl129, hl130, hl131, hf132, hf133, hf134, hf135, hf136, hf137, hu138, hln139, hok140, hI125⟩
  refine CW.sub (Sub.cons hl127 (Sub.cons hl128 (Sub.cons hl129 (Sub.cons hl130 (Sub.cons hl131 (Sub.nil _)))))) ?_
  have hf132z := Box.lt hf132
  have hf137z := Ex.size hf137
  have hbg141 := RdS.big hf136
  rcases Nat.lt_or_ge k23 ps.length with hlt142 | hlt142
  ·refine CW.seq (CW.region (sd rfl (yl_lss rfl rfl rfl (dn (CW.seq (CW.cond_t rfl (lt_t hlt142) (CW.skip (tn ?_))))))))
   refine CW.seq (CW.block (CW.seq (CW.region ?_)))
   obtain ⟨eb143, eo143, _, eA143, _, ebl143, _, eR143, eC143⟩ := RdS.aD hf136 d_Write (i := k23)
   obtain rfl := eR143
   have eC143 : Cells w123 eb143 (eo143 + k23 * 3) [.string (bs ((ps.getD k23 d_Write).Key)), .string (bs ((ps.getD k23 d_Write).Val)), .bool ((ps.getD k23 d_Write).Gone)] := eC143
   refine sd rfl (yl_ixN un27 ty66 rfl rfl rfl eA143 (sd rfl (yl_loadN ty66 rfl rfl eC143 rfl (sd rfl (yB ty66 (cs := [.string (bs (([] : Str))), .string (bs (([] : Str))), .bool (false)]) rfl rfl ?_)))))
   intro b144 w145 hs146 hz147 hB148 hE149
   refine SeqR.u rfl rfl (yl_store (vs := [.string (bs ((ps.getD k23 d_Write).Key)), .string (bs ((ps.getD k23 d_Write).Val)), .bool ((ps.getD k23 d_Write).Gone)]) ty66 rfl rfl rfl rfl rfl rfl hB148 (Nat.le_of_ble_eq_true rfl) ?_)
   intro w150 hB151 hO152
   have hB151 : Box w150 b144 66 [.string (bs ((ps.getD k23 d_Write).Key)), .string (bs ((ps.getD k23 d_Write).Val)), .bool ((ps.getD k23 d_Write).Gone)] := hB151
   have hO152z := hO152.size
   refine dn (CW.seq (CW.region ?_))
   have q154 := Box.only (Box.ex hf132 hE149) hO152 (by omega)
   refine sd rfl (yl_loadN ty26 rfl rfl (q154.cells (n := 3) rfl) rfl (sd rfl (yl_loadN ty66 rfl rfl (hB151.cells (n := 3) rfl) rfl ?_)))
   have q156 := RdS.only gS (RdS.ex gS hf133 hE149) hO152 (by simp only [Iv]; omega)
   have q158 := RdS.only gI (RdS.ex gI hf134 hE149) hO152 (by simp only [Iv]; omega)
   refine sd rfl (yC en56 rfl (oc rfl (oc rfl oz)) (Cal.mono (c_i_Table_readRow p_t (ps.getD k23 d_Write) (RdS.up q156 gS) (RdS.up q158 gI) o3 (okL.getD o5 ok_d_Write _) (by first | omega | assumption | (simp only [wI] at *; omega))) ?_))
   rintro v162 w159 ⟨A160, c160, lo160, hi160, rfl, h160, ho161, hrn164, hE163⟩
   have hE163z := Ex.size hE163
   refine sd rfl (yM rfl rfl (sd rfl (yl_extract rfl rfl rfl (sd rfl (yl_extract rfl rfl rfl (sd rfl (yB ty38 (cs := [.slice none 0 0]) rfl rfl ?_)))))))
   intro b165 w166 hs167 hz168 hB169 hE170
   refine SeqR.u rfl rfl (yl_store (vs := [.slice A160 (((i_Table_readRow p_t (ps.getD k23 d_Write)).1.Vals).length) c160]) ty38 rfl rfl rfl rfl rfl rfl hB169 (Nat.le_of_ble_eq_true rfl) ?_)
   intro w171 hB172 hO173
   have hB172 : Box w171 b165 38 [.slice A160 (((i_Table_readRow p_t (ps.getD k23 d_Write)).1.Vals).length) c160] := hB172
   have hO173z := hO173.size
   refine sd rfl (yA rfl rfl (dn (CW.seq (CW.region (sd rfl (yM rfl rfl (dn (bcase ((i_Table_readRow p_t (ps.getD k23 d_Write)).2) (fun hb174 => ?_) (fun hb174 => ?_)))))))))
   ·refine CW.cond_t rfl hb174 (CW.region (sd rfl (yM rfl rfl (sd rfl (yl_loadN ty38 rfl rfl (hB172.cells (n := 1) rfl) rfl (sd rfl (yl_buildSlice (cs := [.slice A160 (((i_Table_readRow p_t (ps.getD k23 d_Write)).1.Vals).length) c160]) un32 ty38 (by decide) rfl (oc rfl oz) (by kernel_rfl) ?_)))))))
    intro b175 w176 hs177 hz178 hB179 hE180
    have hO181 : OwnD w176 w150.heap.size (b175 + 1) 38 1 RO_Row (some ⟨b175, 0, none⟩) 1 1 ([(i_Table_readRow p_t (ps.getD k23 d_Write)).1] : List DRow) := OwnD.of_box (b := b175) (xs := ([(i_Table_readRow p_t (ps.getD k23 d_Write)).1] : List DRow)) (cells := [[.slice A160 (((i_Table_readRow p_t (ps.getD k23 d_Write)).1.Vals).length) c160]]) (by rw [List.flatten_singleton]; exact hB179) (by omega) (Nat.lt_succ_self _) (.cons (l := w150.heap.size) (h := b175) (Nat.le_refl _) (by omega) rfl (fun k hk => by cases hk; exact .inr (Nat.le_refl _)) (mkO_Row (l := w150.heap.size) (h := b175) (OwnL.ex gS (OwnL.only gS (OwnL.ex gS h160 hE170) hO173 (by omega)) hE180) (by omega)) (.nil (Nat.le_succ _))) (Nat.le_of_ble_eq_true rfl)
    refine sd rfl (yl_appendD (xs := x105) (ys := ([(i_Table_readRow p_t (ps.getD k23 d_Write)).1] : List DRow)) goodO_Row un32 ty38 rfl (Nat.le_of_ble_eq_true rfl) rfl rfl rfl (OwnD.ex goodO_Row (OwnD.only goodO_Row (OwnD.ex goodO_Row (OwnD.ex goodO_Row (OwnD.only goodO_Row (OwnD.ex goodO_Row hf135 hE149) hO152 (by omega)) hE163) hE170) hO173 (by omega)) hE180) hO181 (by first | omega | (simp only [lN, toS_length]; omega)) (by first | omega | (simp only [lN, toS_length]; omega)) (by omega) (by omega) (by omega) (by omega) ?_)
    intro A190 c191 w192 row193 hO194 hG195 hrg196
    have hG195z := hG195.size
    refine sd rfl (yA rfl rfl (SeqR.done (bn (tn (CW.region (sd rfl (yl_inc rfl rfl rfl (by omega) (sd rfl (yM rfl rfl (dn ?_))))))))))
    have hB197 : B_i_Table_rowsIn_0 p_t ps k23 (x105) = .cont ((x105 ++ ([(i_Table_readRow p_t (ps.getD k23 d_Write)).1] : List DRow))) := by simp only [B_i_Table_rowsIn_0, hb174, cL]
    exact ⟨ps.length - (k23 + 1), by omega, k23 + 1, (x105 ++ ([(i_Table_readRow p_t (ps.getD k23 d_Write)).1] : List DRow)), A190, c191, w192.heap.size, rfl, hlt142, (by omega), rfl, rfl, rfl, rfl, rfl, (Box.grown (Box.ex (Box.only (Box.ex (Box.ex q154 hE163) hE170) hO173 (by omega)) hE180) hG195 (fun k hk => by have := hrg196 k hk; omega)), (RdS.grown gS (RdS.ex gS (RdS.only gS (RdS.ex gS (RdS.ex gS q156 hE163) hE170) hO173 (by simp only [Iv]; omega)) hE180) hG195 (fun k hk => by have := hrg196 k hk; simp only [Iv]; omega)), (RdS.grown gI (RdS.ex gI (RdS.only gI (RdS.ex gI (RdS.ex gI q158 hE163) hE170) hO173 (by simp only [Iv]; omega)) hE180) hG195 (fun k hk => by have := hrg196 k hk; simp only [Iv]; omega)), hO194, (RdS.grown gW (RdS.ex gW (RdS.only gW (RdS.ex gW (RdS.ex gW (RdS.only gW (RdS.ex gW hf136 hE149) hO152 (by simp only [Iv]; omega)) hE163) hE170) hO173 (by simp only [Iv]; omega)) hE180) hG195 (fun k hk => by have := hrg196 k hk; simp only [Iv]; omega)), (Below.grown (Ex.trans (Below.only (Ex.trans (Ex.trans (Below.only (Ex.trans hf137 hE149) hO152 (by omega)) hE163) hE170) hO173 (by omega)) hE180) hG195 (by omega) (fun k hk => by have := hrg196 k hk; omega)), (by omega), (by first | omega | (simp only [lN, toS_length]; omega)), (okE.append hok140 ((okL.mk (Nat.le_of_ble_eq_true rfl) (okE.cons (show ok_Row ((i_Table_readRow p_t (ps.getD k23 d_Write)).1) from ho161) okE.nil))).2), (loopM.cont hlt142 hB197).symm.trans hI125⟩
   ·refine CW.cond_f rfl hb174 (CW.skip (bn (tn (CW.region (sd rfl (yl_inc rfl rfl rfl (by omega) (sd rfl (yM rfl rfl (dn ?_)))))))))
    have hB227 : B_i_Table_rowsIn_0 p_t ps k23 (x105) = .cont (x105) := by simp only [B_i_Table_rowsIn_0, hb174, cL]
    exact ⟨ps.length - (k23 + 1), by omega, k23 + 1, x105, A106, c107, u108, rfl, hlt142, (by omega), rfl, rfl, rfl, rfl, rfl, (Box.only (Box.ex (Box.ex q154 hE163) hE170) hO173 (by omega)), (RdS.only gS (RdS.ex gS (RdS.ex gS q156 hE163) hE170) hO173 (by simp only [Iv]; omega)), (RdS.only gI (RdS.ex gI (RdS.ex gI q158 hE163) hE170) hO173 (by simp only [Iv]; omega)), (OwnD.only goodO_Row (OwnD.ex goodO_Row (OwnD.ex goodO_Row (OwnD.only goodO_Row (OwnD.ex goodO_Row hf135 hE149) hO152 (by omega)) hE163) hE170) hO173 (by omega)), (RdS.only gW (RdS.ex gW (RdS.ex gW (RdS.only gW (RdS.ex gW hf136 hE149) hO152 (by simp only [Iv]; omega)) hE163) hE170) hO173 (by simp only [Iv]; omega)), (Below.only (Ex.trans (Ex.trans (Below.only (Ex.trans hf137 hE149) hO152 (by omega)) hE163) hE170) hO173 (by omega)), (by omega), (by first | omega | (simp only [lN, toS_length]; omega)), hok140, (loopM.cont hlt142 hB227).symm.trans hI125⟩
  ·refine CW.seq (CW.region (sd rfl (yl_lss rfl rfl rfl (dn (CW.seq (CW.cond_f rfl (lt_f hlt142) (CW.exit (tx ?_))))))))
   refine tx ?_
   have hL252 : loopM (B_i_Table_rowsIn_0 p_t ps) (ps.length - 0) 0 (([] : List DRow)) = .done (x105) := hI125.symm.trans (loopM.stop hlt142)
   refine bx (tn (CW.seq (CW.region (sd rfl (yM rfl rfl (sd rfl (yA rfl rfl (dn (CW.ret ?_)))))))))
   refine rr rfl (.cons rfl .nil) ?_
   have hM253 : (i_Table_rowsIn p_t ps) = (x105) := by simp only [i_Table_rowsIn, hL252, cL]
   rw [hM253]
   exact ⟨A106, c107, b16, u108, rfl, hf135, (okL.mk (xs := x105) (by first | omega | (simp only [lN, toS_length]; omega)) hok140), (by omega), hf137⟩
theorem c_i_Table_idx {A1 : Option Addr} {c1 : Nat} {A2 : Option Addr} {c2 : Nat} {w : World} (p_t : DTable) (pn : Str) (h1 : RdS w (Iv 0 w.heap.size) (RF e_Str) 1 A1 p_t.Cols.length c1 p_t.Cols) (h2 : RdS w (Iv 0 w.heap.size) (RF e_Idx) 3 A2 p_t.Idxs.length c2 p_t.Idxs) (o3 : ok_Table p_t) (o4 : okS pn) (pre0 : (0 ≤ i_Table_findIdx p_t pn ∧ i_Table_findIdx p_t pn < (p_t.Idxs.length : Int))) : Cal Tryz.prog 65 #[.agg #[.string (bs (p_t.Name)), .slice A1 p_t.Cols.length c1, .slice A2 p_t.Idxs.length c2], .string (bs (pn))] w fun v w' => v = .agg #[.string (bs ((i_Table_idx p_t pn).Name)), .int .i64 ((i_Table_idx p_t pn).Col), .int .i64 ((i_Table_idx p_t pn).Stage)] ∧ ok_Idx (i_Table_idx p_t pn) ∧ Ex w w' := by
 have hol5 : p_t.Name.length ≤ 1073741824 := o3.1
 have hol6 := o3.2.1.1
 have hol7 := o3.2.2.1
 have hol8 : pn.length ≤ 1073741824 := o4
 refine Cal.of func65 rfl ntmps65 rfl (CW.seq (CW.region (sd rfl (yl_box rfl rfl rfl ?_))))
 intro b9 w10 hs11 hz12 hB13 hE14
 refine sd rfl (yB ty64 (cs := [.string (bs (([] : Str))), .int .i64 (0), .int .i64 (0)]) rfl rfl ?_)
 intro b15 w16 hs17 hz18 hB19 hE20
 refine dn (CW.seq ?_)
 have q21 := Box.ex hB13 hE20
 have q25 := RdS.ex gI (RdS.ex gI h2 hE14) hE20
 have hrf27 := rf_i_findIdx p_t pn
 refine CW.drawsI 5 (vgetI ([.pointer (some ⟨b9, 0 + 2, none⟩), .slice A2 p_t.Idxs.length c2, .agg #[.string (bs (p_t.Name)), .slice A1 p_t.Cols.length c1, .slice A2 p_t.Idxs.length c2], .string (bs (pn)), .int .i64 ((i_Table_findIdx p_t pn))].map DetI)) Tryz.follows rfl rfl rfl rfl rfl rfl (vgetI_stable (stD _)) ⟨?_, ?_, ?_, ?_, ?_, trivial⟩ ?_
 ·exact oI rfl fun h => yl_fieldAddr fd26_2 rfl (h.old 2 _ rfl rfl) kI
 ·exact oI rfl fun h => yl_load1 ty24 rfl (h.dt 0 5 rfl rfl rfl) (((Box.ex q21 h.ex).cell 2).trans rfl) kI
 ·exact oI rfl fun h => yl_loadN ty26 rfl (h.old 2 _ rfl rfl) ((Box.ex q21 h.ex).cells (n := 3) rfl) rfl kI
 ·exact oI rfl fun h => yM rfl (h.old 1 _ rfl rfl) kI
 ·intro L50 w51 hi52
  have hE53 := hi52.ex
  exact OpR.op' rfl (yC en63 rfl (oc (hi52.dt 2 7 rfl rfl rfl) (oc (hi52.dt 3 8 rfl rfl rfl) oz)) (Cal.mono (c_i_Table_findIdx p_t pn (RdS.up (RdS.ex gS (RdS.ex gS (RdS.ex gS h1 hE14) hE20) hE53) gS) (RdS.up (RdS.ex gI q25 hE53) gI) o3 o4) fun _ _ h => h))
 ·intro fl64 fh65 L61 w62 hp63
  have hE66 := hp63.ex
  have hE66z := Ex.size hE66
  have hx67 := hp63.old 4 _ rfl rfl
  obtain ⟨eb71, eo71, _, eA71, _, ebl71, _, eR71, eC71⟩ := RdS.atD (RdS.ex gI q25 hE66) d_Idx (i := ((i_Table_findIdx p_t pn)).toNat) (by first | omega | assumption | (simp only [wI] at *; omega))
  obtain rfl := eR71
  have eC71 : Cells w62 eb71 (eo71 + (((i_Table_findIdx p_t pn)).toNat) * 3) [.string (bs ((p_t.Idxs.getD (((i_Table_findIdx p_t pn)).toNat) d_Idx).Name)), .int .i64 ((p_t.Idxs.getD (((i_Table_findIdx p_t pn)).toNat) d_Idx).Col), .int .i64 ((p_t.Idxs.getD (((i_Table_findIdx p_t pn)).toNat) d_Idx).Stage)] := eC71
  refine sd rfl (yl_indexAddr un24 ty64 rfl (hp63.nt 1 6 rfl rfl rfl) (hp63.nt 4 9 rfl rfl rfl) eA71 (by first | omega | assumption | (simp only [wI] at *; omega)) (by first | omega | assumption | (simp only [wI] at *; omega)) (sd rfl (yl_loadN ty64 rfl rfl eC71 rfl (SeqR.u rfl rfl (yl_store (vs := [.string (bs ((p_t.Idxs.getD (((i_Table_findIdx p_t pn)).toNat) d_Idx).Name)), .int .i64 ((p_t.Idxs.getD (((i_Table_findIdx p_t pn)).toNat) d_Idx).Col), .int .i64 ((p_t.Idxs.getD (((i_Table_findIdx p_t pn)).toNat) d_Idx).Stage)]) ty64 rfl hx67 rfl rfl rfl rfl (Box.ex hB19 hE66) (Nat.le_of_ble_eq_true rfl) ?_)))))
  intro w73 hB74 hO75
  have hB74 : Box w73 b15 64 [.string (bs ((p_t.Idxs.getD (((i_Table_findIdx p_t pn)).toNat) d_Idx).Name)), .int .i64 ((p_t.Idxs.getD (((i_Table_findIdx p_t pn)).toNat) d_Idx).Col), .int .i64 ((p_t.Idxs.getD (((i_Table_findIdx p_t pn)).toNat) d_Idx).Stage)] := hB74
  have hO75z := hO75.size
  refine dn (CW.sub (Sub.cons (d := 4) hx67 (Sub.nil _)) (CW.ret (rr rfl (.cons ⟨_, rfl, run_loadN ty64 (cs := [.string (bs ((p_t.Idxs.getD (((i_Table_findIdx p_t pn)).toNat) d_Idx).Name)), .int .i64 ((p_t.Idxs.getD (((i_Table_findIdx p_t pn)).toNat) d_Idx).Col), .int .i64 ((p_t.Idxs.getD (((i_Table_findIdx p_t pn)).toNat) d_Idx).Stage)]) rfl (hB74.cells (n := 3) rfl)⟩ .nil) ?_)))
  have hM76 : (i_Table_idx p_t pn) = ((p_t.Idxs.getD (((i_Table_findIdx p_t pn)).toNat) d_Idx)) := by simp only [i_Table_idx, cL]
  rw [hM76]
  exact ⟨rfl, (okL.getD o3.2.2 ok_d_Idx _), (Below.only (Ex.trans (Ex.trans (Ex.trans (Ex.refl w) hE14) hE20) hE66) hO75 (by omega))⟩
theorem c_i_Table_idxKey {A1 : Option Addr} {c1 : Nat} {A2 : Option Addr} {c2 : Nat} {A5 : Option Addr} {c5 : Nat} {w : World} (p_t : DTable) (pn : Str) (p_r : DRow) (h1 : RdS w (Iv 0 w.heap.size) (RF e_Str) 1 A1 p_t.Cols.length c1 p_t.Cols) (h2 : RdS w (Iv 0 w.heap.size) (RF e_Idx) 3 A2 p_t.Idxs.length c2 p_t.Idxs) (h5 : RdS w (Iv 0 w.heap.size) (RF e_Str) 1 A5 p_r.Vals.length c5 p_r.Vals) (o3 : ok_Table p_t) (o4 : okS pn) (o6 : ok_Row p_r) (pre0 : (0 ≤ i_Table_findIdx p_t pn ∧ i_Table_findIdx p_t pn < (p_t.Idxs.length : Int))) (pre1 : (0 ≤ (i_Table_idx p_t pn).Col ∧ (i_Table_idx p_t pn).Col < (p_r.Vals.length : Int))) (pre2 : (p_t.Name.length ≤ 1 ∧ pn.length ≤ 1)) (pre3 : rowShort p_r) : Cal Tryz.prog 38 #[.agg #[.string (bs (p_t.Name)), .slice A1 p_t.Cols.length c1, .slice A2 p_t.Idxs.length c2], .string (bs (pn)), .agg #[.slice A5 p_r.Vals.length c5]] w fun v w' => v = .string (bs ((i_Table_idxKey p_t pn p_r))) ∧ okS (i_Table_idxKey p_t pn p_r) ∧ Ex w w' := by
 have hol7 : p_t.Name.length ≤ 1073741824 := o3.1
 have hol8 := o3.2.1.1
 have hol9 := o3.2.2.1
 have hol10 : pn.length ≤ 1073741824 := o4
 have hol11 := o6.1
 refine Cal.of func38 rfl ntmps38 rfl (CW.seq (CW.region (sd rfl (yl_box rfl rfl rfl ?_))))
 intro b12 w13 hs14 hz15 hB16 hE17
 refine sd rfl (yl_box rfl rfl rfl ?_)
 intro b18 w19 hs20 hz21 hB22 hE23
 refine sd rfl (yA rfl rfl (dn (CW.seq ?_)))
 have q24 := Box.ex hB16 hE23
 have q26 := RdS.ex gS (RdS.ex gS h1 hE17) hE23
 have q28 := RdS.ex gI (RdS.ex gI h2 hE17) hE23
 have q33 := RdS.ex gS (RdS.ex gS h5 hE17) hE23
 obtain ⟨eb34, eo34, _, eA34, _, ebl34, _, eR34, eC34⟩ := RdS.atD q33 d_Str (i := ((i_Table_idx p_t pn).Col).toNat) (by first | omega | assumption | (simp only [wI] at *; omega))
 obtain rfl := eR34
 have eC34 : Cells w19 eb34 (eo34 + (((i_Table_idx p_t pn).Col).toNat) * 1) [.string (bs ((p_r.Vals.getD (((i_Table_idx p_t pn).Col).toNat) d_Str)))] := eC34
 have hol35 : (p_r.Vals.getD (((i_Table_idx p_t pn).Col).toNat) d_Str).length ≤ 1073741824 := (okL.getD o6 ok_d_Str _)
 have hol36 : (p_r.Vals.getD (((i_Table_idx p_t pn).Col).toNat) d_Str).length ≤ 1073741824 := (okL.getD o6 ok_d_Str _)
 obtain ⟨eb37, eo37, _, eA37, _, ebl37, _, eR37, eC37⟩ := RdS.aD q33 d_Str (i := 0)
 obtain rfl := eR37
 have eC37 : Cells w19 eb37 (eo37 + 0 * 1) [.string (bs ((p_r.Vals.getD 0 d_Str)))] := eC37
 have hol38 : (p_r.Vals.getD (((i_Table_idx p_t pn).Col).toNat) d_Str).length ≤ 1073741824 := (okL.getD o6 ok_d_Str _)
 have hol39 : (p_r.Vals.getD 0 d_Str).length ≤ 1073741824 := (okL.getD o6 ok_d_Str _)
 have hrf40 := rf_idxHead p_t pn
 refine CW.drawsI 19 (vgetI [DetI (.agg #[.string (bs (p_t.Name)), .slice A1 p_t.Cols.length c1, .slice A2 p_t.Idxs.length c2]), DetI (.string (bs (pn))), DetI (.string (bs ((i_Table_idxHead p_t pn)))), DetI (.pointer (some ⟨b18, 0 + 0, none⟩)), DetI (.slice A5 p_r.Vals.length c5), DetI (.agg #[.string (bs (p_t.Name)), .slice A1 p_t.Cols.length c1, .slice A2 p_t.Idxs.length c2]), DetI (.string (bs (pn))), fun lo hi v wq => v = .agg #[.string (bs ((i_Table_idx p_t pn).Name)), .int .i64 ((i_Table_idx p_t pn).Col), .int .i64 ((i_Table_idx p_t pn).Stage)] ∧ ok_Idx (i_Table_idx p_t pn), DetI (.int .i64 ((i_Table_idx p_t pn).Col)), DetI (.pointer (some ⟨eb34, eo34 + (((i_Table_idx p_t pn).Col).toNat) * 1, none⟩)), DetI (.string (bs ((p_r.Vals.getD (((i_Table_idx p_t pn).Col).toNat) d_Str)))), DetI (.string (bs ((i_Table_idxHead p_t pn) ++ (p_r.Vals.getD (((i_Table_idx p_t pn).Col).toNat) d_Str)))), DetI (.string (bs (((i_Table_idxHead p_t pn) ++ (p_r.Vals.getD (((i_Table_idx p_t pn).Col).toNat) d_Str)) ++ ([47] : Str)))), DetI (.pointer (some ⟨b18, 0 + 0, none⟩)), DetI (.slice A5 p_r.Vals.length c5), DetI (.pointer (some ⟨eb37, eo37 + 0 * 1, none⟩)), DetI (.string (bs ((p_r.Vals.getD 0 d_Str)))), DetI (.string (bs ((((i_Table_idxHead p_t pn) ++ (p_r.Vals.getD (((i_Table_idx p_t pn).Col).toNat) d_Str)) ++ ([47] : Str)) ++ (p_r.Vals.getD 0 d_Str)))), DetI (.string (bs ((((i_Table_idxHead p_t pn) ++ (p_r.Vals.getD (((i_Table_idx p_t pn).Col).toNat) d_Str)) ++ ([47] : Str)) ++ (p_r.Vals.getD 0 d_Str))))]) Tryz.follows rfl rfl rfl rfl rfl rfl (vgetI_stable ⟨StableI.det _, StableI.det _, StableI.det _, StableI.det _, StableI.det _, StableI.det _, StableI.det _, (fun _ _ _ _ _ ⟨hv, ho31⟩ e => ⟨hv, ho31⟩), StableI.det _, StableI.det _, StableI.det _, StableI.det _, StableI.det _, StableI.det _, StableI.det _, StableI.det _, StableI.det _, StableI.det _, StableI.det _, trivial⟩) ⟨?_, ?_, ?_, ?_, ?_, ?_, ?_, ?_, ?_, ?_, ?_, ?_, ?_, ?_, ?_, ?_, ?_, ?_, ?_, trivial⟩ ?_
 ·exact oI rfl fun h => yl_loadN ty26 rfl (h.old 3 _ rfl rfl) ((Box.ex q24 h.ex).cells (n := 3) rfl) rfl kI
 ·exact oI rfl fun h => yM rfl (h.old 1 _ rfl rfl) kI
 ·intro L52 w53 hi54
  have hE55 := hi54.ex
  exact OpR.op' rfl (yC en64 rfl (oc (hi54.dt 0 7 rfl rfl rfl) (oc (hi54.dt 1 8 rfl rfl rfl) oz)) (Cal.mono (c_i_Table_idxHead p_t pn (RdS.up (RdS.ex gS q26 hE55) gS) (RdS.up (RdS.ex gI q28 hE55) gI) o3 o4) fun _ _ h => h))
 ·exact oI rfl fun h => yl_fieldAddr fd38_0 rfl (h.old 5 _ rfl rfl) kI
 ·exact oI rfl fun h => yl_load1 ty23 rfl (h.dt 3 10 rfl rfl rfl) (((Box.ex hB22 h.ex).cell 0).trans rfl) kI
 ·exact oI rfl fun h => yl_loadN ty26 rfl (h.old 3 _ rfl rfl) ((Box.ex q24 h.ex).cells (n := 3) rfl) rfl kI
 ·exact oI rfl fun h => yM rfl (h.old 1 _ rfl rfl) kI
 ·intro L85 w86 hi87
  have hE88 := hi87.ex
  have hE88z := Ex.size hE88
  refine OpR.op' rfl (yC en65 rfl (oc (hi87.dt 5 12 rfl rfl rfl) (oc (hi87.dt 6 13 rfl rfl rfl) oz)) (Cal.mono (c_i_Table_idx p_t pn (RdS.up (RdS.ex gS q26 hE88) gS) (RdS.up (RdS.ex gI q28 hE88) gI) o3 o4 (by first | omega | assumption | (simp only [wI] at *; omega))) ?_))
  rintro v95 w93 ⟨rfl, ho94, hE96⟩
  exact ⟨⟨rfl, ho94⟩, hE96⟩
 ·intro L97 w98 hi99
  obtain ⟨lo102, hh103, _, hx101, hr104, hr105, hr106, rfl, h107⟩ := hi99.dep 7 14 rfl rfl
  exact os rfl ((yl_field1 fd64_1 rfl hx101 rfl kI))
 ·intro L108 w109 hi110
  have hE111 := hi110.ex
  have hE111z := Ex.size hE111
  exact os rfl ((yl_indexAddr un23 ty9 rfl (hi110.dt 4 11 rfl rfl rfl) (hi110.dt 8 15 rfl rfl rfl) eA34 (by first | omega | assumption | (simp only [wI] at *; omega)) (by first | omega | assumption | (simp only [wI] at *; omega)) kI))
 ·exact oI rfl fun h => yl_load1 ty9 rfl (h.dt 9 16 rfl rfl rfl) ((Cells.ex eC34 h.ex) 0 _ rfl) kI
 ·intro L120 w121 hi122
  have hE123 := hi122.ex
  have hE123z := Ex.size hE123
  have hol126 : (p_r.Vals.getD (((i_Table_idx p_t pn).Col).toNat) d_Str).length ≤ 1073741824 := (okL.getD o6 ok_d_Str _)
  exact os rfl ((yl_sadd (a := (i_Table_idxHead p_t pn)) (b := (p_r.Vals.getD (((i_Table_idx p_t pn).Col).toNat) d_Str)) rfl (hi122.dt 2 9 rfl rfl rfl) (hi122.dt 10 17 rfl rfl rfl) (by first | omega | (simp only [lN, toS_length]; omega)) kI))
 ·intro L127 w128 hi129
  have hE130 := hi129.ex
  have hE130z := Ex.size hE130
  have hol132 : (p_r.Vals.getD (((i_Table_idx p_t pn).Col).toNat) d_Str).length ≤ 1073741824 := (okL.getD o6 ok_d_Str _)
  exact os rfl ((yl_sadd (a := ((i_Table_idxHead p_t pn) ++ (p_r.Vals.getD (((i_Table_idx p_t pn).Col).toNat) d_Str))) (b := ([47] : Str)) rfl (hi129.dt 11 18 rfl rfl rfl) rfl (by first | omega | (simp only [lN, toS_length]; omega)) kI))
 ·exact oI rfl fun h => yl_fieldAddr fd38_0 rfl (h.old 5 _ rfl rfl) kI
 ·exact oI rfl fun h => yl_load1 ty23 rfl (h.dt 13 20 rfl rfl rfl) (((Box.ex hB22 h.ex).cell 0).trans rfl) kI
 ·intro L144 w145 hi146
  have hE147 := hi146.ex
  have hE147z := Ex.size hE147
  exact os rfl ((yl_ixN un23 ty9 rfl (hi146.dt 14 21 rfl rfl rfl) rfl eA37 kI))
 ·exact oI rfl fun h => yl_load1 ty9 rfl (h.dt 15 22 rfl rfl rfl) ((Cells.ex eC37 h.ex) 0 _ rfl) kI
 ·intro L155 w156 hi157
  have hE158 := hi157.ex
  have hE158z := Ex.size hE158
  have hol161 : (p_r.Vals.getD (((i_Table_idx p_t pn).Col).toNat) d_Str).length ≤ 1073741824 := (okL.getD o6 ok_d_Str _)
  have hol162 : (p_r.Vals.getD 0 d_Str).length ≤ 1073741824 := (okL.getD o6 ok_d_Str _)
  exact os rfl ((yl_sadd (a := (((i_Table_idxHead p_t pn) ++ (p_r.Vals.getD (((i_Table_idx p_t pn).Col).toNat) d_Str)) ++ ([47] : Str))) (b := (p_r.Vals.getD 0 d_Str)) rfl (hi157.dt 12 19 rfl rfl rfl) (hi157.dt 16 23 rfl rfl rfl) (by first | omega | (simp only [lN, toS_length]; omega)) kI))
 ·exact oI rfl fun h => yA rfl (h.dt 17 24 rfl rfl rfl) kI
 ·intro fl171 fh172 L168 w169 hp170
  have hE173 := hp170.ex
  have hE173z := Ex.size hE173
  refine dn (CW.sub (Sub.cons (d := 6) (hp170.nt 18 6 rfl rfl rfl) (Sub.nil _)) (CW.ret (rr rfl (.cons rfl .nil) ?_)))
  have hM175 : (i_Table_idxKey p_t pn p_r) = ((((i_Table_idxHead p_t pn) ++ (p_r.Vals.getD (((i_Table_idx p_t pn).Col).toNat) d_Str)) ++ ([47] : Str)) ++ (p_r.Vals.getD 0 d_Str)) := by simp only [i_Table_idxKey, cL]
  rw [hM175]
  exact ⟨rfl, (okS_idxKey pre2 pre3), (Ex.trans (Ex.trans (Ex.trans (Ex.refl w) hE17) hE23) hE173)⟩
theorem c_i_Table_keysIn {A1 : Option Addr} {c1 : Nat} {A2 : Option Addr} {c2 : Nat} {A5 : Option Addr} {c5 : Nat} {w : World} (p_t : DTable) (pn : Str) (ps : List DWrite) (h1 : RdS w (Iv 0 w.heap.size) (RF e_Str) 1 A1 p_t.Cols.length c1 p_t.Cols) (h2 : RdS w (Iv 0 w.heap.size) (RF e_Idx) 3 A2 p_t.Idxs.length c2 p_t.Idxs) (h5 : RdS w (Iv 0 w.heap.size) (RF e_Write) 3 A5 ps.length c5 ps) (o3 : ok_Table p_t) (o4 : okS pn) (o6 : (okL ok_Write) ps) (pre0 : i_hasIdx p_t pn = true) : Cal Tryz.prog 46 #[.agg #[.string (bs (p_t.Name)), .slice A1 p_t.Cols.length c1, .slice A2 p_t.Idxs.length c2], .string (bs (pn)), .slice A5 ps.length c5] w fun v w' => ∃ A_1 c_1 lo_1 hi_1, v = .slice A_1 ((i_Table_keysIn p_t pn ps).length) c_1 ∧ OwnL w' lo_1 hi_1 9 1 (RF e_Str) A_1 ((i_Table_keysIn p_t pn ps).length) c_1 (i_Table_keysIn p_t pn ps) ∧ (okL okS) (i_Table_keysIn p_t pn ps) ∧ (w.heap.size ≤ lo_1 ∧ lo_1 ≤ hi_1 ∧ hi_1 ≤ w'.heap.size) ∧ Ex w w' := by
 have hol7 : p_t.Name.length ≤ 1073741824 := o3.1
 have hol8 := o3.2.1.1
 have hol9 := o3.2.2.1
 have hol10 : pn.length ≤ 1073741824 := o4
 have hol11 := o6.1
 have hgi := f_i_hasIdx pre0
 have hrl := rowsIn_len pre0 ps
 refine Cal.of func46 rfl ntmps46 rfl (CW.seq (CW.region (sd rfl (yl_box rfl rfl rfl ?_))))
 intro b12 w13 hs14 hz15 hB16 hE17
 refine sd rfl (yA rfl rfl (dn (CW.seq (CW.region (sd rfl (yl_buildSlice (cs := []) un23 ty9 (by decide) rfl opvs_nil (by kernel_rfl) ?_))))))
 intro b18 w19 hs20 hz21 hB22 hE23
 have hO24 : OwnL w19 b18 (b18 + 1) 9 1 (RF e_Str) (some ⟨b18, 0, none⟩) 0 0 ([] : List Str) := OwnL.of_box (S := fun _ => False) hB22 (Nat.le_refl _) (Nat.lt_succ_self _) EncL.nil (Nat.le_of_ble_eq_true rfl) (fun h => h) (fun _ h => False.elim h)
 refine sd rfl (yA rfl rfl (dn (CW.seq (CW.seq (CW.region ?_)))))
 have q25 := Box.ex hB16 hE23
 refine sd rfl (yl_loadN ty26 rfl rfl (q25.cells (n := 3) rfl) rfl (sd rfl (yM rfl rfl ?_)))
 have q27 := RdS.ex gS (RdS.ex gS h1 hE17) hE23
 have q29 := RdS.ex gI (RdS.ex gI h2 hE17) hE23
 refine sd rfl (yC en32 rfl (oc rfl (oc rfl oz)) (Cal.mono (c_i_Table_rowsIn p_t ps (RdS.up q27 gS) (RdS.up q29 gI) (RdS.up (RdS.ex gW (RdS.ex gW h5 hE17) hE23) gW) o3 o6 (hasIdx_good pre0)) ?_))
 rintro v35 w32 ⟨A33, c33, lo33, hi33, rfl, h33, ho34, hrn37, hE36⟩
 have hE36z := Ex.size hE36
 refine sd rfl (yL un32 rfl rfl (sd rfl (yM rfl rfl (dn (CW.block (CW.loop (fun m104 L105 w106 => ∃ (k38 : Nat) (x100 : List Str) (A101 : Option Addr) (c102 : Nat) (u103 : Nat), m104 = (i_Table_rowsIn p_t ps).length - k38 ∧ k38 ≤ (i_Table_rowsIn p_t ps).length ∧ w32.heap.size ≤ w106.heap.size ∧ lkp L105 1 = some (.string (bs (pn))) ∧ lkp L105 3 = some (.pointer (some ⟨b12, 0, none⟩)) ∧ lkp L105 7 = some (.slice A101 x100.length c102) ∧ lkp L105 13 = some (.slice A33 ((i_Table_rowsIn p_t ps).length) c33) ∧ lkp L105 14 = some (.int .i64 (((i_Table_rowsIn p_t ps).length : Int))) ∧ lkp L105 15 = some (.int .i64 ((k38 : Int))) ∧ Box w106 b12 26 [.string (bs (p_t.Name)), .slice A1 p_t.Cols.length c1, .slice A2 p_t.Idxs.length c2] ∧ RdS w106 (Iv 0 w.heap.size) (RF e_Str) 1 A1 p_t.Cols.length c1 p_t.Cols ∧ RdS w106 (Iv 0 w.heap.size) (RF e_Idx) 3 A2 p_t.Idxs.length c2 p_t.Idxs ∧ OwnL w106 w32.heap.size u103 9 1 (RF e_Str) A101 x100.length c102 x100 ∧ OwnD w106 lo33 hi33 38 1 RO_Row A33 ((i_Table_rowsIn p_t ps).length) c33 (i_Table_rowsIn p_t ps) ∧ Ex w w106 ∧ (w32.heap.size ≤ u103 ∧ u103 ≤ w106.heap.size) ∧ x100.length ≤ 0 + 1 * (k38 - 0) ∧ (∀ y ∈ x100, okS y) ∧ loopM (B_i_Table_keysIn_0 p_t pn ps) ((i_Table_rowsIn p_t ps).length - k38) k38 (x100) = loopM (B_i_Table_keysIn_0 p_t pn ps) ((i_Table_rowsIn p_t ps).length - 0) 0 (([] : List Str))) ((i_Table_rowsIn p_t ps).length - 0) ?_ ?_))))))
 ·exact ⟨0, ([] : List Str), (some ⟨b18, 0, none⟩), 0, w32.heap.size, rfl, (by omega), Nat.le_refl _, rfl, rfl, rfl, rfl, rfl, rfl, (Box.ex q25 hE36), (RdS.ex gS q27 hE36), (RdS.ex gI q29 hE36), (OwnL.empty w32 w32.heap.size w32.heap.size 9 1 (RF e_Str) (some ⟨b18, 0, none⟩)), h33, (Ex.trans (Ex.trans (Ex.trans (Ex.refl w) hE17) hE23) hE36), (by omega), (by first | (simp; done) | (first | omega | (simp only [lN, toS_length]; omega))), okE.nil, rfl⟩
 ·rintro m113 L114 w115 ⟨k38, x100, A101, c102, u103, rfl, hk116, hsz118, hl119, hl120, hl121, hl122, hl123, hl124, hf125, hf126, hf127, hf128, hf129, hf130, hu131, hln132, hok133, hI117⟩
  refine CW.sub (Sub.cons hl119 (Sub.cons hl120 (Sub.cons hl121 (Sub.cons hl122 (Sub.cons hl123 (Sub.cons hl124 (Sub.nil _))))))) ?_
  have hf125z := Box.lt hf125
  have hf130z := Ex.size hf130
  have hbg134 := RdS.big (OwnL.rd good_Row (OwnD.own goodO_Row good_Row hf129))
  rcases Nat.lt_or_ge k38 ((i_Table_rowsIn p_t ps).length) with hlt136 | hlt136
  ·have hrow := rowsIn_at pre0 ps hlt136
   refine CW.seq (CW.region (sd rfl (yl_lss rfl rfl rfl (dn (CW.seq (CW.cond_t rfl (lt_t hlt136) (CW.skip (tn ?_))))))))
   refine CW.seq (CW.block (CW.seq (CW.region ?_)))
   obtain ⟨_, _, _, eA138, _, ebl138, _, eR138, eC138⟩ := RdS.atD (OwnL.rd good_Row (OwnD.own goodO_Row good_Row hf129)) d_Row (i := k38) (by first | omega | assumption)
   obtain ⟨A139, c139, rfl, h139⟩ := eR138
   refine sd rfl (yl_ixN un32 ty38 rfl rfl rfl eA138 (sd rfl (yl_loadN ty38 rfl rfl eC138 rfl (sd rfl (yB ty38 (cs := [.slice none 0 0]) rfl rfl ?_)))))
   intro b140 w141 hs142 hz143 hB144 hE145
   refine SeqR.u rfl rfl (yl_store (vs := [.slice A139 ((((i_Table_rowsIn p_t ps).getD k38 d_Row).Vals).length) c139]) ty38 rfl rfl rfl rfl rfl rfl hB144 (Nat.le_of_ble_eq_true rfl) ?_)
   intro w146 hB147 hO148
   have hB147 : Box w146 b140 38 [.slice A139 ((((i_Table_rowsIn p_t ps).getD k38 d_Row).Vals).length) c139] := hB147
   have hO148z := hO148.size
   refine dn (CW.region (sd rfl (yM rfl rfl ?_)))
   have q150 := Box.only (Box.ex hf125 hE145) hO148 (by omega)
   refine sd rfl (yl_loadN ty26 rfl rfl (q150.cells (n := 3) rfl) rfl (sd rfl (yM rfl rfl (sd rfl (yl_loadN ty38 rfl rfl (hB147.cells (n := 1) rfl) rfl ?_)))))
   have q152 := RdS.only gS (RdS.ex gS hf126 hE145) hO148 (by simp only [Iv]; omega)
   have q154 := RdS.only gI (RdS.ex gI hf127 hE145) hO148 (by simp only [Iv]; omega)
   refine sd rfl (yC en38 rfl (oc rfl (oc rfl (oc rfl oz))) (Cal.mono (c_i_Table_idxKey p_t pn ((i_Table_rowsIn p_t ps).getD k38 d_Row) (RdS.up q152 gS) (RdS.up q154 gI) (RdS.up (RdS.only gS (RdS.ex gS h139 hE145) hO148 (by simp only [Iv]; omega)) gS) o3 o4 (okL.getD ho34 ok_d_Row _) (by first | omega | assumption | (simp only [wI] at *; omega)) (by first | omega | assumption | (simp only [wI] at *; omega)) (by first | omega | assumption | (simp only [wI] at *; omega)) hrow.2) ?_))
   rintro v159 w157 ⟨rfl, ho158, hE160⟩
   have hE160z := Ex.size hE160
   refine sd rfl (yl_buildSlice (cs := [.string (bs ((i_Table_idxKey p_t pn ((i_Table_rowsIn p_t ps).getD k38 d_Row))))]) un23 ty9 (by decide) rfl (oc rfl oz) (by kernel_rfl) ?_)
   intro b161 w162 hs163 hz164 hB165 hE166
   have hO167 : OwnL w162 b161 (b161 + 1) 9 1 (RF e_Str) (some ⟨b161, 0, none⟩) 1 1 ([(i_Table_idxKey p_t pn ((i_Table_rowsIn p_t ps).getD k38 d_Row))] : List Str) := OwnL.of_box (S := fun _ => False) hB165 (Nat.le_refl _) (Nat.lt_succ_self _) (EncL.cons (c := [.string (bs ((i_Table_idxKey p_t pn ((i_Table_rowsIn p_t ps).getD k38 d_Row))))]) rfl rfl EncL.nil) (Nat.le_of_ble_eq_true rfl) (fun h => h) (fun _ h => False.elim h)
   refine sd rfl (yl_appendL (S := (fun _ => False)) (lo := w32.heap.size) (hi := u103) (xs := x100) (ys := ([(i_Table_idxKey p_t pn ((i_Table_rowsIn p_t ps).getD k38 d_Row))] : List Str)) gS un23 ty9 rfl (Nat.le_of_ble_eq_true rfl) rfl rfl rfl (OwnL.ex gS (OwnL.ex gS (OwnL.only gS (OwnL.ex gS hf128 hE145) hO148 (by omega)) hE160) hE166) (EncL.cons (c := [.string (bs ((i_Table_idxKey p_t pn ((i_Table_rowsIn p_t ps).getD k38 d_Row))))]) rfl rfl EncL.nil) (Or.inr ⟨_, _, rfl, rfl, hB165.cells (o := 0) (n := 1) rfl⟩) rfl (by first | omega | (simp only [lN, toS_length]; omega)) (by first | omega | (simp only [lN, toS_length]; omega)) (by omega) (by omega) (fun _ h _ => False.elim h) (by omega) ?_)
   intro A172 c173 w174 row175 hO176 hG177 hrg178
   have hG177z := hG177.size
   refine sd rfl (yA rfl rfl (SeqR.done (bn (tn (CW.region (sd rfl (yl_inc rfl rfl rfl (by omega) (sd rfl (yM rfl rfl (dn ?_))))))))))
   have hB179 : B_i_Table_keysIn_0 p_t pn ps k38 (x100) = .cont ((x100 ++ ([(i_Table_idxKey p_t pn ((i_Table_rowsIn p_t ps).getD k38 d_Row))] : List Str))) := by simp only [B_i_Table_keysIn_0, cL]
   exact ⟨(i_Table_rowsIn p_t ps).length - (k38 + 1), by omega, k38 + 1, (x100 ++ ([(i_Table_idxKey p_t pn ((i_Table_rowsIn p_t ps).getD k38 d_Row))] : List Str)), A172, c173, w174.heap.size, rfl, hlt136, (by omega), rfl, rfl, rfl, rfl, rfl, rfl, (Box.grown (Box.ex (Box.ex q150 hE160) hE166) hG177 (fun k hk => by have := hrg178 k hk; omega)), (RdS.grown gS (RdS.ex gS (RdS.ex gS q152 hE160) hE166) hG177 (fun k hk => by have := hrg178 k hk; simp only [Iv]; omega)), (RdS.grown gI (RdS.ex gI (RdS.ex gI q154 hE160) hE166) hG177 (fun k hk => by have := hrg178 k hk; simp only [Iv]; omega)), hO176, (OwnD.grown goodO_Row (OwnD.ex goodO_Row (OwnD.ex goodO_Row (OwnD.only goodO_Row (OwnD.ex goodO_Row hf129 hE145) hO148 (by omega)) hE160) hE166) hG177 (fun k hk => by have := hrg178 k hk; omega)), (Below.grown (Ex.trans (Ex.trans (Below.only (Ex.trans hf130 hE145) hO148 (by omega)) hE160) hE166) hG177 (by omega) (fun k hk => by have := hrg178 k hk; omega)), (by omega), (by first | omega | (simp only [lN, toS_length]; omega)), (okE.append hok133 ((okL.mk (Nat.le_of_ble_eq_true rfl) (okE.cons ho158 okE.nil))).2), (loopM.cont hlt136 hB179).symm.trans hI117⟩
  ·refine CW.seq (CW.region (sd rfl (yl_lss rfl rfl rfl (dn (CW.seq (CW.cond_f rfl (lt_f hlt136) (CW.exit (tx ?_))))))))
   refine tx ?_
   have hL199 : loopM (B_i_Table_keysIn_0 p_t pn ps) ((i_Table_rowsIn p_t ps).length - 0) 0 (([] : List Str)) = .done (x100) := hI117.symm.trans (loopM.stop hlt136)
   refine bx (tn (CW.seq (CW.region (sd rfl (yM rfl rfl (sd rfl (yA rfl rfl (dn (CW.ret ?_)))))))))
   refine rr rfl (.cons rfl .nil) ?_
   have hM200 : (i_Table_keysIn p_t pn ps) = (x100) := by simp only [i_Table_keysIn, hL199, cL]
   rw [hM200]
   exact ⟨A101, c102, w32.heap.size, u103, rfl, hf128, (okL.mk (xs := x100) (by first | omega | (simp only [lN, toS_length]; omega)) hok133), (by omega), hf130⟩
theorem c_i_Table_orphansIn {A1 : Option Addr} {c1 : Nat} {A2 : Option Addr} {c2 : Nat} {A5 : Option Addr} {c5 : Nat} {w : World} (p_t : DTable) (pn : Str) (ps : List DWrite) (h1 : RdS w (Iv 0 w.heap.size) (RF e_Str) 1 A1 p_t.Cols.length c1 p_t.Cols) (h2 : RdS w (Iv 0 w.heap.size) (RF e_Idx) 3 A2 p_t.Idxs.length c2 p_t.Idxs) (h5 : RdS w (Iv 0 w.heap.size) (RF e_Write) 3 A5 ps.length c5 ps) (o3 : ok_Table p_t) (o4 : okS pn) (o6 : (okL ok_Write) ps) (pre0 : i_hasIdx p_t pn = true) : Cal Tryz.prog 26 #[.agg #[.string (bs (p_t.Name)), .slice A1 p_t.Cols.length c1, .slice A2 p_t.Idxs.length c2], .string (bs (pn)), .slice A5 ps.length c5] w fun v w' => ∃ A_1 c_1 lo_1 hi_1, v = .slice A_1 ((i_Table_orphansIn p_t pn ps).length) c_1 ∧ OwnL w' lo_1 hi_1 9 1 (RF e_Str) A_1 ((i_Table_orphansIn p_t pn ps).length) c_1 (i_Table_orphansIn p_t pn ps) ∧ (okL okS) (i_Table_orphansIn p_t pn ps) ∧ (w.heap.size ≤ lo_1 ∧ lo_1 ≤ hi_1 ∧ hi_1 ≤ w'.heap.size) ∧ Ex w w' := by
 have hol7 : p_t.Name.length ≤ 1073741824 := o3.1
 have hol8 := o3.2.1.1
 have hol9 := o3.2.2.1
 have hol10 : pn.length ≤ 1073741824 := o4
 have hol11 := o6.1
 have hgi := f_i_hasIdx pre0
 refine Cal.of func26 rfl ntmps26 rfl (CW.seq (CW.region (sd rfl (yl_box rfl rfl rfl ?_))))
 intro b12 w13 hs14 hz15 hB16 hE17
 refine sd rfl (yA rfl rfl (dn (CW.seq ?_)))
 have q18 := RdS.ex gS h1 hE17
 have q19 := RdS.ex gI h2 hE17
 have q20 := RdS.ex gW h5 hE17
 refine CW.drawsI 7 (vgetI [DetI (.agg #[.string (bs (p_t.Name)), .slice A1 p_t.Cols.length c1, .slice A2 p_t.Idxs.length c2]), DetI (.string (bs (pn))), DetI (.slice A5 ps.length c5), fun lo hi v wq => ∃ A22 c22 lo22 hi22, v = .slice A22 ((i_Table_entriesIn p_t pn ps).length) c22 ∧ OwnL wq lo22 hi22 9 1 (RF e_Str) A22 ((i_Table_entriesIn p_t pn ps).length) c22 (i_Table_entriesIn p_t pn ps) ∧ (okL okS) (i_Table_entriesIn p_t pn ps) ∧ (lo ≤ lo22 ∧ lo22 ≤ hi22 ∧ hi22 ≤ hi), DetI (.agg #[.string (bs (p_t.Name)), .slice A1 p_t.Cols.length c1, .slice A2 p_t.Idxs.length c2]), DetI (.string (bs (pn))), DetI (.slice A5 ps.length c5)]) Tryz.follows rfl rfl rfl rfl rfl rfl (vgetI_stable ⟨StableI.det _, StableI.det _, StableI.det _, (fun _ _ _ _ _ ⟨A22, c22, lo22, hi22, hv, h22, ho23, hr0⟩ e => ⟨A22, c22, lo22, hi22, hv, OwnL.ex gS h22 e, ho23, hr0⟩), StableI.det _, StableI.det _, StableI.det _, trivial⟩) ⟨?_, ?_, ?_, ?_, ?_, ?_, ?_, trivial⟩ ?_
 ·exact oI rfl fun h => yl_loadN ty26 rfl (h.old 3 _ rfl rfl) ((Box.ex hB16 h.ex).cells (n := 3) rfl) rfl kI
 ·exact oI rfl fun h => yM rfl (h.old 1 _ rfl rfl) kI
 ·exact oI rfl fun h => yM rfl (h.old 2 _ rfl rfl) kI
 ·intro L40 w41 hi42
  have hE43 := hi42.ex
  have hE43z := Ex.size hE43
  refine OpR.op' rfl (yC en23 rfl (oc (hi42.dt 0 7 rfl rfl rfl) (oc (hi42.dt 1 8 rfl rfl rfl) (oc (hi42.dt 2 9 rfl rfl rfl) oz))) (Cal.mono (c_i_Table_entriesIn p_t pn ps (RdS.up (RdS.ex gS q18 hE43) gS) (RdS.up (RdS.ex gI q19 hE43) gI) (RdS.up (RdS.ex gW q20 hE43) gW) o3 o4 o6 (by first | omega | assumption | (simp only [wI] at *; omega))) ?_))
  rintro v53 w50 ⟨A51, c51, lo51, hi51, rfl, h51, ho52, hrn55, hE54⟩
  exact ⟨⟨A51, c51, lo51, hi51, rfl, h51, ho52, hrn55⟩, hE54⟩
 ·exact oI rfl fun h => yl_loadN ty26 rfl (h.old 3 _ rfl rfl) ((Box.ex hB16 h.ex).cells (n := 3) rfl) rfl kI
 ·exact oI rfl fun h => yM rfl (h.old 1 _ rfl rfl) kI
 ·exact oI rfl fun h => yM rfl (h.old 2 _ rfl rfl) kI
 ·intro fl75 fh76 L72 w73 hp74
  have hE77 := hp74.ex
  have hE77z := Ex.size hE77
  have hr79 := hp74.rng 3 rfl
  obtain ⟨_, hx78, A22_80, c22_81, lo22_82, hi22_83, rfl, h84, h85, hrn86⟩ := hp74.new 3 10 rfl rfl
  refine sd rfl (yC en46 rfl (oc (hp74.nt 4 11 rfl rfl rfl) (oc (hp74.nt 5 12 rfl rfl rfl) (oc (hp74.nt 6 13 rfl rfl rfl) oz))) (Cal.mono (c_i_Table_keysIn p_t pn ps (RdS.up (RdS.ex gS q18 hE77) gS) (RdS.up (RdS.ex gI q19 hE77) gI) (RdS.up (RdS.ex gW q20 hE77) gW) o3 o4 o6 pre0) ?_))
  rintro v96 w93 ⟨A94, c94, lo94, hi94, rfl, h94, ho95, hrn98, hE97⟩
  have hE97z := Ex.size hE97
  refine sd rfl (yC en45 rfl (oc hx78 (oc rfl oz)) (Cal.mono (c_i_without (i_Table_entriesIn p_t pn ps) (i_Table_keysIn p_t pn ps) (RdS.up (OwnL.rd gS (OwnL.ex gS h84 hE97)) gS) (RdS.up (OwnL.rd gS h94) gS) h85 ho95) ?_))
  rintro v105 w102 ⟨A103, c103, lo103, hi103, rfl, h103, ho104, hrn107, hE106⟩
  have hE106z := Ex.size hE106
  refine sd rfl (yA rfl rfl (dn (CW.sub (Sub.cons (d := 6) rfl (Sub.nil _)) (CW.ret (rr rfl (.cons rfl .nil) ?_)))))
  have hM108 : (i_Table_orphansIn p_t pn ps) = ((i_without (i_Table_entriesIn p_t pn ps) (i_Table_keysIn p_t pn ps))) := by simp only [i_Table_orphansIn, cL]
  rw [hM108]
  exact ⟨A103, c103, lo103, hi103, rfl, h103, ho104, (by omega), (Ex.trans (Ex.trans (Ex.trans (Ex.trans (Ex.refl w) hE17) hE77) hE97) hE106)⟩
theorem c_i_OrphansIn {A1 : Option Addr} {c1 : Nat} {A2 : Option Addr} {c2 : Nat} {A5 : Option Addr} {c5 : Nat} {w : World} (p_t : DTable) (pn : Str) (ps : List DWrite) (h1 : RdS w (Iv 0 w.heap.size) (RF e_Str) 1 A1 p_t.Cols.length c1 p_t.Cols) (h2 : RdS w (Iv 0 w.heap.size) (RF e_Idx) 3 A2 p_t.Idxs.length c2 p_t.Idxs) (h5 : RdS w (Iv 0 w.heap.size) (RF e_Write) 3 A5 ps.length c5 ps) (o3 : ok_Table p_t) (o4 : okS pn) (o6 : (okL ok_Write) ps) : Cal Tryz.prog 7 #[.agg #[.string (bs (p_t.Name)), .slice A1 p_t.Cols.length c1, .slice A2 p_t.Idxs.length c2], .string (bs (pn)), .slice A5 ps.length c5] w fun v w' => ∃ A_1 c_1 lo_1 hi_1, v = .tuple #[.slice A_1 (((i_OrphansIn p_t pn ps).1).length) c_1, .bool ((i_OrphansIn p_t pn ps).2)] ∧ OwnL w' lo_1 hi_1 9 1 (RF e_Str) A_1 (((i_OrphansIn p_t pn ps).1).length) c_1 ((i_OrphansIn p_t pn ps).1) ∧ (okL okS) ((i_OrphansIn p_t pn ps).1) ∧ (w.heap.size ≤ lo_1 ∧ lo_1 ≤ hi_1 ∧ hi_1 ≤ w'.heap.size) ∧ Ex w w' := by
 have hol7 : p_t.Name.length ≤ 1073741824 := o3.1
 have hol8 := o3.2.1.1
 have hol9 := o3.2.2.1
 have hol10 : pn.length ≤ 1073741824 := o4
 have hol11 := o6.1
 refine Cal.of func7 rfl ntmps7 rfl (CW.seq (CW.region (sd rfl (yl_box rfl rfl rfl ?_))))
 intro b12 w13 hs14 hz15 hB16 hE17
 refine sd rfl (yA rfl rfl (sd rfl (yA rfl rfl (dn (CW.seq (CW.seq (CW.region (sd rfl (yl_loadN ty26 rfl rfl (hB16.cells (n := 3) rfl) rfl (sd rfl (yM rfl rfl ?_)))))))))))
 refine sd rfl (yM rfl rfl ?_)
 have q18 := RdS.ex gS h1 hE17
 have q19 := RdS.ex gI h2 hE17
 have q20 := RdS.ex gW h5 hE17
 refine sd rfl (yC en22 rfl (oc rfl (oc rfl (oc rfl oz))) (Cal.mono (c_i_isIdxStore p_t pn ps (RdS.up q18 gS) (RdS.up q19 gI) (RdS.up q20 gW) o3 o4 o6) ?_))
 rintro v22 w21 ⟨rfl, hE23⟩
 have hE23z := Ex.size hE23
 refine sd rfl (yl_not rfl rfl (dn (bcase (i_isIdxStore p_t pn ps) (fun hb24 => ?_) (fun hb24 => ?_))))
 ·have hb24p := f_isIdxStore hb24
  refine CW.cond_f rfl (not_t hb24) (CW.skip (tn (CW.seq (CW.region (sd rfl (yl_loadN ty26 rfl rfl ((Box.ex hB16 hE23).cells (n := 3) rfl) rfl (sd rfl (yM rfl rfl (sd rfl (yM rfl rfl (sd rfl (yC en26 rfl (oc rfl (oc rfl (oc rfl oz))) (Cal.mono (c_i_Table_orphansIn p_t pn ps (RdS.up (RdS.ex gS q18 hE23) gS) (RdS.up (RdS.ex gI q19 hE23) gI) (RdS.up (RdS.ex gW q20 hE23) gW) o3 o4 o6 (isIdxStore_has hb24)) ?_)))))))))))))
  rintro v32 w29 ⟨A30, c30, lo30, hi30, rfl, h30, ho31, hrn34, hE33⟩
  have hE33z := Ex.size hE33
  refine sd rfl (yA rfl rfl (sd rfl (yA rfl rfl (dn (CW.ret (rr rfl (.cons rfl (.cons rfl .nil)) ?_))))))
  have hM35 : (i_OrphansIn p_t pn ps) = (((i_Table_orphansIn p_t pn ps), true)) := by simp only [i_OrphansIn, hb24, cL]
  rw [hM35]
  exact ⟨A30, c30, lo30, hi30, rfl, h30, ho31, (by omega), (Ex.trans (Ex.trans (Ex.trans (Ex.refl w) hE17) hE23) hE33)⟩
 ·refine CW.cond_t rfl (not_f hb24) (CW.seq (CW.region (sd rfl (yA rfl rfl (sd rfl (yA rfl rfl (dn (CW.ret (tr ?_)))))))))
  refine rr rfl (.cons rfl (.cons rfl .nil)) ?_
  have hM39 : (i_OrphansIn p_t pn ps) = ((([] : List Str), false)) := by simp only [i_OrphansIn, hb24, cL]
  rw [hM39]
  exact ⟨none, 0, w21.heap.size, w21.heap.size, rfl, (OwnL.nil _ _ _ _ _ _), (okL.nil _), (by omega), (Ex.trans (Ex.trans (Ex.refl w) hE17) hE23)⟩
theorem c_s_l25Less {A1 : Option Addr} {c1 : Nat} {A3 : Option Addr} {c3 : Nat} {w : World} (p_l : List Str) (p_others : List Str) (h1 : RdS w (Iv 0 w.heap.size) (RF e_Str) 1 A1 p_l.length c1 p_l) (h3 : RdS w (Iv 0 w.heap.size) (RF e_Str) 1 A3 p_others.length c3 p_others) (o2 : (okL okS) p_l) (o4 : (okL okS) p_others) : Cal Tryz.prog 27 #[.slice A1 p_l.length c1, .slice A3 p_others.length c3] w fun v w' => ∃ A_1 c_1 lo_1 hi_1, v = .slice A_1 ((s_l25Less p_l p_others).length) c_1 ∧ OwnL w' lo_1 hi_1 9 1 (RF e_Str) A_1 ((s_l25Less p_l p_others).length) c_1 (s_l25Less p_l p_others) ∧ (okL okS) (s_l25Less p_l p_others) ∧ (w.heap.size ≤ lo_1 ∧ lo_1 ≤ hi_1 ∧ hi_1 ≤ w'.heap.size) ∧ Ex w w' := by
 have hol5 := o2.1
 have hol6 := o4.1
 refine Cal.of func27 rfl ntmps27 rfl (CW.seq (CW.region (sd rfl (yA rfl rfl (dn (CW.seq (CW.region (sd rfl (yA rfl rfl ?_)))))))))
 refine dn (CW.seq (CW.seq (CW.region (sd rfl (yM rfl rfl (sd rfl (yL un23 rfl rfl (sd rfl (yM rfl rfl (SeqR.done ?_))))))))))
 refine tn (CW.block (CW.loop (fun m32 L33 w34 => ∃ (k7 : Nat) (x28 : List Str) (A29 : Option Addr) (c30 : Nat) (u31 : Nat), m32 = p_l.length - k7 ∧ k7 ≤ p_l.length ∧ w.heap.size ≤ w34.heap.size ∧ lkp L33 1 = some (.slice A3 p_others.length c3) ∧ lkp L33 5 = some (.slice A29 x28.length c30) ∧ lkp L33 8 = some (.slice A1 p_l.length c1) ∧ lkp L33 9 = some (.int .i64 ((p_l.length : Int))) ∧ lkp L33 10 = some (.int .i64 ((k7 : Int))) ∧ RdS w34 (Iv 0 w.heap.size) (RF e_Str) 1 A3 p_others.length c3 p_others ∧ OwnL w34 w.heap.size u31 9 1 (RF e_Str) A29 x28.length c30 x28 ∧ RdS w34 (Iv 0 w.heap.size) (RF e_Str) 1 A1 p_l.length c1 p_l ∧ Ex w w34 ∧ (w.heap.size ≤ u31 ∧ u31 ≤ w34.heap.size) ∧ x28.length ≤ 0 + 1 * (k7 - 0) ∧ (∀ y ∈ x28, okS y) ∧ loopM (B_s_l25Less_0 p_l p_others) (p_l.length - k7) k7 (x28) = loopM (B_s_l25Less_0 p_l p_others) (p_l.length - 0) 0 (([] : List Str))) (p_l.length - 0) ?_ ?_))
 ·exact ⟨0, ([] : List Str), none, 0, w.heap.size, rfl, (by omega), Nat.le_refl _, rfl, rfl, rfl, rfl, rfl, h3, (OwnL.nil w w.heap.size w.heap.size 9 1 (RF e_Str)), h1, (Ex.refl w), (by omega), (by first | (simp; done) | (first | omega | (simp only [lN, toS_length]; omega))), okE.nil, rfl⟩
 ·rintro m35 L36 w37 ⟨k7, x28, A29, c30, u31, rfl, hk38, hsz40, hl41, hl42, hl43, hl44, hl45, hf46, hf47, hf48, hf49, hu50, hln51, hok52, hI39⟩
  refine CW.sub (Sub.cons hl41 (Sub.cons hl42 (Sub.cons hl43 (Sub.cons hl44 (Sub.cons hl45 (Sub.nil _)))))) ?_
  have hf49z := Ex.size hf49
  have hbg53 := RdS.big hf48
  rcases Nat.lt_or_ge k7 p_l.length with hlt54 | hlt54
  ·refine CW.seq (CW.region (sd rfl (yl_lss rfl rfl rfl (dn (CW.seq (CW.cond_t rfl (lt_t hlt54) (CW.skip (tn ?_))))))))
   refine CW.seq (CW.block (CW.seq (CW.region ?_)))
   obtain ⟨eb55, eo55, _, eA55, _, ebl55, _, eR55, eC55⟩ := RdS.aD hf48 d_Str (i := k7)
   obtain rfl := eR55
   have eC55 : Cells w37 eb55 (eo55 + k7 * 1) [.string (bs ((p_l.getD k7 d_Str)))] := eC55
   refine sd rfl (yl_ixN un23 ty9 rfl rfl rfl eA55 (sd rfl (yl_load1 ty9 rfl rfl (eC55 0 _ rfl) (sd rfl (yA rfl rfl (dn (CW.seq (CW.region (sd rfl (yM rfl rfl (sd rfl (yM rfl rfl ?_))))))))))))
   refine sd rfl (yC en47 rfl (oc rfl (oc rfl oz)) (Cal.mono (c_s_l24At p_others (p_l.getD k7 d_Str) (RdS.up hf46 gS) o4 (okL.getD o2 ok_d_Str _)) ?_))
   rintro v57 w56 ⟨rfl, hE58⟩
   have hE58z := Ex.size hE58
   refine sd rfl (yl_lss rfl rfl rfl (dn (bcase (decide ((s_l24At p_others (p_l.getD k7 d_Str)) < 0)) (fun hb59 => ?_) (fun hb59 => ?_))))
   ·have hb59p := dec_t hb59
    refine CW.cond_t rfl hb59 (CW.region (sd rfl (yM rfl rfl (sd rfl (yM rfl rfl (sd rfl (yl_buildSlice (cs := [.string (bs ((p_l.getD k7 d_Str)))]) un23 ty9 (by decide) rfl (oc rfl oz) (by kernel_rfl) ?_)))))))
    intro b60 w61 hs62 hz63 hB64 hE65
    have hO66 : OwnL w61 b60 (b60 + 1) 9 1 (RF e_Str) (some ⟨b60, 0, none⟩) 1 1 ([(p_l.getD k7 d_Str)] : List Str) := OwnL.of_box (S := fun _ => False) hB64 (Nat.le_refl _) (Nat.lt_succ_self _) (EncL.cons (c := [.string (bs ((p_l.getD k7 d_Str)))]) rfl rfl EncL.nil) (Nat.le_of_ble_eq_true rfl) (fun h => h) (fun _ h => False.elim h)
    refine sd rfl (yl_appendL (S := (fun _ => False)) (lo := w.heap.size) (hi := u31) (xs := x28) (ys := ([(p_l.getD k7 d_Str)] : List Str)) gS un23 ty9 rfl (Nat.le_of_ble_eq_true rfl) rfl rfl rfl (OwnL.ex gS (OwnL.ex gS hf47 hE58) hE65) (EncL.cons (c := [.string (bs ((p_l.getD k7 d_Str)))]) rfl rfl EncL.nil) (Or.inr ⟨_, _, rfl, rfl, hB64.cells (o := 0) (n := 1) rfl⟩) rfl (by first | omega | (simp only [lN, toS_length]; omega)) (by first | omega | (simp only [lN, toS_length]; omega)) (by omega) (by omega) (fun _ h _ => False.elim h) (by omega) ?_)
    intro A69 c70 w71 row72 hO73 hG74 hrg75
    have hG74z := hG74.size
    refine sd rfl (yA rfl rfl (SeqR.done (bn (tn (CW.region (sd rfl (yl_inc rfl rfl rfl (by omega) (sd rfl (yM rfl rfl (dn ?_))))))))))
    have hB76 : B_s_l25Less_0 p_l p_others k7 (x28) = .cont ((x28 ++ ([(p_l.getD k7 d_Str)] : List Str))) := by simp only [B_s_l25Less_0, hb59, cL]
    exact ⟨p_l.length - (k7 + 1), by omega, k7 + 1, (x28 ++ ([(p_l.getD k7 d_Str)] : List Str)), A69, c70, w71.heap.size, rfl, hlt54, (by omega), rfl, rfl, rfl, rfl, rfl, (RdS.grown gS (RdS.ex gS (RdS.ex gS hf46 hE58) hE65) hG74 (fun k hk => by have := hrg75 k hk; simp only [Iv]; omega)), hO73, (RdS.grown gS (RdS.ex gS (RdS.ex gS hf48 hE58) hE65) hG74 (fun k hk => by have := hrg75 k hk; simp only [Iv]; omega)), (Below.grown (Ex.trans (Ex.trans hf49 hE58) hE65) hG74 (by omega) (fun k hk => by have := hrg75 k hk; omega)), (by omega), (by first | omega | (simp only [lN, toS_length]; omega)), (okE.append hok52 ((okL.mk (Nat.le_of_ble_eq_true rfl) (okE.cons (okL.getD o2 ok_d_Str _) okE.nil))).2), (loopM.cont hlt54 hB76).symm.trans hI39⟩
   ·have hb59p := dec_f hb59
    refine CW.cond_f rfl hb59 (CW.skip (bn (tn (CW.region (sd rfl (yl_inc rfl rfl rfl (by omega) (sd rfl (yM rfl rfl (dn ?_)))))))))
    have hB86 : B_s_l25Less_0 p_l p_others k7 (x28) = .cont (x28) := by simp only [B_s_l25Less_0, hb59, cL]
    exact ⟨p_l.length - (k7 + 1), by omega, k7 + 1, x28, A29, c30, u31, rfl, hlt54, (by omega), rfl, rfl, rfl, rfl, rfl, (RdS.ex gS hf46 hE58), (OwnL.ex gS hf47 hE58), (RdS.ex gS hf48 hE58), (Ex.trans hf49 hE58), (by omega), (by first | omega | (simp only [lN, toS_length]; omega)), hok52, (loopM.cont hlt54 hB86).symm.trans hI39⟩
  ·refine CW.seq (CW.region (sd rfl (yl_lss rfl rfl rfl (dn (CW.seq (CW.cond_f rfl (lt_f hlt54) (CW.exit (tx ?_))))))))
   refine tx ?_
   have hL91 : loopM (B_s_l25Less_0 p_l p_others) (p_l.length - 0) 0 (([] : List Str)) = .done (x28) := hI39.symm.trans (loopM.stop hlt54)
   refine bx (tn (CW.seq (CW.region (sd rfl (yM rfl rfl (sd rfl (yA rfl rfl (dn (CW.ret ?_)))))))))
   refine rr rfl (.cons rfl .nil) ?_
   have hM92 : (s_l25Less p_l p_others) = (x28) := by simp only [s_l25Less, hL91, cL]
   rw [hM92]
   exact ⟨A29, c30, w.heap.size, u31, rfl, hf47, (okL.mk (xs := x28) (by first | omega | (simp only [lN, toS_length]; omega)) hok52), (by omega), hf49⟩
theorem c_s_l25Wanted {A1 : Option Addr} {c1 : Nat} {A2 : Option Addr} {c2 : Nat} {A5 : Option Addr} {c5 : Nat} {w : World} (p_t : DTable) (pn : Str) (ps : List DWrite) (h1 : RdS w (Iv 0 w.heap.size) (RF e_Str) 1 A1 p_t.Cols.length c1 p_t.Cols) (h2 : RdS w (Iv 0 w.heap.size) (RF e_Idx) 3 A2 p_t.Idxs.length c2 p_t.Idxs) (h5 : RdS w (Iv 0 w.heap.size) (RF e_Write) 3 A5 ps.length c5 ps) (o3 : ok_Table p_t) (o4 : okS pn) (o6 : (okL ok_Write) ps) (pre0 : s_GoodTable p_t = true) (pre1 : (0 ≤ s_l24Idx p_t pn ∧ s_l24Idx p_t pn < (p_t.Idxs.length : Int))) : Cal Tryz.prog 28 #[.agg #[.string (bs (p_t.Name)), .slice A1 p_t.Cols.length c1, .slice A2 p_t.Idxs.length c2], .string (bs (pn)), .slice A5 ps.length c5] w fun v w' => ∃ A_1 c_1 lo_1 hi_1, v = .slice A_1 ((s_l25Wanted p_t pn ps).length) c_1 ∧ OwnL w' lo_1 hi_1 9 1 (RF e_Str) A_1 ((s_l25Wanted p_t pn ps).length) c_1 (s_l25Wanted p_t pn ps) ∧ (okL okS) (s_l25Wanted p_t pn ps) ∧ (w.heap.size ≤ lo_1 ∧ lo_1 ≤ hi_1 ∧ hi_1 ≤ w'.heap.size) ∧ Ex w w' := by
 have hol7 : p_t.Name.length ≤ 1073741824 := o3.1
 have hol8 := o3.2.1.1
 have hol9 := o3.2.2.1
 have hol10 : pn.length ≤ 1073741824 := o4
 have hol11 := o6.1
 have hgt := f_s_GoodTable pre0
 have hgn := gt_name pre0
 have hgi := gt_idx pre0 (k := (s_l24Idx p_t pn).toNat) (by omega)
 have hrl := (rows_good p_t ps).1
 refine Cal.of func28 rfl ntmps28 rfl (CW.seq (CW.region (sd rfl (yl_box rfl rfl rfl ?_))))
 intro b12 w13 hs14 hz15 hB16 hE17
 refine sd rfl (yA rfl rfl (dn (CW.seq (CW.region (sd rfl (yA rfl rfl (dn (CW.seq ?_))))))))
 refine CW.seq (CW.region (sd rfl (yl_loadN ty26 rfl rfl (hB16.cells (n := 3) rfl) rfl (sd rfl (yM rfl rfl ?_)))))
 have q18 := RdS.ex gS h1 hE17
 have q19 := RdS.ex gI h2 hE17
 refine sd rfl (yC en35 rfl (oc rfl (oc rfl oz)) (Cal.mono (c_s_l25Rows p_t ps (RdS.up q18 gS) (RdS.up q19 gI) (RdS.up (RdS.ex gW h5 hE17) gW) o3 o6) ?_))
 rintro v24 w21 ⟨A22, c22, lo22, hi22, rfl, h22, ho23, hrn26, hE25⟩
 have hE25z := Ex.size hE25
 refine sd rfl (yL un32 rfl rfl (sd rfl (yM rfl rfl (dn (CW.block (CW.loop (fun m93 L94 w95 => ∃ (k27 : Nat) (x89 : List Str) (A90 : Option Addr) (c91 : Nat) (u92 : Nat), m93 = (s_l25Rows p_t ps).length - k27 ∧ k27 ≤ (s_l25Rows p_t ps).length ∧ w21.heap.size ≤ w95.heap.size ∧ lkp L94 1 = some (.string (bs (pn))) ∧ lkp L94 3 = some (.pointer (some ⟨b12, 0, none⟩)) ∧ lkp L94 7 = some (.slice A90 x89.length c91) ∧ lkp L94 12 = some (.slice A22 ((s_l25Rows p_t ps).length) c22) ∧ lkp L94 13 = some (.int .i64 (((s_l25Rows p_t ps).length : Int))) ∧ lkp L94 14 = some (.int .i64 ((k27 : Int))) ∧ Box w95 b12 26 [.string (bs (p_t.Name)), .slice A1 p_t.Cols.length c1, .slice A2 p_t.Idxs.length c2] ∧ RdS w95 (Iv 0 w.heap.size) (RF e_Str) 1 A1 p_t.Cols.length c1 p_t.Cols ∧ RdS w95 (Iv 0 w.heap.size) (RF e_Idx) 3 A2 p_t.Idxs.length c2 p_t.Idxs ∧ OwnL w95 w21.heap.size u92 9 1 (RF e_Str) A90 x89.length c91 x89 ∧ OwnD w95 lo22 hi22 38 1 RO_Row A22 ((s_l25Rows p_t ps).length) c22 (s_l25Rows p_t ps) ∧ Ex w w95 ∧ (w21.heap.size ≤ u92 ∧ u92 ≤ w95.heap.size) ∧ x89.length ≤ 0 + 1 * (k27 - 0) ∧ (∀ y ∈ x89, okS y) ∧ loopM (B_s_l25Wanted_0 p_t pn ps) ((s_l25Rows p_t ps).length - k27) k27 (x89) = loopM (B_s_l25Wanted_0 p_t pn ps) ((s_l25Rows p_t ps).length - 0) 0 (([] : List Str))) ((s_l25Rows p_t ps).length - 0) ?_ ?_))))))
 ·exact ⟨0, ([] : List Str), none, 0, w21.heap.size, rfl, (by omega), Nat.le_refl _, rfl, rfl, rfl, rfl, rfl, rfl, (Box.ex hB16 hE25), (RdS.ex gS q18 hE25), (RdS.ex gI q19 hE25), (OwnL.nil w21 w21.heap.size w21.heap.size 9 1 (RF e_Str)), h22, (Ex.trans (Ex.trans (Ex.refl w) hE17) hE25), (by omega), (by first | (simp; done) | (first | omega | (simp only [lN, toS_length]; omega))), okE.nil, rfl⟩
 ·rintro m101 L102 w103 ⟨k27, x89, A90, c91, u92, rfl, hk104, hsz106, hl107, hl108, hl109, hl110, hl111, hl112, hf113, hf114, hf115, hf116, hf117, hf118, hu119, hln120, hok121, hI105⟩
  refine CW.sub (Sub.cons hl107 (Sub.cons hl108 (Sub.cons hl109 (Sub.cons hl110 (Sub.cons hl111 (Sub.cons hl112 (Sub.nil _))))))) ?_
  have hf113z := Box.lt hf113
  have hf118z := Ex.size hf118
  have hbg122 := RdS.big (OwnL.rd good_Row (OwnD.own goodO_Row good_Row hf117))
  rcases Nat.lt_or_ge k27 ((s_l25Rows p_t ps).length) with hlt124 | hlt124
  ·have hrow := rows_at' p_t ps hlt124
   refine CW.seq (CW.region (sd rfl (yl_lss rfl rfl rfl (dn (CW.seq (CW.cond_t rfl (lt_t hlt124) (CW.skip (tn ?_))))))))
   refine CW.seq (CW.block (CW.seq (CW.region ?_)))
   obtain ⟨_, _, _, eA126, _, ebl126, _, eR126, eC126⟩ := RdS.atD (OwnL.rd good_Row (OwnD.own goodO_Row good_Row hf117)) d_Row (i := k27) (by first | omega | assumption)
   obtain ⟨A127, c127, rfl, h127⟩ := eR126
   refine sd rfl (yl_ixN un32 ty38 rfl rfl rfl eA126 (sd rfl (yl_loadN ty38 rfl rfl eC126 rfl (sd rfl (yB ty38 (cs := [.slice none 0 0]) rfl rfl ?_)))))
   intro b128 w129 hs130 hz131 hB132 hE133
   refine SeqR.u rfl rfl (yl_store (vs := [.slice A127 ((((s_l25Rows p_t ps).getD k27 d_Row).Vals).length) c127]) ty38 rfl rfl rfl rfl rfl rfl hB132 (Nat.le_of_ble_eq_true rfl) ?_)
   intro w134 hB135 hO136
   have hB135 : Box w134 b128 38 [.slice A127 ((((s_l25Rows p_t ps).getD k27 d_Row).Vals).length) c127] := hB135
   have hO136z := hO136.size
   refine dn ?_
   have q138 := Box.only (Box.ex hf113 hE133) hO136 (by omega)
   have q140 := RdS.only gS (RdS.ex gS hf114 hE133) hO136 (by simp only [Iv]; omega)
   have q142 := RdS.only gI (RdS.ex gI hf115 hE133) hO136 (by simp only [Iv]; omega)
   obtain ⟨eb144, eo144, _, eA144, _, ebl144, _, eR144, eC144⟩ := RdS.atD q142 d_Idx (i := ((s_l24Idx p_t pn)).toNat) (by first | omega | assumption | (simp only [wI] at *; omega))
   obtain rfl := eR144
   have eC144 : Cells w134 eb144 (eo144 + (((s_l24Idx p_t pn)).toNat) * 3) [.string (bs ((p_t.Idxs.getD (((s_l24Idx p_t pn)).toNat) d_Idx).Name)), .int .i64 ((p_t.Idxs.getD (((s_l24Idx p_t pn)).toNat) d_Idx).Col), .int .i64 ((p_t.Idxs.getD (((s_l24Idx p_t pn)).toNat) d_Idx).Stage)] := eC144
   have hrf152 := rf_s_l24Idx p_t pn
   refine CW.drawsI 12 (vgetI [DetI (.slice A90 x89.length c91), DetI (.agg #[.string (bs (p_t.Name)), .slice A1 p_t.Cols.length c1, .slice A2 p_t.Idxs.length c2]), DetI (.pointer (some ⟨b12, 0 + 2, none⟩)), DetI (.slice A2 p_t.Idxs.length c2), DetI (.agg #[.string (bs (p_t.Name)), .slice A1 p_t.Cols.length c1, .slice A2 p_t.Idxs.length c2]), DetI (.string (bs (pn))), DetI (.int .i64 ((s_l24Idx p_t pn))), DetI (.pointer (some ⟨eb144, eo144 + (((s_l24Idx p_t pn)).toNat) * 3, none⟩)), DetI (.agg #[.string (bs ((p_t.Idxs.getD (((s_l24Idx p_t pn)).toNat) d_Idx).Name)), .int .i64 ((p_t.Idxs.getD (((s_l24Idx p_t pn)).toNat) d_Idx).Col), .int .i64 ((p_t.Idxs.getD (((s_l24Idx p_t pn)).toNat) d_Idx).Stage)]), DetI (.agg #[.slice A127 ((((s_l25Rows p_t ps).getD k27 d_Row).Vals).length) c127]), fun lo hi v wq => v = .string (bs ((s_l25Entry p_t (p_t.Idxs.getD (((s_l24Idx p_t pn)).toNat) d_Idx) ((s_l25Rows p_t ps).getD k27 d_Row)))) ∧ okS (s_l25Entry p_t (p_t.Idxs.getD (((s_l24Idx p_t pn)).toNat) d_Idx) ((s_l25Rows p_t ps).getD k27 d_Row)), fun lo hi v wq => ∃ A149 c150, v = .slice A149 1 c150 ∧ OwnL wq lo hi 9 1 (RF e_Str) A149 1 c150 ([(s_l25Entry p_t (p_t.Idxs.getD (((s_l24Idx p_t pn)).toNat) d_Idx) ((s_l25Rows p_t ps).getD k27 d_Row))] : List Str)]) Tryz.follows rfl rfl rfl rfl rfl rfl (vgetI_stable ⟨StableI.det _, StableI.det _, StableI.det _, StableI.det _, StableI.det _, StableI.det _, StableI.det _, StableI.det _, StableI.det _, StableI.det _, (fun _ _ _ _ _ ⟨hv, ho148⟩ e => ⟨hv, ho148⟩), (fun _ _ _ _ _ ⟨A149, c150, hv, hO⟩ e => ⟨A149, c150, hv, OwnL.ex gS hO e⟩), trivial⟩) ⟨?_, ?_, ?_, ?_, ?_, ?_, ?_, ?_, ?_, ?_, ?_, ?_, trivial⟩ ?_
   ·exact oI rfl fun h => yM rfl (h.old 7 _ rfl rfl) kI
   ·exact oI rfl fun h => yl_loadN ty26 rfl (h.old 3 _ rfl rfl) ((Box.ex q138 h.ex).cells (n := 3) rfl) rfl kI
   ·exact oI rfl fun h => yl_fieldAddr fd26_2 rfl (h.old 3 _ rfl rfl) kI
   ·exact oI rfl fun h => yl_load1 ty24 rfl (h.dt 2 20 rfl rfl rfl) (((Box.ex q138 h.ex).cell 2).trans rfl) kI
   ·exact oI rfl fun h => yl_loadN ty26 rfl (h.old 3 _ rfl rfl) ((Box.ex q138 h.ex).cells (n := 3) rfl) rfl kI
   ·exact oI rfl fun h => yM rfl (h.old 1 _ rfl rfl) kI
   ·intro L186 w187 hi188
    have hE189 := hi188.ex
    exact OpR.op' rfl (yC en43 rfl (oc (hi188.dt 4 22 rfl rfl rfl) (oc (hi188.dt 5 23 rfl rfl rfl) oz)) (Cal.mono (c_s_l24Idx p_t pn (RdS.up (RdS.ex gS q140 hE189) gS) (RdS.up (RdS.ex gI q142 hE189) gI) o3 o4) fun _ _ h => h))
   ·intro L197 w198 hi199
    have hE200 := hi199.ex
    have hE200z := Ex.size hE200
    exact os rfl ((yl_indexAddr un24 ty64 rfl (hi199.dt 3 21 rfl rfl rfl) (hi199.dt 6 24 rfl rfl rfl) eA144 (by first | omega | assumption | (simp only [wI] at *; omega)) (by first | omega | assumption | (simp only [wI] at *; omega)) kI))
   ·exact oI rfl fun h => yl_loadN ty64 rfl (h.dt 7 25 rfl rfl rfl) (Cells.ex eC144 h.ex) rfl kI
   ·exact oI rfl fun h => yl_loadN ty38 rfl (h.old 9 _ rfl rfl) ((Box.ex hB135 h.ex).cells (n := 1) rfl) rfl kI
   ·intro L215 w216 hi217
    have hE218 := hi217.ex
    have hE218z := Ex.size hE218
    refine OpR.op' rfl (yC en48 rfl (oc (hi217.dt 1 19 rfl rfl rfl) (oc (hi217.dt 8 26 rfl rfl rfl) (oc (hi217.dt 9 27 rfl rfl rfl) oz))) (Cal.mono (c_s_l25Entry p_t (p_t.Idxs.getD (((s_l24Idx p_t pn)).toNat) d_Idx) ((s_l25Rows p_t ps).getD k27 d_Row) (RdS.up (RdS.ex gS q140 hE218) gS) (RdS.up (RdS.ex gI q142 hE218) gI) (RdS.up (RdS.ex gS (RdS.only gS (RdS.ex gS h127 hE133) hO136 (by simp only [Iv]; omega)) hE218) gS) o3 (okL.getD o3.2.2 ok_d_Idx _) (okL.getD ho23 ok_d_Row _) (by first | omega | assumption | (simp only [wI] at *; omega)) (by first | omega | assumption | (simp only [wI] at *; omega)) hrow.2) ?_))
    rintro v227 w225 ⟨rfl, ho226, hE228⟩
    exact ⟨⟨rfl, ho226⟩, hE228⟩
   ·intro L229 w230 hi231
    have hE232 := hi231.ex
    have hE232z := Ex.size hE232
    obtain ⟨lo234, hh235, _, hx233, hr236, hr237, hr238, rfl, h239⟩ := hi231.dep 10 28 rfl rfl
    refine OpR.op' rfl (yl_buildSlice (cs := [.string (bs ((s_l25Entry p_t (p_t.Idxs.getD (((s_l24Idx p_t pn)).toNat) d_Idx) ((s_l25Rows p_t ps).getD k27 d_Row))))]) un23 ty9 (by decide) rfl (oc hx233 oz) (by kernel_rfl) ?_)
    intro b240 w241 hs242 hz243 hB244 hE245
    have hO246 : OwnL w241 b240 (b240 + 1) 9 1 (RF e_Str) (some ⟨b240, 0, none⟩) 1 1 ([(s_l25Entry p_t (p_t.Idxs.getD (((s_l24Idx p_t pn)).toNat) d_Idx) ((s_l25Rows p_t ps).getD k27 d_Row))] : List Str) := OwnL.of_box (S := fun _ => False) hB244 (Nat.le_refl _) (Nat.lt_succ_self _) (EncL.cons (c := [.string (bs ((s_l25Entry p_t (p_t.Idxs.getD (((s_l24Idx p_t pn)).toNat) d_Idx) ((s_l25Rows p_t ps).getD k27 d_Row))))]) rfl rfl EncL.nil) (Nat.le_of_ble_eq_true rfl) (fun h => h) (fun _ h => False.elim h)
    exact ⟨⟨(some ⟨b240, 0, none⟩), 1, rfl, OwnL.more hO246 (by omega) (by omega)⟩, hE245⟩
   ·intro fl250 fh251 L247 w248 hp249
    have hE252 := hp249.ex
    have hE252z := Ex.size hE252
    have hr260 := hp249.rng 11 rfl
    obtain ⟨_, hx259, A149_261, c150_262, rfl, h263⟩ := hp249.new 11 29 rfl rfl
    have q267 := OwnL.rd gS h263
    obtain ⟨nw268, he269, hs270⟩ := RdS.src q267
    refine sd rfl (yl_appendL (S := (fun _ => False)) (lo := w21.heap.size) (hi := u92) (xs := x89) (ys := ([(s_l25Entry p_t (p_t.Idxs.getD (((s_l24Idx p_t pn)).toNat) d_Idx) ((s_l25Rows p_t ps).getD k27 d_Row))] : List Str)) gS un23 ty9 rfl (Nat.le_of_ble_eq_true rfl) rfl (hp249.nt 0 18 rfl rfl rfl) hx259 (OwnL.ex gS (OwnL.only gS (OwnL.ex gS hf116 hE133) hO136 (by omega)) hE252) he269 hs270 (RdS.len q267) (by first | omega | (simp only [lN, toS_length]; omega)) (by first | omega | (simp only [lN, toS_length]; omega)) (by omega) (by omega) (fun _ h _ => False.elim h) (by omega) ?_)
    intro A271 c272 w273 row274 hO275 hG276 hrg277
    have hG276z := hG276.size
    refine sd rfl (yA rfl rfl (SeqR.done (bn (tn (CW.sub (Sub.cons (d := 1) (hp249.old 1 _ rfl rfl) (Sub.cons (d := 3) (hp249.old 3 _ rfl rfl) (Sub.cons (d := 7) rfl (Sub.cons (d := 12) (hp249.old 12 _ rfl rfl) (Sub.cons (d := 13) (hp249.old 13 _ rfl rfl) (Sub.cons (d := 14) (hp249.old 14 _ rfl rfl) (Sub.nil _))))))) (CW.region (sd rfl (yl_inc rfl rfl rfl (by omega) (sd rfl (yM rfl rfl (SeqR.done ?_)))))))))))
    refine tn ?_
    have hB278 : B_s_l25Wanted_0 p_t pn ps k27 (x89) = .cont ((x89 ++ ([(s_l25Entry p_t (p_t.Idxs.getD (((s_l24Idx p_t pn)).toNat) d_Idx) ((s_l25Rows p_t ps).getD k27 d_Row))] : List Str))) := by simp only [B_s_l25Wanted_0, cL]
    exact ⟨(s_l25Rows p_t ps).length - (k27 + 1), by omega, k27 + 1, (x89 ++ ([(s_l25Entry p_t (p_t.Idxs.getD (((s_l24Idx p_t pn)).toNat) d_Idx) ((s_l25Rows p_t ps).getD k27 d_Row))] : List Str)), A271, c272, w273.heap.size, rfl, hlt124, (by omega), rfl, rfl, rfl, rfl, rfl, rfl, (Box.grown (Box.ex q138 hE252) hG276 (fun k hk => by have := hrg277 k hk; omega)), (RdS.grown gS (RdS.ex gS q140 hE252) hG276 (fun k hk => by have := hrg277 k hk; simp only [Iv]; omega)), (RdS.grown gI (RdS.ex gI q142 hE252) hG276 (fun k hk => by have := hrg277 k hk; simp only [Iv]; omega)), hO275, (OwnD.grown goodO_Row (OwnD.ex goodO_Row (OwnD.only goodO_Row (OwnD.ex goodO_Row hf117 hE133) hO136 (by omega)) hE252) hG276 (fun k hk => by have := hrg277 k hk; omega)), (Below.grown (Ex.trans (Below.only (Ex.trans hf118 hE133) hO136 (by omega)) hE252) hG276 (by omega) (fun k hk => by have := hrg277 k hk; omega)), (by omega), (by first | omega | (simp only [lN, toS_length]; omega)), (okE.append hok121 ((okL.mk (Nat.le_of_ble_eq_true rfl) (okE.cons (ok_l25Entry (by omega) hrow.2) okE.nil))).2), (loopM.cont hlt124 hB278).symm.trans hI105⟩
  ·refine CW.seq (CW.region (sd rfl (yl_lss rfl rfl rfl (dn (CW.seq (CW.cond_f rfl (lt_f hlt124) (CW.exit (tx ?_))))))))
   refine tx ?_
   have hL293 : loopM (B_s_l25Wanted_0 p_t pn ps) ((s_l25Rows p_t ps).length - 0) 0 (([] : List Str)) = .done (x89) := hI105.symm.trans (loopM.stop hlt124)
   refine bx (tn (CW.seq (CW.region (sd rfl (yM rfl rfl (sd rfl (yA rfl rfl (dn (CW.ret ?_)))))))))
   refine rr rfl (.cons rfl .nil) ?_
   have hM294 : (s_l25Wanted p_t pn ps) = (x89) := by simp only [s_l25Wanted, hL293, cL]
   rw [hM294]
   exact ⟨A90, c91, w21.heap.size, u92, rfl, hf116, (okL.mk (xs := x89) (by first | omega | (simp only [lN, toS_length]; omega)) hok121), (by omega), hf118⟩
theorem c_s_OrphansIn {A1 : Option Addr} {c1 : Nat} {A2 : Option Addr} {c2 : Nat} {A5 : Option Addr} {c5 : Nat} {w : World} (p_t : DTable) (pn : Str) (ps : List DWrite) (h1 : RdS w (Iv 0 w.heap.size) (RF e_Str) 1 A1 p_t.Cols.length c1 p_t.Cols) (h2 : RdS w (Iv 0 w.heap.size) (RF e_Idx) 3 A2 p_t.Idxs.length c2 p_t.Idxs) (h5 : RdS w (Iv 0 w.heap.size) (RF e_Write) 3 A5 ps.length c5 ps) (o3 : ok_Table p_t) (o4 : okS pn) (o6 : (okL ok_Write) ps) : Cal Tryz.prog 8 #[.agg #[.string (bs (p_t.Name)), .slice A1 p_t.Cols.length c1, .slice A2 p_t.Idxs.length c2], .string (bs (pn)), .slice A5 ps.length c5] w fun v w' => ∃ A_1 c_1 lo_1 hi_1, v = .tuple #[.slice A_1 (((s_OrphansIn p_t pn ps).1).length) c_1, .bool ((s_OrphansIn p_t pn ps).2)] ∧ OwnL w' lo_1 hi_1 9 1 (RF e_Str) A_1 (((s_OrphansIn p_t pn ps).1).length) c_1 ((s_OrphansIn p_t pn ps).1) ∧ (okL okS) ((s_OrphansIn p_t pn ps).1) ∧ (w.heap.size ≤ lo_1 ∧ lo_1 ≤ hi_1 ∧ hi_1 ≤ w'.heap.size) ∧ Ex w w' := by
 have hol7 : p_t.Name.length ≤ 1073741824 := o3.1
 have hol8 := o3.2.1.1
 have hol9 := o3.2.2.1
 have hol10 : pn.length ≤ 1073741824 := o4
 have hol11 := o6.1
 refine Cal.of func8 rfl ntmps8 rfl (CW.seq (CW.region (sd rfl (yl_box rfl rfl rfl ?_))))
 intro b12 w13 hs14 hz15 hB16 hE17
 refine sd rfl (yA rfl rfl (sd rfl (yA rfl rfl (dn (CW.seq (CW.seq (CW.region (sd rfl (yl_loadN ty26 rfl rfl (hB16.cells (n := 3) rfl) rfl (sd rfl (yM rfl rfl ?_)))))))))))
 refine sd rfl (yM rfl rfl ?_)
 have q18 := RdS.ex gS h1 hE17
 have q19 := RdS.ex gI h2 hE17
 have q20 := RdS.ex gW h5 hE17
 refine sd rfl (yC en24 rfl (oc rfl (oc rfl (oc rfl oz))) (Cal.mono (c_s_l25Asked p_t pn ps (RdS.up q18 gS) (RdS.up q19 gI) (RdS.up q20 gW) o3 o4 o6) ?_))
 rintro v22 w21 ⟨rfl, hE23⟩
 have hE23z := Ex.size hE23
 refine sd rfl (yl_not rfl rfl (dn (bcase (s_l25Asked p_t pn ps) (fun hb24 => ?_) (fun hb24 => ?_))))
 ·refine CW.cond_f rfl (not_t hb24) (CW.skip (tn (CW.seq ?_)))
  have q25 := Box.ex hB16 hE23
  have q26 := RdS.ex gS q18 hE23
  have q27 := RdS.ex gI q19 hE23
  have q28 := RdS.ex gW q20 hE23
  refine CW.drawsI 7 (vgetI [DetI (.agg #[.string (bs (p_t.Name)), .slice A1 p_t.Cols.length c1, .slice A2 p_t.Idxs.length c2]), DetI (.string (bs (pn))), DetI (.slice A5 ps.length c5), fun lo hi v wq => ∃ A30 c30 lo30 hi30, v = .slice A30 ((s_l25Entries p_t pn ps).length) c30 ∧ OwnL wq lo30 hi30 9 1 (RF e_Str) A30 ((s_l25Entries p_t pn ps).length) c30 (s_l25Entries p_t pn ps) ∧ (okL okS) (s_l25Entries p_t pn ps) ∧ (lo ≤ lo30 ∧ lo30 ≤ hi30 ∧ hi30 ≤ hi), DetI (.agg #[.string (bs (p_t.Name)), .slice A1 p_t.Cols.length c1, .slice A2 p_t.Idxs.length c2]), DetI (.string (bs (pn))), DetI (.slice A5 ps.length c5)]) Tryz.follows rfl rfl rfl rfl rfl rfl (vgetI_stable ⟨StableI.det _, StableI.det _, StableI.det _, (fun _ _ _ _ _ ⟨A30, c30, lo30, hi30, hv, h30, ho31, hr0⟩ e => ⟨A30, c30, lo30, hi30, hv, OwnL.ex gS h30 e, ho31, hr0⟩), StableI.det _, StableI.det _, StableI.det _, trivial⟩) ⟨?_, ?_, ?_, ?_, ?_, ?_, ?_, trivial⟩ ?_
  ·exact oI rfl fun h => yl_loadN ty26 rfl (h.old 3 _ rfl rfl) ((Box.ex q25 h.ex).cells (n := 3) rfl) rfl kI
  ·exact oI rfl fun h => yM rfl (h.old 1 _ rfl rfl) kI
  ·exact oI rfl fun h => yM rfl (h.old 2 _ rfl rfl) kI
  ·intro L48 w49 hi50
   have hE51 := hi50.ex
   refine OpR.op' rfl (yC en25 rfl (oc (hi50.dt 0 13 rfl rfl rfl) (oc (hi50.dt 1 14 rfl rfl rfl) (oc (hi50.dt 2 15 rfl rfl rfl) oz))) (Cal.mono (c_s_l25Entries p_t pn ps (RdS.up (RdS.ex gS q26 hE51) gS) (RdS.up (RdS.ex gI q27 hE51) gI) (RdS.up (RdS.ex gW q28 hE51) gW) o3 o4 o6) ?_))
   rintro v61 w58 ⟨A59, c59, lo59, hi59, rfl, h59, ho60, hrn63, hE62⟩
   exact ⟨⟨A59, c59, lo59, hi59, rfl, h59, ho60, hrn63⟩, hE62⟩
  ·exact oI rfl fun h => yl_loadN ty26 rfl (h.old 3 _ rfl rfl) ((Box.ex q25 h.ex).cells (n := 3) rfl) rfl kI
  ·exact oI rfl fun h => yM rfl (h.old 1 _ rfl rfl) kI
  ·exact oI rfl fun h => yM rfl (h.old 2 _ rfl rfl) kI
  ·intro fl83 fh84 L80 w81 hp82
   have hE85 := hp82.ex
   have hE85z := Ex.size hE85
   have hr87 := hp82.rng 3 rfl
   obtain ⟨_, hx86, A30_88, c30_89, lo30_90, hi30_91, rfl, h92, h93, hrn94⟩ := hp82.new 3 16 rfl rfl
   refine sd rfl (yC en28 rfl (oc (hp82.nt 4 17 rfl rfl rfl) (oc (hp82.nt 5 18 rfl rfl rfl) (oc (hp82.nt 6 19 rfl rfl rfl) oz))) (Cal.mono (c_s_l25Wanted p_t pn ps (RdS.up (RdS.ex gS q26 hE85) gS) (RdS.up (RdS.ex gI q27 hE85) gI) (RdS.up (RdS.ex gW q28 hE85) gW) o3 o4 o6 (asked_good hb24) (asked_idx hb24)) ?_))
   rintro v104 w101 ⟨A102, c102, lo102, hi102, rfl, h102, ho103, hrn106, hE105⟩
   have hE105z := Ex.size hE105
   refine sd rfl (yC en27 rfl (oc hx86 (oc rfl oz)) (Cal.mono (c_s_l25Less (s_l25Entries p_t pn ps) (s_l25Wanted p_t pn ps) (RdS.up (OwnL.rd gS (OwnL.ex gS h92 hE105)) gS) (RdS.up (OwnL.rd gS h102) gS) h93 ho103) ?_))
   rintro v113 w110 ⟨A111, c111, lo111, hi111, rfl, h111, ho112, hrn115, hE114⟩
   have hE114z := Ex.size hE114
   refine sd rfl (yA rfl rfl (sd rfl (yA rfl rfl (dn (CW.sub (Sub.cons (d := 6) rfl (Sub.cons (d := 7) rfl (Sub.nil _))) (CW.ret (rr rfl (.cons rfl (.cons rfl .nil)) ?_)))))))
   have hM116 : (s_OrphansIn p_t pn ps) = (((s_l25Less (s_l25Entries p_t pn ps) (s_l25Wanted p_t pn ps)), true)) := by simp only [s_OrphansIn, hb24, cL]
   rw [hM116]
   exact ⟨A111, c111, lo111, hi111, rfl, h111, ho112, (by omega), (Ex.trans (Ex.trans (Ex.trans (Ex.trans (Ex.trans (Ex.refl w) hE17) hE23) hE85) hE105) hE114)⟩
 ·refine CW.cond_t rfl (not_f hb24) (CW.seq (CW.region (sd rfl (yA rfl rfl (sd rfl (yA rfl rfl (dn (CW.ret (tr ?_)))))))))
  refine rr rfl (.cons rfl (.cons rfl .nil)) ?_
  have hM122 : (s_OrphansIn p_t pn ps) = ((([] : List Str), false)) := by simp only [s_OrphansIn, hb24, cL]
  rw [hM122]
  exact ⟨none, 0, w21.heap.size, w21.heap.size, rfl, (OwnL.nil _ _ _ _ _ _), (okL.nil _), (by omega), (Ex.trans (Ex.trans (Ex.refl w) hE17) hE23)⟩
theorem c_i_Table_lacksIn {A1 : Option Addr} {c1 : Nat} {A2 : Option Addr} {c2 : Nat} {A5 : Option Addr} {c5 : Nat} {w : World} (p_t : DTable) (pn : Str) (ps : List DWrite) (h1 : RdS w (Iv 0 w.heap.size) (RF e_Str) 1 A1 p_t.Cols.length c1 p_t.Cols) (h2 : RdS w (Iv 0 w.heap.size) (RF e_Idx) 3 A2 p_t.Idxs.length c2 p_t.Idxs) (h5 : RdS w (Iv 0 w.heap.size) (RF e_Write) 3 A5 ps.length c5 ps) (o3 : ok_Table p_t) (o4 : okS pn) (o6 : (okL ok_Write) ps) (pre0 : i_hasIdx p_t pn = true) : Cal Tryz.prog 29 #[.agg #[.string (bs (p_t.Name)), .slice A1 p_t.Cols.length c1, .slice A2 p_t.Idxs.length c2], .string (bs (pn)), .slice A5 ps.length c5] w fun v w' => ∃ A_1 c_1 lo_1 hi_1, v = .slice A_1 ((i_Table_lacksIn p_t pn ps).length) c_1 ∧ OwnL w' lo_1 hi_1 9 1 (RF e_Str) A_1 ((i_Table_lacksIn p_t pn ps).length) c_1 (i_Table_lacksIn p_t pn ps) ∧ (okL okS) (i_Table_lacksIn p_t pn ps) ∧ (w.heap.size ≤ lo_1 ∧ lo_1 ≤ hi_1 ∧ hi_1 ≤ w'.heap.size) ∧ Ex w w' := by
 have hol7 : p_t.Name.length ≤ 1073741824 := o3.1
 have hol8 := o3.2.1.1
 have hol9 := o3.2.2.1
 have hol10 : pn.length ≤ 1073741824 := o4
 have hol11 := o6.1
 have hgi := f_i_hasIdx pre0
 refine Cal.of func29 rfl ntmps29 rfl (CW.seq (CW.region (sd rfl (yl_box rfl rfl rfl ?_))))
 intro b12 w13 hs14 hz15 hB16 hE17
 refine sd rfl (yA rfl rfl (dn (CW.seq ?_)))
 have q18 := RdS.ex gS h1 hE17
 have q19 := RdS.ex gI h2 hE17
 have q20 := RdS.ex gW h5 hE17
 refine CW.drawsI 7 (vgetI [DetI (.agg #[.string (bs (p_t.Name)), .slice A1 p_t.Cols.length c1, .slice A2 p_t.Idxs.length c2]), DetI (.string (bs (pn))), DetI (.slice A5 ps.length c5), fun lo hi v wq => ∃ A22 c22 lo22 hi22, v = .slice A22 ((i_Table_keysIn p_t pn ps).length) c22 ∧ OwnL wq lo22 hi22 9 1 (RF e_Str) A22 ((i_Table_keysIn p_t pn ps).length) c22 (i_Table_keysIn p_t pn ps) ∧ (okL okS) (i_Table_keysIn p_t pn ps) ∧ (lo ≤ lo22 ∧ lo22 ≤ hi22 ∧ hi22 ≤ hi), DetI (.agg #[.string (bs (p_t.Name)), .slice A1 p_t.Cols.length c1, .slice A2 p_t.Idxs.length c2]), DetI (.string (bs (pn))), DetI (.slice A5 ps.length c5)]) Tryz.follows rfl rfl rfl rfl rfl rfl (vgetI_stable ⟨StableI.det _, StableI.det _, StableI.det _, (fun _ _ _ _ _ ⟨A22, c22, lo22, hi22, hv, h22, ho23, hr0⟩ e => ⟨A22, c22, lo22, hi22, hv, OwnL.ex gS h22 e, ho23, hr0⟩), StableI.det _, StableI.det _, StableI.det _, trivial⟩) ⟨?_, ?_, ?_, ?_, ?_, ?_, ?_, trivial⟩ ?_
 ·exact oI rfl fun h => yl_loadN ty26 rfl (h.old 3 _ rfl rfl) ((Box.ex hB16 h.ex).cells (n := 3) rfl) rfl kI
 ·exact oI rfl fun h => yM rfl (h.old 1 _ rfl rfl) kI
 ·exact oI rfl fun h => yM rfl (h.old 2 _ rfl rfl) kI
 ·intro L40 w41 hi42
  have hE43 := hi42.ex
  refine OpR.op' rfl (yC en46 rfl (oc (hi42.dt 0 7 rfl rfl rfl) (oc (hi42.dt 1 8 rfl rfl rfl) (oc (hi42.dt 2 9 rfl rfl rfl) oz))) (Cal.mono (c_i_Table_keysIn p_t pn ps (RdS.up (RdS.ex gS q18 hE43) gS) (RdS.up (RdS.ex gI q19 hE43) gI) (RdS.up (RdS.ex gW q20 hE43) gW) o3 o4 o6 pre0) ?_))
  rintro v53 w50 ⟨A51, c51, lo51, hi51, rfl, h51, ho52, hrn55, hE54⟩
  exact ⟨⟨A51, c51, lo51, hi51, rfl, h51, ho52, hrn55⟩, hE54⟩
 ·exact oI rfl fun h => yl_loadN ty26 rfl (h.old 3 _ rfl rfl) ((Box.ex hB16 h.ex).cells (n := 3) rfl) rfl kI
 ·exact oI rfl fun h => yM rfl (h.old 1 _ rfl rfl) kI
 ·exact oI rfl fun h => yM rfl (h.old 2 _ rfl rfl) kI
 ·intro fl75 fh76 L72 w73 hp74
  have hE77 := hp74.ex
  have hE77z := Ex.size hE77
  have hr79 := hp74.rng 3 rfl
  obtain ⟨_, hx78, A22_80, c22_81, lo22_82, hi22_83, rfl, h84, h85, hrn86⟩ := hp74.new 3 10 rfl rfl
  refine sd rfl (yC en23 rfl (oc (hp74.nt 4 11 rfl rfl rfl) (oc (hp74.nt 5 12 rfl rfl rfl) (oc (hp74.nt 6 13 rfl rfl rfl) oz))) (Cal.mono (c_i_Table_entriesIn p_t pn ps (RdS.up (RdS.ex gS q18 hE77) gS) (RdS.up (RdS.ex gI q19 hE77) gI) (RdS.up (RdS.ex gW q20 hE77) gW) o3 o4 o6 (by first | omega | assumption | (simp only [wI] at *; omega))) ?_))
  rintro v96 w93 ⟨A94, c94, lo94, hi94, rfl, h94, ho95, hrn98, hE97⟩
  have hE97z := Ex.size hE97
  refine sd rfl (yC en45 rfl (oc hx78 (oc rfl oz)) (Cal.mono (c_i_without (i_Table_keysIn p_t pn ps) (i_Table_entriesIn p_t pn ps) (RdS.up (OwnL.rd gS (OwnL.ex gS h84 hE97)) gS) (RdS.up (OwnL.rd gS h94) gS) h85 ho95) ?_))
  rintro v105 w102 ⟨A103, c103, lo103, hi103, rfl, h103, ho104, hrn107, hE106⟩
  have hE106z := Ex.size hE106
  refine sd rfl (yA rfl rfl (dn (CW.sub (Sub.cons (d := 6) rfl (Sub.nil _)) (CW.ret (rr rfl (.cons rfl .nil) ?_)))))
  have hM108 : (i_Table_lacksIn p_t pn ps) = ((i_without (i_Table_keysIn p_t pn ps) (i_Table_entriesIn p_t pn ps))) := by simp only [i_Table_lacksIn, cL]
  rw [hM108]
  exact ⟨A103, c103, lo103, hi103, rfl, h103, ho104, (by omega), (Ex.trans (Ex.trans (Ex.trans (Ex.trans (Ex.refl w) hE17) hE77) hE97) hE106)⟩
theorem c_i_LacksIn {A1 : Option Addr} {c1 : Nat} {A2 : Option Addr} {c2 : Nat} {A5 : Option Addr} {c5 : Nat} {w : World} (p_t : DTable) (pn : Str) (ps : List DWrite) (h1 : RdS w (Iv 0 w.heap.size) (RF e_Str) 1 A1 p_t.Cols.length c1 p_t.Cols) (h2 : RdS w (Iv 0 w.heap.size) (RF e_Idx) 3 A2 p_t.Idxs.length c2 p_t.Idxs) (h5 : RdS w (Iv 0 w.heap.size) (RF e_Write) 3 A5 ps.length c5 ps) (o3 : ok_Table p_t) (o4 : okS pn) (o6 : (okL ok_Write) ps) : Cal Tryz.prog 9 #[.agg #[.string (bs (p_t.Name)), .slice A1 p_t.Cols.length c1, .slice A2 p_t.Idxs.length c2], .string (bs (pn)), .slice A5 ps.length c5] w fun v w' => ∃ A_1 c_1 lo_1 hi_1, v = .tuple #[.slice A_1 (((i_LacksIn p_t pn ps).1).length) c_1, .bool ((i_LacksIn p_t pn ps).2)] ∧ OwnL w' lo_1 hi_1 9 1 (RF e_Str) A_1 (((i_LacksIn p_t pn ps).1).length) c_1 ((i_LacksIn p_t pn ps).1) ∧ (okL okS) ((i_LacksIn p_t pn ps).1) ∧ (w.heap.size ≤ lo_1 ∧ lo_1 ≤ hi_1 ∧ hi_1 ≤ w'.heap.size) ∧ Ex w w' := by
 have hol7 : p_t.Name.length ≤ 1073741824 := o3.1
 have hol8 := o3.2.1.1
 have hol9 := o3.2.2.1
 have hol10 : pn.length ≤ 1073741824 := o4
 have hol11 := o6.1
 refine Cal.of func9 rfl ntmps9 rfl (CW.seq (CW.region (sd rfl (yl_box rfl rfl rfl ?_))))
 intro b12 w13 hs14 hz15 hB16 hE17
 refine sd rfl (yA rfl rfl (sd rfl (yA rfl rfl (dn (CW.seq (CW.seq (CW.region (sd rfl (yl_loadN ty26 rfl rfl (hB16.cells (n := 3) rfl) rfl (sd rfl (yM rfl rfl ?_)))))))))))
 refine sd rfl (yM rfl rfl ?_)
 have q18 := RdS.ex gS h1 hE17
 have q19 := RdS.ex gI h2 hE17
 have q20 := RdS.ex gW h5 hE17
 refine sd rfl (yC en22 rfl (oc rfl (oc rfl (oc rfl oz))) (Cal.mono (c_i_isIdxStore p_t pn ps (RdS.up q18 gS) (RdS.up q19 gI) (RdS.up q20 gW) o3 o4 o6) ?_))
 rintro v22 w21 ⟨rfl, hE23⟩
 have hE23z := Ex.size hE23
 refine sd rfl (yl_not rfl rfl (dn (bcase (i_isIdxStore p_t pn ps) (fun hb24 => ?_) (fun hb24 => ?_))))
 ·have hb24p := f_isIdxStore hb24
  refine CW.cond_f rfl (not_t hb24) (CW.skip (tn (CW.seq (CW.region (sd rfl (yl_loadN ty26 rfl rfl ((Box.ex hB16 hE23).cells (n := 3) rfl) rfl (sd rfl (yM rfl rfl (sd rfl (yM rfl rfl (sd rfl (yC en29 rfl (oc rfl (oc rfl (oc rfl oz))) (Cal.mono (c_i_Table_lacksIn p_t pn ps (RdS.up (RdS.ex gS q18 hE23) gS) (RdS.up (RdS.ex gI q19 hE23) gI) (RdS.up (RdS.ex gW q20 hE23) gW) o3 o4 o6 (isIdxStore_has hb24)) ?_)))))))))))))
  rintro v32 w29 ⟨A30, c30, lo30, hi30, rfl, h30, ho31, hrn34, hE33⟩
  have hE33z := Ex.size hE33
  refine sd rfl (yA rfl rfl (sd rfl (yA rfl rfl (dn (CW.ret (rr rfl (.cons rfl (.cons rfl .nil)) ?_))))))
  have hM35 : (i_LacksIn p_t pn ps) = (((i_Table_lacksIn p_t pn ps), true)) := by simp only [i_LacksIn, hb24, cL]
  rw [hM35]
  exact ⟨A30, c30, lo30, hi30, rfl, h30, ho31, (by omega), (Ex.trans (Ex.trans (Ex.trans (Ex.refl w) hE17) hE23) hE33)⟩
 ·refine CW.cond_t rfl (not_f hb24) (CW.seq (CW.region (sd rfl (yA rfl rfl (sd rfl (yA rfl rfl (dn (CW.ret (tr ?_)))))))))
  refine rr rfl (.cons rfl (.cons rfl .nil)) ?_
  have hM39 : (i_LacksIn p_t pn ps) = ((([] : List Str), false)) := by simp only [i_LacksIn, hb24, cL]
  rw [hM39]
  exact ⟨none, 0, w21.heap.size, w21.heap.size, rfl, (OwnL.nil _ _ _ _ _ _), (okL.nil _), (by omega), (Ex.trans (Ex.trans (Ex.refl w) hE17) hE23)⟩
theorem c_s_LacksIn {A1 : Option Addr} {c1 : Nat} {A2 : Option Addr} {c2 : Nat} {A5 : Option Addr} {c5 : Nat} {w : World} (p_t : DTable) (pn : Str) (ps : List DWrite) (h1 : RdS w (Iv 0 w.heap.size) (RF e_Str) 1 A1 p_t.Cols.length c1 p_t.Cols) (h2 : RdS w (Iv 0 w.heap.size) (RF e_Idx) 3 A2 p_t.Idxs.length c2 p_t.Idxs) (h5 : RdS w (Iv 0 w.heap.size) (RF e_Write) 3 A5 ps.length c5 ps) (o3 : ok_Table p_t) (o4 : okS pn) (o6 : (okL ok_Write) ps) : Cal Tryz.prog 10 #[.agg #[.string (bs (p_t.Name)), .slice A1 p_t.Cols.length c1, .slice A2 p_t.Idxs.length c2], .string (bs (pn)), .slice A5 ps.length c5] w fun v w' => ∃ A_1 c_1 lo_1 hi_1, v = .tuple #[.slice A_1 (((s_LacksIn p_t pn ps).1).length) c_1, .bool ((s_LacksIn p_t pn ps).2)] ∧ OwnL w' lo_1 hi_1 9 1 (RF e_Str) A_1 (((s_LacksIn p_t pn ps).1).length) c_1 ((s_LacksIn p_t pn ps).1) ∧ (okL okS) ((s_LacksIn p_t pn ps).1) ∧ (w.heap.size ≤ lo_1 ∧ lo_1 ≤ hi_1 ∧ hi_1 ≤ w'.heap.size) ∧ Ex w w' := by
 have hol7 : p_t.Name.length ≤ 1073741824 := o3.1
 have hol8 := o3.2.1.1
 have hol9 := o3.2.2.1
 have hol10 : pn.length ≤ 1073741824 := o4
 have hol11 := o6.1
 refine Cal.of func10 rfl ntmps10 rfl (CW.seq (CW.region (sd rfl (yl_box rfl rfl rfl ?_))))
 intro b12 w13 hs14 hz15 hB16 hE17
 refine sd rfl (yA rfl rfl (sd rfl (yA rfl rfl (dn (CW.seq (CW.seq (CW.region (sd rfl (yl_loadN ty26 rfl rfl (hB16.cells (n := 3) rfl) rfl (sd rfl (yM rfl rfl ?_)))))))))))
 refine sd rfl (yM rfl rfl ?_)
 have q18 := RdS.ex gS h1 hE17
 have q19 := RdS.ex gI h2 hE17
 have q20 := RdS.ex gW h5 hE17
 refine sd rfl (yC en24 rfl (oc rfl (oc rfl (oc rfl oz))) (Cal.mono (c_s_l25Asked p_t pn ps (RdS.up q18 gS) (RdS.up q19 gI) (RdS.up q20 gW) o3 o4 o6) ?_))
 rintro v22 w21 ⟨rfl, hE23⟩
 have hE23z := Ex.size hE23
 refine sd rfl (yl_not rfl rfl (dn (bcase (s_l25Asked p_t pn ps) (fun hb24 => ?_) (fun hb24 => ?_))))
 ·refine CW.cond_f rfl (not_t hb24) (CW.skip (tn (CW.seq ?_)))
  have q25 := Box.ex hB16 hE23
  have q26 := RdS.ex gS q18 hE23
  have q27 := RdS.ex gI q19 hE23
  have q28 := RdS.ex gW q20 hE23
  refine CW.drawsI 7 (vgetI [DetI (.agg #[.string (bs (p_t.Name)), .slice A1 p_t.Cols.length c1, .slice A2 p_t.Idxs.length c2]), DetI (.string (bs (pn))), DetI (.slice A5 ps.length c5), fun lo hi v wq => ∃ A30 c30 lo30 hi30, v = .slice A30 ((s_l25Wanted p_t pn ps).length) c30 ∧ OwnL wq lo30 hi30 9 1 (RF e_Str) A30 ((s_l25Wanted p_t pn ps).length) c30 (s_l25Wanted p_t pn ps) ∧ (okL okS) (s_l25Wanted p_t pn ps) ∧ (lo ≤ lo30 ∧ lo30 ≤ hi30 ∧ hi30 ≤ hi), DetI (.agg #[.string (bs (p_t.Name)), .slice A1 p_t.Cols.length c1, .slice A2 p_t.Idxs.length c2]), DetI (.string (bs (pn))), DetI (.slice A5 ps.length c5)]) Tryz.follows rfl rfl rfl rfl rfl rfl (vgetI_stable ⟨StableI.det _, StableI.det _, StableI.det _, (fun _ _ _ _ _ ⟨A30, c30, lo30, hi30, hv, h30, ho31, hr0⟩ e => ⟨A30, c30, lo30, hi30, hv, OwnL.ex gS h30 e, ho31, hr0⟩), StableI.det _, StableI.det _, StableI.det _, trivial⟩) ⟨?_, ?_, ?_, ?_, ?_, ?_, ?_, trivial⟩ ?_
  ·exact oI rfl fun h => yl_loadN ty26 rfl (h.old 3 _ rfl rfl) ((Box.ex q25 h.ex).cells (n := 3) rfl) rfl kI
  ·exact oI rfl fun h => yM rfl (h.old 1 _ rfl rfl) kI
  ·exact oI rfl fun h => yM rfl (h.old 2 _ rfl rfl) kI
  ·intro L48 w49 hi50
   have hE51 := hi50.ex
   refine OpR.op' rfl (yC en28 rfl (oc (hi50.dt 0 13 rfl rfl rfl) (oc (hi50.dt 1 14 rfl rfl rfl) (oc (hi50.dt 2 15 rfl rfl rfl) oz))) (Cal.mono (c_s_l25Wanted p_t pn ps (RdS.up (RdS.ex gS q26 hE51) gS) (RdS.up (RdS.ex gI q27 hE51) gI) (RdS.up (RdS.ex gW q28 hE51) gW) o3 o4 o6 (asked_good hb24) (asked_idx hb24)) ?_))
   rintro v61 w58 ⟨A59, c59, lo59, hi59, rfl, h59, ho60, hrn63, hE62⟩
   exact ⟨⟨A59, c59, lo59, hi59, rfl, h59, ho60, hrn63⟩, hE62⟩
  ·exact oI rfl fun h => yl_loadN ty26 rfl (h.old 3 _ rfl rfl) ((Box.ex q25 h.ex).cells (n := 3) rfl) rfl kI
  ·exact oI rfl fun h => yM rfl (h.old 1 _ rfl rfl) kI
  ·exact oI rfl fun h => yM rfl (h.old 2 _ rfl rfl) kI
  ·intro fl83 fh84 L80 w81 hp82
   have hE85 := hp82.ex
   have hE85z := Ex.size hE85
   have hr87 := hp82.rng 3 rfl
   obtain ⟨_, hx86, A30_88, c30_89, lo30_90, hi30_91, rfl, h92, h93, hrn94⟩ := hp82.new 3 16 rfl rfl
   refine sd rfl (yC en25 rfl (oc (hp82.nt 4 17 rfl rfl rfl) (oc (hp82.nt 5 18 rfl rfl rfl) (oc (hp82.nt 6 19 rfl rfl rfl) oz))) (Cal.mono (c_s_l25Entries p_t pn ps (RdS.up (RdS.ex gS q26 hE85) gS) (RdS.up (RdS.ex gI q27 hE85) gI) (RdS.up (RdS.ex gW q28 hE85) gW) o3 o4 o6) ?_))
   rintro v104 w101 ⟨A102, c102, lo102, hi102, rfl, h102, ho103, hrn106, hE105⟩
   have hE105z := Ex.size hE105
   refine sd rfl (yC en27 rfl (oc hx86 (oc rfl oz)) (Cal.mono (c_s_l25Less (s_l25Wanted p_t pn ps) (s_l25Entries p_t pn ps) (RdS.up (OwnL.rd gS (OwnL.ex gS h92 hE105)) gS) (RdS.up (OwnL.rd gS h102) gS) h93 ho103) ?_))
   rintro v113 w110 ⟨A111, c111, lo111, hi111, rfl, h111, ho112, hrn115, hE114⟩
   have hE114z := Ex.size hE114
   refine sd rfl (yA rfl rfl (sd rfl (yA rfl rfl (dn (CW.sub (Sub.cons (d := 6) rfl (Sub.cons (d := 7) rfl (Sub.nil _))) (CW.ret (rr rfl (.cons rfl (.cons rfl .nil)) ?_)))))))
   have hM116 : (s_LacksIn p_t pn ps) = (((s_l25Less (s_l25Wanted p_t pn ps) (s_l25Entries p_t pn ps)), true)) := by simp only [s_LacksIn, hb24, cL]
   rw [hM116]
   exact ⟨A111, c111, lo111, hi111, rfl, h111, ho112, (by omega), (Ex.trans (Ex.trans (Ex.trans (Ex.trans (Ex.trans (Ex.refl w) hE17) hE23) hE85) hE105) hE114)⟩
 ·refine CW.cond_t rfl (not_f hb24) (CW.seq (CW.region (sd rfl (yA rfl rfl (sd rfl (yA rfl rfl (dn (CW.ret (tr ?_)))))))))
  refine rr rfl (.cons rfl (.cons rfl .nil)) ?_
  have hM122 : (s_LacksIn p_t pn ps) = ((([] : List Str), false)) := by simp only [s_LacksIn, hb24, cL]
  rw [hM122]
  exact ⟨none, 0, w21.heap.size, w21.heap.size, rfl, (OwnL.nil _ _ _ _ _ _), (okL.nil _), (by omega), (Ex.trans (Ex.trans (Ex.refl w) hE17) hE23)⟩
theorem c_i_RowsIn {A1 : Option Addr} {c1 : Nat} {A2 : Option Addr} {c2 : Nat} {A4 : Option Addr} {c4 : Nat} {w : World} (p_t : DTable) (ps : List DWrite) (h1 : RdS w (Iv 0 w.heap.size) (RF e_Str) 1 A1 p_t.Cols.length c1 p_t.Cols) (h2 : RdS w (Iv 0 w.heap.size) (RF e_Idx) 3 A2 p_t.Idxs.length c2 p_t.Idxs) (h4 : RdS w (Iv 0 w.heap.size) (RF e_Write) 3 A4 ps.length c4 ps) (o3 : ok_Table p_t) (o5 : (okL ok_Write) ps) : Cal Tryz.prog 11 #[.agg #[.string (bs (p_t.Name)), .slice A1 p_t.Cols.length c1, .slice A2 p_t.Idxs.length c2], .slice A4 ps.length c4] w fun v w' => ∃ A_1 c_1 lo_1 hi_1, v = .tuple #[.slice A_1 (((i_RowsIn p_t ps).1).length) c_1, .bool ((i_RowsIn p_t ps).2)] ∧ OwnD w' lo_1 hi_1 38 1 RO_Row A_1 (((i_RowsIn p_t ps).1).length) c_1 ((i_RowsIn p_t ps).1) ∧ (okL ok_Row) ((i_RowsIn p_t ps).1) ∧ (w.heap.size ≤ lo_1 ∧ lo_1 ≤ hi_1 ∧ hi_1 ≤ w'.heap.size) ∧ Ex w w' := by
 have hol6 : p_t.Name.length ≤ 1073741824 := o3.1
 have hol7 := o3.2.1.1
 have hol8 := o3.2.2.1
 have hol9 := o5.1
 refine Cal.of func11 rfl ntmps11 rfl (CW.seq (CW.region (sd rfl (yl_box rfl rfl rfl ?_))))
 intro b10 w11 hs12 hz13 hB14 hE15
 refine sd rfl (yA rfl rfl (sd rfl (yA rfl rfl (dn (CW.seq (CW.seq (CW.region (sd rfl (yl_loadN ty26 rfl rfl (hB14.cells (n := 3) rfl) rfl ?_)))))))))
 have q16 := RdS.ex gS h1 hE15
 have q17 := RdS.ex gI h2 hE15
 refine sd rfl (yC en30 rfl (oc rfl oz) (Cal.mono (c_i_GoodTable p_t (RdS.up q16 gS) (RdS.up q17 gI) o3) ?_))
 rintro v19 w18 ⟨rfl, hE20⟩
 have hE20z := Ex.size hE20
 refine sd rfl (yl_not rfl rfl (sd rfl (yM rfl rfl (bcase (i_GoodTable p_t) (fun hb21 => ?_) (fun hb21 => ?_)))))
 ·have hb21p := f_i_GoodTable hb21
  refine sy rfl rfl (not_t hb21) (yM rfl rfl ?_)
  have q23 := RdS.ex gW (RdS.ex gW h4 hE15) hE20
  refine sy rfl rfl (not_t hb21) (yC en31 rfl (oc rfl oz) (Cal.mono (c_i_isRows ps (RdS.up q23 gW) o5) ?_))
  rintro v25 w24 ⟨rfl, hE26⟩
  have hE26z := Ex.size hE26
  refine sy rfl rfl (not_t hb21) (yl_not rfl rfl (sd rfl (yl_pick_f rfl rfl (not_t hb21) rfl (dn (bcase (i_isRows ps) (fun hb27 => ?_) (fun hb27 => ?_))))))
  ·refine CW.cond_f rfl (not_t hb27) (CW.skip (tn (CW.seq (CW.region (sd rfl (yl_loadN ty26 rfl rfl ((Box.ex (Box.ex hB14 hE20) hE26).cells (n := 3) rfl) rfl (sd rfl (yM rfl rfl (sd rfl (yC en32 rfl (oc rfl (oc rfl oz)) (Cal.mono (c_i_Table_rowsIn p_t ps (RdS.up (RdS.ex gS (RdS.ex gS q16 hE20) hE26) gS) (RdS.up (RdS.ex gI (RdS.ex gI q17 hE20) hE26) gI) (RdS.up (RdS.ex gW q23 hE26) gW) o3 o5 (GoodTable_eq _ ▸ hb21)) ?_)))))))))))
   rintro v38 w35 ⟨A36, c36, lo36, hi36, rfl, h36, ho37, hrn40, hE39⟩
   have hE39z := Ex.size hE39
   refine sd rfl (yA rfl rfl (sd rfl (yA rfl rfl (dn (CW.ret (rr rfl (.cons rfl (.cons rfl .nil)) ?_))))))
   have hM41 : (i_RowsIn p_t ps) = (((i_Table_rowsIn p_t ps), true)) := by simp only [i_RowsIn, hb21, hb27, cL]
   rw [hM41]
   exact ⟨A36, c36, lo36, hi36, rfl, h36, ho37, (by omega), (Ex.trans (Ex.trans (Ex.trans (Ex.trans (Ex.refl w) hE15) hE20) hE26) hE39)⟩
  ·refine CW.cond_t rfl (not_f hb27) (CW.seq (CW.region (sd rfl (yA rfl rfl (sd rfl (yA rfl rfl (dn (CW.ret (tr ?_)))))))))
   refine rr rfl (.cons rfl (.cons rfl .nil)) ?_
   have hM46 : (i_RowsIn p_t ps) = ((([] : List DRow), false)) := by simp only [i_RowsIn, hb21, hb27, cL]
   rw [hM46]
   exact ⟨none, 0, w24.heap.size, w24.heap.size, rfl, (OwnD.nil _ _ _ _ _ _), (okL.nil _), (by omega), (Ex.trans (Ex.trans (Ex.trans (Ex.refl w) hE15) hE20) hE26)⟩
 ·refine sz rfl rfl (not_f hb21) (sz rfl rfl (not_f hb21) (sz rfl rfl (not_f hb21) (sd rfl (yl_pick_t rfl rfl (not_f hb21) rfl (dn (CW.cond_t rfl rfl (CW.seq (CW.region ?_))))))))
  refine sd rfl (yA rfl rfl (sd rfl (yA rfl rfl (dn (CW.ret (tr (rr rfl (.cons rfl (.cons rfl .nil)) ?_)))))))
  have hM50 : (i_RowsIn p_t ps) = ((([] : List DRow), false)) := by simp only [i_RowsIn, hb21, cL]
  rw [hM50]
  exact ⟨none, 0, w18.heap.size, w18.heap.size, rfl, (OwnD.nil _ _ _ _ _ _), (okL.nil _), (by omega), (Ex.trans (Ex.trans (Ex.refl w) hE15) hE20)⟩
theorem c_s_RowsIn {A1 : Option Addr} {c1 : Nat} {A2 : Option Addr} {c2 : Nat} {A4 : Option Addr} {c4 : Nat} {w : World} (p_t : DTable) (ps : List DWrite) (h1 : RdS w (Iv 0 w.heap.size) (RF e_Str) 1 A1 p_t.Cols.length c1 p_t.Cols) (h2 : RdS w (Iv 0 w.heap.size) (RF e_Idx) 3 A2 p_t.Idxs.length c2 p_t.Idxs) (h4 : RdS w (Iv 0 w.heap.size) (RF e_Write) 3 A4 ps.length c4 ps) (o3 : ok_Table p_t) (o5 : (okL ok_Write) ps) : Cal Tryz.prog 12 #[.agg #[.string (bs (p_t.Name)), .slice A1 p_t.Cols.length c1, .slice A2 p_t.Idxs.length c2], .slice A4 ps.length c4] w fun v w' => ∃ A_1 c_1 lo_1 hi_1, v = .tuple #[.slice A_1 (((s_RowsIn p_t ps).1).length) c_1, .bool ((s_RowsIn p_t ps).2)] ∧ OwnD w' lo_1 hi_1 38 1 RO_Row A_1 (((s_RowsIn p_t ps).1).length) c_1 ((s_RowsIn p_t ps).1) ∧ (okL ok_Row) ((s_RowsIn p_t ps).1) ∧ (w.heap.size ≤ lo_1 ∧ lo_1 ≤ hi_1 ∧ hi_1 ≤ w'.heap.size) ∧ Ex w w' := by
 have hol6 : p_t.Name.length ≤ 1073741824 := o3.1
 have hol7 := o3.2.1.1
 have hol8 := o3.2.2.1
 have hol9 := o5.1
 refine Cal.of func12 rfl ntmps12 rfl (CW.seq (CW.region (sd rfl (yl_box rfl rfl rfl ?_))))
 intro b10 w11 hs12 hz13 hB14 hE15
 refine sd rfl (yA rfl rfl (sd rfl (yA rfl rfl (dn (CW.seq (CW.seq (CW.region (sd rfl (yl_loadN ty26 rfl rfl (hB14.cells (n := 3) rfl) rfl ?_)))))))))
 have q16 := RdS.ex gS h1 hE15
 have q17 := RdS.ex gI h2 hE15
 refine sd rfl (yC en33 rfl (oc rfl oz) (Cal.mono (c_s_GoodTable p_t (RdS.up q16 gS) (RdS.up q17 gI) o3) ?_))
 rintro v19 w18 ⟨rfl, hE20⟩
 have hE20z := Ex.size hE20
 refine sd rfl (yl_not rfl rfl (sd rfl (yM rfl rfl (bcase (s_GoodTable p_t) (fun hb21 => ?_) (fun hb21 => ?_)))))
 ·have hb21p := f_s_GoodTable hb21
  refine sy rfl rfl (not_t hb21) (yM rfl rfl ?_)
  have q23 := RdS.ex gW (RdS.ex gW h4 hE15) hE20
  refine sy rfl rfl (not_t hb21) (yC en34 rfl (oc rfl oz) (Cal.mono (c_s_l5Rows ps (RdS.up q23 gW) o5) ?_))
  rintro v25 w24 ⟨rfl, hE26⟩
  have hE26z := Ex.size hE26
  refine sy rfl rfl (not_t hb21) (yl_not rfl rfl (sd rfl (yl_pick_f rfl rfl (not_t hb21) rfl (dn (bcase (s_l5Rows ps) (fun hb27 => ?_) (fun hb27 => ?_))))))
  ·refine CW.cond_f rfl (not_t hb27) (CW.skip (tn (CW.seq (CW.region (sd rfl (yl_loadN ty26 rfl rfl ((Box.ex (Box.ex hB14 hE20) hE26).cells (n := 3) rfl) rfl (sd rfl (yM rfl rfl (sd rfl (yC en35 rfl (oc rfl (oc rfl oz)) (Cal.mono (c_s_l25Rows p_t ps (RdS.up (RdS.ex gS (RdS.ex gS q16 hE20) hE26) gS) (RdS.up (RdS.ex gI (RdS.ex gI q17 hE20) hE26) gI) (RdS.up (RdS.ex gW q23 hE26) gW) o3 o5) ?_)))))))))))
   rintro v38 w35 ⟨A36, c36, lo36, hi36, rfl, h36, ho37, hrn40, hE39⟩
   have hE39z := Ex.size hE39
   refine sd rfl (yA rfl rfl (sd rfl (yA rfl rfl (dn (CW.ret (rr rfl (.cons rfl (.cons rfl .nil)) ?_))))))
   have hM41 : (s_RowsIn p_t ps) = (((s_l25Rows p_t ps), true)) := by simp only [s_RowsIn, hb21, hb27, cL]
   rw [hM41]
   exact ⟨A36, c36, lo36, hi36, rfl, h36, ho37, (by omega), (Ex.trans (Ex.trans (Ex.trans (Ex.trans (Ex.refl w) hE15) hE20) hE26) hE39)⟩
  ·refine CW.cond_t rfl (not_f hb27) (CW.seq (CW.region (sd rfl (yA rfl rfl (sd rfl (yA rfl rfl (dn (CW.ret (tr ?_)))))))))
   refine rr rfl (.cons rfl (.cons rfl .nil)) ?_
   have hM46 : (s_RowsIn p_t ps) = ((([] : List DRow), false)) := by simp only [s_RowsIn, hb21, hb27, cL]
   rw [hM46]
   exact ⟨none, 0, w24.heap.size, w24.heap.size, rfl, (OwnD.nil _ _ _ _ _ _), (okL.nil _), (by omega), (Ex.trans (Ex.trans (Ex.trans (Ex.refl w) hE15) hE20) hE26)⟩
 ·refine sz rfl rfl (not_f hb21) (sz rfl rfl (not_f hb21) (sz rfl rfl (not_f hb21) (sd rfl (yl_pick_t rfl rfl (not_f hb21) rfl (dn (CW.cond_t rfl rfl (CW.seq (CW.region ?_))))))))
  refine sd rfl (yA rfl rfl (sd rfl (yA rfl rfl (dn (CW.ret (tr (rr rfl (.cons rfl (.cons rfl .nil)) ?_)))))))
  have hM50 : (s_RowsIn p_t ps) = ((([] : List DRow), false)) := by simp only [s_RowsIn, hb21, cL]
  rw [hM50]
  exact ⟨none, 0, w18.heap.size, w18.heap.size, rfl, (OwnD.nil _ _ _ _ _ _), (okL.nil _), (by omega), (Ex.trans (Ex.trans (Ex.refl w) hE15) hE20)⟩
end Go.Proofs.YtlnjgkmpaebioaaGreatDoor
