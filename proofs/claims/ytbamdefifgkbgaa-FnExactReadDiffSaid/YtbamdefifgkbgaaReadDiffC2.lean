/- Read Diff: what each call returns, part 2. -/
import Derived.Test.YtbamdefifgkbgaaReadDiffC1
set_option maxRecDepth 100000
set_option maxHeartbeats 2000000
open Go.Proofs.Try Go.Proofs.Ytbamdefifgkbgaa.Try
set_option linter.unusedVariables false
set_option linter.unusedSimpArgs false
namespace Go.Proofs.Ytbamdefifgkbgaa
open Go.RowKit Go.X
theorem c_i_source_take {b1 : Nat} {w : World} (p_r_b : Str) (p_r : Int × Bool) (p_n : Int) (h2 : Box w b1 57 [.string (bs (p_r_b)), .int .i64 (p_r.1), .bool (p_r.2)]) (o3 : okS p_r_b) (pre0 : (0 ≤ p_r.1 ∧ p_r.1 ≤ (p_r_b.length : Int))) (pre1 : (0 ≤ p_n ∧ p_n ≤ 1073741824)) : Cal Try.prog 36 #[.pointer (some ⟨b1, 0, none⟩), .int .i64 (p_n)] w fun v w' => v = .string (bs ((i_source_take p_r_b p_r p_n).1)) ∧ okS ((i_source_take p_r_b p_r p_n).1) ∧ Box w' b1 57 [.string (bs (p_r_b)), .int .i64 (((i_source_take p_r_b p_r p_n).2).1), .bool (((i_source_take p_r_b p_r p_n).2).2)] ∧ Chg (InR [(b1, b1 + 1)]) w w' := by
 have hol4 : p_r_b.length ≤ 1073741824 := o3
 have hbx5 := Box.lt h2
 refine Cal.of func36 rfl ntmps36 rfl (CW.seq (CW.region (sd rfl (yl_assign rfl rfl (dn (CW.seq (CW.seq (bcase (p_r.2) (fun hb6 => ?_) (fun hb6 => ?_)))))))))
 ·refine CW.drawsI 18 (vgetI ([.pointer (some ⟨b1, 0, none⟩), .pointer (some ⟨b1, 0, none⟩), .pointer (some ⟨b1, 0 + 2, none⟩), .bool (p_r.2), .bool (p_r.2), undef, undef, undef, undef, undef, undef, undef, undef, undef, undef, undef, undef, .bool (true)].map DetI)) Try.follows rfl rfl rfl rfl rfl rfl (vgetI_stable (stD _)) ⟨?_, ?_, ?_, ?_, ?_, ?_, ?_, ?_, ?_, ?_, ?_, ?_, ?_, ?_, ?_, ?_, ?_, ?_, trivial⟩ ?_
  ·exact oI rfl fun h => yl_move rfl (h.old 0 _ rfl rfl) kI
  ·exact oI rfl fun h => yl_nil rfl (h.dt 0 5 rfl rfl rfl) kI
  ·exact oI rfl fun h => yl_fieldAddr fd57_2 rfl (h.dt 1 6 rfl rfl rfl) kI
  ·exact oI rfl fun h => yl_load1 ty4 rfl (h.dt 2 7 rfl rfl rfl) (((Box.ex h2 h.ex).cell 2).trans rfl) kI
  ·exact oI rfl fun h => yl_move rfl (h.dt 3 8 rfl rfl rfl) kI
  ·exact oS rfl rfl rfl rfl rfl hb6
  ·exact oS rfl rfl rfl rfl rfl hb6
  ·exact oS rfl rfl rfl rfl rfl hb6
  ·exact oS rfl rfl rfl rfl rfl hb6
  ·exact oS rfl rfl rfl rfl rfl hb6
  ·exact oS rfl rfl rfl rfl rfl hb6
  ·exact oS rfl rfl rfl rfl rfl hb6
  ·exact oS rfl rfl rfl rfl rfl hb6
  ·exact oS rfl rfl rfl rfl rfl hb6
  ·exact oS rfl rfl rfl rfl rfl hb6
  ·exact oS rfl rfl rfl rfl rfl hb6
  ·exact oS rfl rfl rfl rfl rfl hb6
  ·exact oI rfl fun h => yl_pick_t rfl (h.dt 4 9 rfl rfl rfl) hb6 rfl kI
  ·intro fl102 fh103 L99 w100 hp101
   have hE104 := hp101.ex
   have hE104z := Ex.size hE104
   refine dn (CW.sub (Sub.cons (d := 0) (hp101.old 0 _ rfl rfl) (Sub.cons (d := 1) (hp101.old 1 _ rfl rfl) (Sub.cons (d := 22) (hp101.nt 17 22 rfl rfl rfl) (Sub.nil _)))) (CW.cond_t rfl rfl (CW.seq (CW.region (sd rfl (yl_move rfl rfl (sd rfl (yl_call en57 rfl (oc rfl oz) (Cal.mono (c_i_source_fail p_r_b p_r (Box.ex h2 hE104) o3) ?_)))))))))
   rintro v110 w109 ⟨rfl, hB112, hc111⟩
   have hc111z := Chg.size hc111
   have hB112z := Box.lt hB112
   have hrf113 := rf_fail p_r_b p_r
   refine dn (CW.seq (CW.region (sd rfl (yl_assign rfl rfl (dn (CW.ret (tr ?_)))))))
   refine rr rfl (.cons rfl .nil) ?_
   have hM114 : (i_source_take p_r_b p_r p_n) = ((([] : Str), ((i_source_fail p_r_b p_r).1, (i_source_fail p_r_b p_r).2))) := by first | (simp only [i_source_take, hb6, cL]; done) | (simp only [i_source_take, hb6, cond_true, cond_false, loopE_done, loopE_ret, pairE]; done) | exact (show (i_source_take p_r_b p_r p_n) = ((([] : Str), (i_source_fail p_r_b p_r))) from by simp only [i_source_take, hb6, cond_true, cond_false, loopE_done, loopE_ret, pairE])
   rw [hM114]
   exact ⟨rfl, (okS.lit rfl), hB112, (Chg.tchg (Chg.tex (Chg.refl (InR [(b1, b1 + 1)]) w) hE104) hc111 (fun k hk => by simp only [InR, or_false] at hk ⊢; omega))⟩
 ·refine CW.drawsI 18 (vgetI ([.pointer (some ⟨b1, 0, none⟩), .pointer (some ⟨b1, 0, none⟩), .pointer (some ⟨b1, 0 + 2, none⟩), .bool (p_r.2), .bool (p_r.2), .int .i64 (p_n), .pointer (some ⟨b1, 0, none⟩), .pointer (some ⟨b1, 0, none⟩), .pointer (some ⟨b1, 0 + 0, none⟩), .string (bs (p_r_b)), .int .i64 ((p_r_b.length : Int)), .pointer (some ⟨b1, 0, none⟩), .pointer (some ⟨b1, 0, none⟩), .pointer (some ⟨b1, 0 + 1, none⟩), .int .i64 (p_r.1), .int .i64 (IntKind.wrap .i64 ((p_r_b.length : Int) - p_r.1)), .bool (decide ((IntKind.wrap .i64 ((p_r_b.length : Int) - p_r.1)) < p_n)), .bool (decide ((IntKind.wrap .i64 ((p_r_b.length : Int) - p_r.1)) < p_n))].map DetI)) Try.follows rfl rfl rfl rfl rfl rfl (vgetI_stable (stD _)) ⟨?_, ?_, ?_, ?_, ?_, ?_, ?_, ?_, ?_, ?_, ?_, ?_, ?_, ?_, ?_, ?_, ?_, ?_, trivial⟩ ?_
  ·exact oI rfl fun h => yl_move rfl (h.old 0 _ rfl rfl) kI
  ·exact oI rfl fun h => yl_nil rfl (h.dt 0 5 rfl rfl rfl) kI
  ·exact oI rfl fun h => yl_fieldAddr fd57_2 rfl (h.dt 1 6 rfl rfl rfl) kI
  ·exact oI rfl fun h => yl_load1 ty4 rfl (h.dt 2 7 rfl rfl rfl) (((Box.ex h2 h.ex).cell 2).trans rfl) kI
  ·exact oI rfl fun h => yl_move rfl (h.dt 3 8 rfl rfl rfl) kI
  ·exact oW rfl rfl rfl rfl hb6 fun h => yl_move rfl (h.old 1 _ rfl rfl) kI
  ·exact oW rfl rfl rfl rfl hb6 fun h => yl_move rfl (h.old 0 _ rfl rfl) kI
  ·exact oW rfl rfl rfl rfl hb6 fun h => yl_nil rfl (h.dt 6 11 rfl rfl rfl) kI
  ·exact oW rfl rfl rfl rfl hb6 fun h => yl_fieldAddr fd57_0 rfl (h.dt 7 12 rfl rfl rfl) kI
  ·exact oW rfl rfl rfl rfl hb6 fun h => yl_load1 ty9 rfl (h.dt 8 13 rfl rfl rfl) (((Box.ex h2 h.ex).cell 0).trans rfl) kI
  ·exact oW rfl rfl rfl rfl hb6 fun h => yl_slen un9 (a := p_r_b) rfl (h.dt 9 14 rfl rfl rfl) kI
  ·exact oW rfl rfl rfl rfl hb6 fun h => yl_move rfl (h.old 0 _ rfl rfl) kI
  ·exact oW rfl rfl rfl rfl hb6 fun h => yl_nil rfl (h.dt 11 16 rfl rfl rfl) kI
  ·exact oW rfl rfl rfl rfl hb6 fun h => yl_fieldAddr fd57_1 rfl (h.dt 12 17 rfl rfl rfl) kI
  ·exact oW rfl rfl rfl rfl hb6 fun h => yl_load1 ty3 rfl (h.dt 13 18 rfl rfl rfl) (((Box.ex h2 h.ex).cell 1).trans rfl) kI
  ·exact oW rfl rfl rfl rfl hb6 fun h => yl_sub rfl (h.dt 10 15 rfl rfl rfl) (h.dt 14 19 rfl rfl rfl) kI
  ·exact oW rfl rfl rfl rfl hb6 fun h => yl_gtr rfl (h.dt 5 10 rfl rfl rfl) (h.dt 15 20 rfl rfl rfl) kI
  ·exact oI rfl fun h => yl_pick_f rfl (h.dt 4 9 rfl rfl rfl) hb6 (h.dt 16 21 rfl rfl rfl) kI
  ·intro fl228 fh229 L225 w226 hp227
   have hE230 := hp227.ex
   have hE230z := Ex.size hE230
   refine dn (CW.sub (Sub.cons (d := 0) (hp227.old 0 _ rfl rfl) (Sub.cons (d := 1) (hp227.old 1 _ rfl rfl) (Sub.cons (d := 22) (hp227.nt 17 22 rfl rfl rfl) (Sub.nil _)))) (bcase (decide ((IntKind.wrap .i64 ((p_r_b.length : Int) - p_r.1)) < p_n)) (fun hb234 => ?_) (fun hb234 => ?_)))
   ·have hb234p := dec_t hb234
    refine CW.cond_t rfl hb234 (CW.seq (CW.region (sd rfl (yl_move rfl rfl (sd rfl (yl_call en57 rfl (oc rfl oz) (Cal.mono (c_i_source_fail p_r_b p_r (Box.ex h2 hE230) o3) ?_)))))))
    rintro v237 w236 ⟨rfl, hB239, hc238⟩
    have hc238z := Chg.size hc238
    have hB239z := Box.lt hB239
    have hrf240 := rf_fail p_r_b p_r
    refine dn (CW.seq (CW.region (sd rfl (yl_assign rfl rfl (dn (CW.ret (tr ?_)))))))
    refine rr rfl (.cons rfl .nil) ?_
    have hM241 : (i_source_take p_r_b p_r p_n) = ((([] : Str), ((i_source_fail p_r_b p_r).1, (i_source_fail p_r_b p_r).2))) := by first | (simp only [i_source_take, hb6, hb234, cL]; done) | (simp only [i_source_take, hb6, hb234, cond_true, cond_false, loopE_done, loopE_ret, pairE]; done) | exact (show (i_source_take p_r_b p_r p_n) = ((([] : Str), (i_source_fail p_r_b p_r))) from by simp only [i_source_take, hb6, hb234, cond_true, cond_false, loopE_done, loopE_ret, pairE])
    rw [hM241]
    exact ⟨rfl, (okS.lit rfl), hB239, (Chg.tchg (Chg.tex (Chg.refl (InR [(b1, b1 + 1)]) w) hE230) hc238 (fun k hk => by simp only [InR, or_false] at hk ⊢; omega))⟩
   ·have hb234p := dec_f hb234
    refine CW.cond_f rfl hb234 (CW.skip (tn (CW.seq (CW.region (sd rfl (yl_move rfl rfl (sd rfl (yl_nil rfl rfl (sd rfl (yl_fieldAddr fd57_1 rfl rfl ?_))))))))))
    have q244 := Box.ex h2 hE230
    refine sd rfl (yl_load1 ty3 rfl rfl ((q244.cell 1).trans rfl) (sd rfl (yl_move rfl rfl (sd rfl (yl_add rfl rfl rfl (sd rfl (yl_nil rfl rfl (sd rfl (yl_fieldAddr fd57_1 rfl rfl (SeqR.u rfl rfl (yl_store (vs := [.int .i64 (IntKind.wrap .i64 (p_r.1 + p_n))]) ty3 rfl rfl rfl rfl rfl rfl q244 (Nat.le_of_ble_eq_true rfl) ?_)))))))))))
    intro w245 hB246 hO247
    have hB246 : Box w245 b1 57 [.string (bs (p_r_b)), .int .i64 (IntKind.wrap .i64 (p_r.1 + p_n)), .bool (p_r.2)] := hB246
    have hO247z := hO247.size
    refine dn (CW.seq (CW.drawsI 14 (vgetI ([.pointer (some ⟨b1, 0, none⟩), .pointer (some ⟨b1, 0, none⟩), .pointer (some ⟨b1, 0 + 0, none⟩), .string (bs (p_r_b)), .pointer (some ⟨b1, 0, none⟩), .pointer (some ⟨b1, 0, none⟩), .pointer (some ⟨b1, 0 + 1, none⟩), .int .i64 (IntKind.wrap .i64 (p_r.1 + p_n)), .int .i64 (p_n), .int .i64 (IntKind.wrap .i64 ((IntKind.wrap .i64 (p_r.1 + p_n)) - p_n)), .pointer (some ⟨b1, 0, none⟩), .pointer (some ⟨b1, 0, none⟩), .pointer (some ⟨b1, 0 + 1, none⟩), .int .i64 (IntKind.wrap .i64 (p_r.1 + p_n))].map DetI)) Try.follows rfl rfl rfl rfl rfl rfl (vgetI_stable (stD _)) ⟨?_, ?_, ?_, ?_, ?_, ?_, ?_, ?_, ?_, ?_, ?_, ?_, ?_, ?_, trivial⟩ ?_))
    ·exact oI rfl fun h => yl_move rfl (h.old 0 _ rfl rfl) kI
    ·exact oI rfl fun h => yl_nil rfl (h.dt 0 33 rfl rfl rfl) kI
    ·exact oI rfl fun h => yl_fieldAddr fd57_0 rfl (h.dt 1 34 rfl rfl rfl) kI
    ·exact oI rfl fun h => yl_load1 ty9 rfl (h.dt 2 35 rfl rfl rfl) (((Box.ex hB246 h.ex).cell 0).trans rfl) kI
    ·exact oI rfl fun h => yl_move rfl (h.old 0 _ rfl rfl) kI
    ·exact oI rfl fun h => yl_nil rfl (h.dt 4 37 rfl rfl rfl) kI
    ·exact oI rfl fun h => yl_fieldAddr fd57_1 rfl (h.dt 5 38 rfl rfl rfl) kI
    ·exact oI rfl fun h => yl_load1 ty3 rfl (h.dt 6 39 rfl rfl rfl) (((Box.ex hB246 h.ex).cell 1).trans rfl) kI
    ·exact oI rfl fun h => yl_move rfl (h.old 1 _ rfl rfl) kI
    ·exact oI rfl fun h => yl_sub rfl (h.dt 7 40 rfl rfl rfl) (h.dt 8 41 rfl rfl rfl) kI
    ·exact oI rfl fun h => yl_move rfl (h.old 0 _ rfl rfl) kI
    ·exact oI rfl fun h => yl_nil rfl (h.dt 10 43 rfl rfl rfl) kI
    ·exact oI rfl fun h => yl_fieldAddr fd57_1 rfl (h.dt 11 44 rfl rfl rfl) kI
    ·exact oI rfl fun h => yl_load1 ty3 rfl (h.dt 12 45 rfl rfl rfl) (((Box.ex hB246 h.ex).cell 1).trans rfl) kI
    ·intro fl325 fh326 L322 w323 hp324
     have hE327 := hp324.ex
     have hE327z := Ex.size hE327
     refine sd rfl (yl_sslice_lh un9 (a := p_r_b) (l := (IntKind.wrap .i64 ((IntKind.wrap .i64 (p_r.1 + p_n)) - p_n)).toNat) (h := (IntKind.wrap .i64 (p_r.1 + p_n)).toNat) rfl (hp324.nt 3 36 rfl rfl rfl) (toNat_op (hp324.nt 9 42 rfl rfl rfl) (by first | omega | assumption | (simp only [wI] at *; omega))) (toNat_op (hp324.nt 13 46 rfl rfl rfl) (by first | omega | assumption | (simp only [wI] at *; omega))) (by first | omega | assumption | (simp only [wI] at *; omega)) (by first | omega | assumption | (simp only [wI] at *; omega)) (sd rfl (yl_assign rfl rfl (dn (CW.sub (Sub.cons (d := 4) rfl (Sub.nil _)) (CW.ret (rr rfl (.cons rfl .nil) ?_)))))))
     have hM331 : (i_source_take p_r_b p_r p_n) = ((((p_r_b.take ((IntKind.wrap .i64 (p_r.1 + p_n)).toNat)).drop ((IntKind.wrap .i64 ((IntKind.wrap .i64 (p_r.1 + p_n)) - p_n)).toNat)), (IntKind.wrap .i64 (p_r.1 + p_n), p_r.2))) := by first | (simp only [i_source_take, hb6, hb234, cL]; done) | (simp only [i_source_take, hb6, hb234, cond_true, cond_false, loopE_done, loopE_ret, pairE]; done) | exact (show (i_source_take p_r_b p_r p_n) = ((((p_r_b.take ((IntKind.wrap .i64 (p_r.1 + p_n)).toNat)).drop ((IntKind.wrap .i64 ((IntKind.wrap .i64 (p_r.1 + p_n)) - p_n)).toNat)), (IntKind.wrap .i64 (p_r.1 + p_n), p_r.2))) from by simp only [i_source_take, hb6, hb234, cond_true, cond_false, loopE_done, loopE_ret, pairE])
     rw [hM331]
     exact ⟨rfl, (okS.drop (okS.take o3 _) _), (Box.ex hB246 hE327), (Chg.tex (Chg.tonly (Chg.tex (Chg.refl (InR [(b1, b1 + 1)]) w) hE230) hO247 (by simp only [InR, or_false]; omega)) hE327)⟩
theorem c_i_numBytes {w : World} (p_n : Int) (pre0 : (0 ≤ p_n ∧ p_n ≤ 1073741824)) : Cal Try.prog 58 #[.int .i64 (p_n)] w fun v w' => v = .string (bs ((i_numBytes p_n))) ∧ Ex w w' := by
 refine Cal.of func58 rfl ntmps58 rfl (CW.seq (CW.region (sd rfl (yl_assign rfl rfl (dn (CW.seq (CW.region (sd rfl (yl_buildSlice (cs := []) un101 ty5 (by decide) rfl opvs_nil (by kernel_rfl) ?_)))))))))
 intro b1 w2 hs3 hz4 hB5 hE6
 have hO7 : OwnL w2 b1 (b1 + 1) 5 1 (RF e_U8) (some ⟨b1, 0, none⟩) 0 0 ([] : List Int) := OwnL.of_box (S := fun _ => False) hB5 (Nat.le_refl _) (Nat.lt_succ_self _) EncL.nil (Nat.le_of_ble_eq_true rfl) (fun h => h) (fun _ h => False.elim h)
 refine sd rfl (yl_assign rfl rfl (dn (CW.seq (CW.block (CW.loop (fun m32 L33 w34 => ∃ (x27 : Int) (x28 : List Int) (A29 : Option Addr) (c30 : Nat) (u31 : Nat), ((x27).toNat) < m32 ∧ w2.heap.size ≤ w34.heap.size ∧ lkp L33 0 = some (.int .i64 (x27)) ∧ lkp L33 3 = some (.slice A29 x28.length c30) ∧ OwnL w34 b1 u31 5 1 (RF e_U8) A29 x28.length c30 x28 ∧ Ex w w34 ∧ (b1 ≤ u31 ∧ u31 ≤ w34.heap.size) ∧ x28.length + 1 * ((x27).toNat) ≤ 0 + 1 * ((p_n).toNat) ∧ 0 ≤ x27 ∧ x27 ≤ 1073741824 ∧ loopW (B_i_numBytes_0 p_n) m32 (x27, x28) = loopW (B_i_numBytes_0 p_n) (((p_n).toNat) + 1) (p_n, ([] : List Int))) (((p_n).toNat) + 1) ?_ ?_)))))
 ·exact ⟨p_n, ([] : List Int), (some ⟨b1, 0, none⟩), 0, (b1 + 1), Nat.lt_succ_self _, Nat.le_refl _, rfl, rfl, hO7, (Ex.trans (Ex.refl w) hE6), (by omega), (by first | (simp; done) | (first | omega | (simp only [List.length_append, List.length_cons, List.length_nil, List.length_set, toS_length]; omega))), (by first | omega | assumption | (simp only [wI] at *; omega)), (by first | omega | assumption | (simp only [wI] at *; omega)), rfl⟩
 ·rintro m36 L37 w38 ⟨x27, x28, A29, c30, u31, hk39, hsz41, hl42, hl43, hf44, hf45, hu46, hln47, hv48, hv49, hI40⟩
  refine CW.sub (Sub.cons hl42 (Sub.cons hl43 (Sub.nil _))) ?_
  have hf45z := Ex.size hf45
  refine CW.seq (CW.seq (CW.region (sd rfl (yl_move rfl rfl (sd rfl (yl_geq rfl rfl rfl (dn (bcase (decide (128 ≤ x27)) (fun hb50 => ?_) (fun hb50 => ?_)))))))))
  ·have hb50p := dec_t hb50
   refine CW.cond_t rfl hb50 (CW.skip (tn (CW.block (CW.seq (CW.region (sd rfl (yl_move rfl rfl (sd rfl (yl_move rfl rfl (sd rfl (yl_rem rfl rfl rfl (by decide) ?_)))))))))))
   refine sd rfl (yl_conv un3 un5 rfl rfl (sd rfl (yl_add rfl rfl rfl (sd rfl (yl_buildSlice (cs := [.int .u8 (IntKind.wrap .u8 ((IntKind.wrap .u8 (Int.tmod x27 128)) + 128))]) un101 ty5 (by decide) rfl (oc rfl oz) (by kernel_rfl) ?_)))))
   intro b51 w52 hs53 hz54 hB55 hE56
   have hO57 : OwnL w52 b51 (b51 + 1) 5 1 (RF e_U8) (some ⟨b51, 0, none⟩) 1 1 ([IntKind.wrap .u8 ((IntKind.wrap .u8 (Int.tmod x27 128)) + 128)] : List Int) := OwnL.of_box (S := fun _ => False) hB55 (Nat.le_refl _) (Nat.lt_succ_self _) (EncL.cons (c := [.int .u8 (IntKind.wrap .u8 ((IntKind.wrap .u8 (Int.tmod x27 128)) + 128))]) rfl rfl EncL.nil) (Nat.le_of_ble_eq_true rfl) (fun h => h) (fun _ h => False.elim h)
   refine sd rfl (yl_appendL (S := (fun _ => False)) (lo := b1) (hi := u31) (xs := x28) (ys := ([IntKind.wrap .u8 ((IntKind.wrap .u8 (Int.tmod x27 128)) + 128)] : List Int)) good_U8 un101 ty5 rfl (Nat.le_of_ble_eq_true rfl) rfl rfl rfl (OwnL.ex good_U8 hf44 hE56) (EncL.cons (c := [.int .u8 (IntKind.wrap .u8 ((IntKind.wrap .u8 (Int.tmod x27 128)) + 128))]) rfl rfl EncL.nil) (Or.inr ⟨_, _, rfl, rfl, hB55.cells (o := 0) (n := 1) rfl⟩) rfl (by first | omega | (simp only [List.length_append, List.length_cons, List.length_nil, List.length_take, List.length_drop, List.length_replicate, List.length_set, toS_length]; omega)) (by first | omega | (simp only [List.length_append, List.length_cons, List.length_nil, List.length_take, List.length_drop, List.length_replicate, List.length_set, toS_length]; omega)) (by omega) (by omega) (fun _ h _ => False.elim h) (by omega) ?_)
   intro A59 c60 w61 row62 hO63 hG64 hrg65
   have hG64z := hG64.size
   refine sd rfl (yl_assign rfl rfl (dn (CW.region (sd rfl (yl_move rfl rfl (sd rfl (yl_quo rfl rfl rfl (by decide) (sd rfl (yl_assign rfl rfl (SeqR.done (bn ?_)))))))))))
   refine tn ?_
   have hB66 : B_i_numBytes_0 p_n (x27, x28) = .cont (IntKind.wrap .i64 (Int.tdiv x27 128), (x28 ++ ([IntKind.wrap .u8 ((IntKind.wrap .u8 (Int.tmod x27 128)) + 128)] : List Int))) := by simp only [B_i_numBytes_0, hb50, cL]
   have hmu69 : ((IntKind.wrap .i64 (Int.tdiv x27 128)).toNat) < ((x27).toNat) := by (have hq := wtd (n := x27) (c := 128) (by decide) (by omega) (by omega); omega)
   exact ⟨m36 - 1, by omega, IntKind.wrap .i64 (Int.tdiv x27 128), (x28 ++ ([IntKind.wrap .u8 ((IntKind.wrap .u8 (Int.tmod x27 128)) + 128)] : List Int)), A59, c60, w61.heap.size, (by omega), (by omega), rfl, rfl, hO63, (Below.grown (Ex.trans hf45 hE56) hG64 (by omega) (fun k hk => by have := hrg65 k hk; omega)), (by omega), (by first | omega | (simp only [List.length_append, List.length_cons, List.length_nil, List.length_set, toS_length]; omega)), (by (have hq := wtd (n := x27) (c := 128) (by decide) (by omega) (by omega); omega)), (by (have hq := wtd (n := x27) (c := 128) (by decide) (by omega) (by omega); omega)), (loopW.cont hk39 hB66).symm.trans hI40⟩
  ·have hb50p := dec_f hb50
   refine CW.cond_f rfl hb50 (CW.exit (tx (tx ?_)))
   have hB71 : B_i_numBytes_0 p_n (x27, x28) = .brk (x27, x28) := by simp only [B_i_numBytes_0, hb50, cL]
   have hL70 : loopW (B_i_numBytes_0 p_n) (((p_n).toNat) + 1) (p_n, ([] : List Int)) = .done (x27, x28) := hI40.symm.trans (loopW.brk hk39 hB71)
   refine bx (tn (CW.seq (CW.region (sd rfl (yl_move rfl rfl (sd rfl (yl_move rfl rfl (sd rfl (yl_conv un3 un5 rfl rfl (sd rfl (yl_buildSlice (cs := [.int .u8 (IntKind.wrap .u8 x27)]) un101 ty5 (by decide) rfl (oc rfl oz) (by kernel_rfl) ?_)))))))))))
   intro b72 w73 hs74 hz75 hB76 hE77
   have hO78 : OwnL w73 b72 (b72 + 1) 5 1 (RF e_U8) (some ⟨b72, 0, none⟩) 1 1 ([IntKind.wrap .u8 x27] : List Int) := OwnL.of_box (S := fun _ => False) hB76 (Nat.le_refl _) (Nat.lt_succ_self _) (EncL.cons (c := [.int .u8 (IntKind.wrap .u8 x27)]) rfl rfl EncL.nil) (Nat.le_of_ble_eq_true rfl) (fun h => h) (fun _ h => False.elim h)
   refine sd rfl (yl_appendL (S := (fun _ => False)) (lo := b1) (hi := u31) (xs := x28) (ys := ([IntKind.wrap .u8 x27] : List Int)) good_U8 un101 ty5 rfl (Nat.le_of_ble_eq_true rfl) rfl rfl rfl (OwnL.ex good_U8 hf44 hE77) (EncL.cons (c := [.int .u8 (IntKind.wrap .u8 x27)]) rfl rfl EncL.nil) (Or.inr ⟨_, _, rfl, rfl, hB76.cells (o := 0) (n := 1) rfl⟩) rfl (by first | omega | (simp only [List.length_append, List.length_cons, List.length_nil, List.length_take, List.length_drop, List.length_replicate, List.length_set, toS_length]; omega)) (by first | omega | (simp only [List.length_append, List.length_cons, List.length_nil, List.length_take, List.length_drop, List.length_replicate, List.length_set, toS_length]; omega)) (by omega) (by omega) (fun _ h _ => False.elim h) (by omega) ?_)
   intro A80 c81 w82 row83 hO84 hG85 hrg86
   have hG85z := hG85.size
   refine sd rfl (yl_toS un101 un5 un9 rfl rfl (OwnL.rd good_U8 hO84) (sd rfl (yl_assign rfl rfl (dn (CW.ret (rr rfl (.cons rfl .nil) ?_))))))
   have hM88 : (i_numBytes p_n) = (toS (x28 ++ ([IntKind.wrap .u8 x27] : List Int))) := by simp only [i_numBytes, hb50, hL70, cL]
   rw [hM88]
   exact ⟨rfl, (Below.grown (Ex.trans hf45 hE77) hG85 (by omega) (fun k hk => by have := hrg86 k hk; omega))⟩
theorem c_i_source_num {b1 : Nat} {w : World} (p_r_b : Str) (p_r : Int × Bool) (h2 : Box w b1 57 [.string (bs (p_r_b)), .int .i64 (p_r.1), .bool (p_r.2)]) (o3 : okS p_r_b) (pre0 : (0 ≤ p_r.1 ∧ p_r.1 ≤ (p_r_b.length : Int))) : Cal Try.prog 27 #[.pointer (some ⟨b1, 0, none⟩)] w fun v w' => v = .int .i64 ((i_source_num p_r_b p_r).1) ∧ Box w' b1 57 [.string (bs (p_r_b)), .int .i64 (((i_source_num p_r_b p_r).2).1), .bool (((i_source_num p_r_b p_r).2).2)] ∧ Chg (InR [(b1, b1 + 1)]) w w' := by
 have hol4 : p_r_b.length ≤ 1073741824 := o3
 have hbx5 := Box.lt h2
 refine Cal.of func27 rfl ntmps27 rfl (CW.seq (CW.region (sd rfl (yl_assign rfl rfl (dn (CW.seq (CW.region (sd rfl (yl_move rfl rfl ?_)))))))))
 refine sd rfl (yl_nil rfl rfl (sd rfl (yl_fieldAddr fd57_1 rfl rfl (sd rfl (yl_load1 ty3 rfl rfl ((h2.cell 1).trans rfl) (sd rfl (yl_assign rfl rfl (dn (CW.seq (CW.region (sd rfl (yl_assign rfl rfl ?_))))))))))))
 refine sd rfl (yl_assign rfl rfl (dn (CW.seq (CW.block (CW.loop (fun m33 L34 w35 => ∃ (x29 : Int) (x30 : Int) (x31 : Int) (x32 : Bool), ((6 - (x31 - p_r.1)).toNat) < m33 ∧ w.heap.size ≤ w35.heap.size ∧ lkp L34 0 = some (.pointer (some ⟨b1, 0, none⟩)) ∧ lkp L34 3 = some (.int .i64 (p_r.1)) ∧ lkp L34 4 = some (.int .i64 (x29)) ∧ lkp L34 5 = some (.int .i64 (x30)) ∧ Box w35 b1 57 [.string (bs (p_r_b)), .int .i64 (x31), .bool (x32)] ∧ Chg (InR [(b1, b1 + 1)]) w w35 ∧ (p_r.1 ≤ x31 ∧ x31 ≤ (p_r_b.length : Int)) ∧ (0 ≤ x29 ∧ x29 ≤ 1000000000) ∧ ((x31 - p_r.1 = 0 ∧ x30 = 1) ∨ (x31 - p_r.1 = 1 ∧ x30 = 128) ∨ (x31 - p_r.1 = 2 ∧ x30 = 16384) ∨ (x31 - p_r.1 = 3 ∧ x30 = 2097152) ∨ (x31 - p_r.1 = 4 ∧ x30 = 268435456) ∨ (x31 - p_r.1 = 5 ∧ x30 = 34359738368)) ∧ loopW (B_i_source_num_0 p_r_b p_r) m33 (x29, x30, x31, x32) = loopW (B_i_source_num_0 p_r_b p_r) (((6 - (p_r.1 - p_r.1)).toNat) + 1) (0, 1, p_r.1, p_r.2)) (((6 - (p_r.1 - p_r.1)).toNat) + 1) ?_ ?_)))))
 ·exact ⟨0, 1, p_r.1, p_r.2, Nat.lt_succ_self _, Nat.le_refl _, rfl, rfl, rfl, rfl, h2, (Chg.refl (InR [(b1, b1 + 1)]) w), (by first | omega | assumption | (simp only [wI] at *; omega)), (by first | omega | assumption | (simp only [wI] at *; omega)), (by first | omega | assumption | (simp only [wI] at *; omega)), rfl⟩
 ·rintro m36 L37 w38 ⟨x29, x30, x31, x32, hk39, hsz41, hl42, hl43, hl44, hl45, hf46, hf47, hv48, hv49, hv50, hI40⟩
  refine CW.sub (Sub.cons hl42 (Sub.cons hl43 (Sub.cons hl44 (Sub.cons hl45 (Sub.nil _))))) ?_
  have hf46z := Box.lt hf46
  have hf47z := Chg.size hf47
  refine CW.block (CW.seq (CW.region (sd rfl (yl_move rfl rfl (sd rfl (yl_call en36 rfl (oc rfl (oc rfl oz)) (Cal.mono (c_i_source_take p_r_b (x31, x32) 1 hf46 o3 (by first | omega | assumption | (simp only [wI] at *; omega)) (by first | omega | assumption | (simp only [wI] at *; omega))) ?_)))))))
  rintro v53 w51 ⟨rfl, ho52, hB55, hc54⟩
  have hc54z := Chg.size hc54
  have hB55z := Box.lt hB55
  have hrf56 := rf_take o3 (x31, x32) 1 (by first | omega | assumption | (simp only [wI] at *; omega))
  refine sd rfl (yl_assign rfl rfl (dn (CW.seq (CW.seq (CW.region (sd rfl (yl_move rfl rfl (sd rfl (yl_nil rfl rfl (sd rfl (yl_fieldAddr fd57_2 rfl rfl ?_)))))))))))
  refine sd rfl (yl_load1 ty4 rfl rfl ((hB55.cell 2).trans rfl) (dn (bcase (((i_source_take p_r_b (x31, x32) 1).2).2) (fun hb57 => ?_) (fun hb57 => ?_))))
  ·refine CW.cond_t rfl hb57 (CW.seq (CW.region (sd rfl (yl_assign rfl rfl (dn (CW.ret (tr (br ?_))))))))
   refine tr ?_
   have hB59 : B_i_source_num_0 p_r_b p_r (x29, x30, x31, x32) = .ret (0, ((i_source_take p_r_b (x31, x32) 1).2)) := by simp only [B_i_source_num_0, hb57, cL]
   have hL58 : loopW (B_i_source_num_0 p_r_b p_r) (((6 - (p_r.1 - p_r.1)).toNat) + 1) (0, 1, p_r.1, p_r.2) = .ret (0, ((i_source_take p_r_b (x31, x32) 1).2)) := hI40.symm.trans (loopW.ret hk39 hB59)
   refine br (tr (rr rfl (.cons rfl .nil) ?_))
   have hM60 : (i_source_num p_r_b p_r) = ((0, (((i_source_take p_r_b (x31, x32) 1).2).1, ((i_source_take p_r_b (x31, x32) 1).2).2))) := by first | (simp only [i_source_num, hb57, hL58, cL]; done) | (simp only [i_source_num, hb57, hL58, cond_true, cond_false, loopE_done, loopE_ret, pairE]; done) | exact (show (i_source_num p_r_b p_r) = ((0, ((i_source_take p_r_b (x31, x32) 1).2))) from by simp only [i_source_num, hb57, hL58, cond_true, cond_false, loopE_done, loopE_ret, pairE])
   rw [hM60]
   exact ⟨rfl, hB55, (Chg.tchg hf47 hc54 (fun k hk => by simp only [InR, or_false] at hk ⊢; omega))⟩
  ·have hb57p := f_take hb57 o3 (by omega)
   have hb57q := digit_mul (i_source_take p_r_b (x31, x32) 1).1 (f := x30) (by omega) (by omega)
   have hb57r : IntKind.wrap .i64 (x29 + (IntKind.wrap .i64 ((IntKind.wrap .i64 (Int.tmod ((((i_source_take p_r_b (x31, x32) 1).1).getD 0 0).toNat : Int) 128)) * x30))) = x29 + (IntKind.wrap .i64 ((IntKind.wrap .i64 (Int.tmod ((((i_source_take p_r_b (x31, x32) 1).1).getD 0 0).toNat : Int) 128)) * x30)) := wrap_in (by omega)
   have hb57s : IntKind.wrap .i64 (((i_source_take p_r_b (x31, x32) 1).2).1 - p_r.1) = ((i_source_take p_r_b (x31, x32) 1).2).1 - p_r.1 := wrap_in (by omega)
   have hb57t : IntKind.wrap .i64 (x30 * 128) = x30 * 128 := wrap_in (by omega)
   refine CW.cond_f rfl hb57 (CW.skip (tn (CW.seq (CW.region (sd rfl (yl_move rfl rfl (sd rfl (yl_move rfl rfl (sd rfl (yl_sindexN un9 (a := ((i_source_take p_r_b (x31, x32) 1).1)) rfl rfl rfl (by first | omega | assumption | (simp only [wI] at *; omega)) (sd rfl (yl_rem rfl rfl rfl (by decide) ?_))))))))))))
   refine sd rfl (yl_conv un5 un3 rfl rfl (sd rfl (yl_move rfl rfl (sd rfl (yl_mul rfl rfl rfl (sd rfl (yl_add rfl rfl rfl (sd rfl (yl_assign rfl rfl (dn (CW.seq (CW.seq ?_))))))))))))
   refine CW.region (sd rfl (yl_move rfl rfl (sd rfl (yl_gtr rfl rfl rfl (sd rfl (yl_move rfl rfl (bcase (decide (1000000000 < (IntKind.wrap .i64 (x29 + (IntKind.wrap .i64 ((IntKind.wrap .i64 (Int.tmod ((((i_source_take p_r_b (x31, x32) 1).1).getD 0 0).toNat : Int) 128)) * x30)))))) (fun hb62 => ?_) (fun hb62 => ?_))))))))
   ·have hb62p := dec_t hb62
    refine sz rfl rfl hb62 (sz rfl rfl hb62 (sz rfl rfl hb62 (sz rfl rfl hb62 (sz rfl rfl hb62 (sz rfl rfl hb62 (sz rfl rfl hb62 (sd rfl (yl_pick_t rfl rfl hb62 rfl (SeqR.done ?_)))))))))
    refine tn (CW.cond_t rfl rfl (CW.seq (CW.region (sd rfl (yl_move rfl rfl (sd rfl (yl_call en57 rfl (oc rfl oz) (Cal.mono (c_i_source_fail p_r_b ((i_source_take p_r_b (x31, x32) 1).2) hB55 o3) ?_))))))))
    rintro v64 w63 ⟨rfl, hB66, hc65⟩
    have hc65z := Chg.size hc65
    have hB66z := Box.lt hB66
    have hrf67 := rf_fail p_r_b ((i_source_take p_r_b (x31, x32) 1).2)
    refine dn (CW.seq (CW.region (sd rfl (yl_assign rfl rfl (dn (CW.ret (tr ?_)))))))
    refine br (tr ?_)
    have hB69 : B_i_source_num_0 p_r_b p_r (x29, x30, x31, x32) = .ret (0, (i_source_fail p_r_b ((i_source_take p_r_b (x31, x32) 1).2))) := by simp only [B_i_source_num_0, hb57, hb62, cL]
    have hL68 : loopW (B_i_source_num_0 p_r_b p_r) (((6 - (p_r.1 - p_r.1)).toNat) + 1) (0, 1, p_r.1, p_r.2) = .ret (0, (i_source_fail p_r_b ((i_source_take p_r_b (x31, x32) 1).2))) := hI40.symm.trans (loopW.ret hk39 hB69)
    refine br (tr (rr rfl (.cons rfl .nil) ?_))
    have hM70 : (i_source_num p_r_b p_r) = ((0, ((i_source_fail p_r_b ((i_source_take p_r_b (x31, x32) 1).2)).1, (i_source_fail p_r_b ((i_source_take p_r_b (x31, x32) 1).2)).2))) := by first | (simp only [i_source_num, hb57, hb62, hL68, cL]; done) | (simp only [i_source_num, hb57, hb62, hL68, cond_true, cond_false, loopE_done, loopE_ret, pairE]; done) | exact (show (i_source_num p_r_b p_r) = ((0, (i_source_fail p_r_b ((i_source_take p_r_b (x31, x32) 1).2)))) from by simp only [i_source_num, hb57, hb62, hL68, cond_true, cond_false, loopE_done, loopE_ret, pairE])
    rw [hM70]
    exact ⟨rfl, hB66, (Chg.tchg (Chg.tchg hf47 hc54 (fun k hk => by simp only [InR, or_false] at hk ⊢; omega)) hc65 (fun k hk => by simp only [InR, or_false] at hk ⊢; omega))⟩
   ·have hb62p := dec_f hb62
    refine sy rfl rfl hb62 (yl_move rfl rfl (sy rfl rfl hb62 (yl_nil rfl rfl (sy rfl rfl hb62 (yl_fieldAddr fd57_1 rfl rfl (sy rfl rfl hb62 (yl_load1 ty3 rfl rfl ((hB55.cell 1).trans rfl) (sy rfl rfl hb62 (yl_move rfl rfl (sy rfl rfl hb62 (yl_sub rfl rfl rfl (sy rfl rfl hb62 (yl_gtr rfl rfl rfl (sd rfl (yl_pick_f rfl rfl hb62 rfl (SeqR.done ?_))))))))))))))))
    refine tn (bcase (decide (5 < (IntKind.wrap .i64 ((((i_source_take p_r_b (x31, x32) 1).2).1) - p_r.1)))) (fun hb73 => ?_) (fun hb73 => ?_))
    ·have hb73p := dec_t hb73
     refine CW.cond_t rfl hb73 (CW.seq (CW.region (sd rfl (yl_move rfl rfl (sd rfl (yl_call en57 rfl (oc rfl oz) (Cal.mono (c_i_source_fail p_r_b ((i_source_take p_r_b (x31, x32) 1).2) hB55 o3) ?_)))))))
     rintro v75 w74 ⟨rfl, hB77, hc76⟩
     have hc76z := Chg.size hc76
     have hB77z := Box.lt hB77
     have hrf78 := rf_fail p_r_b ((i_source_take p_r_b (x31, x32) 1).2)
     refine dn (CW.seq (CW.region (sd rfl (yl_assign rfl rfl (dn (CW.ret (tr ?_)))))))
     refine br (tr ?_)
     have hB80 : B_i_source_num_0 p_r_b p_r (x29, x30, x31, x32) = .ret (0, (i_source_fail p_r_b ((i_source_take p_r_b (x31, x32) 1).2))) := by simp only [B_i_source_num_0, hb57, hb62, hb73, cL]
     have hL79 : loopW (B_i_source_num_0 p_r_b p_r) (((6 - (p_r.1 - p_r.1)).toNat) + 1) (0, 1, p_r.1, p_r.2) = .ret (0, (i_source_fail p_r_b ((i_source_take p_r_b (x31, x32) 1).2))) := hI40.symm.trans (loopW.ret hk39 hB80)
     refine br (tr (rr rfl (.cons rfl .nil) ?_))
     have hM81 : (i_source_num p_r_b p_r) = ((0, ((i_source_fail p_r_b ((i_source_take p_r_b (x31, x32) 1).2)).1, (i_source_fail p_r_b ((i_source_take p_r_b (x31, x32) 1).2)).2))) := by first | (simp only [i_source_num, hb57, hb62, hb73, hL79, cL]; done) | (simp only [i_source_num, hb57, hb62, hb73, hL79, cond_true, cond_false, loopE_done, loopE_ret, pairE]; done) | exact (show (i_source_num p_r_b p_r) = ((0, (i_source_fail p_r_b ((i_source_take p_r_b (x31, x32) 1).2)))) from by simp only [i_source_num, hb57, hb62, hb73, hL79, cond_true, cond_false, loopE_done, loopE_ret, pairE])
     rw [hM81]
     exact ⟨rfl, hB77, (Chg.tchg (Chg.tchg hf47 hc54 (fun k hk => by simp only [InR, or_false] at hk ⊢; omega)) hc76 (fun k hk => by simp only [InR, or_false] at hk ⊢; omega))⟩
    ·have hb73p := dec_f hb73
     refine CW.cond_f rfl hb73 (CW.skip (tn (CW.seq (CW.seq (CW.region (sd rfl (yl_move rfl rfl (sd rfl (yl_sindexN un9 (a := ((i_source_take p_r_b (x31, x32) 1).1)) rfl rfl rfl (by first | omega | assumption | (simp only [wI] at *; omega)) (sd rfl (yl_lss rfl rfl rfl ?_)))))))))))
     refine dn (bcase (decide (((((i_source_take p_r_b (x31, x32) 1).1).getD 0 0).toNat : Int) < 128)) (fun hb84 => ?_) (fun hb84 => ?_))
     ·have hb84p := dec_t hb84
      refine CW.cond_t rfl hb84 (CW.exit (tx (by' rfl (tx ?_))))
      have hB86 : B_i_source_num_0 p_r_b p_r (x29, x30, x31, x32) = .brk (IntKind.wrap .i64 (x29 + (IntKind.wrap .i64 ((IntKind.wrap .i64 (Int.tmod ((((i_source_take p_r_b (x31, x32) 1).1).getD 0 0).toNat : Int) 128)) * x30))), x30, ((i_source_take p_r_b (x31, x32) 1).2).1, ((i_source_take p_r_b (x31, x32) 1).2).2) := by simp only [B_i_source_num_0, hb57, hb62, hb73, hb84, cL]
      have hL85 : loopW (B_i_source_num_0 p_r_b p_r) (((6 - (p_r.1 - p_r.1)).toNat) + 1) (0, 1, p_r.1, p_r.2) = .done (IntKind.wrap .i64 (x29 + (IntKind.wrap .i64 ((IntKind.wrap .i64 (Int.tmod ((((i_source_take p_r_b (x31, x32) 1).1).getD 0 0).toNat : Int) 128)) * x30))), x30, ((i_source_take p_r_b (x31, x32) 1).2).1, ((i_source_take p_r_b (x31, x32) 1).2).2) := hI40.symm.trans (loopW.brk hk39 hB86)
      refine bx (tn (CW.seq (CW.seq ?_)))
      have hrf88 := rf_numBytes (IntKind.wrap .i64 (x29 + (IntKind.wrap .i64 ((IntKind.wrap .i64 (Int.tmod ((((i_source_take p_r_b (x31, x32) 1).1).getD 0 0).toNat : Int) 128)) * x30)))) (by first | omega | assumption | (simp only [wI] at *; omega))
      refine CW.drawsI 13 (vgetI ([.int .i64 (IntKind.wrap .i64 (x29 + (IntKind.wrap .i64 ((IntKind.wrap .i64 (Int.tmod ((((i_source_take p_r_b (x31, x32) 1).1).getD 0 0).toNat : Int) 128)) * x30)))), .string (bs ((i_numBytes (IntKind.wrap .i64 (x29 + (IntKind.wrap .i64 ((IntKind.wrap .i64 (Int.tmod ((((i_source_take p_r_b (x31, x32) 1).1).getD 0 0).toNat : Int) 128)) * x30))))))), .pointer (some ⟨b1, 0, none⟩), .pointer (some ⟨b1, 0, none⟩), .pointer (some ⟨b1, 0 + 0, none⟩), .string (bs (p_r_b)), .int .i64 (p_r.1), .pointer (some ⟨b1, 0, none⟩), .pointer (some ⟨b1, 0, none⟩), .pointer (some ⟨b1, 0 + 1, none⟩), .int .i64 (((i_source_take p_r_b (x31, x32) 1).2).1), .string (bs (((p_r_b.take ((((i_source_take p_r_b (x31, x32) 1).2).1).toNat)).drop ((p_r.1).toNat)))), .bool (!((i_numBytes (IntKind.wrap .i64 (x29 + (IntKind.wrap .i64 ((IntKind.wrap .i64 (Int.tmod ((((i_source_take p_r_b (x31, x32) 1).1).getD 0 0).toNat : Int) 128)) * x30))))) == ((p_r_b.take ((((i_source_take p_r_b (x31, x32) 1).2).1).toNat)).drop ((p_r.1).toNat))))].map DetI)) Try.follows rfl rfl rfl rfl rfl rfl (vgetI_stable (stD _)) ⟨?_, ?_, ?_, ?_, ?_, ?_, ?_, ?_, ?_, ?_, ?_, ?_, ?_, trivial⟩ ?_
      ·exact oI rfl fun h => yl_move rfl (h.old 4 _ rfl rfl) kI
      ·intro L94 w95 hi96
       have hE97 := hi96.ex
       have hE97z := Ex.size hE97
       exact OpR.op' rfl (yl_call en58 rfl (oc (hi96.dt 0 43 rfl rfl rfl) oz) (Cal.mono (c_i_numBytes (IntKind.wrap .i64 (x29 + (IntKind.wrap .i64 ((IntKind.wrap .i64 (Int.tmod ((((i_source_take p_r_b (x31, x32) 1).1).getD 0 0).toNat : Int) 128)) * x30)))) (by first | omega | assumption | (simp only [wI] at *; omega))) fun _ _ h => h))
      ·exact oI rfl fun h => yl_move rfl (h.old 0 _ rfl rfl) kI
      ·exact oI rfl fun h => yl_nil rfl (h.dt 2 45 rfl rfl rfl) kI
      ·exact oI rfl fun h => yl_fieldAddr fd57_0 rfl (h.dt 3 46 rfl rfl rfl) kI
      ·exact oI rfl fun h => yl_load1 ty9 rfl (h.dt 4 47 rfl rfl rfl) (((Box.ex hB55 h.ex).cell 0).trans rfl) kI
      ·exact oI rfl fun h => yl_move rfl (h.old 3 _ rfl rfl) kI
      ·exact oI rfl fun h => yl_move rfl (h.old 0 _ rfl rfl) kI
      ·exact oI rfl fun h => yl_nil rfl (h.dt 7 50 rfl rfl rfl) kI
      ·exact oI rfl fun h => yl_fieldAddr fd57_1 rfl (h.dt 8 51 rfl rfl rfl) kI
      ·exact oI rfl fun h => yl_load1 ty3 rfl (h.dt 9 52 rfl rfl rfl) (((Box.ex hB55 h.ex).cell 1).trans rfl) kI
      ·intro L149 w150 hi151
       have hE152 := hi151.ex
       have hE152z := Ex.size hE152
       exact os rfl ((yl_sslice_lh un9 (a := p_r_b) (l := (p_r.1).toNat) (h := (((i_source_take p_r_b (x31, x32) 1).2).1).toNat) rfl (hi151.dt 5 48 rfl rfl rfl) (toNat_op (hi151.dt 6 49 rfl rfl rfl) (by first | omega | assumption | (simp only [wI] at *; omega))) (toNat_op (hi151.dt 10 53 rfl rfl rfl) (by first | omega | assumption | (simp only [wI] at *; omega))) (by first | omega | assumption | (simp only [wI] at *; omega)) (by first | omega | assumption | (simp only [wI] at *; omega)) kI))
      ·exact oI rfl fun h => yl_sneq (a := (i_numBytes (IntKind.wrap .i64 (x29 + (IntKind.wrap .i64 ((IntKind.wrap .i64 (Int.tmod ((((i_source_take p_r_b (x31, x32) 1).1).getD 0 0).toNat : Int) 128)) * x30)))))) (b := ((p_r_b.take ((((i_source_take p_r_b (x31, x32) 1).2).1).toNat)).drop ((p_r.1).toNat))) rfl (h.dt 1 44 rfl rfl rfl) (h.dt 11 54 rfl rfl rfl) kI
      ·intro fl165 fh166 L162 w163 hp164
       have hE167 := hp164.ex
       have hE167z := Ex.size hE167
       refine dn (CW.sub (Sub.cons (d := 0) (hp164.old 0 _ rfl rfl) (Sub.cons (d := 4) (hp164.old 4 _ rfl rfl) (Sub.cons (d := 55) (hp164.nt 12 55 rfl rfl rfl) (Sub.nil _)))) (bcase ((i_numBytes (IntKind.wrap .i64 (x29 + (IntKind.wrap .i64 ((IntKind.wrap .i64 (Int.tmod ((((i_source_take p_r_b (x31, x32) 1).1).getD 0 0).toNat : Int) 128)) * x30))))) == ((p_r_b.take ((((i_source_take p_r_b (x31, x32) 1).2).1).toNat)).drop ((p_r.1).toNat))) (fun hb171 => ?_) (fun hb171 => ?_)))
       ·refine CW.cond_f rfl (not_t hb171) (CW.skip (tn (CW.seq (CW.region (sd rfl (yl_move rfl rfl (sd rfl (yl_assign rfl rfl (dn ?_)))))))))
        refine CW.ret (rr rfl (.cons rfl .nil) ?_)
        have hM172 : (i_source_num p_r_b p_r) = ((IntKind.wrap .i64 (x29 + (IntKind.wrap .i64 ((IntKind.wrap .i64 (Int.tmod ((((i_source_take p_r_b (x31, x32) 1).1).getD 0 0).toNat : Int) 128)) * x30))), (((i_source_take p_r_b (x31, x32) 1).2).1, ((i_source_take p_r_b (x31, x32) 1).2).2))) := by first | (simp only [i_source_num, hb171, hL85, cond_true, cond_false, loopE_done, loopE_ret, pairE]; done) | (simp only [i_source_num, hb57, hb62, hb73, hb84, hb171, hL85, cL]; done) | (simp only [i_source_num, hb57, hb62, hb73, hb84, hb171, hL85, cond_true, cond_false, loopE_done, loopE_ret, pairE]; done) | exact (show (i_source_num p_r_b p_r) = ((IntKind.wrap .i64 (x29 + (IntKind.wrap .i64 ((IntKind.wrap .i64 (Int.tmod ((((i_source_take p_r_b (x31, x32) 1).1).getD 0 0).toNat : Int) 128)) * x30))), ((i_source_take p_r_b (x31, x32) 1).2))) from by simp only [i_source_num, hb57, hb62, hb73, hb84, hb171, hL85, cond_true, cond_false, loopE_done, loopE_ret, pairE])
        rw [hM172]
        exact ⟨rfl, (Box.ex hB55 hE167), (Chg.tex (Chg.tchg hf47 hc54 (fun k hk => by simp only [InR, or_false] at hk ⊢; omega)) hE167)⟩
       ·refine CW.cond_t rfl (not_f hb171) (CW.seq (CW.region (sd rfl (yl_move rfl rfl (sd rfl (yl_call en57 rfl (oc rfl oz) (Cal.mono (c_i_source_fail p_r_b ((i_source_take p_r_b (x31, x32) 1).2) (Box.ex hB55 hE167) o3) ?_)))))))
        rintro v178 w177 ⟨rfl, hB180, hc179⟩
        have hc179z := Chg.size hc179
        have hB180z := Box.lt hB180
        have hrf181 := rf_fail p_r_b ((i_source_take p_r_b (x31, x32) 1).2)
        refine dn (CW.seq (CW.region (sd rfl (yl_assign rfl rfl (dn (CW.ret (tr ?_)))))))
        refine rr rfl (.cons rfl .nil) ?_
        have hM182 : (i_source_num p_r_b p_r) = ((0, ((i_source_fail p_r_b ((i_source_take p_r_b (x31, x32) 1).2)).1, (i_source_fail p_r_b ((i_source_take p_r_b (x31, x32) 1).2)).2))) := by first | (simp only [i_source_num, hb171, hL85, cond_true, cond_false, loopE_done, loopE_ret, pairE]; done) | (simp only [i_source_num, hb57, hb62, hb73, hb84, hb171, hL85, cL]; done) | (simp only [i_source_num, hb57, hb62, hb73, hb84, hb171, hL85, cond_true, cond_false, loopE_done, loopE_ret, pairE]; done) | exact (show (i_source_num p_r_b p_r) = ((0, (i_source_fail p_r_b ((i_source_take p_r_b (x31, x32) 1).2)))) from by simp only [i_source_num, hb57, hb62, hb73, hb84, hb171, hL85, cond_true, cond_false, loopE_done, loopE_ret, pairE])
        rw [hM182]
        exact ⟨rfl, hB180, (Chg.tchg (Chg.tex (Chg.tchg hf47 hc54 (fun k hk => by simp only [InR, or_false] at hk ⊢; omega)) hE167) hc179 (fun k hk => by simp only [InR, or_false] at hk ⊢; omega))⟩
     ·have hb84p := dec_f hb84
      refine CW.cond_f rfl hb84 (CW.skip (tn (CW.region (sd rfl (yl_move rfl rfl (sd rfl (yl_mul rfl rfl rfl (sd rfl (yl_assign rfl rfl (SeqR.done (bn ?_)))))))))))
      refine tn ?_
      have hB186 : B_i_source_num_0 p_r_b p_r (x29, x30, x31, x32) = .cont (IntKind.wrap .i64 (x29 + (IntKind.wrap .i64 ((IntKind.wrap .i64 (Int.tmod ((((i_source_take p_r_b (x31, x32) 1).1).getD 0 0).toNat : Int) 128)) * x30))), IntKind.wrap .i64 (x30 * 128), ((i_source_take p_r_b (x31, x32) 1).2).1, ((i_source_take p_r_b (x31, x32) 1).2).2) := by simp only [B_i_source_num_0, hb57, hb62, hb73, hb84, cL]
      have hmu188 : ((6 - (((i_source_take p_r_b (x31, x32) 1).2).1 - p_r.1)).toNat) < ((6 - (x31 - p_r.1)).toNat) := by first | omega | assumption | (simp only [wI] at *; omega)
      exact ⟨m36 - 1, by omega, IntKind.wrap .i64 (x29 + (IntKind.wrap .i64 ((IntKind.wrap .i64 (Int.tmod ((((i_source_take p_r_b (x31, x32) 1).1).getD 0 0).toNat : Int) 128)) * x30))), IntKind.wrap .i64 (x30 * 128), ((i_source_take p_r_b (x31, x32) 1).2).1, ((i_source_take p_r_b (x31, x32) 1).2).2, (by omega), (by omega), rfl, rfl, rfl, rfl, hB55, (Chg.tchg hf47 hc54 (fun k hk => by simp only [InR, or_false] at hk ⊢; omega)), (by first | omega | assumption | (simp only [wI] at *; omega)), (by first | omega | assumption | (simp only [wI] at *; omega)), (by first | omega | assumption | (simp only [wI] at *; omega)), (loopW.cont hk39 hB186).symm.trans hI40⟩
theorem c_i_source_text {b1 : Nat} {w : World} (p_r_b : Str) (p_r : Int × Bool) (h2 : Box w b1 57 [.string (bs (p_r_b)), .int .i64 (p_r.1), .bool (p_r.2)]) (o3 : okS p_r_b) (pre0 : (0 ≤ p_r.1 ∧ p_r.1 ≤ (p_r_b.length : Int))) : Cal Try.prog 28 #[.pointer (some ⟨b1, 0, none⟩)] w fun v w' => v = .string (bs ((i_source_text p_r_b p_r).1)) ∧ okS ((i_source_text p_r_b p_r).1) ∧ Box w' b1 57 [.string (bs (p_r_b)), .int .i64 (((i_source_text p_r_b p_r).2).1), .bool (((i_source_text p_r_b p_r).2).2)] ∧ Chg (InR [(b1, b1 + 1)]) w w' := by
 have hol4 : p_r_b.length ≤ 1073741824 := o3
 have hbx5 := Box.lt h2
 refine Cal.of func28 rfl ntmps28 rfl (CW.seq (CW.region (sd rfl (yl_assign rfl rfl (dn (CW.seq (CW.region (sd rfl (yl_move rfl rfl ?_)))))))))
 refine sd rfl (yl_call en27 rfl (oc rfl oz) (Cal.mono (c_i_source_num p_r_b p_r h2 o3 (by first | omega | assumption | (simp only [wI] at *; omega))) ?_))
 rintro v7 w6 ⟨rfl, hB9, hc8⟩
 have hc8z := Chg.size hc8
 have hB9z := Box.lt hB9
 have hrf10 := rf_num o3 p_r  (by first | omega | assumption | (simp only [wI] at *; omega))
 refine sd rfl (yl_assign rfl rfl (dn (CW.seq (CW.seq (CW.region (sd rfl (yl_move rfl rfl (sd rfl (yl_gtr rfl rfl rfl (SeqR.done ?_))))))))))
 refine tn (bcase (decide (60 < ((i_source_num p_r_b p_r).1))) (fun hb11 => ?_) (fun hb11 => ?_))
 ·have hb11p := dec_t hb11
  refine CW.cond_t rfl hb11 (CW.seq (CW.region (sd rfl (yl_move rfl rfl (sd rfl (yl_call en57 rfl (oc rfl oz) (Cal.mono (c_i_source_fail p_r_b ((i_source_num p_r_b p_r).2) hB9 o3) ?_)))))))
  rintro v13 w12 ⟨rfl, hB15, hc14⟩
  have hc14z := Chg.size hc14
  have hB15z := Box.lt hB15
  have hrf16 := rf_fail p_r_b ((i_source_num p_r_b p_r).2)
  refine dn (CW.seq (CW.region (sd rfl (yl_assign rfl rfl (dn (CW.ret (tr ?_)))))))
  refine rr rfl (.cons rfl .nil) ?_
  have hM17 : (i_source_text p_r_b p_r) = ((([] : Str), ((i_source_fail p_r_b ((i_source_num p_r_b p_r).2)).1, (i_source_fail p_r_b ((i_source_num p_r_b p_r).2)).2))) := by first | (simp only [i_source_text, hb11, cL]; done) | (simp only [i_source_text, hb11, cond_true, cond_false, loopE_done, loopE_ret, pairE]; done) | exact (show (i_source_text p_r_b p_r) = ((([] : Str), (i_source_fail p_r_b ((i_source_num p_r_b p_r).2)))) from by simp only [i_source_text, hb11, cond_true, cond_false, loopE_done, loopE_ret, pairE])
  rw [hM17]
  exact ⟨rfl, (okS.lit rfl), hB15, (Chg.tchg (Chg.tchg (Chg.refl (InR [(b1, b1 + 1)]) w) hc8 (fun k hk => by simp only [InR, or_false] at hk ⊢; omega)) hc14 (fun k hk => by simp only [InR, or_false] at hk ⊢; omega))⟩
 ·have hb11p := dec_f hb11
  refine CW.cond_f rfl hb11 (CW.skip (tn (CW.seq (CW.region (sd rfl (yl_move rfl rfl (sd rfl (yl_move rfl rfl (sd rfl (yl_call en36 rfl (oc rfl (oc rfl oz)) (Cal.mono (c_i_source_take p_r_b ((i_source_num p_r_b p_r).2) ((i_source_num p_r_b p_r).1) hB9 o3 (by first | omega | assumption | (simp only [wI] at *; omega)) (by first | omega | assumption | (simp only [wI] at *; omega))) ?_)))))))))))
  rintro v22 w20 ⟨rfl, ho21, hB24, hc23⟩
  have hc23z := Chg.size hc23
  have hB24z := Box.lt hB24
  have hrf25 := rf_take o3 ((i_source_num p_r_b p_r).2) ((i_source_num p_r_b p_r).1) (by first | omega | assumption | (simp only [wI] at *; omega))
  refine sd rfl (yl_assign rfl rfl (dn (CW.ret (rr rfl (.cons rfl .nil) ?_))))
  have hM26 : (i_source_text p_r_b p_r) = (((i_source_take p_r_b ((i_source_num p_r_b p_r).2) ((i_source_num p_r_b p_r).1)).1, (((i_source_take p_r_b ((i_source_num p_r_b p_r).2) ((i_source_num p_r_b p_r).1)).2).1, ((i_source_take p_r_b ((i_source_num p_r_b p_r).2) ((i_source_num p_r_b p_r).1)).2).2))) := by first | (simp only [i_source_text, hb11, cL]; done) | (simp only [i_source_text, hb11, cond_true, cond_false, loopE_done, loopE_ret, pairE]; done) | exact (show (i_source_text p_r_b p_r) = (((i_source_take p_r_b ((i_source_num p_r_b p_r).2) ((i_source_num p_r_b p_r).1)).1, ((i_source_take p_r_b ((i_source_num p_r_b p_r).2) ((i_source_num p_r_b p_r).1)).2))) from by simp only [i_source_text, hb11, cond_true, cond_false, loopE_done, loopE_ret, pairE])
  rw [hM26]
  exact ⟨rfl, ho21, hB24, (Chg.tchg (Chg.tchg (Chg.refl (InR [(b1, b1 + 1)]) w) hc8 (fun k hk => by simp only [InR, or_false] at hk ⊢; omega)) hc23 (fun k hk => by simp only [InR, or_false] at hk ⊢; omega))⟩
theorem c_i_isTrue {w : World} (p_now : Int) : Cal Try.prog 46 #[.int .i64 (p_now)] w fun v w' => v = .bool ((i_isTrue p_now)) ∧ Ex w w' := by
 refine Cal.of func46 rfl ntmps46 rfl (CW.seq (CW.region (sd rfl (yl_assign rfl rfl (dn (CW.seq (CW.region (sd rfl (yl_move rfl rfl ?_)))))))))
 refine sd rfl (yl_call en55 rfl (oc rfl (oc rfl (oc rfl oz))) (Cal.mono (c_i_within p_now 0 100000) ?_))
 rintro v2 w1 ⟨rfl, hE3⟩
 refine sd rfl (yl_assign rfl rfl (dn (CW.ret (rr rfl (.cons rfl .nil) ?_))))
 have hM4 : (i_isTrue p_now) = ((i_within p_now 0 100000)) := by simp only [i_isTrue, cL]
 rw [hM4]
 exact ⟨rfl, (Ex.trans (Ex.refl w) hE3)⟩
theorem c_g_slices_IndexFunc_FeedItem {A1 : Option Addr} {c1 : Nat} {g3 : Nat} {cp4 : List Value} {w : World} (p_s : List DFeedItem) (p_f : DFeedItem → Bool) (h1 : RdS w (Iv 0 w.heap.size) (RF e_FeedItem) 5 A1 p_s.length c1 p_s) (hen5 : Enters Try.prog g3) (hfn6 : ∀ (w1 : World) (y0 : DFeedItem), Ex w w1 → y0 ∈ p_s → ok_FeedItem y0 → Cal Try.prog g3 (([.agg #[.int .i64 (y0.Time), .int .i64 (y0.Group), .string (bs (y0.Key)), .string (bs (y0.Val)), .bool (y0.Gone)]] : List Value) ++ cp4).toArray w1 fun v w2 => v = .bool (p_f y0) ∧ Ex w1 w2) (o2 : (okL ok_FeedItem) p_s) : Cal Try.prog 90 #[.slice A1 p_s.length c1, .func (.func g3) #[] cp4.toArray] w fun v w' => v = .int .i64 ((g_slices_IndexFunc_FeedItem p_s p_f)) ∧ Ex w w' := by
 have hol7 := o2.1
 refine Cal.of func90 rfl ntmps90 rfl (CW.seq (CW.region (sd rfl (yl_assign rfl rfl (dn (CW.seq (CW.seq (CW.region ?_))))))))
 refine sd rfl (yl_move rfl rfl (sd rfl (yl_len un30 rfl rfl (sd rfl (yl_move rfl rfl (dn (CW.block (CW.loop (fun m9 L10 w11 => ∃ (k8 : Nat), m9 = p_s.length - k8 ∧ k8 ≤ p_s.length ∧ w.heap.size ≤ w11.heap.size ∧ lkp L10 0 = some (.slice A1 p_s.length c1) ∧ lkp L10 1 = some (.func (.func g3) #[] cp4.toArray) ∧ lkp L10 7 = some (.int .i64 ((p_s.length : Int))) ∧ lkp L10 8 = some (.int .i64 ((k8 : Int))) ∧ RdS w11 (Iv 0 w.heap.size) (RF e_FeedItem) 5 A1 p_s.length c1 p_s ∧ Ex w w11 ∧ loopM (B_g_slices_IndexFunc_FeedItem_0 p_s p_f) (p_s.length - k8) k8 () = loopM (B_g_slices_IndexFunc_FeedItem_0 p_s p_f) (p_s.length - 0) 0 ()) (p_s.length - 0) ?_ ?_))))))))
 ·exact ⟨0, rfl, (by omega), Nat.le_refl _, rfl, rfl, rfl, rfl, h1, (Ex.refl w), rfl⟩
 ·rintro m12 L13 w14 ⟨k8, rfl, hk15, hsz17, hl18, hl19, hl20, hl21, hf22, hf23, hI16⟩
  refine CW.sub (Sub.cons hl18 (Sub.cons hl19 (Sub.cons hl20 (Sub.cons hl21 (Sub.nil _))))) ?_
  have hf23z := Ex.size hf23
  have hbg24 := RdS.big hf22
  rcases Nat.lt_or_ge k8 p_s.length with hlt25 | hlt25
  ·refine CW.seq (CW.region (sd rfl (yl_lss rfl rfl rfl (dn (CW.seq (CW.cond_t rfl (lt_t hlt25) (CW.skip (tn ?_))))))))
   refine CW.seq (CW.block (CW.seq (CW.region (sd rfl (yl_move rfl rfl (sd rfl (yl_assign rfl rfl (dn (CW.seq ?_)))))))))
   refine CW.region (sd rfl (yl_move rfl rfl (sd rfl (yl_move rfl rfl (sd rfl (yl_move rfl rfl ?_))))))
   obtain ⟨eb26, eo26, _, eA26, _, ebl26, _, eR26, eC26⟩ := RdS.aD hf22 d_FeedItem (i := k8)
   obtain rfl := eR26
   have eC26 : Cells w14 eb26 (eo26 + k8 * 5) [.int .i64 ((p_s.getD k8 d_FeedItem).Time), .int .i64 ((p_s.getD k8 d_FeedItem).Group), .string (bs ((p_s.getD k8 d_FeedItem).Key)), .string (bs ((p_s.getD k8 d_FeedItem).Val)), .bool ((p_s.getD k8 d_FeedItem).Gone)] := eC26
   refine sd rfl (yl_ixN un30 ty63 rfl rfl rfl eA26 (sd rfl (yl_loadN ty63 rfl rfl eC26 rfl (sd rfl (yl_callv hen5 rfl rfl (oc rfl oz) (Cal.mono (hfn6 w14 (p_s.getD k8 d_FeedItem) hf23 (getD_mem (by omega)) (okL.getD o2 ok_d_FeedItem _)) ?_))))))
   rintro v28 w27 ⟨rfl, hE29⟩
   have hE29z := Ex.size hE29
   refine dn (bcase (p_f (p_s.getD k8 d_FeedItem)) (fun hb30 => ?_) (fun hb30 => ?_))
   ·refine CW.cond_t rfl hb30 (CW.seq (CW.region (sd rfl (yl_move rfl rfl (sd rfl (yl_assign rfl rfl (dn (CW.ret (br ?_)))))))))
    refine tr (tr ?_)
    have hB32 : B_g_slices_IndexFunc_FeedItem_0 p_s p_f k8 () = .ret (k8 : Int) := by simp only [B_g_slices_IndexFunc_FeedItem_0, hb30, cL]
    have hL31 : loopM (B_g_slices_IndexFunc_FeedItem_0 p_s p_f) (p_s.length - 0) 0 () = .ret (k8 : Int) := hI16.symm.trans (loopM.ret hlt25 hB32)
    refine br (tr (rr rfl (.cons rfl .nil) ?_))
    have hM33 : (g_slices_IndexFunc_FeedItem p_s p_f) = ((k8 : Int)) := by simp only [g_slices_IndexFunc_FeedItem, hb30, hL31, cL]
    rw [hM33]
    exact ⟨rfl, (Ex.trans hf23 hE29)⟩
   ·refine CW.cond_f rfl hb30 (CW.skip (bn (tn (CW.region (sd rfl (yl_inc rfl rfl rfl (by omega) (sd rfl (yl_move rfl rfl (dn ?_)))))))))
    have hB35 : B_g_slices_IndexFunc_FeedItem_0 p_s p_f k8 () = .cont () := by simp only [B_g_slices_IndexFunc_FeedItem_0, hb30, cL]
    exact ⟨p_s.length - (k8 + 1), by omega, k8 + 1, rfl, hlt25, (by omega), rfl, rfl, rfl, rfl, (RdS.ex good_FeedItem hf22 hE29), (Ex.trans hf23 hE29), (loopM.cont hlt25 hB35).symm.trans hI16⟩
  ·refine CW.seq (CW.region (sd rfl (yl_lss rfl rfl rfl (dn (CW.seq (CW.cond_f rfl (lt_f hlt25) (CW.exit (tx ?_))))))))
   refine tx ?_
   have hL38 : loopM (B_g_slices_IndexFunc_FeedItem_0 p_s p_f) (p_s.length - 0) 0 () = .done () := hI16.symm.trans (loopM.stop hlt25)
   refine bx (tn (CW.seq (CW.region (sd rfl (yl_assign rfl rfl (dn (CW.ret (rr rfl (.cons rfl .nil) ?_))))))))
   have hM39 : (g_slices_IndexFunc_FeedItem p_s p_f) = (-1) := by simp only [g_slices_IndexFunc_FeedItem, hL38, cL]
   rw [hM39]
   exact ⟨rfl, hf23⟩
theorem c_g_slices_ContainsFunc_FeedItem {A1 : Option Addr} {c1 : Nat} {g3 : Nat} {cp4 : List Value} {w : World} (p_s : List DFeedItem) (p_f : DFeedItem → Bool) (h1 : RdS w (Iv 0 w.heap.size) (RF e_FeedItem) 5 A1 p_s.length c1 p_s) (hen5 : Enters Try.prog g3) (hfn6 : ∀ (w1 : World) (y0 : DFeedItem), Ex w w1 → y0 ∈ p_s → ok_FeedItem y0 → Cal Try.prog g3 (([.agg #[.int .i64 (y0.Time), .int .i64 (y0.Group), .string (bs (y0.Key)), .string (bs (y0.Val)), .bool (y0.Gone)]] : List Value) ++ cp4).toArray w1 fun v w2 => v = .bool (p_f y0) ∧ Ex w1 w2) (o2 : (okL ok_FeedItem) p_s) : Cal Try.prog 65 #[.slice A1 p_s.length c1, .func (.func g3) #[] cp4.toArray] w fun v w' => v = .bool ((g_slices_ContainsFunc_FeedItem p_s p_f)) ∧ Ex w w' := by
 refine Cal.of func65 rfl ntmps65 rfl (CW.seq (CW.region (sd rfl (yl_assign rfl rfl (dn (CW.seq (CW.region (sd rfl (yl_move rfl rfl ?_)))))))))
 refine sd rfl (yl_move rfl rfl (sd rfl (yl_call en90 rfl (oc rfl (oc rfl oz)) (Cal.mono (c_g_slices_IndexFunc_FeedItem p_s p_f (RdS.up h1 good_FeedItem) hen5 (fun w1 y0 => fun hE => hfn6 w1 y0 (Ex.trans (Ex.refl w) hE)) o2) ?_))))
 rintro v9 w8 ⟨rfl, hE10⟩
 refine sd rfl (yl_geq rfl rfl rfl (sd rfl (yl_assign rfl rfl (dn (CW.ret (rr rfl (.cons rfl .nil) ?_))))))
 have hM11 : (g_slices_ContainsFunc_FeedItem p_s p_f) = (decide (0 ≤ (g_slices_IndexFunc_FeedItem p_s p_f))) := by simp only [g_slices_ContainsFunc_FeedItem, cL]
 rw [hM11]
 exact ⟨rfl, (Ex.trans (Ex.refl w) hE10)⟩
theorem c_g_cmp_Or_int {A1 : Option Addr} {c1 : Nat} {w : World} (p_vals : List Int) (h1 : RdS w (Iv 0 w.heap.size) (RF e_Int) 1 A1 p_vals.length c1 p_vals) (o2 : (okL okT) p_vals) : Cal Try.prog 114 #[.slice A1 p_vals.length c1] w fun v w' => v = .int .i64 ((g_cmp_Or_int p_vals)) ∧ Ex w w' := by
 have hol3 := o2.1
 refine Cal.of func114 rfl ntmps114 rfl (CW.seq (CW.region (sd rfl (yl_assign rfl rfl (dn (CW.seq (CW.region (sd rfl (yl_assign rfl rfl ?_)))))))))
 refine dn (CW.seq (CW.seq (CW.region (sd rfl (yl_move rfl rfl (sd rfl (yl_len un130 rfl rfl (sd rfl (yl_move rfl rfl (SeqR.done ?_))))))))))
 refine tn (CW.block (CW.loop (fun m5 L6 w7 => ∃ (k4 : Nat), m5 = p_vals.length - k4 ∧ k4 ≤ p_vals.length ∧ w.heap.size ≤ w7.heap.size ∧ lkp L6 3 = some (.int .i64 (0)) ∧ lkp L6 6 = some (.slice A1 p_vals.length c1) ∧ lkp L6 7 = some (.int .i64 ((p_vals.length : Int))) ∧ lkp L6 8 = some (.int .i64 ((k4 : Int))) ∧ RdS w7 (Iv 0 w.heap.size) (RF e_Int) 1 A1 p_vals.length c1 p_vals ∧ Ex w w7 ∧ loopM (B_g_cmp_Or_int_0 p_vals) (p_vals.length - k4) k4 () = loopM (B_g_cmp_Or_int_0 p_vals) (p_vals.length - 0) 0 ()) (p_vals.length - 0) ?_ ?_))
 ·exact ⟨0, rfl, (by omega), Nat.le_refl _, rfl, rfl, rfl, rfl, h1, (Ex.refl w), rfl⟩
 ·rintro m8 L9 w10 ⟨k4, rfl, hk11, hsz13, hl14, hl15, hl16, hl17, hf18, hf19, hI12⟩
  refine CW.sub (Sub.cons hl14 (Sub.cons hl15 (Sub.cons hl16 (Sub.cons hl17 (Sub.nil _))))) ?_
  have hf19z := Ex.size hf19
  have hbg20 := RdS.big hf18
  rcases Nat.lt_or_ge k4 p_vals.length with hlt21 | hlt21
  ·refine CW.seq (CW.region (sd rfl (yl_lss rfl rfl rfl (dn (CW.seq (CW.cond_t rfl (lt_t hlt21) (CW.skip (tn ?_))))))))
   refine CW.seq (CW.block (CW.seq (CW.region ?_)))
   obtain ⟨eb22, eo22, _, eA22, _, ebl22, _, eR22, eC22⟩ := RdS.aD hf18 d_Int (i := k4)
   obtain rfl := eR22
   have eC22 : Cells w10 eb22 (eo22 + k4 * 1) [.int .i64 ((p_vals.getD k4 d_Int))] := eC22
   refine sd rfl (yl_ixN un130 ty3 rfl rfl rfl eA22 (sd rfl (yl_load1 ty3 rfl rfl (eC22 0 _ rfl) (sd rfl (yl_assign rfl rfl (dn (CW.seq (CW.region (sd rfl (yl_move rfl rfl (sd rfl (yl_move rfl rfl ?_))))))))))))
   refine sd rfl (yl_neq rfl rfl rfl (dn (bcase (decide ((p_vals.getD k4 d_Int) = 0)) (fun hb23 => ?_) (fun hb23 => ?_))))
   ·have hb23p := dec_t hb23
    refine CW.cond_f rfl (not_t hb23) (CW.skip (bn (tn (CW.region (sd rfl (yl_inc rfl rfl rfl (by omega) (sd rfl (yl_move rfl rfl (dn ?_)))))))))
    have hB24 : B_g_cmp_Or_int_0 p_vals k4 () = .cont () := by simp only [B_g_cmp_Or_int_0, hb23, cL]
    exact ⟨p_vals.length - (k4 + 1), by omega, k4 + 1, rfl, hlt21, (by omega), rfl, rfl, rfl, rfl, hf18, hf19, (loopM.cont hlt21 hB24).symm.trans hI12⟩
   ·have hb23p := dec_f hb23
    refine CW.cond_t rfl (not_f hb23) (CW.seq (CW.region (sd rfl (yl_move rfl rfl (sd rfl (yl_assign rfl rfl (dn (CW.ret (br ?_)))))))))
    refine tr (tr ?_)
    have hB26 : B_g_cmp_Or_int_0 p_vals k4 () = .ret (p_vals.getD k4 d_Int) := by simp only [B_g_cmp_Or_int_0, hb23, cL]
    have hL25 : loopM (B_g_cmp_Or_int_0 p_vals) (p_vals.length - 0) 0 () = .ret (p_vals.getD k4 d_Int) := hI12.symm.trans (loopM.ret hlt21 hB26)
    refine br (tr (rr rfl (.cons rfl .nil) ?_))
    have hM27 : (g_cmp_Or_int p_vals) = ((p_vals.getD k4 d_Int)) := by simp only [g_cmp_Or_int, hb23, hL25, cL]
    rw [hM27]
    exact ⟨rfl, hf19⟩
  ·refine CW.seq (CW.region (sd rfl (yl_lss rfl rfl rfl (dn (CW.seq (CW.cond_f rfl (lt_f hlt21) (CW.exit (tx ?_))))))))
   refine tx ?_
   have hL28 : loopM (B_g_cmp_Or_int_0 p_vals) (p_vals.length - 0) 0 () = .done () := hI12.symm.trans (loopM.stop hlt21)
   refine bx (tn (CW.seq (CW.region (sd rfl (yl_move rfl rfl (sd rfl (yl_assign rfl rfl (dn (CW.ret ?_)))))))))
   refine rr rfl (.cons rfl .nil) ?_
   have hM29 : (g_cmp_Or_int p_vals) = (0) := by simp only [g_cmp_Or_int, hL28, cL]
   rw [hM29]
   exact ⟨rfl, hf19⟩
theorem c_g_cmp_isNaN_int {w : World} (p_x : Int) : Cal Try.prog 120 #[.int .i64 (p_x)] w fun v w' => v = .bool ((g_cmp_isNaN_int p_x)) ∧ Ex w w' := by
 refine Cal.of func120 rfl ntmps120 rfl (CW.seq (CW.region (sd rfl (yl_assign rfl rfl (dn (CW.seq (CW.region (sd rfl (yl_move rfl rfl ?_)))))))))
 refine sd rfl (yl_move rfl rfl (sd rfl (yl_neq rfl rfl rfl (sd rfl (yl_assign rfl rfl (dn (CW.ret (rr rfl (.cons rfl .nil) ?_))))))))
 have hM1 : (g_cmp_isNaN_int p_x) = (!(decide (p_x = p_x))) := by simp only [g_cmp_isNaN_int, cL]
 rw [hM1]
 exact ⟨rfl, (Ex.refl w)⟩
theorem c_g_cmp_Compare_int {w : World} (p_x : Int) (p_y : Int) : Cal Try.prog 115 #[.int .i64 (p_x), .int .i64 (p_y)] w fun v w' => v = .int .i64 ((g_cmp_Compare_int p_x p_y)) ∧ Ex w w' := by
 refine Cal.of func115 rfl ntmps115 rfl (CW.seq (CW.region (sd rfl (yl_assign rfl rfl (dn (CW.seq (CW.region (sd rfl (yl_move rfl rfl ?_)))))))))
 refine sd rfl (yl_call en120 rfl (oc rfl oz) (Cal.mono (c_g_cmp_isNaN_int p_x) ?_))
 rintro v2 w1 ⟨rfl, hE3⟩
 refine sd rfl (yl_assign rfl rfl (dn (CW.seq (CW.region (sd rfl (yl_move rfl rfl (sd rfl (yl_call en120 rfl (oc rfl oz) (Cal.mono (c_g_cmp_isNaN_int p_y) ?_)))))))))
 rintro v5 w4 ⟨rfl, hE6⟩
 refine sd rfl (yl_assign rfl rfl (dn (CW.seq (CW.seq (CW.region (sd rfl (yl_move rfl rfl (dn ?_))))))))
 refine bcase (g_cmp_isNaN_int p_x) (fun hb7 => ?_) (fun hb7 => ?_)
 ·refine CW.cond_t rfl hb7 (CW.seq (CW.seq (CW.region (sd rfl (yl_move rfl rfl (dn (bcase (g_cmp_isNaN_int p_y) (fun hb8 => ?_) (fun hb8 => ?_))))))))
  ·refine CW.cond_t rfl hb8 (CW.seq (CW.region (sd rfl (yl_assign rfl rfl (dn (CW.ret (tr (tr ?_))))))))
   refine rr rfl (.cons rfl .nil) ?_
   have hM9 : (g_cmp_Compare_int p_x p_y) = (0) := by simp only [g_cmp_Compare_int, hb7, hb8, cL]
   rw [hM9]
   exact ⟨rfl, (Ex.trans (Ex.trans (Ex.refl w) hE3) hE6)⟩
  ·refine CW.cond_f rfl hb8 (CW.skip (tn (CW.seq (CW.region (sd rfl (yl_assign rfl rfl (dn (CW.ret ?_))))))))
   refine tr (rr rfl (.cons rfl .nil) ?_)
   have hM12 : (g_cmp_Compare_int p_x p_y) = (-1) := by simp only [g_cmp_Compare_int, hb7, hb8, cL]
   rw [hM12]
   exact ⟨rfl, (Ex.trans (Ex.trans (Ex.refl w) hE3) hE6)⟩
 ·refine CW.cond_f rfl hb7 (CW.skip (tn (CW.seq (CW.seq (CW.region (sd rfl (yl_move rfl rfl (dn ?_))))))))
  refine bcase (g_cmp_isNaN_int p_y) (fun hb15 => ?_) (fun hb15 => ?_)
  ·refine CW.cond_t rfl hb15 (CW.seq (CW.region (sd rfl (yl_assign rfl rfl (dn (CW.ret (tr (rr rfl (.cons rfl .nil) ?_))))))))
   have hM16 : (g_cmp_Compare_int p_x p_y) = (1) := by simp only [g_cmp_Compare_int, hb7, hb15, cL]
   rw [hM16]
   exact ⟨rfl, (Ex.trans (Ex.trans (Ex.refl w) hE3) hE6)⟩
  ·refine CW.cond_f rfl hb15 (CW.skip (tn (CW.seq (CW.seq (CW.region (sd rfl (yl_move rfl rfl (sd rfl (yl_move rfl rfl (sd rfl (yl_lss rfl rfl rfl ?_)))))))))))
   refine dn (bcase (decide (p_x < p_y)) (fun hb19 => ?_) (fun hb19 => ?_))
   ·have hb19p := dec_t hb19
    refine CW.cond_t rfl hb19 (CW.seq (CW.region (sd rfl (yl_assign rfl rfl (dn (CW.ret (tr (rr rfl (.cons rfl .nil) ?_))))))))
    have hM20 : (g_cmp_Compare_int p_x p_y) = (-1) := by simp only [g_cmp_Compare_int, hb7, hb15, hb19, cL]
    rw [hM20]
    exact ⟨rfl, (Ex.trans (Ex.trans (Ex.refl w) hE3) hE6)⟩
   ·have hb19p := dec_f hb19
    refine CW.cond_f rfl hb19 (CW.skip (tn (CW.seq (CW.seq (CW.region (sd rfl (yl_move rfl rfl (sd rfl (yl_move rfl rfl (sd rfl (yl_gtr rfl rfl rfl ?_)))))))))))
    refine dn (bcase (decide (p_y < p_x)) (fun hb23 => ?_) (fun hb23 => ?_))
    ·have hb23p := dec_t hb23
     refine CW.cond_t rfl hb23 (CW.seq (CW.region (sd rfl (yl_assign rfl rfl (dn (CW.ret (tr (rr rfl (.cons rfl .nil) ?_))))))))
     have hM24 : (g_cmp_Compare_int p_x p_y) = (1) := by simp only [g_cmp_Compare_int, hb7, hb15, hb19, hb23, cL]
     rw [hM24]
     exact ⟨rfl, (Ex.trans (Ex.trans (Ex.refl w) hE3) hE6)⟩
    ·have hb23p := dec_f hb23
     refine CW.cond_f rfl hb23 (CW.skip (tn (CW.seq (CW.region (sd rfl (yl_assign rfl rfl (dn (CW.ret ?_))))))))
     refine rr rfl (.cons rfl .nil) ?_
     have hM27 : (g_cmp_Compare_int p_x p_y) = (0) := by simp only [g_cmp_Compare_int, hb7, hb15, hb19, hb23, cL]
     rw [hM27]
     exact ⟨rfl, (Ex.trans (Ex.trans (Ex.refl w) hE3) hE6)⟩
theorem c_g_cmp_isNaN_string {w : World} (p_x : Str) (o1 : okS p_x) : Cal Try.prog 121 #[.string (bs (p_x))] w fun v w' => v = .bool ((g_cmp_isNaN_string p_x)) ∧ Ex w w' := by
 refine Cal.of func121 rfl ntmps121 rfl (CW.seq (CW.region (sd rfl (yl_assign rfl rfl (dn (CW.seq (CW.region (sd rfl (yl_move rfl rfl ?_)))))))))
 refine sd rfl (yl_move rfl rfl (sd rfl (yl_sneq (a := p_x) (b := p_x) rfl rfl rfl (sd rfl (yl_assign rfl rfl (dn (CW.ret (rr rfl (.cons rfl .nil) ?_))))))))
 have hM3 : (g_cmp_isNaN_string p_x) = (!(p_x == p_x)) := by simp only [g_cmp_isNaN_string, cL]
 rw [hM3]
 exact ⟨rfl, (Ex.refl w)⟩
theorem c_g_cmp_Compare_string {w : World} (p_x : Str) (p_y : Str) (o1 : okS p_x) (o2 : okS p_y) : Cal Try.prog 116 #[.string (bs (p_x)), .string (bs (p_y))] w fun v w' => v = .int .i64 ((g_cmp_Compare_string p_x p_y)) ∧ Ex w w' := by
 refine Cal.of func116 rfl ntmps116 rfl (CW.seq (CW.region (sd rfl (yl_assign rfl rfl (dn (CW.seq (CW.region (sd rfl (yl_move rfl rfl ?_)))))))))
 refine sd rfl (yl_call en121 rfl (oc rfl oz) (Cal.mono (c_g_cmp_isNaN_string p_x o1) ?_))
 rintro v6 w5 ⟨rfl, hE7⟩
 refine sd rfl (yl_assign rfl rfl (dn (CW.seq (CW.region (sd rfl (yl_move rfl rfl (sd rfl (yl_call en121 rfl (oc rfl oz) (Cal.mono (c_g_cmp_isNaN_string p_y o2) ?_)))))))))
 rintro v9 w8 ⟨rfl, hE10⟩
 refine sd rfl (yl_assign rfl rfl (dn (CW.seq (CW.seq (CW.region (sd rfl (yl_move rfl rfl (dn ?_))))))))
 refine bcase (g_cmp_isNaN_string p_x) (fun hb11 => ?_) (fun hb11 => ?_)
 ·refine CW.cond_t rfl hb11 (CW.seq (CW.seq (CW.region (sd rfl (yl_move rfl rfl (dn (bcase (g_cmp_isNaN_string p_y) (fun hb12 => ?_) (fun hb12 => ?_))))))))
  ·refine CW.cond_t rfl hb12 (CW.seq (CW.region (sd rfl (yl_assign rfl rfl (dn (CW.ret (tr (tr ?_))))))))
   refine rr rfl (.cons rfl .nil) ?_
   have hM13 : (g_cmp_Compare_string p_x p_y) = (0) := by simp only [g_cmp_Compare_string, hb11, hb12, cL]
   rw [hM13]
   exact ⟨rfl, (Ex.trans (Ex.trans (Ex.refl w) hE7) hE10)⟩
  ·refine CW.cond_f rfl hb12 (CW.skip (tn (CW.seq (CW.region (sd rfl (yl_assign rfl rfl (dn (CW.ret ?_))))))))
   refine tr (rr rfl (.cons rfl .nil) ?_)
   have hM16 : (g_cmp_Compare_string p_x p_y) = (-1) := by simp only [g_cmp_Compare_string, hb11, hb12, cL]
   rw [hM16]
   exact ⟨rfl, (Ex.trans (Ex.trans (Ex.refl w) hE7) hE10)⟩
 ·refine CW.cond_f rfl hb11 (CW.skip (tn (CW.seq (CW.seq (CW.region (sd rfl (yl_move rfl rfl (dn ?_))))))))
  refine bcase (g_cmp_isNaN_string p_y) (fun hb19 => ?_) (fun hb19 => ?_)
  ·refine CW.cond_t rfl hb19 (CW.seq (CW.region (sd rfl (yl_assign rfl rfl (dn (CW.ret (tr (rr rfl (.cons rfl .nil) ?_))))))))
   have hM20 : (g_cmp_Compare_string p_x p_y) = (1) := by simp only [g_cmp_Compare_string, hb11, hb19, cL]
   rw [hM20]
   exact ⟨rfl, (Ex.trans (Ex.trans (Ex.refl w) hE7) hE10)⟩
  ·refine CW.cond_f rfl hb19 (CW.skip (tn (CW.seq (CW.seq (CW.region (sd rfl (yl_move rfl rfl (sd rfl (yl_move rfl rfl (sd rfl (yl_slss (a := p_x) (b := p_y) rfl rfl rfl ?_)))))))))))
   refine dn (bcase (sLt p_x p_y) (fun hb23 => ?_) (fun hb23 => ?_))
   ·refine CW.cond_t rfl hb23 (CW.seq (CW.region (sd rfl (yl_assign rfl rfl (dn (CW.ret (tr (rr rfl (.cons rfl .nil) ?_))))))))
    have hM24 : (g_cmp_Compare_string p_x p_y) = (-1) := by simp only [g_cmp_Compare_string, hb11, hb19, hb23, cL]
    rw [hM24]
    exact ⟨rfl, (Ex.trans (Ex.trans (Ex.refl w) hE7) hE10)⟩
   ·refine CW.cond_f rfl hb23 (CW.skip (tn (CW.seq (CW.seq (CW.region (sd rfl (yl_move rfl rfl (sd rfl (yl_move rfl rfl (sd rfl (yl_sgtr (a := p_x) (b := p_y) rfl rfl rfl ?_)))))))))))
    refine dn (bcase (sLe p_x p_y) (fun hb27 => ?_) (fun hb27 => ?_))
    ·refine CW.cond_f rfl (not_t hb27) (CW.skip (tn (CW.seq (CW.region (sd rfl (yl_assign rfl rfl (dn (CW.ret ?_))))))))
     refine rr rfl (.cons rfl .nil) ?_
     have hM28 : (g_cmp_Compare_string p_x p_y) = (0) := by simp only [g_cmp_Compare_string, hb11, hb19, hb23, hb27, cL]
     rw [hM28]
     exact ⟨rfl, (Ex.trans (Ex.trans (Ex.refl w) hE7) hE10)⟩
    ·refine CW.cond_t rfl (not_f hb27) (CW.seq (CW.region (sd rfl (yl_assign rfl rfl (dn (CW.ret (tr (rr rfl (.cons rfl .nil) ?_))))))))
     have hM31 : (g_cmp_Compare_string p_x p_y) = (1) := by simp only [g_cmp_Compare_string, hb11, hb19, hb23, hb27, cL]
     rw [hM31]
     exact ⟨rfl, (Ex.trans (Ex.trans (Ex.refl w) hE7) hE10)⟩
theorem c_i_compareItems {w : World} (p_a : DFeedItem) (p_b : DFeedItem) (o1 : ok_FeedItem p_a) (o2 : ok_FeedItem p_b) : Cal Try.prog 106 #[.agg #[.int .i64 (p_a.Time), .int .i64 (p_a.Group), .string (bs (p_a.Key)), .string (bs (p_a.Val)), .bool (p_a.Gone)], .agg #[.int .i64 (p_b.Time), .int .i64 (p_b.Group), .string (bs (p_b.Key)), .string (bs (p_b.Val)), .bool (p_b.Gone)]] w fun v w' => v = .int .i64 ((i_compareItems p_a p_b)) ∧ Ex w w' := by
 have hol3 : p_a.Key.length ≤ 1073741824 := o1.1
 have hol4 : p_a.Val.length ≤ 1073741824 := o1.2
 have hol5 : p_b.Key.length ≤ 1073741824 := o2.1
 have hol6 : p_b.Val.length ≤ 1073741824 := o2.2
 refine Cal.of func106 rfl ntmps106 rfl (CW.seq (CW.region (sd rfl (yl_box rfl rfl rfl ?_))))
 intro b7 w8 hs9 hz10 hB11 hE12
 refine sd rfl (yl_box rfl rfl rfl ?_)
 intro b13 w14 hs15 hz16 hB17 hE18
 refine sd rfl (yl_assign rfl rfl (dn (CW.seq ?_)))
 have q19 := Box.ex hB11 hE18
 refine CW.drawsI 14 (vgetI ([.pointer (some ⟨b7, 0 + 0, none⟩), .int .i64 (p_a.Time), .pointer (some ⟨b13, 0 + 0, none⟩), .int .i64 (p_b.Time), .int .i64 ((g_cmp_Compare_int p_a.Time p_b.Time)), .pointer (some ⟨b7, 0 + 1, none⟩), .int .i64 (p_a.Group), .pointer (some ⟨b13, 0 + 1, none⟩), .int .i64 (p_b.Group), .int .i64 ((g_cmp_Compare_int p_a.Group p_b.Group)), .pointer (some ⟨b7, 0 + 2, none⟩), .string (bs (p_a.Key)), .pointer (some ⟨b13, 0 + 2, none⟩), .string (bs (p_b.Key))].map DetI)) Try.follows rfl rfl rfl rfl rfl rfl (vgetI_stable (stD _)) ⟨?_, ?_, ?_, ?_, ?_, ?_, ?_, ?_, ?_, ?_, ?_, ?_, ?_, ?_, trivial⟩ ?_
 ·exact oI rfl fun h => yl_fieldAddr fd63_0 rfl (h.old 2 _ rfl rfl) kI
 ·exact oI rfl fun h => yl_load1 ty3 rfl (h.dt 0 5 rfl rfl rfl) (((Box.ex q19 h.ex).cell 0).trans rfl) kI
 ·exact oI rfl fun h => yl_fieldAddr fd63_0 rfl (h.old 3 _ rfl rfl) kI
 ·exact oI rfl fun h => yl_load1 ty3 rfl (h.dt 2 7 rfl rfl rfl) (((Box.ex hB17 h.ex).cell 0).trans rfl) kI
 ·intro L44 w45 hi46
  exact OpR.op' rfl (yl_call en115 rfl (oc (hi46.dt 1 6 rfl rfl rfl) (oc (hi46.dt 3 8 rfl rfl rfl) oz)) (Cal.mono (c_g_cmp_Compare_int p_a.Time p_b.Time) fun _ _ h => h))
 ·exact oI rfl fun h => yl_fieldAddr fd63_1 rfl (h.old 2 _ rfl rfl) kI
 ·exact oI rfl fun h => yl_load1 ty3 rfl (h.dt 5 10 rfl rfl rfl) (((Box.ex q19 h.ex).cell 1).trans rfl) kI
 ·exact oI rfl fun h => yl_fieldAddr fd63_1 rfl (h.old 3 _ rfl rfl) kI
 ·exact oI rfl fun h => yl_load1 ty3 rfl (h.dt 7 12 rfl rfl rfl) (((Box.ex hB17 h.ex).cell 1).trans rfl) kI
 ·intro L75 w76 hi77
  exact OpR.op' rfl (yl_call en115 rfl (oc (hi77.dt 6 11 rfl rfl rfl) (oc (hi77.dt 8 13 rfl rfl rfl) oz)) (Cal.mono (c_g_cmp_Compare_int p_a.Group p_b.Group) fun _ _ h => h))
 ·exact oI rfl fun h => yl_fieldAddr fd63_2 rfl (h.old 2 _ rfl rfl) kI
 ·exact oI rfl fun h => yl_load1 ty9 rfl (h.dt 10 15 rfl rfl rfl) (((Box.ex q19 h.ex).cell 2).trans rfl) kI
 ·exact oI rfl fun h => yl_fieldAddr fd63_2 rfl (h.old 3 _ rfl rfl) kI
 ·exact oI rfl fun h => yl_load1 ty9 rfl (h.dt 12 17 rfl rfl rfl) (((Box.ex hB17 h.ex).cell 2).trans rfl) kI
 ·intro fl109 fh110 L106 w107 hp108
  have hE111 := hp108.ex
  have hE111z := Ex.size hE111
  refine sd rfl (yl_call en116 rfl (oc (hp108.nt 11 16 rfl rfl rfl) (oc (hp108.nt 13 18 rfl rfl rfl) oz)) (Cal.mono (c_g_cmp_Compare_string p_a.Key p_b.Key o1.1 o2.1) ?_))
  rintro v117 w116 ⟨rfl, hE118⟩
  have hE118z := Ex.size hE118
  refine sd rfl (yl_buildSlice (cs := [.int .i64 ((g_cmp_Compare_int p_a.Time p_b.Time)), .int .i64 ((g_cmp_Compare_int p_a.Group p_b.Group)), .int .i64 ((g_cmp_Compare_string p_a.Key p_b.Key))]) un130 ty3 (by decide) rfl (oc (hp108.nt 4 9 rfl rfl rfl) (oc (hp108.nt 9 14 rfl rfl rfl) (oc rfl oz))) (by kernel_rfl) ?_)
  intro b119 w120 hs121 hz122 hB123 hE124
  have hO125 : OwnL w120 b119 (b119 + 1) 3 1 (RF e_Int) (some ⟨b119, 0, none⟩) 3 3 ([(g_cmp_Compare_int p_a.Time p_b.Time), (g_cmp_Compare_int p_a.Group p_b.Group), (g_cmp_Compare_string p_a.Key p_b.Key)] : List Int) := OwnL.of_box (S := fun _ => False) hB123 (Nat.le_refl _) (Nat.lt_succ_self _) (EncL.cons (c := [.int .i64 ((g_cmp_Compare_int p_a.Time p_b.Time))]) rfl rfl (EncL.cons (c := [.int .i64 ((g_cmp_Compare_int p_a.Group p_b.Group))]) rfl rfl (EncL.cons (c := [.int .i64 ((g_cmp_Compare_string p_a.Key p_b.Key))]) rfl rfl EncL.nil))) (Nat.le_of_ble_eq_true rfl) (fun h => h) (fun _ h => False.elim h)
  have hle126 := OwnL.len hO125
  refine sd rfl (yl_call en114 rfl (oc rfl oz) (Cal.mono (Cal.args (by rw [← hle126] <;> rfl) (c_g_cmp_Or_int ([(g_cmp_Compare_int p_a.Time p_b.Time), (g_cmp_Compare_int p_a.Group p_b.Group), (g_cmp_Compare_string p_a.Key p_b.Key)] : List Int) (RdS.fix (RdS.up (OwnL.rd good_Int hO125) good_Int)) (okL.mk (xs := ([(g_cmp_Compare_int p_a.Time p_b.Time), (g_cmp_Compare_int p_a.Group p_b.Group), (g_cmp_Compare_string p_a.Key p_b.Key)] : List Int)) (by first | omega | (simp only [List.length_append, List.length_cons, List.length_nil, List.length_take, List.length_drop, List.length_replicate, List.length_set]; omega)) fun _ _ => trivial))) ?_))
  rintro v129 w128 ⟨rfl, hE130⟩
  have hE130z := Ex.size hE130
  refine sd rfl (yl_assign rfl rfl (dn (CW.sub (Sub.cons (d := 4) rfl (Sub.nil _)) (CW.ret (rr rfl (.cons rfl .nil) ?_)))))
  have hM131 : (i_compareItems p_a p_b) = ((g_cmp_Or_int ([(g_cmp_Compare_int p_a.Time p_b.Time), (g_cmp_Compare_int p_a.Group p_b.Group), (g_cmp_Compare_string p_a.Key p_b.Key)] : List Int))) := by simp only [i_compareItems, cL]
  rw [hM131]
  exact ⟨rfl, (Ex.trans (Ex.trans (Ex.trans (Ex.trans (Ex.trans (Ex.trans (Ex.refl w) hE12) hE18) hE111) hE118) hE124) hE130)⟩
theorem c_i_isFeed {A1 : Option Addr} {c1 : Nat} {w : World} (p_l : List DFeedItem) (h1 : RdS w (Iv 0 w.heap.size) (RF e_FeedItem) 5 A1 p_l.length c1 p_l) (o2 : (okL ok_FeedItem) p_l) : Cal Try.prog 87 #[.slice A1 p_l.length c1] w fun v w' => v = .bool ((i_isFeed p_l)) ∧ Ex w w' := by
 have hol3 := o2.1
 refine Cal.of func87 rfl ntmps87 rfl (CW.seq (CW.region (sd rfl (yl_assign rfl rfl (dn (CW.seq (CW.seq (CW.region ?_))))))))
 refine sd rfl (yl_move rfl rfl (sd rfl (yl_len un30 rfl rfl (sd rfl (yl_move rfl rfl (dn (CW.block (CW.loop (fun m5 L6 w7 => ∃ (k4 : Nat), m5 = p_l.length - k4 ∧ k4 ≤ p_l.length ∧ w.heap.size ≤ w7.heap.size ∧ lkp L6 0 = some (.slice A1 p_l.length c1) ∧ lkp L6 5 = some (.int .i64 ((p_l.length : Int))) ∧ lkp L6 6 = some (.int .i64 ((k4 : Int))) ∧ RdS w7 (Iv 0 w.heap.size) (RF e_FeedItem) 5 A1 p_l.length c1 p_l ∧ Ex w w7 ∧ loopM (B_i_isFeed_0 p_l) (p_l.length - k4) k4 () = loopM (B_i_isFeed_0 p_l) (p_l.length - 0) 0 ()) (p_l.length - 0) ?_ ?_))))))))
 ·exact ⟨0, rfl, (by omega), Nat.le_refl _, rfl, rfl, rfl, h1, (Ex.refl w), rfl⟩
 ·rintro m8 L9 w10 ⟨k4, rfl, hk11, hsz13, hl14, hl15, hl16, hf17, hf18, hI12⟩
  refine CW.sub (Sub.cons hl14 (Sub.cons hl15 (Sub.cons hl16 (Sub.nil _)))) ?_
  have hf18z := Ex.size hf18
  have hbg19 := RdS.big hf17
  rcases Nat.lt_or_ge k4 p_l.length with hlt20 | hlt20
  ·refine CW.seq (CW.region (sd rfl (yl_lss rfl rfl rfl (dn (CW.seq (CW.cond_t rfl (lt_t hlt20) (CW.skip (tn ?_))))))))
   refine CW.seq (CW.block (CW.seq (CW.region (sd rfl (yl_move rfl rfl (sd rfl (yl_assign rfl rfl (dn (CW.seq ?_)))))))))
   refine bcase (decide (0 < (k4 : Int))) (fun hb21 => ?_) (fun hb21 => ?_)
   ·have hb21p := dec_t hb21
    obtain ⟨eb22, eo22, _, eA22, _, ebl22, _, eR22, eC22⟩ := RdS.atD hf17 d_FeedItem (i := (IntKind.wrap .i64 ((k4 : Int) - 1)).toNat) (by first | omega | assumption | (simp only [wI] at *; omega))
    obtain rfl := eR22
    have eC22 : Cells w10 eb22 (eo22 + ((IntKind.wrap .i64 ((k4 : Int) - 1)).toNat) * 5) [.int .i64 ((p_l.getD ((IntKind.wrap .i64 ((k4 : Int) - 1)).toNat) d_FeedItem).Time), .int .i64 ((p_l.getD ((IntKind.wrap .i64 ((k4 : Int) - 1)).toNat) d_FeedItem).Group), .string (bs ((p_l.getD ((IntKind.wrap .i64 ((k4 : Int) - 1)).toNat) d_FeedItem).Key)), .string (bs ((p_l.getD ((IntKind.wrap .i64 ((k4 : Int) - 1)).toNat) d_FeedItem).Val)), .bool ((p_l.getD ((IntKind.wrap .i64 ((k4 : Int) - 1)).toNat) d_FeedItem).Gone)] := eC22
    obtain ⟨eb23, eo23, _, eA23, _, ebl23, _, eR23, eC23⟩ := RdS.aD hf17 d_FeedItem (i := k4)
    obtain rfl := eR23
    have eC23 : Cells w10 eb23 (eo23 + k4 * 5) [.int .i64 ((p_l.getD k4 d_FeedItem).Time), .int .i64 ((p_l.getD k4 d_FeedItem).Group), .string (bs ((p_l.getD k4 d_FeedItem).Key)), .string (bs ((p_l.getD k4 d_FeedItem).Val)), .bool ((p_l.getD k4 d_FeedItem).Gone)] := eC23
    refine CW.drawsI 15 (vgetI ([.int .i64 ((k4 : Int)), .bool (decide (0 < (k4 : Int))), .bool (decide (0 < (k4 : Int))), .slice A1 p_l.length c1, .int .i64 ((k4 : Int)), .int .i64 (IntKind.wrap .i64 ((k4 : Int) - 1)), .pointer (some ⟨eb22, eo22 + ((IntKind.wrap .i64 ((k4 : Int) - 1)).toNat) * 5, none⟩), .agg #[.int .i64 ((p_l.getD ((IntKind.wrap .i64 ((k4 : Int) - 1)).toNat) d_FeedItem).Time), .int .i64 ((p_l.getD ((IntKind.wrap .i64 ((k4 : Int) - 1)).toNat) d_FeedItem).Group), .string (bs ((p_l.getD ((IntKind.wrap .i64 ((k4 : Int) - 1)).toNat) d_FeedItem).Key)), .string (bs ((p_l.getD ((IntKind.wrap .i64 ((k4 : Int) - 1)).toNat) d_FeedItem).Val)), .bool ((p_l.getD ((IntKind.wrap .i64 ((k4 : Int) - 1)).toNat) d_FeedItem).Gone)], .slice A1 p_l.length c1, .int .i64 ((k4 : Int)), .pointer (some ⟨eb23, eo23 + k4 * 5, none⟩), .agg #[.int .i64 ((p_l.getD k4 d_FeedItem).Time), .int .i64 ((p_l.getD k4 d_FeedItem).Group), .string (bs ((p_l.getD k4 d_FeedItem).Key)), .string (bs ((p_l.getD k4 d_FeedItem).Val)), .bool ((p_l.getD k4 d_FeedItem).Gone)], .int .i64 ((i_compareItems (p_l.getD ((IntKind.wrap .i64 ((k4 : Int) - 1)).toNat) d_FeedItem) (p_l.getD k4 d_FeedItem))), .bool (decide (0 ≤ (i_compareItems (p_l.getD ((IntKind.wrap .i64 ((k4 : Int) - 1)).toNat) d_FeedItem) (p_l.getD k4 d_FeedItem)))), .bool (decide (0 ≤ (i_compareItems (p_l.getD ((IntKind.wrap .i64 ((k4 : Int) - 1)).toNat) d_FeedItem) (p_l.getD k4 d_FeedItem))))].map DetI)) Try.follows rfl rfl rfl rfl rfl rfl (vgetI_stable (stD _)) ⟨?_, ?_, ?_, ?_, ?_, ?_, ?_, ?_, ?_, ?_, ?_, ?_, ?_, ?_, ?_, trivial⟩ ?_
    ·exact oI rfl fun h => yl_move rfl (h.old 3 _ rfl rfl) kI
    ·exact oI rfl fun h => yl_gtr rfl (h.dt 0 9 rfl rfl rfl) rfl kI
    ·exact oI rfl fun h => yl_move rfl (h.dt 1 10 rfl rfl rfl) kI
    ·exact oW rfl rfl rfl rfl hb21 fun h => yl_move rfl (h.old 0 _ rfl rfl) kI
    ·exact oW rfl rfl rfl rfl hb21 fun h => yl_move rfl (h.old 3 _ rfl rfl) kI
    ·exact oW rfl rfl rfl rfl hb21 fun h => yl_sub rfl (h.dt 4 13 rfl rfl rfl) rfl kI
    ·intro L58 w59 hi60
     have hE61 := hi60.ex
     have hE61z := Ex.size hE61
     exact OpR.want rfl rfl (hi60.dt 2 11 rfl rfl rfl) hb21 (Yl.sameI (yl_indexAddr un30 ty63 rfl (hi60.dt 3 12 rfl rfl rfl) (hi60.dt 5 14 rfl rfl rfl) eA22 (by first | omega | assumption | (simp only [wI] at *; omega)) (by first | omega | assumption | (simp only [wI] at *; omega)) kI))
    ·exact oW rfl rfl rfl rfl hb21 fun h => yl_loadN ty63 rfl (h.dt 6 15 rfl rfl rfl) (Cells.ex eC22 h.ex) rfl kI
    ·exact oW rfl rfl rfl rfl hb21 fun h => yl_move rfl (h.old 0 _ rfl rfl) kI
    ·exact oW rfl rfl rfl rfl hb21 fun h => yl_move rfl (h.old 3 _ rfl rfl) kI
    ·intro L84 w85 hi86
     have hE87 := hi86.ex
     have hE87z := Ex.size hE87
     exact OpR.want rfl rfl (hi86.dt 2 11 rfl rfl rfl) hb21 (Yl.sameI (yl_ixN un30 ty63 rfl (hi86.dt 8 17 rfl rfl rfl) (hi86.dt 9 18 rfl rfl rfl) eA23 kI))
    ·exact oW rfl rfl rfl rfl hb21 fun h => yl_loadN ty63 rfl (h.dt 10 19 rfl rfl rfl) (Cells.ex eC23 h.ex) rfl kI
    ·intro L98 w99 hi100
     exact OpR.want rfl rfl (hi100.dt 2 11 rfl rfl rfl) hb21 (yl_call en106 rfl (oc (hi100.dt 7 16 rfl rfl rfl) (oc (hi100.dt 11 20 rfl rfl rfl) oz)) (Cal.mono (c_i_compareItems (p_l.getD ((IntKind.wrap .i64 ((k4 : Int) - 1)).toNat) d_FeedItem) (p_l.getD k4 d_FeedItem) (okL.getD o2 ok_d_FeedItem _) (okL.getD o2 ok_d_FeedItem _)) fun _ _ h => h))
    ·exact oW rfl rfl rfl rfl hb21 fun h => yl_geq rfl (h.dt 12 21 rfl rfl rfl) rfl kI
    ·exact oI rfl fun h => yl_pick_t rfl (h.dt 2 11 rfl rfl rfl) hb21 (h.dt 13 22 rfl rfl rfl) kI
    ·intro fl123 fh124 L120 w121 hp122
     have hE125 := hp122.ex
     have hE125z := Ex.size hE125
     refine dn (CW.sub (Sub.cons (d := 0) (hp122.old 0 _ rfl rfl) (Sub.cons (d := 5) (hp122.old 5 _ rfl rfl) (Sub.cons (d := 6) (hp122.old 6 _ rfl rfl) (Sub.cons (d := 12) (hp122.nt 3 12 rfl rfl rfl) (Sub.cons (d := 13) (hp122.nt 4 13 rfl rfl rfl) (Sub.cons (d := 14) (hp122.nt 5 14 rfl rfl rfl) (Sub.cons (d := 15) (hp122.nt 6 15 rfl rfl rfl) (Sub.cons (d := 16) (hp122.nt 7 16 rfl rfl rfl) (Sub.cons (d := 17) (hp122.nt 8 17 rfl rfl rfl) (Sub.cons (d := 18) (hp122.nt 9 18 rfl rfl rfl) (Sub.cons (d := 19) (hp122.nt 10 19 rfl rfl rfl) (Sub.cons (d := 20) (hp122.nt 11 20 rfl rfl rfl) (Sub.cons (d := 21) (hp122.nt 12 21 rfl rfl rfl) (Sub.cons (d := 22) (hp122.nt 13 22 rfl rfl rfl) (Sub.cons (d := 23) (hp122.nt 14 23 rfl rfl rfl) (Sub.nil _)))))))))))))))) (bcase (decide (0 ≤ (i_compareItems (p_l.getD ((IntKind.wrap .i64 ((k4 : Int) - 1)).toNat) d_FeedItem) (p_l.getD k4 d_FeedItem)))) (fun hb141 => ?_) (fun hb141 => ?_)))
     ·have hb141p := dec_t hb141
      refine CW.cond_t rfl hb141 (CW.seq (CW.region (sd rfl (yl_assign rfl rfl (dn (CW.ret (br (tr ?_))))))))
      refine tr ?_
      have hB143 : B_i_isFeed_0 p_l k4 () = .ret false := by simp only [B_i_isFeed_0, hb21, hb141, cL]
      have hL142 : loopM (B_i_isFeed_0 p_l) (p_l.length - 0) 0 () = .ret false := hI12.symm.trans (loopM.ret hlt20 hB143)
      refine br (tr (rr rfl (.cons rfl .nil) ?_))
      have hM144 : (i_isFeed p_l) = (false) := by simp only [i_isFeed, hb21, hb141, hL142, cL]
      rw [hM144]
      exact ⟨rfl, (Ex.trans hf18 hE125)⟩
     ·have hb141p := dec_f hb141
      refine CW.cond_f rfl hb141 (CW.skip (bn (tn (CW.region (sd rfl (yl_inc rfl rfl rfl (by omega) (sd rfl (yl_move rfl rfl (dn ?_)))))))))
      have hB146 : B_i_isFeed_0 p_l k4 () = .cont () := by simp only [B_i_isFeed_0, hb21, hb141, cL]
      exact ⟨p_l.length - (k4 + 1), by omega, k4 + 1, rfl, hlt20, (by omega), rfl, rfl, rfl, (RdS.ex good_FeedItem hf17 hE125), (Ex.trans hf18 hE125), (loopM.cont hlt20 hB146).symm.trans hI12⟩
   ·have hb21p := dec_f hb21
    refine CW.drawsI 15 (vgetI ([.int .i64 ((k4 : Int)), .bool (decide (0 < (k4 : Int))), .bool (decide (0 < (k4 : Int))), undef, undef, undef, undef, undef, undef, undef, undef, undef, undef, undef, .bool (false)].map DetI)) Try.follows rfl rfl rfl rfl rfl rfl (vgetI_stable (stD _)) ⟨?_, ?_, ?_, ?_, ?_, ?_, ?_, ?_, ?_, ?_, ?_, ?_, ?_, ?_, ?_, trivial⟩ ?_
    ·exact oI rfl fun h => yl_move rfl (h.old 3 _ rfl rfl) kI
    ·exact oI rfl fun h => yl_gtr rfl (h.dt 0 9 rfl rfl rfl) rfl kI
    ·exact oI rfl fun h => yl_move rfl (h.dt 1 10 rfl rfl rfl) kI
    ·exact oS rfl rfl rfl rfl rfl hb21
    ·exact oS rfl rfl rfl rfl rfl hb21
    ·exact oS rfl rfl rfl rfl rfl hb21
    ·exact oS rfl rfl rfl rfl rfl hb21
    ·exact oS rfl rfl rfl rfl rfl hb21
    ·exact oS rfl rfl rfl rfl rfl hb21
    ·exact oS rfl rfl rfl rfl rfl hb21
    ·exact oS rfl rfl rfl rfl rfl hb21
    ·exact oS rfl rfl rfl rfl rfl hb21
    ·exact oS rfl rfl rfl rfl rfl hb21
    ·exact oS rfl rfl rfl rfl rfl hb21
    ·exact oI rfl fun h => yl_pick_f rfl (h.dt 2 11 rfl rfl rfl) hb21 rfl kI
    ·intro fl228 fh229 L225 w226 hp227
     have hE230 := hp227.ex
     have hE230z := Ex.size hE230
     refine dn (CW.sub (Sub.cons (d := 0) (hp227.old 0 _ rfl rfl) (Sub.cons (d := 5) (hp227.old 5 _ rfl rfl) (Sub.cons (d := 6) (hp227.old 6 _ rfl rfl) (Sub.cons (d := 12) (hp227.nt 3 12 rfl rfl rfl) (Sub.cons (d := 13) (hp227.nt 4 13 rfl rfl rfl) (Sub.cons (d := 14) (hp227.nt 5 14 rfl rfl rfl) (Sub.cons (d := 15) (hp227.nt 6 15 rfl rfl rfl) (Sub.cons (d := 16) (hp227.nt 7 16 rfl rfl rfl) (Sub.cons (d := 17) (hp227.nt 8 17 rfl rfl rfl) (Sub.cons (d := 18) (hp227.nt 9 18 rfl rfl rfl) (Sub.cons (d := 19) (hp227.nt 10 19 rfl rfl rfl) (Sub.cons (d := 20) (hp227.nt 11 20 rfl rfl rfl) (Sub.cons (d := 21) (hp227.nt 12 21 rfl rfl rfl) (Sub.cons (d := 22) (hp227.nt 13 22 rfl rfl rfl) (Sub.cons (d := 23) (hp227.nt 14 23 rfl rfl rfl) (Sub.nil _)))))))))))))))) (CW.cond_f rfl rfl (CW.skip (bn (tn (CW.region (sd rfl (yl_inc rfl rfl rfl (by omega) ?_))))))))
     refine sd rfl (yl_move rfl rfl (dn ?_))
     have hB246 : B_i_isFeed_0 p_l k4 () = .cont () := by simp only [B_i_isFeed_0, hb21, cL]
     exact ⟨p_l.length - (k4 + 1), by omega, k4 + 1, rfl, hlt20, (by omega), rfl, rfl, rfl, (RdS.ex good_FeedItem hf17 hE230), (Ex.trans hf18 hE230), (loopM.cont hlt20 hB246).symm.trans hI12⟩
  ·refine CW.seq (CW.region (sd rfl (yl_lss rfl rfl rfl (dn (CW.seq (CW.cond_f rfl (lt_f hlt20) (CW.exit (tx ?_))))))))
   refine tx ?_
   have hL249 : loopM (B_i_isFeed_0 p_l) (p_l.length - 0) 0 () = .done () := hI12.symm.trans (loopM.stop hlt20)
   refine bx (tn (CW.seq (CW.region (sd rfl (yl_move rfl rfl (sd rfl (yl_len un30 rfl rfl (sd rfl (yl_leq rfl rfl rfl (sd rfl (yl_assign rfl rfl (SeqR.done ?_))))))))))))
   refine tn (CW.ret (rr rfl (.cons rfl .nil) ?_))
   have hM250 : (i_isFeed p_l) = (decide ((p_l.length : Int) ≤ 400)) := by simp only [i_isFeed, hL249, cL]
   rw [hM250]
   exact ⟨rfl, hf18⟩
theorem c_i_isTime {w : World} (p_t : Int) : Cal Try.prog 95 #[.int .i64 (p_t)] w fun v w' => v = .bool ((i_isTime p_t)) ∧ Ex w w' := by
 refine Cal.of func95 rfl ntmps95 rfl (CW.seq (CW.region (sd rfl (yl_assign rfl rfl (dn (CW.seq (CW.region (sd rfl (yl_move rfl rfl ?_)))))))))
 refine sd rfl (yl_call en55 rfl (oc rfl (oc rfl (oc rfl oz))) (Cal.mono (c_i_within p_t 1 100000) ?_))
 rintro v2 w1 ⟨rfl, hE3⟩
 refine sd rfl (yl_assign rfl rfl (dn (CW.ret (rr rfl (.cons rfl .nil) ?_))))
 have hM4 : (i_isTime p_t) = ((i_within p_t 1 100000)) := by simp only [i_isTime, cL]
 rw [hM4]
 exact ⟨rfl, (Ex.trans (Ex.refl w) hE3)⟩
theorem c_i_isLowerOrDigit {w : World} (p_b : Int) : Cal Try.prog 118 #[.int .u8 (p_b)] w fun v w' => v = .bool ((i_isLowerOrDigit p_b)) ∧ Ex w w' := by
 refine Cal.of func118 rfl ntmps118 rfl (CW.seq (CW.region (sd rfl (yl_assign rfl rfl (dn (CW.seq (CW.region (sd rfl (yl_move rfl rfl ?_)))))))))
 refine sd rfl (yl_geq rfl rfl rfl (sd rfl (yl_move rfl rfl (bcase (decide (97 ≤ p_b)) (fun hb1 => ?_) (fun hb1 => ?_)))))
 ·have hb1p := dec_t hb1
  refine sy rfl rfl hb1 (yl_move rfl rfl (sy rfl rfl hb1 (yl_leq rfl rfl rfl (sd rfl (yl_pick_t rfl rfl hb1 rfl (sd rfl (yl_move rfl rfl (bcase (decide (p_b ≤ 122)) (fun hb2 => ?_) (fun hb2 => ?_)))))))))
  ·have hb2p := dec_t hb2
   refine sz rfl rfl hb2 (sz rfl rfl hb2 (sz rfl rfl hb2 (sq rfl rfl (sq rfl rfl (sz rfl rfl hb2 (sd rfl (yl_pick_t rfl rfl hb2 rfl (sd rfl (yl_assign rfl rfl (SeqR.done ?_))))))))))
   refine tn (CW.ret (rr rfl (.cons rfl .nil) ?_))
   have hM3 : (i_isLowerOrDigit p_b) = (true) := by simp only [i_isLowerOrDigit, hb1, hb2, cL]
   rw [hM3]
   exact ⟨rfl, (Ex.refl w)⟩
  ·have hb2p := dec_f hb2
   refine sy rfl rfl hb2 (yl_move rfl rfl (sy rfl rfl hb2 (yl_geq rfl rfl rfl (sy rfl rfl hb2 (yl_move rfl rfl (bcase (decide (48 ≤ p_b)) (fun hb4 => ?_) (fun hb4 => ?_)))))))
   ·have hb4p := dec_t hb4
    refine sy rfl rfl hb4 (yl_move rfl rfl (sy rfl rfl hb4 (yl_leq rfl rfl rfl (sy rfl rfl hb2 (yl_pick_t rfl rfl hb4 rfl (sd rfl (yl_pick_f rfl rfl hb2 rfl (sd rfl (yl_assign rfl rfl (dn (CW.ret (rr rfl (.cons rfl .nil) ?_))))))))))))
    have hM5 : (i_isLowerOrDigit p_b) = (decide (p_b ≤ 57)) := by simp only [i_isLowerOrDigit, hb1, hb2, hb4, cL]
    rw [hM5]
    exact ⟨rfl, (Ex.refl w)⟩
   ·have hb4p := dec_f hb4
    refine sz rfl rfl hb4 (sz rfl rfl hb4 (sy rfl rfl hb2 (yl_pick_f rfl rfl hb4 rfl (sd rfl (yl_pick_f rfl rfl hb2 rfl (sd rfl (yl_assign rfl rfl (dn (CW.ret (rr rfl (.cons rfl .nil) ?_))))))))))
    have hM6 : (i_isLowerOrDigit p_b) = (false) := by simp only [i_isLowerOrDigit, hb1, hb2, hb4, cL]
    rw [hM6]
    exact ⟨rfl, (Ex.refl w)⟩
 ·have hb1p := dec_f hb1
  refine sz rfl rfl hb1 (sz rfl rfl hb1 (sd rfl (yl_pick_f rfl rfl hb1 rfl (sd rfl (yl_move rfl rfl (sy rfl rfl rfl (yl_move rfl rfl (sy rfl rfl rfl (yl_geq rfl rfl rfl (sy rfl rfl rfl (yl_move rfl rfl (bcase (decide (48 ≤ p_b)) (fun hb7 => ?_) (fun hb7 => ?_)))))))))))))
  ·have hb7p := dec_t hb7
   refine sy rfl rfl hb7 (yl_move rfl rfl (sy rfl rfl hb7 (yl_leq rfl rfl rfl (sy rfl rfl rfl (yl_pick_t rfl rfl hb7 rfl (sd rfl (yl_pick_f rfl rfl rfl rfl (sd rfl (yl_assign rfl rfl (dn (CW.ret (rr rfl (.cons rfl .nil) ?_))))))))))))
   have hM8 : (i_isLowerOrDigit p_b) = (decide (p_b ≤ 57)) := by simp only [i_isLowerOrDigit, hb1, hb7, cL]
   rw [hM8]
   exact ⟨rfl, (Ex.refl w)⟩
  ·have hb7p := dec_f hb7
   refine sz rfl rfl hb7 (sz rfl rfl hb7 (sy rfl rfl rfl (yl_pick_f rfl rfl hb7 rfl (sd rfl (yl_pick_f rfl rfl rfl rfl (sd rfl (yl_assign rfl rfl (dn (CW.ret (rr rfl (.cons rfl .nil) ?_))))))))))
   have hM9 : (i_isLowerOrDigit p_b) = (false) := by simp only [i_isLowerOrDigit, hb1, hb7, cL]
   rw [hM9]
   exact ⟨rfl, (Ex.refl w)⟩
theorem c_g_internal_stringslite_IndexByte {w : World} (p_s : Str) (p_c : Int) (o1 : okS p_s) : Cal Try.prog 122 #[.string (bs (p_s)), .int .u8 (p_c)] w fun v w' => v = .int .i64 ((g_internal_stringslite_IndexByte p_s p_c)) ∧ Ex w w' := by
 refine Cal.of func122 rfl ntmps122 rfl (CW.seq (CW.region (sd rfl (yl_assign rfl rfl (dn (CW.seq (CW.region (sd rfl (yl_move rfl rfl ?_)))))))))
 refine sd rfl (yl_move rfl rfl (sd rfl (yl_idxB (s := p_s) (c := p_c) Try.ex123 rfl (oc rfl (oc rfl oz)) (sd rfl (yl_assign rfl rfl (dn (CW.ret (rr rfl (.cons rfl .nil) ?_))))))))
 have hM3 : (g_internal_stringslite_IndexByte p_s p_c) = (idxB p_s p_c) := by simp only [g_internal_stringslite_IndexByte, cL]
 rw [hM3]
 exact ⟨rfl, (Ex.refl w)⟩
theorem c_g_strings_IndexByte {w : World} (p_s : Str) (p_c : Int) (o1 : okS p_s) : Cal Try.prog 119 #[.string (bs (p_s)), .int .u8 (p_c)] w fun v w' => v = .int .i64 ((g_strings_IndexByte p_s p_c)) ∧ Ex w w' := by
 refine Cal.of func119 rfl ntmps119 rfl (CW.seq (CW.region (sd rfl (yl_assign rfl rfl (dn (CW.seq (CW.region (sd rfl (yl_move rfl rfl ?_)))))))))
 refine sd rfl (yl_move rfl rfl (sd rfl (yl_call en122 rfl (oc rfl (oc rfl oz)) (Cal.mono (c_g_internal_stringslite_IndexByte p_s p_c o1) ?_))))
 rintro v4 w3 ⟨rfl, hE5⟩
 refine sd rfl (yl_assign rfl rfl (dn (CW.ret (rr rfl (.cons rfl .nil) ?_))))
 have hM6 : (g_strings_IndexByte p_s p_c) = ((g_internal_stringslite_IndexByte p_s p_c)) := by simp only [g_strings_IndexByte, cL]
 rw [hM6]
 exact ⟨rfl, (Ex.trans (Ex.refl w) hE5)⟩
theorem c_i_hasBytes {w : World} (p_s : Str) (p_others : Str) (o1 : okS p_s) (o2 : okS p_others) : Cal Try.prog 111 #[.string (bs (p_s)), .string (bs (p_others))] w fun v w' => v = .bool ((i_hasBytes p_s p_others)) ∧ Ex w w' := by
 have hol3 : p_s.length ≤ 1073741824 := o1
 have hol4 : p_others.length ≤ 1073741824 := o2
 refine Cal.of func111 rfl ntmps111 rfl (CW.seq (CW.region (sd rfl (yl_assign rfl rfl (dn (CW.seq (CW.seq (CW.region ?_))))))))
 refine sd rfl (yl_move rfl rfl (sd rfl (yl_slen un9 (a := p_s) rfl rfl (sd rfl (yl_move rfl rfl (dn (CW.block (CW.loop (fun m6 L7 w8 => ∃ (k5 : Nat), m6 = p_s.length - k5 ∧ k5 ≤ p_s.length ∧ w.heap.size ≤ w8.heap.size ∧ lkp L7 0 = some (.string (bs (p_s))) ∧ lkp L7 1 = some (.string (bs (p_others))) ∧ lkp L7 7 = some (.int .i64 ((p_s.length : Int))) ∧ lkp L7 8 = some (.int .i64 ((k5 : Int))) ∧ Ex w w8 ∧ loopM (B_i_hasBytes_0 p_s p_others) (p_s.length - k5) k5 () = loopM (B_i_hasBytes_0 p_s p_others) (p_s.length - 0) 0 ()) (p_s.length - 0) ?_ ?_))))))))
 ·exact ⟨0, rfl, (by omega), Nat.le_refl _, rfl, rfl, rfl, rfl, (Ex.refl w), rfl⟩
 ·rintro m9 L10 w11 ⟨k5, rfl, hk12, hsz14, hl15, hl16, hl17, hl18, hf19, hI13⟩
  refine CW.sub (Sub.cons hl15 (Sub.cons hl16 (Sub.cons hl17 (Sub.cons hl18 (Sub.nil _))))) ?_
  have hf19z := Ex.size hf19
  have hbg20 : p_s.length ≤ 1073741824 := o1
  rcases Nat.lt_or_ge k5 p_s.length with hlt21 | hlt21
  ·refine CW.seq (CW.region (sd rfl (yl_lss rfl rfl rfl (dn (CW.seq (CW.cond_t rfl (lt_t hlt21) (CW.skip (tn ?_))))))))
   refine CW.seq (CW.block (CW.seq (CW.region (sd rfl (yl_move rfl rfl (sd rfl (yl_assign rfl rfl (dn (CW.seq ?_)))))))))
   refine CW.region (sd rfl (yl_move rfl rfl (sd rfl (yl_move rfl rfl (sd rfl (yl_sindexN un9 (a := p_s) rfl rfl rfl (by first | omega | assumption | (simp only [wI] at *; omega)) (sd rfl (yl_call en118 rfl (oc rfl oz) (Cal.mono (c_i_isLowerOrDigit ((p_s.getD k5 0).toNat : Int)) ?_)))))))))
   rintro v23 w22 ⟨rfl, hE24⟩
   have hE24z := Ex.size hE24
   refine sd rfl (yl_not rfl rfl (sd rfl (yl_move rfl rfl (bcase (i_isLowerOrDigit ((p_s.getD k5 0).toNat : Int)) (fun hb25 => ?_) (fun hb25 => ?_)))))
   ·refine sz rfl rfl (not_t hb25) (sz rfl rfl (not_t hb25) (sz rfl rfl (not_t hb25) (sz rfl rfl (not_t hb25) (sz rfl rfl (not_t hb25) (sz rfl rfl (not_t hb25) (sd rfl (yl_pick_f rfl rfl (not_t hb25) rfl (dn ?_))))))))
    refine CW.cond_f rfl rfl (CW.skip (bn (tn (CW.region (sd rfl (yl_inc rfl rfl rfl (by omega) (sd rfl (yl_move rfl rfl (dn ?_)))))))))
    have hB26 : B_i_hasBytes_0 p_s p_others k5 () = .cont () := by simp only [B_i_hasBytes_0, hb25, cL]
    exact ⟨p_s.length - (k5 + 1), by omega, k5 + 1, rfl, hlt21, (by omega), rfl, rfl, rfl, rfl, (Ex.trans hf19 hE24), (loopM.cont hlt21 hB26).symm.trans hI13⟩
   ·refine sy rfl rfl (not_f hb25) (yl_move rfl rfl (sy rfl rfl (not_f hb25) (yl_move rfl rfl (sy rfl rfl (not_f hb25) (yl_move rfl rfl (sy rfl rfl (not_f hb25) (yl_sindexN un9 (a := p_s) rfl rfl rfl (by first | omega | assumption | (simp only [wI] at *; omega)) (sy rfl rfl (not_f hb25) (yl_call en119 rfl (oc rfl (oc rfl oz)) (Cal.mono (c_g_strings_IndexByte p_others ((p_s.getD k5 0).toNat : Int) o2) ?_))))))))))
    rintro v29 w28 ⟨rfl, hE30⟩
    have hE30z := Ex.size hE30
    refine sy rfl rfl (not_f hb25) (yl_lss rfl rfl rfl (sd rfl (yl_pick_t rfl rfl (not_f hb25) rfl (dn (bcase (decide ((g_strings_IndexByte p_others ((p_s.getD k5 0).toNat : Int)) < 0)) (fun hb31 => ?_) (fun hb31 => ?_))))))
    ·have hb31p := dec_t hb31
     refine CW.cond_t rfl hb31 (CW.seq (CW.region (sd rfl (yl_assign rfl rfl (dn (CW.ret (br (tr ?_))))))))
     refine tr ?_
     have hB33 : B_i_hasBytes_0 p_s p_others k5 () = .ret false := by simp only [B_i_hasBytes_0, hb25, hb31, cL]
     have hL32 : loopM (B_i_hasBytes_0 p_s p_others) (p_s.length - 0) 0 () = .ret false := hI13.symm.trans (loopM.ret hlt21 hB33)
     refine br (tr (rr rfl (.cons rfl .nil) ?_))
     have hM34 : (i_hasBytes p_s p_others) = (false) := by simp only [i_hasBytes, hb25, hb31, hL32, cL]
     rw [hM34]
     exact ⟨rfl, (Ex.trans (Ex.trans hf19 hE24) hE30)⟩
    ·have hb31p := dec_f hb31
     refine CW.cond_f rfl hb31 (CW.skip (bn (tn (CW.region (sd rfl (yl_inc rfl rfl rfl (by omega) (sd rfl (yl_move rfl rfl (dn ?_)))))))))
     have hB37 : B_i_hasBytes_0 p_s p_others k5 () = .cont () := by simp only [B_i_hasBytes_0, hb25, hb31, cL]
     exact ⟨p_s.length - (k5 + 1), by omega, k5 + 1, rfl, hlt21, (by omega), rfl, rfl, rfl, rfl, (Ex.trans (Ex.trans hf19 hE24) hE30), (loopM.cont hlt21 hB37).symm.trans hI13⟩
  ·refine CW.seq (CW.region (sd rfl (yl_lss rfl rfl rfl (dn (CW.seq (CW.cond_f rfl (lt_f hlt21) (CW.exit (tx ?_))))))))
   refine tx ?_
   have hL40 : loopM (B_i_hasBytes_0 p_s p_others) (p_s.length - 0) 0 () = .done () := hI13.symm.trans (loopM.stop hlt21)
   refine bx (tn (CW.seq (CW.region (sd rfl (yl_assign rfl rfl (dn (CW.ret (rr rfl (.cons rfl .nil) ?_))))))))
   have hM41 : (i_hasBytes p_s p_others) = (true) := by simp only [i_hasBytes, hL40, cL]
   rw [hM41]
   exact ⟨rfl, hf19⟩
theorem c_i_GoodVal {w : World} (p_s : Str) (o1 : okS p_s) : Cal Try.prog 110 #[.string (bs (p_s))] w fun v w' => v = .bool ((i_GoodVal p_s)) ∧ Ex w w' := by
 refine Cal.of func110 rfl ntmps110 rfl (CW.seq (CW.region (sd rfl (yl_assign rfl rfl (dn (CW.seq (CW.region (sd rfl (yl_move rfl rfl ?_)))))))))
 refine sd rfl (yl_slen un9 (a := p_s) rfl rfl (sd rfl (yl_leq rfl rfl rfl (sd rfl (yl_move rfl rfl (bcase (decide ((p_s.length : Int) ≤ 24)) (fun hb3 => ?_) (fun hb3 => ?_)))))))
 ·have hb3p := dec_t hb3
  refine sy rfl rfl hb3 (yl_move rfl rfl (sy rfl rfl hb3 (yl_call en111 rfl (oc rfl (oc rfl oz)) (Cal.mono (c_i_hasBytes p_s ([46, 45, 44, 95] : Str) o1 (okS.lit rfl)) ?_))))
  rintro v5 w4 ⟨rfl, hE6⟩
  refine sd rfl (yl_pick_t rfl rfl hb3 rfl (sd rfl (yl_assign rfl rfl (dn (CW.ret (rr rfl (.cons rfl .nil) ?_))))))
  have hM7 : (i_GoodVal p_s) = ((i_hasBytes p_s ([46, 45, 44, 95] : Str))) := by simp only [i_GoodVal, hb3, cL]
  rw [hM7]
  exact ⟨rfl, (Ex.trans (Ex.refl w) hE6)⟩
 ·have hb3p := dec_f hb3
  refine sz rfl rfl hb3 (sz rfl rfl hb3 (sd rfl (yl_pick_f rfl rfl hb3 rfl (sd rfl (yl_assign rfl rfl (dn (CW.ret (rr rfl (.cons rfl .nil) ?_))))))))
  have hM9 : (i_GoodVal p_s) = (false) := by simp only [i_GoodVal, hb3, cL]
  rw [hM9]
  exact ⟨rfl, (Ex.refl w)⟩
theorem c_i_isStored {w : World} (p_val : Str) (p_gone : Bool) (o1 : okS p_val) : Cal Try.prog 96 #[.string (bs (p_val)), .bool (p_gone)] w fun v w' => v = .bool ((i_isStored p_val p_gone)) ∧ Ex w w' := by
 refine Cal.of func96 rfl ntmps96 rfl (CW.seq (CW.region (sd rfl (yl_assign rfl rfl (dn (CW.seq (CW.region (sd rfl (yl_move rfl rfl ?_)))))))))
 refine sd rfl (yl_call en110 rfl (oc rfl oz) (Cal.mono (c_i_GoodVal p_val o1) ?_))
 rintro v4 w3 ⟨rfl, hE5⟩
 refine sd rfl (yl_move rfl rfl (bcase (i_GoodVal p_val) (fun hb6 => ?_) (fun hb6 => ?_)))
 ·refine sy rfl rfl hb6 (yl_move rfl rfl (sy rfl rfl hb6 (yl_move rfl rfl (bcase (p_gone) (fun hb7 => ?_) (fun hb7 => ?_)))))
  ·refine sy rfl rfl hb7 (yl_move rfl rfl (sy rfl rfl hb7 (yl_sneq (a := p_val) (b := ([] : Str)) rfl rfl rfl (sy rfl rfl hb6 (yl_pick_t rfl rfl hb7 rfl (sy rfl rfl hb6 (yl_not rfl rfl (sd rfl (yl_pick_t rfl rfl hb6 rfl (sd rfl (yl_assign rfl rfl (dn (CW.ret ?_)))))))))))))
   refine rr rfl (.cons rfl .nil) ?_
   have hM8 : (i_isStored p_val p_gone) = (!(!(p_val == ([] : Str)))) := by simp only [i_isStored, hb6, hb7, cL]
   rw [hM8]
   exact ⟨rfl, (Ex.trans (Ex.refl w) hE5)⟩
  ·refine sz rfl rfl hb7 (sz rfl rfl hb7 (sy rfl rfl hb6 (yl_pick_f rfl rfl hb7 rfl (sy rfl rfl hb6 (yl_not rfl rfl (sd rfl (yl_pick_t rfl rfl hb6 rfl (sd rfl (yl_assign rfl rfl (dn (CW.ret ?_)))))))))))
   refine rr rfl (.cons rfl .nil) ?_
   have hM10 : (i_isStored p_val p_gone) = (!false) := by simp only [i_isStored, hb6, hb7, cL]
   rw [hM10]
   exact ⟨rfl, (Ex.trans (Ex.refl w) hE5)⟩
 ·refine sz rfl rfl hb6 (sz rfl rfl hb6 (sq rfl rfl (sq rfl rfl (sz rfl rfl hb6 (sz rfl rfl hb6 (sd rfl (yl_pick_f rfl rfl hb6 rfl (sd rfl (yl_assign rfl rfl (SeqR.done ?_))))))))))
  refine tn (CW.ret (rr rfl (.cons rfl .nil) ?_))
  have hM12 : (i_isStored p_val p_gone) = (false) := by simp only [i_isStored, hb6, cL]
  rw [hM12]
  exact ⟨rfl, (Ex.trans (Ex.refl w) hE5)⟩
theorem c_i_GoodKey {w : World} (p_s : Str) (o1 : okS p_s) : Cal Try.prog 97 #[.string (bs (p_s))] w fun v w' => v = .bool ((i_GoodKey p_s)) ∧ Ex w w' := by
 refine Cal.of func97 rfl ntmps97 rfl (CW.seq (CW.region (sd rfl (yl_assign rfl rfl (dn (CW.seq (CW.region (sd rfl (yl_move rfl rfl ?_)))))))))
 refine sd rfl (yl_slen un9 (a := p_s) rfl rfl (sd rfl (yl_call en55 rfl (oc rfl (oc rfl (oc rfl oz))) (Cal.mono (c_i_within (p_s.length : Int) 1 12) ?_))))
 rintro v4 w3 ⟨rfl, hE5⟩
 refine sd rfl (yl_move rfl rfl (bcase (i_within (p_s.length : Int) 1 12) (fun hb6 => ?_) (fun hb6 => ?_)))
 ·have hb6p := f_within hb6
  refine sy rfl rfl hb6 (yl_move rfl rfl (sy rfl rfl hb6 (yl_call en111 rfl (oc rfl (oc rfl oz)) (Cal.mono (c_i_hasBytes p_s ([46, 47] : Str) o1 (okS.lit rfl)) ?_))))
  rintro v8 w7 ⟨rfl, hE9⟩
  refine sd rfl (yl_pick_t rfl rfl hb6 rfl (sd rfl (yl_assign rfl rfl (dn (CW.ret (rr rfl (.cons rfl .nil) ?_))))))
  have hM10 : (i_GoodKey p_s) = ((i_hasBytes p_s ([46, 47] : Str))) := by simp only [i_GoodKey, hb6, cL]
  rw [hM10]
  exact ⟨rfl, (Ex.trans (Ex.trans (Ex.refl w) hE5) hE9)⟩
 ·refine sz rfl rfl hb6 (sz rfl rfl hb6 (sd rfl (yl_pick_f rfl rfl hb6 rfl (sd rfl (yl_assign rfl rfl (dn (CW.ret (rr rfl (.cons rfl .nil) ?_))))))))
  have hM13 : (i_GoodKey p_s) = (false) := by simp only [i_GoodKey, hb6, cL]
  rw [hM13]
  exact ⟨rfl, (Ex.trans (Ex.refl w) hE5)⟩
theorem c_i_isGroup {w : World} (p_g : Int) : Cal Try.prog 107 #[.int .i64 (p_g)] w fun v w' => v = .bool ((i_isGroup p_g)) ∧ Ex w w' := by
 refine Cal.of func107 rfl ntmps107 rfl (CW.seq (CW.region (sd rfl (yl_assign rfl rfl (dn (CW.seq (CW.region (sd rfl (yl_move rfl rfl ?_)))))))))
 refine sd rfl (yl_call en55 rfl (oc rfl (oc rfl (oc rfl oz))) (Cal.mono (c_i_within p_g 0 3) ?_))
 rintro v2 w1 ⟨rfl, hE3⟩
 refine sd rfl (yl_assign rfl rfl (dn (CW.ret (rr rfl (.cons rfl .nil) ?_))))
 have hM4 : (i_isGroup p_g) = ((i_within p_g 0 3)) := by simp only [i_isGroup, cL]
 rw [hM4]
 exact ⟨rfl, (Ex.trans (Ex.refl w) hE3)⟩
theorem c_i_GoodItem {w : World} (p_c : DFeedItem) (o1 : ok_FeedItem p_c) : Cal Try.prog 89 #[.agg #[.int .i64 (p_c.Time), .int .i64 (p_c.Group), .string (bs (p_c.Key)), .string (bs (p_c.Val)), .bool (p_c.Gone)]] w fun v w' => v = .bool ((i_GoodItem p_c)) ∧ Ex w w' := by
 refine Cal.of func89 rfl ntmps89 rfl (CW.seq (CW.region (sd rfl (yl_box rfl rfl rfl ?_))))
 intro b4 w5 hs6 hz7 hB8 hE9
 refine sd rfl (yl_assign rfl rfl (dn (CW.seq (CW.region (sd rfl (yl_fieldAddr fd63_0 rfl rfl (sd rfl (yl_load1 ty3 rfl rfl ((hB8.cell 0).trans rfl) (sd rfl (yl_call en95 rfl (oc rfl oz) (Cal.mono (c_i_isTime p_c.Time) ?_)))))))))))
 rintro v11 w10 ⟨rfl, hE12⟩
 refine sd rfl (yl_move rfl rfl (bcase (i_isTime p_c.Time) (fun hb13 => ?_) (fun hb13 => ?_)))
 ·refine sy rfl rfl hb13 (yl_fieldAddr fd63_1 rfl rfl ?_)
  have q14 := Box.ex hB8 hE12
  refine sy rfl rfl hb13 (yl_load1 ty3 rfl rfl ((q14.cell 1).trans rfl) (sy rfl rfl hb13 (yl_call en107 rfl (oc rfl oz) (Cal.mono (c_i_isGroup p_c.Group) ?_))))
  rintro v16 w15 ⟨rfl, hE17⟩
  refine sd rfl (yl_pick_t rfl rfl hb13 rfl (sd rfl (yl_move rfl rfl (bcase (i_isGroup p_c.Group) (fun hb18 => ?_) (fun hb18 => ?_)))))
  ·refine sy rfl rfl hb18 (yl_fieldAddr fd63_2 rfl rfl ?_)
   have q19 := Box.ex q14 hE17
   refine sy rfl rfl hb18 (yl_load1 ty9 rfl rfl ((q19.cell 2).trans rfl) (sy rfl rfl hb18 (yl_call en97 rfl (oc rfl oz) (Cal.mono (c_i_GoodKey p_c.Key o1.1) ?_))))
   rintro v21 w20 ⟨rfl, hE22⟩
   refine sd rfl (yl_pick_t rfl rfl hb18 rfl (sd rfl (yl_move rfl rfl (bcase (i_GoodKey p_c.Key) (fun hb23 => ?_) (fun hb23 => ?_)))))
   ·refine sy rfl rfl hb23 (yl_fieldAddr fd63_3 rfl rfl ?_)
    have q24 := Box.ex q19 hE22
    refine sy rfl rfl hb23 (yl_load1 ty9 rfl rfl ((q24.cell 3).trans rfl) (sy rfl rfl hb23 (yl_fieldAddr fd63_4 rfl rfl (sy rfl rfl hb23 (yl_load1 ty4 rfl rfl ((q24.cell 4).trans rfl) (sy rfl rfl hb23 (yl_call en96 rfl (oc rfl (oc rfl oz)) (Cal.mono (c_i_isStored p_c.Val p_c.Gone o1.2) ?_))))))))
    rintro v26 w25 ⟨rfl, hE27⟩
    refine sd rfl (yl_pick_t rfl rfl hb23 rfl (sd rfl (yl_assign rfl rfl (dn (CW.ret (rr rfl (.cons rfl .nil) ?_))))))
    have hM28 : (i_GoodItem p_c) = ((i_isStored p_c.Val p_c.Gone)) := by simp only [i_GoodItem, hb13, hb18, hb23, cL]
    rw [hM28]
    exact ⟨rfl, (Ex.trans (Ex.trans (Ex.trans (Ex.trans (Ex.trans (Ex.refl w) hE9) hE12) hE17) hE22) hE27)⟩
   ·refine sz rfl rfl hb23 (sz rfl rfl hb23 (sz rfl rfl hb23 (sz rfl rfl hb23 (sz rfl rfl hb23 (sd rfl (yl_pick_f rfl rfl hb23 rfl (sd rfl (yl_assign rfl rfl (dn ?_)))))))))
    refine CW.ret (rr rfl (.cons rfl .nil) ?_)
    have hM34 : (i_GoodItem p_c) = (false) := by simp only [i_GoodItem, hb13, hb18, hb23, cL]
    rw [hM34]
    exact ⟨rfl, (Ex.trans (Ex.trans (Ex.trans (Ex.trans (Ex.refl w) hE9) hE12) hE17) hE22)⟩
  ·refine sz rfl rfl hb18 (sz rfl rfl hb18 (sz rfl rfl hb18 (sd rfl (yl_pick_f rfl rfl hb18 rfl (sd rfl (yl_move rfl rfl (sz rfl rfl rfl (sz rfl rfl rfl (sz rfl rfl rfl (sz rfl rfl rfl ?_))))))))))
   refine sz rfl rfl rfl (sd rfl (yl_pick_f rfl rfl rfl rfl (sd rfl (yl_assign rfl rfl (dn (CW.ret (rr rfl (.cons rfl .nil) ?_)))))))
   have hM39 : (i_GoodItem p_c) = (false) := by simp only [i_GoodItem, hb13, hb18, cL]
   rw [hM39]
   exact ⟨rfl, (Ex.trans (Ex.trans (Ex.trans (Ex.refl w) hE9) hE12) hE17)⟩
 ·refine sz rfl rfl hb13 (sz rfl rfl hb13 (sz rfl rfl hb13 (sd rfl (yl_pick_f rfl rfl hb13 rfl (sd rfl (yl_move rfl rfl (sz rfl rfl rfl (sz rfl rfl rfl (sz rfl rfl rfl (sd rfl (yl_pick_f rfl rfl rfl rfl ?_)))))))))))
  refine sd rfl (yl_move rfl rfl (sz rfl rfl rfl (sz rfl rfl rfl (sz rfl rfl rfl (sz rfl rfl rfl (sz rfl rfl rfl (sd rfl (yl_pick_f rfl rfl rfl rfl (sd rfl (yl_assign rfl rfl (SeqR.done ?_)))))))))))
  refine tn (CW.ret (rr rfl (.cons rfl .nil) ?_))
  have hM43 : (i_GoodItem p_c) = (false) := by simp only [i_GoodItem, hb13, cL]
  rw [hM43]
  exact ⟨rfl, (Ex.trans (Ex.trans (Ex.refl w) hE9) hE12)⟩
theorem c_i_GoodFeed_c1 {w : World} (p_c : DFeedItem) (o1 : ok_FeedItem p_c) : Cal Try.prog 88 #[.agg #[.int .i64 (p_c.Time), .int .i64 (p_c.Group), .string (bs (p_c.Key)), .string (bs (p_c.Val)), .bool (p_c.Gone)]] w fun v w' => v = .bool ((i_GoodFeed_c1 p_c)) ∧ Ex w w' := by
 refine Cal.of func88 rfl ntmps88 rfl (CW.seq (CW.region (sd rfl (yl_box rfl rfl rfl ?_))))
 intro b4 w5 hs6 hz7 hB8 hE9
 refine sd rfl (yl_assign rfl rfl (dn (CW.seq (CW.region (sd rfl (yl_loadN ty63 rfl rfl (hB8.cells (n := 5) rfl) rfl (sd rfl (yl_call en89 rfl (oc rfl oz) (Cal.mono (c_i_GoodItem p_c o1) ?_)))))))))
 rintro v11 w10 ⟨rfl, hE12⟩
 refine sd rfl (yl_not rfl rfl (sd rfl (yl_assign rfl rfl (dn (CW.ret (rr rfl (.cons rfl .nil) ?_))))))
 have hM13 : (i_GoodFeed_c1 p_c) = (!(i_GoodItem p_c)) := by simp only [i_GoodFeed_c1, cL]
 rw [hM13]
 exact ⟨rfl, (Ex.trans (Ex.trans (Ex.refl w) hE9) hE12)⟩
theorem c_i_GoodFeed {A1 : Option Addr} {c1 : Nat} {w : World} (p_l : List DFeedItem) (h1 : RdS w (Iv 0 w.heap.size) (RF e_FeedItem) 5 A1 p_l.length c1 p_l) (o2 : (okL ok_FeedItem) p_l) : Cal Try.prog 64 #[.slice A1 p_l.length c1] w fun v w' => v = .bool ((i_GoodFeed p_l)) ∧ Ex w w' := by
 refine Cal.of func64 rfl ntmps64 rfl (CW.seq (CW.region (sd rfl (yl_assign rfl rfl (dn (CW.seq (CW.region (sd rfl (yl_move rfl rfl ?_)))))))))
 refine sd rfl (yl_call en87 rfl (oc rfl oz) (Cal.mono (c_i_isFeed p_l (RdS.up h1 good_FeedItem) o2) ?_))
 rintro v5 w4 ⟨rfl, hE6⟩
 refine sd rfl (yl_move rfl rfl (bcase (i_isFeed p_l) (fun hb7 => ?_) (fun hb7 => ?_)))
 ·refine sy rfl rfl hb7 (yl_move rfl rfl (sy rfl rfl hb7 (yl_call en65 rfl (oc rfl (oc rfl oz)) (Cal.mono (c_g_slices_ContainsFunc_FeedItem p_l (fun y0 => i_GoodFeed_c1 y0) (RdS.up (RdS.ex good_FeedItem h1 hE6) good_FeedItem) en88 (fun _ y0 => fun hE hm0 ov0 => c_i_GoodFeed_c1 y0 ov0) o2) ?_))))
  rintro v10 w9 ⟨rfl, hE11⟩
  refine sy rfl rfl hb7 (yl_not rfl rfl (sd rfl (yl_pick_t rfl rfl hb7 rfl (sd rfl (yl_assign rfl rfl (dn (CW.ret (rr rfl (.cons rfl .nil) ?_))))))))
  have hM12 : (i_GoodFeed p_l) = (!(g_slices_ContainsFunc_FeedItem p_l (fun y0 => i_GoodFeed_c1 y0))) := by simp only [i_GoodFeed, hb7, cL]
  rw [hM12]
  exact ⟨rfl, (Ex.trans (Ex.trans (Ex.refl w) hE6) hE11)⟩
 ·refine sz rfl rfl hb7 (sz rfl rfl hb7 (sz rfl rfl hb7 (sd rfl (yl_pick_f rfl rfl hb7 rfl (sd rfl (yl_assign rfl rfl (dn (CW.ret (rr rfl (.cons rfl .nil) ?_)))))))))
  have hM15 : (i_GoodFeed p_l) = (false) := by simp only [i_GoodFeed, hb7, cL]
  rw [hM15]
  exact ⟨rfl, (Ex.trans (Ex.refl w) hE6)⟩
theorem c_i_GoodDiff_c1 {A2 : Option Addr} {c2 : Nat} {b3 : Nat} {w : World} (p_c : DFeedItem) (p_cap0 : DDiff) (h2 : RdS w (Iv 0 w.heap.size) (RF e_FeedItem) 5 A2 p_cap0.List.length c2 p_cap0.List) (h4 : Box w b3 32 [.int .i64 (p_cap0.From), .int .i64 (p_cap0.To), .slice A2 p_cap0.List.length c2]) (o1 : ok_FeedItem p_c) (o5 : ok_Diff p_cap0) : Cal Try.prog 66 #[.agg #[.int .i64 (p_c.Time), .int .i64 (p_c.Group), .string (bs (p_c.Key)), .string (bs (p_c.Val)), .bool (p_c.Gone)], .pointer (some ⟨b3, 0, none⟩)] w fun v w' => v = .bool ((i_GoodDiff_c1 p_c p_cap0)) ∧ Ex w w' := by
 refine Cal.of func66 rfl ntmps66 rfl (CW.seq (CW.region (sd rfl (yl_box rfl rfl rfl ?_))))
 intro b9 w10 hs11 hz12 hB13 hE14
 refine sd rfl (yl_assign rfl rfl (dn (CW.seq (CW.region (sd rfl (yl_fieldAddr fd63_1 rfl rfl (sd rfl (yl_load1 ty3 rfl rfl ((hB13.cell 1).trans rfl) (sd rfl (yl_neq rfl rfl rfl (sd rfl (yl_move rfl rfl ?_))))))))))))
 refine bcase (decide (p_c.Group = 0)) (fun hb15 => ?_) (fun hb15 => ?_)
 ·have hb15p := dec_t hb15
  refine sy rfl rfl (not_t hb15) (yl_fieldAddr fd63_0 rfl rfl (sy rfl rfl (not_t hb15) (yl_load1 ty3 rfl rfl ((hB13.cell 0).trans rfl) (sy rfl rfl (not_t hb15) (yl_fieldAddr fd32_0 rfl rfl ?_)))))
  have q16 := Box.ex h4 hE14
  refine sy rfl rfl (not_t hb15) (yl_load1 ty3 rfl rfl ((q16.cell 0).trans rfl) (sy rfl rfl (not_t hb15) (yl_leq rfl rfl rfl (sd rfl (yl_pick_f rfl rfl (not_t hb15) rfl (sd rfl (yl_move rfl rfl (bcase (decide (p_c.Time ≤ p_cap0.From)) (fun hb17 => ?_) (fun hb17 => ?_)))))))))
  ·have hb17p := dec_t hb17
   refine sz rfl rfl hb17 (sz rfl rfl hb17 (sz rfl rfl hb17 (sz rfl rfl hb17 (sz rfl rfl hb17 (sd rfl (yl_pick_t rfl rfl hb17 rfl (sd rfl (yl_assign rfl rfl (dn ?_)))))))))
   refine CW.ret (rr rfl (.cons rfl .nil) ?_)
   have hM18 : (i_GoodDiff_c1 p_c p_cap0) = (true) := by simp only [i_GoodDiff_c1, hb15, hb17, cL]
   rw [hM18]
   exact ⟨rfl, (Ex.trans (Ex.refl w) hE14)⟩
  ·have hb17p := dec_f hb17
   refine sy rfl rfl hb17 (yl_fieldAddr fd63_0 rfl rfl (sy rfl rfl hb17 (yl_load1 ty3 rfl rfl ((hB13.cell 0).trans rfl) (sy rfl rfl hb17 (yl_fieldAddr fd32_1 rfl rfl (sy rfl rfl hb17 (yl_load1 ty3 rfl rfl ((q16.cell 1).trans rfl) (sy rfl rfl hb17 (yl_gtr rfl rfl rfl (sd rfl (yl_pick_f rfl rfl hb17 rfl (sd rfl (yl_assign rfl rfl (dn ?_))))))))))))))
   refine CW.ret (rr rfl (.cons rfl .nil) ?_)
   have hM20 : (i_GoodDiff_c1 p_c p_cap0) = (decide (p_cap0.To < p_c.Time)) := by simp only [i_GoodDiff_c1, hb15, hb17, cL]
   rw [hM20]
   exact ⟨rfl, (Ex.trans (Ex.refl w) hE14)⟩
 ·have hb15p := dec_f hb15
  refine sz rfl rfl (not_f hb15) (sz rfl rfl (not_f hb15) (sz rfl rfl (not_f hb15) (sz rfl rfl (not_f hb15) (sz rfl rfl (not_f hb15) (sd rfl (yl_pick_t rfl rfl (not_f hb15) rfl (sd rfl (yl_move rfl rfl (sz rfl rfl rfl (sz rfl rfl rfl ?_))))))))))
  refine sz rfl rfl rfl (sz rfl rfl rfl (sz rfl rfl rfl (sd rfl (yl_pick_t rfl rfl rfl rfl (sd rfl (yl_assign rfl rfl (dn (CW.ret (rr rfl (.cons rfl .nil) ?_)))))))))
  have hM22 : (i_GoodDiff_c1 p_c p_cap0) = (true) := by simp only [i_GoodDiff_c1, hb15, cL]
  rw [hM22]
  exact ⟨rfl, (Ex.trans (Ex.refl w) hE14)⟩
theorem c_i_GoodDiff {A1 : Option Addr} {c1 : Nat} {w : World} (p_d : DDiff) (h1 : RdS w (Iv 0 w.heap.size) (RF e_FeedItem) 5 A1 p_d.List.length c1 p_d.List) (o2 : ok_Diff p_d) : Cal Try.prog 37 #[.agg #[.int .i64 (p_d.From), .int .i64 (p_d.To), .slice A1 p_d.List.length c1]] w fun v w' => v = .bool ((i_GoodDiff p_d)) ∧ Ex w w' := by
 refine Cal.of func37 rfl ntmps37 rfl (CW.seq (CW.region (sd rfl (yl_box rfl rfl rfl ?_))))
 intro b4 w5 hs6 hz7 hB8 hE9
 refine sd rfl (yl_assign rfl rfl (dn (CW.seq (CW.region (sd rfl (yl_fieldAddr fd32_0 rfl rfl (sd rfl (yl_load1 ty3 rfl rfl ((hB8.cell 0).trans rfl) (sd rfl (yl_call en46 rfl (oc rfl oz) (Cal.mono (c_i_isTrue p_d.From) ?_)))))))))))
 rintro v11 w10 ⟨rfl, hE12⟩
 refine sd rfl (yl_move rfl rfl (bcase (i_isTrue p_d.From) (fun hb13 => ?_) (fun hb13 => ?_)))
 ·refine sy rfl rfl hb13 (yl_fieldAddr fd32_1 rfl rfl ?_)
  have q14 := Box.ex hB8 hE12
  refine sy rfl rfl hb13 (yl_load1 ty3 rfl rfl ((q14.cell 1).trans rfl) (sy rfl rfl hb13 (yl_call en46 rfl (oc rfl oz) (Cal.mono (c_i_isTrue p_d.To) ?_))))
  rintro v16 w15 ⟨rfl, hE17⟩
  refine sd rfl (yl_pick_t rfl rfl hb13 rfl (sd rfl (yl_move rfl rfl (bcase (i_isTrue p_d.To) (fun hb18 => ?_) (fun hb18 => ?_)))))
  ·refine sy rfl rfl hb18 (yl_fieldAddr fd32_0 rfl rfl ?_)
   have q19 := Box.ex q14 hE17
   refine sy rfl rfl hb18 (yl_load1 ty3 rfl rfl ((q19.cell 0).trans rfl) (sy rfl rfl hb18 (yl_fieldAddr fd32_1 rfl rfl (sy rfl rfl hb18 (yl_load1 ty3 rfl rfl ((q19.cell 1).trans rfl) (sy rfl rfl hb18 (yl_leq rfl rfl rfl (sd rfl (yl_pick_t rfl rfl hb18 rfl (sd rfl (yl_move rfl rfl (bcase (decide (p_d.From ≤ p_d.To)) (fun hb20 => ?_) (fun hb20 => ?_)))))))))))))
   ·have hb20p := dec_t hb20
    refine sy rfl rfl hb20 (yl_fieldAddr fd32_2 rfl rfl (sy rfl rfl hb20 (yl_load1 ty30 rfl rfl ((q19.cell 2).trans rfl) (sy rfl rfl hb20 (yl_len un30 rfl rfl (sy rfl rfl hb20 (yl_leq rfl rfl rfl (sd rfl (yl_pick_t rfl rfl hb20 rfl (sd rfl (yl_move rfl rfl (bcase (decide ((p_d.List.length : Int) ≤ 60)) (fun hb21 => ?_) (fun hb21 => ?_)))))))))))))
    ·have hb21p := dec_t hb21
     refine sy rfl rfl hb21 (yl_fieldAddr fd32_2 rfl rfl (sy rfl rfl hb21 (yl_load1 ty30 rfl rfl ((q19.cell 2).trans rfl) ?_)))
     have q24 := RdS.ex good_FeedItem (RdS.ex good_FeedItem (RdS.ex good_FeedItem h1 hE9) hE12) hE17
     refine sy rfl rfl hb21 (yl_call en64 rfl (oc rfl oz) (Cal.mono (c_i_GoodFeed p_d.List (RdS.up q24 good_FeedItem) o2) ?_))
     rintro v26 w25 ⟨rfl, hE27⟩
     refine sd rfl (yl_pick_t rfl rfl hb21 rfl (sd rfl (yl_move rfl rfl (bcase (i_GoodFeed p_d.List) (fun hb28 => ?_) (fun hb28 => ?_)))))
     ·refine sy rfl rfl hb28 (yl_fieldAddr fd32_2 rfl rfl ?_)
      have q29 := Box.ex q19 hE27
      refine sy rfl rfl hb28 (yl_load1 ty30 rfl rfl ((q29.cell 2).trans rfl) (sy rfl rfl hb28 (yl_makeFunc rfl (oc rfl oz) ?_)))
      have q30 := RdS.ex good_FeedItem q24 hE27
      refine sy rfl rfl hb28 (yl_call en65 rfl (oc rfl (oc rfl oz)) (Cal.mono (c_g_slices_ContainsFunc_FeedItem p_d.List (fun y0 => i_GoodDiff_c1 y0 p_d) (RdS.up q30 good_FeedItem) en66 (fun _ y0 => fun hE hm0 ov0 => c_i_GoodDiff_c1 y0 p_d (RdS.up (RdS.ex good_FeedItem q30 hE) good_FeedItem) (Box.ex q29 hE) ov0 o2) o2) ?_))
      rintro v32 w31 ⟨rfl, hE33⟩
      refine sy rfl rfl hb28 (yl_not rfl rfl (sd rfl (yl_pick_t rfl rfl hb28 rfl (sd rfl (yl_assign rfl rfl (dn (CW.ret (rr rfl (.cons rfl .nil) ?_))))))))
      have hM34 : (i_GoodDiff p_d) = (!(g_slices_ContainsFunc_FeedItem p_d.List (fun y0 => i_GoodDiff_c1 y0 p_d))) := by simp only [i_GoodDiff, hb13, hb18, hb20, hb21, hb28, cL]
      rw [hM34]
      exact ⟨rfl, (Ex.trans (Ex.trans (Ex.trans (Ex.trans (Ex.trans (Ex.refl w) hE9) hE12) hE17) hE27) hE33)⟩
     ·refine sz rfl rfl hb28 (sz rfl rfl hb28 (sz rfl rfl hb28 (sz rfl rfl hb28 (sz rfl rfl hb28 (sd rfl (yl_pick_f rfl rfl hb28 rfl (sd rfl (yl_assign rfl rfl (dn ?_)))))))))
      refine CW.ret (rr rfl (.cons rfl .nil) ?_)
      have hM40 : (i_GoodDiff p_d) = (false) := by simp only [i_GoodDiff, hb13, hb18, hb20, hb21, hb28, cL]
      rw [hM40]
      exact ⟨rfl, (Ex.trans (Ex.trans (Ex.trans (Ex.trans (Ex.refl w) hE9) hE12) hE17) hE27)⟩
    ·have hb21p := dec_f hb21
     refine sz rfl rfl hb21 (sz rfl rfl hb21 (sz rfl rfl hb21 (sd rfl (yl_pick_f rfl rfl hb21 rfl (sd rfl (yl_move rfl rfl (sz rfl rfl rfl (sz rfl rfl rfl (sz rfl rfl rfl (sz rfl rfl rfl ?_))))))))))
     refine sz rfl rfl rfl (sd rfl (yl_pick_f rfl rfl rfl rfl (sd rfl (yl_assign rfl rfl (dn (CW.ret (rr rfl (.cons rfl .nil) ?_)))))))
     have hM45 : (i_GoodDiff p_d) = (false) := by simp only [i_GoodDiff, hb13, hb18, hb20, hb21, cL]
     rw [hM45]
     exact ⟨rfl, (Ex.trans (Ex.trans (Ex.trans (Ex.refl w) hE9) hE12) hE17)⟩
   ·have hb20p := dec_f hb20
    refine sz rfl rfl hb20 (sz rfl rfl hb20 (sz rfl rfl hb20 (sz rfl rfl hb20 (sd rfl (yl_pick_f rfl rfl hb20 rfl (sd rfl (yl_move rfl rfl (sz rfl rfl rfl (sz rfl rfl rfl (sz rfl rfl rfl ?_))))))))))
    refine sd rfl (yl_pick_f rfl rfl rfl rfl (sd rfl (yl_move rfl rfl (sz rfl rfl rfl (sz rfl rfl rfl (sz rfl rfl rfl (sz rfl rfl rfl (sz rfl rfl rfl (sd rfl (yl_pick_f rfl rfl rfl rfl (sd rfl (yl_assign rfl rfl ?_))))))))))))
    refine dn (CW.ret (rr rfl (.cons rfl .nil) ?_))
    have hM49 : (i_GoodDiff p_d) = (false) := by simp only [i_GoodDiff, hb13, hb18, hb20, cL]
    rw [hM49]
    exact ⟨rfl, (Ex.trans (Ex.trans (Ex.trans (Ex.refl w) hE9) hE12) hE17)⟩
  ·refine sz rfl rfl hb18 (sz rfl rfl hb18 (sz rfl rfl hb18 (sz rfl rfl hb18 (sz rfl rfl hb18 (sd rfl (yl_pick_f rfl rfl hb18 rfl (sd rfl (yl_move rfl rfl (sz rfl rfl rfl (sz rfl rfl rfl ?_))))))))))
   refine sz rfl rfl rfl (sz rfl rfl rfl (sd rfl (yl_pick_f rfl rfl rfl rfl (sd rfl (yl_move rfl rfl (sz rfl rfl rfl (sz rfl rfl rfl (sz rfl rfl rfl (sd rfl (yl_pick_f rfl rfl rfl rfl (sd rfl (yl_move rfl rfl ?_))))))))))))
   refine sz rfl rfl rfl (sz rfl rfl rfl (sz rfl rfl rfl (sz rfl rfl rfl (sz rfl rfl rfl (sd rfl (yl_pick_f rfl rfl rfl rfl (sd rfl (yl_assign rfl rfl (dn ?_)))))))))
   refine CW.ret (rr rfl (.cons rfl .nil) ?_)
   have hM53 : (i_GoodDiff p_d) = (false) := by simp only [i_GoodDiff, hb13, hb18, cL]
   rw [hM53]
   exact ⟨rfl, (Ex.trans (Ex.trans (Ex.trans (Ex.refl w) hE9) hE12) hE17)⟩
 ·refine sz rfl rfl hb13 (sz rfl rfl hb13 (sz rfl rfl hb13 (sd rfl (yl_pick_f rfl rfl hb13 rfl (sd rfl (yl_move rfl rfl (sz rfl rfl rfl (sz rfl rfl rfl (sz rfl rfl rfl (sz rfl rfl rfl ?_))))))))))
  refine sz rfl rfl rfl (sd rfl (yl_pick_f rfl rfl rfl rfl (sd rfl (yl_move rfl rfl (sz rfl rfl rfl (sz rfl rfl rfl (sz rfl rfl rfl (sz rfl rfl rfl (sd rfl (yl_pick_f rfl rfl rfl rfl (sd rfl (yl_move rfl rfl ?_))))))))))))
  refine sz rfl rfl rfl (sz rfl rfl rfl (sz rfl rfl rfl (sd rfl (yl_pick_f rfl rfl rfl rfl (sd rfl (yl_move rfl rfl (sz rfl rfl rfl (sz rfl rfl rfl (sz rfl rfl rfl (sz rfl rfl rfl ?_))))))))))
  refine sz rfl rfl rfl (sd rfl (yl_pick_f rfl rfl rfl rfl (sd rfl (yl_assign rfl rfl (dn (CW.ret (rr rfl (.cons rfl .nil) ?_)))))))
  have hM57 : (i_GoodDiff p_d) = (false) := by simp only [i_GoodDiff, hb13, cL]
  rw [hM57]
  exact ⟨rfl, (Ex.trans (Ex.trans (Ex.refl w) hE9) hE12)⟩
theorem c_i_textBytes {w : World} (p_s : Str) (o1 : okS p_s) : Cal Try.prog 60 #[.string (bs (p_s))] w fun v w' => v = .string (bs ((i_textBytes p_s))) ∧ Ex w w' := by
 have hol2 : p_s.length ≤ 1073741824 := o1
 refine Cal.of func60 rfl ntmps60 rfl (CW.seq (CW.region (sd rfl (yl_assign rfl rfl (dn (CW.seq (CW.region (sd rfl (yl_move rfl rfl ?_)))))))))
 refine sd rfl (yl_slen un9 (a := p_s) rfl rfl (sd rfl (yl_call en58 rfl (oc rfl oz) (Cal.mono (c_i_numBytes (p_s.length : Int) (by first | omega | assumption | (simp only [wI] at *; omega))) ?_))))
 rintro v4 w3 ⟨rfl, hE5⟩
 have hE5z := Ex.size hE5
 have hrf6 := rf_numBytes (p_s.length : Int) (by first | omega | assumption | (simp only [wI] at *; omega))
 refine sd rfl (yl_move rfl rfl ?_)
 have hol7 : p_s.length ≤ 1073741824 := o1
 refine sd rfl (yl_sadd (a := (i_numBytes (p_s.length : Int))) (b := p_s) rfl rfl rfl (by first | omega | (simp only [List.length_append, List.length_cons, List.length_nil, List.length_take, List.length_drop, toS_length]; omega)) (sd rfl (yl_assign rfl rfl (dn (CW.ret (rr rfl (.cons rfl .nil) ?_))))))
 have hM8 : (i_textBytes p_s) = ((i_numBytes (p_s.length : Int)) ++ p_s) := by simp only [i_textBytes, cL]
 rw [hM8]
 exact ⟨rfl, (Ex.trans (Ex.refl w) hE5)⟩
theorem c_i_flagByte {w : World} (p_is : Bool) : Cal Try.prog 67 #[.bool (p_is)] w fun v w' => v = .string (bs ((i_flagByte p_is))) ∧ okS (i_flagByte p_is) ∧ Ex w w' := by
 refine Cal.of func67 rfl ntmps67 rfl (CW.seq (CW.region (sd rfl (yl_assign rfl rfl (dn (CW.seq (CW.seq (CW.region ?_))))))))
 refine sd rfl (yl_move rfl rfl (dn (bcase (p_is) (fun hb1 => ?_) (fun hb1 => ?_))))
 ·refine CW.cond_t rfl hb1 (CW.seq (CW.region (sd rfl (yl_assign rfl rfl (dn (CW.ret (tr (rr rfl (.cons rfl .nil) ?_))))))))
  have hM2 : (i_flagByte p_is) = (([1] : Str)) := by simp only [i_flagByte, hb1, cL]
  rw [hM2]
  exact ⟨rfl, (okS.lit rfl), (Ex.refl w)⟩
 ·refine CW.cond_f rfl hb1 (CW.skip (tn (CW.seq (CW.region (sd rfl (yl_assign rfl rfl (dn (CW.ret ?_))))))))
  refine rr rfl (.cons rfl .nil) ?_
  have hM3 : (i_flagByte p_is) = (([0] : Str)) := by simp only [i_flagByte, hb1, cL]
  rw [hM3]
  exact ⟨rfl, (okS.lit rfl), (Ex.refl w)⟩
theorem c_i_diffBytes {A1 : Option Addr} {c1 : Nat} {w : World} (p_d : DDiff) (h1 : RdS w (Iv 0 w.heap.size) (RF e_FeedItem) 5 A1 p_d.List.length c1 p_d.List) (o2 : ok_Diff p_d) (pre0 : i_GoodDiff p_d = true) : Cal Try.prog 38 #[.agg #[.int .i64 (p_d.From), .int .i64 (p_d.To), .slice A1 p_d.List.length c1]] w fun v w' => v = .string (bs ((i_diffBytes p_d))) ∧ Ex w w' := by
 have hol3 := o2.1
 obtain ⟨hcp1, hcp2⟩ := f_i_GoodDiff pre0
 refine Cal.of func38 rfl ntmps38 rfl (CW.seq (CW.region (sd rfl (yl_box rfl rfl rfl ?_))))
 intro b4 w5 hs6 hz7 hB8 hE9
 refine sd rfl (yl_assign rfl rfl (dn (CW.seq ?_)))
 have hrf13 := rf_numBytes p_d.From (by first | omega | assumption | (simp only [wI] at *; omega))
 have hrf14 := rf_numBytes p_d.To (by first | omega | assumption | (simp only [wI] at *; omega))
 have hrf15 := rf_numBytes (p_d.List.length : Int) (by first | omega | assumption | (simp only [wI] at *; omega))
 refine CW.drawsI 13 (vgetI ([.pointer (some ⟨b4, 0 + 0, none⟩), .int .i64 (p_d.From), .string (bs ((i_numBytes p_d.From))), .pointer (some ⟨b4, 0 + 1, none⟩), .int .i64 (p_d.To), .string (bs ((i_numBytes p_d.To))), .string (bs ((i_numBytes p_d.From) ++ (i_numBytes p_d.To))), .pointer (some ⟨b4, 0 + 2, none⟩), .slice A1 p_d.List.length c1, .int .i64 ((p_d.List.length : Int)), .string (bs ((i_numBytes (p_d.List.length : Int)))), .string (bs (((i_numBytes p_d.From) ++ (i_numBytes p_d.To)) ++ (i_numBytes (p_d.List.length : Int)))), .string (bs (((i_numBytes p_d.From) ++ (i_numBytes p_d.To)) ++ (i_numBytes (p_d.List.length : Int))))].map DetI)) Try.follows rfl rfl rfl rfl rfl rfl (vgetI_stable (stD _)) ⟨?_, ?_, ?_, ?_, ?_, ?_, ?_, ?_, ?_, ?_, ?_, ?_, ?_, trivial⟩ ?_
 ·exact oI rfl fun h => yl_fieldAddr fd32_0 rfl (h.old 1 _ rfl rfl) kI
 ·exact oI rfl fun h => yl_load1 ty3 rfl (h.dt 0 6 rfl rfl rfl) (((Box.ex hB8 h.ex).cell 0).trans rfl) kI
 ·intro L27 w28 hi29
  have hE30 := hi29.ex
  have hE30z := Ex.size hE30
  exact OpR.op' rfl (yl_call en58 rfl (oc (hi29.dt 1 7 rfl rfl rfl) oz) (Cal.mono (c_i_numBytes p_d.From (by first | omega | assumption | (simp only [wI] at *; omega))) fun _ _ h => h))
 ·exact oI rfl fun h => yl_fieldAddr fd32_1 rfl (h.old 1 _ rfl rfl) kI
 ·exact oI rfl fun h => yl_load1 ty3 rfl (h.dt 3 9 rfl rfl rfl) (((Box.ex hB8 h.ex).cell 1).trans rfl) kI
 ·intro L46 w47 hi48
  have hE49 := hi48.ex
  have hE49z := Ex.size hE49
  exact OpR.op' rfl (yl_call en58 rfl (oc (hi48.dt 4 10 rfl rfl rfl) oz) (Cal.mono (c_i_numBytes p_d.To (by first | omega | assumption | (simp only [wI] at *; omega))) fun _ _ h => h))
 ·intro L54 w55 hi56
  have hE57 := hi56.ex
  have hE57z := Ex.size hE57
  exact os rfl ((yl_sadd (a := (i_numBytes p_d.From)) (b := (i_numBytes p_d.To)) rfl (hi56.dt 2 8 rfl rfl rfl) (hi56.dt 5 11 rfl rfl rfl) (by first | omega | (simp only [List.length_append, List.length_cons, List.length_nil, List.length_take, List.length_drop, toS_length]; omega)) kI))
 ·exact oI rfl fun h => yl_fieldAddr fd32_2 rfl (h.old 1 _ rfl rfl) kI
 ·exact oI rfl fun h => yl_load1 ty30 rfl (h.dt 7 13 rfl rfl rfl) (((Box.ex hB8 h.ex).cell 2).trans rfl) kI
 ·exact oI rfl fun h => yl_len un30 rfl (h.dt 8 14 rfl rfl rfl) kI
 ·intro L76 w77 hi78
  have hE79 := hi78.ex
  have hE79z := Ex.size hE79
  exact OpR.op' rfl (yl_call en58 rfl (oc (hi78.dt 9 15 rfl rfl rfl) oz) (Cal.mono (c_i_numBytes (p_d.List.length : Int) (by first | omega | assumption | (simp only [wI] at *; omega))) fun _ _ h => h))
 ·intro L84 w85 hi86
  have hE87 := hi86.ex
  have hE87z := Ex.size hE87
  exact os rfl ((yl_sadd (a := ((i_numBytes p_d.From) ++ (i_numBytes p_d.To))) (b := (i_numBytes (p_d.List.length : Int))) rfl (hi86.dt 6 12 rfl rfl rfl) (hi86.dt 10 16 rfl rfl rfl) (by first | omega | (simp only [List.length_append, List.length_cons, List.length_nil, List.length_take, List.length_drop, toS_length]; omega)) kI))
 ·exact oI rfl fun h => yl_assign rfl (h.dt 11 17 rfl rfl rfl) kI
 ·intro fl98 fh99 L95 w96 hp97
  have hE100 := hp97.ex
  have hE100z := Ex.size hE100
  refine dn (CW.sub (Sub.cons (d := 1) (hp97.old 1 _ rfl rfl) (Sub.cons (d := 3) (hp97.nt 12 3 rfl rfl rfl) (Sub.nil _))) (CW.seq (CW.seq (CW.region (sd rfl (yl_fieldAddr fd32_2 rfl rfl (sd rfl (yl_load1 ty30 rfl rfl (((Box.ex hB8 hE100).cell 2).trans rfl) (sd rfl (yl_len un30 rfl rfl ?_))))))))))
  refine sd rfl (yl_move rfl rfl (dn (CW.block (CW.loop (fun m140 L141 w142 => ∃ (k104 : Nat) (x139 : Str), m140 = p_d.List.length - k104 ∧ k104 ≤ p_d.List.length ∧ w96.heap.size ≤ w142.heap.size ∧ lkp L141 3 = some (.string (bs (x139))) ∧ lkp L141 19 = some (.slice A1 p_d.List.length c1) ∧ lkp L141 20 = some (.int .i64 ((p_d.List.length : Int))) ∧ lkp L141 21 = some (.int .i64 ((k104 : Int))) ∧ RdS w142 (Iv 0 w.heap.size) (RF e_FeedItem) 5 A1 p_d.List.length c1 p_d.List ∧ Ex w w142 ∧ x139.length ≤ (i_numBytes p_d.From).length + (i_numBytes p_d.To).length + (i_numBytes (p_d.List.length : Int)).length + 52 * (k104 - 0) ∧ loopM (B_i_diffBytes_0 p_d) (p_d.List.length - k104) k104 (x139) = loopM (B_i_diffBytes_0 p_d) (p_d.List.length - 0) 0 (((i_numBytes p_d.From) ++ (i_numBytes p_d.To)) ++ (i_numBytes (p_d.List.length : Int)))) (p_d.List.length - 0) ?_ ?_))))
  ·exact ⟨0, ((i_numBytes p_d.From) ++ (i_numBytes p_d.To)) ++ (i_numBytes (p_d.List.length : Int)), rfl, (by omega), Nat.le_refl _, rfl, rfl, rfl, rfl, (RdS.ex good_FeedItem (RdS.ex good_FeedItem h1 hE9) hE100), (Ex.trans (Ex.trans (Ex.refl w) hE9) hE100), (by first | (simp; done) | (first | omega | (simp only [List.length_append, List.length_cons, List.length_nil, List.length_set, toS_length]; omega))), rfl⟩
  ·rintro m147 L148 w149 ⟨k104, x139, rfl, hk150, hsz152, hl153, hl154, hl155, hl156, hf157, hf158, hln159, hI151⟩
   refine CW.sub (Sub.cons hl153 (Sub.cons hl154 (Sub.cons hl155 (Sub.cons hl156 (Sub.nil _))))) ?_
   have hf158z := Ex.size hf158
   have hbg160 := RdS.big hf157
   rcases Nat.lt_or_ge k104 p_d.List.length with hlt161 | hlt161
   ·have hcp3 := hcp2 k104 hlt161
    refine CW.seq (CW.region (sd rfl (yl_lss rfl rfl rfl (dn (CW.seq (CW.cond_t rfl (lt_t hlt161) (CW.skip (tn ?_))))))))
    refine CW.seq (CW.block (CW.seq (CW.region ?_)))
    obtain ⟨eb162, eo162, _, eA162, _, ebl162, _, eR162, eC162⟩ := RdS.aD hf157 d_FeedItem (i := k104)
    obtain rfl := eR162
    have eC162 : Cells w149 eb162 (eo162 + k104 * 5) [.int .i64 ((p_d.List.getD k104 d_FeedItem).Time), .int .i64 ((p_d.List.getD k104 d_FeedItem).Group), .string (bs ((p_d.List.getD k104 d_FeedItem).Key)), .string (bs ((p_d.List.getD k104 d_FeedItem).Val)), .bool ((p_d.List.getD k104 d_FeedItem).Gone)] := eC162
    refine sd rfl (yl_ixN un30 ty63 rfl rfl rfl eA162 (sd rfl (yl_loadN ty63 rfl rfl eC162 rfl (sd rfl (yl_alloc ty63 (cs := [.int .i64 (0), .int .i64 (0), .string (bs (([] : Str))), .string (bs (([] : Str))), .bool (false)]) rfl rfl ?_)))))
    intro b163 w164 hs165 hz166 hB167 hE168
    refine SeqR.u rfl rfl (yl_store (vs := [.int .i64 ((p_d.List.getD k104 d_FeedItem).Time), .int .i64 ((p_d.List.getD k104 d_FeedItem).Group), .string (bs ((p_d.List.getD k104 d_FeedItem).Key)), .string (bs ((p_d.List.getD k104 d_FeedItem).Val)), .bool ((p_d.List.getD k104 d_FeedItem).Gone)]) ty63 rfl rfl rfl rfl rfl rfl hB167 (Nat.le_of_ble_eq_true rfl) ?_)
    intro w169 hB170 hO171
    have hB170 : Box w169 b163 63 [.int .i64 ((p_d.List.getD k104 d_FeedItem).Time), .int .i64 ((p_d.List.getD k104 d_FeedItem).Group), .string (bs ((p_d.List.getD k104 d_FeedItem).Key)), .string (bs ((p_d.List.getD k104 d_FeedItem).Val)), .bool ((p_d.List.getD k104 d_FeedItem).Gone)] := hB170
    have hO171z := hO171.size
    refine dn ?_
    have hrf177 := rf_numBytes ((p_d.List.getD k104 d_FeedItem).Time) (by first | omega | assumption | (simp only [wI] at *; omega))
    have hrf178 := rf_textBytes ((p_d.List.getD k104 d_FeedItem).Key) (by omega)
    have hrf179 := rf_flagByte ((p_d.List.getD k104 d_FeedItem).Gone)
    have hrf180 := rf_textBytes ((p_d.List.getD k104 d_FeedItem).Val) (by omega)
    refine CW.drawsI 18 (vgetI [DetI (.string (bs (x139))), DetI (.pointer (some ⟨b163, 0 + 0, none⟩)), DetI (.int .i64 ((p_d.List.getD k104 d_FeedItem).Time)), DetI (.string (bs ((i_numBytes ((p_d.List.getD k104 d_FeedItem).Time))))), DetI (.pointer (some ⟨b163, 0 + 2, none⟩)), DetI (.string (bs ((p_d.List.getD k104 d_FeedItem).Key))), DetI (.string (bs ((i_textBytes ((p_d.List.getD k104 d_FeedItem).Key))))), DetI (.string (bs ((i_numBytes ((p_d.List.getD k104 d_FeedItem).Time)) ++ (i_textBytes ((p_d.List.getD k104 d_FeedItem).Key))))), DetI (.pointer (some ⟨b163, 0 + 4, none⟩)), DetI (.bool ((p_d.List.getD k104 d_FeedItem).Gone)), fun lo hi v wq => v = .string (bs ((i_flagByte ((p_d.List.getD k104 d_FeedItem).Gone)))) ∧ okS (i_flagByte ((p_d.List.getD k104 d_FeedItem).Gone)), DetI (.string (bs (((i_numBytes ((p_d.List.getD k104 d_FeedItem).Time)) ++ (i_textBytes ((p_d.List.getD k104 d_FeedItem).Key))) ++ (i_flagByte ((p_d.List.getD k104 d_FeedItem).Gone))))), DetI (.pointer (some ⟨b163, 0 + 3, none⟩)), DetI (.string (bs ((p_d.List.getD k104 d_FeedItem).Val))), DetI (.string (bs ((i_textBytes ((p_d.List.getD k104 d_FeedItem).Val))))), DetI (.string (bs ((((i_numBytes ((p_d.List.getD k104 d_FeedItem).Time)) ++ (i_textBytes ((p_d.List.getD k104 d_FeedItem).Key))) ++ (i_flagByte ((p_d.List.getD k104 d_FeedItem).Gone))) ++ (i_textBytes ((p_d.List.getD k104 d_FeedItem).Val))))), DetI (.string (bs (x139 ++ ((((i_numBytes ((p_d.List.getD k104 d_FeedItem).Time)) ++ (i_textBytes ((p_d.List.getD k104 d_FeedItem).Key))) ++ (i_flagByte ((p_d.List.getD k104 d_FeedItem).Gone))) ++ (i_textBytes ((p_d.List.getD k104 d_FeedItem).Val)))))), DetI (.string (bs (x139 ++ ((((i_numBytes ((p_d.List.getD k104 d_FeedItem).Time)) ++ (i_textBytes ((p_d.List.getD k104 d_FeedItem).Key))) ++ (i_flagByte ((p_d.List.getD k104 d_FeedItem).Gone))) ++ (i_textBytes ((p_d.List.getD k104 d_FeedItem).Val))))))]) Try.follows rfl rfl rfl rfl rfl rfl (vgetI_stable ⟨StableI.det _, StableI.det _, StableI.det _, StableI.det _, StableI.det _, StableI.det _, StableI.det _, StableI.det _, StableI.det _, StableI.det _, (fun _ _ _ _ _ ⟨hv, ho175⟩ e => ⟨hv, ho175⟩), StableI.det _, StableI.det _, StableI.det _, StableI.det _, StableI.det _, StableI.det _, StableI.det _, trivial⟩) ⟨?_, ?_, ?_, ?_, ?_, ?_, ?_, ?_, ?_, ?_, ?_, ?_, ?_, ?_, ?_, ?_, ?_, ?_, trivial⟩ ?_
    ·exact oI rfl fun h => yl_move rfl (h.old 3 _ rfl rfl) kI
    ·exact oI rfl fun h => yl_fieldAddr fd63_0 rfl (h.old 5 _ rfl rfl) kI
    ·exact oI rfl fun h => yl_load1 ty3 rfl (h.dt 1 26 rfl rfl rfl) (((Box.ex hB170 h.ex).cell 0).trans rfl) kI
    ·intro L197 w198 hi199
     have hE200 := hi199.ex
     have hE200z := Ex.size hE200
     exact OpR.op' rfl (yl_call en58 rfl (oc (hi199.dt 2 27 rfl rfl rfl) oz) (Cal.mono (c_i_numBytes ((p_d.List.getD k104 d_FeedItem).Time) (by first | omega | assumption | (simp only [wI] at *; omega))) fun _ _ h => h))
    ·exact oI rfl fun h => yl_fieldAddr fd63_2 rfl (h.old 5 _ rfl rfl) kI
    ·exact oI rfl fun h => yl_load1 ty9 rfl (h.dt 4 29 rfl rfl rfl) (((Box.ex hB170 h.ex).cell 2).trans rfl) kI
    ·intro L216 w217 hi218
     exact OpR.op' rfl (yl_call en60 rfl (oc (hi218.dt 5 30 rfl rfl rfl) oz) (Cal.mono (c_i_textBytes ((p_d.List.getD k104 d_FeedItem).Key) ((okL.getD o2 ok_d_FeedItem _).1)) fun _ _ h => h))
    ·intro L224 w225 hi226
     have hE227 := hi226.ex
     have hE227z := Ex.size hE227
     exact os rfl ((yl_sadd (a := (i_numBytes ((p_d.List.getD k104 d_FeedItem).Time))) (b := (i_textBytes ((p_d.List.getD k104 d_FeedItem).Key))) rfl (hi226.dt 3 28 rfl rfl rfl) (hi226.dt 6 31 rfl rfl rfl) (by first | omega | (simp only [List.length_append, List.length_cons, List.length_nil, List.length_take, List.length_drop, toS_length]; omega)) kI))
    ·exact oI rfl fun h => yl_fieldAddr fd63_4 rfl (h.old 5 _ rfl rfl) kI
    ·exact oI rfl fun h => yl_load1 ty4 rfl (h.dt 8 33 rfl rfl rfl) (((Box.ex hB170 h.ex).cell 4).trans rfl) kI
    ·intro L241 w242 hi243
     refine OpR.op' rfl (yl_call en67 rfl (oc (hi243.dt 9 34 rfl rfl rfl) oz) (Cal.mono (c_i_flagByte ((p_d.List.getD k104 d_FeedItem).Gone)) ?_))
     rintro v248 w246 ⟨rfl, ho247, hE249⟩
     exact ⟨⟨rfl, ho247⟩, hE249⟩
    ·intro L250 w251 hi252
     have hE253 := hi252.ex
     have hE253z := Ex.size hE253
     obtain ⟨lo256, hh257, _, hx255, hr258, hr259, hr260, rfl, h261⟩ := hi252.dep 10 35 rfl rfl
     have hol262 : (i_flagByte ((p_d.List.getD k104 d_FeedItem).Gone)).length ≤ 1073741824 := h261
     exact os rfl ((yl_sadd (a := ((i_numBytes ((p_d.List.getD k104 d_FeedItem).Time)) ++ (i_textBytes ((p_d.List.getD k104 d_FeedItem).Key)))) (b := (i_flagByte ((p_d.List.getD k104 d_FeedItem).Gone))) rfl (hi252.dt 7 32 rfl rfl rfl) hx255 (by first | omega | (simp only [List.length_append, List.length_cons, List.length_nil, List.length_take, List.length_drop, toS_length]; omega)) kI))
    ·exact oI rfl fun h => yl_fieldAddr fd63_3 rfl (h.old 5 _ rfl rfl) kI
    ·exact oI rfl fun h => yl_load1 ty9 rfl (h.dt 12 37 rfl rfl rfl) (((Box.ex hB170 h.ex).cell 3).trans rfl) kI
    ·intro L274 w275 hi276
     exact OpR.op' rfl (yl_call en60 rfl (oc (hi276.dt 13 38 rfl rfl rfl) oz) (Cal.mono (c_i_textBytes ((p_d.List.getD k104 d_FeedItem).Val) ((okL.getD o2 ok_d_FeedItem _).2)) fun _ _ h => h))
    ·intro L282 w283 hi284
     have hE285 := hi284.ex
     have hE285z := Ex.size hE285
     exact os rfl ((yl_sadd (a := (((i_numBytes ((p_d.List.getD k104 d_FeedItem).Time)) ++ (i_textBytes ((p_d.List.getD k104 d_FeedItem).Key))) ++ (i_flagByte ((p_d.List.getD k104 d_FeedItem).Gone)))) (b := (i_textBytes ((p_d.List.getD k104 d_FeedItem).Val))) rfl (hi284.dt 11 36 rfl rfl rfl) (hi284.dt 14 39 rfl rfl rfl) (by first | omega | (simp only [List.length_append, List.length_cons, List.length_nil, List.length_take, List.length_drop, toS_length]; omega)) kI))
    ·intro L288 w289 hi290
     have hE291 := hi290.ex
     have hE291z := Ex.size hE291
     exact os rfl ((yl_sadd (a := x139) (b := ((((i_numBytes ((p_d.List.getD k104 d_FeedItem).Time)) ++ (i_textBytes ((p_d.List.getD k104 d_FeedItem).Key))) ++ (i_flagByte ((p_d.List.getD k104 d_FeedItem).Gone))) ++ (i_textBytes ((p_d.List.getD k104 d_FeedItem).Val)))) rfl (hi290.dt 0 25 rfl rfl rfl) (hi290.dt 15 40 rfl rfl rfl) (by first | omega | (simp only [List.length_append, List.length_cons, List.length_nil, List.length_take, List.length_drop, toS_length]; omega)) kI))
    ·exact oI rfl fun h => yl_assign rfl (h.dt 16 41 rfl rfl rfl) kI
    ·intro fl302 fh303 L299 w300 hp301
     have hE304 := hp301.ex
     have hE304z := Ex.size hE304
     refine SeqR.done (bn (tn (CW.sub (Sub.cons (d := 3) (hp301.nt 17 3 rfl rfl rfl) (Sub.cons (d := 19) (hp301.old 19 _ rfl rfl) (Sub.cons (d := 20) (hp301.old 20 _ rfl rfl) (Sub.cons (d := 21) (hp301.old 21 _ rfl rfl) (Sub.nil _))))) (CW.region (sd rfl (yl_inc rfl rfl rfl (by omega) (sd rfl (yl_move rfl rfl (dn ?_)))))))))
     have hB309 : B_i_diffBytes_0 p_d k104 (x139) = .cont (x139 ++ ((((i_numBytes ((p_d.List.getD k104 d_FeedItem).Time)) ++ (i_textBytes ((p_d.List.getD k104 d_FeedItem).Key))) ++ (i_flagByte ((p_d.List.getD k104 d_FeedItem).Gone))) ++ (i_textBytes ((p_d.List.getD k104 d_FeedItem).Val)))) := by simp only [B_i_diffBytes_0, cL]
     exact ⟨p_d.List.length - (k104 + 1), by omega, k104 + 1, x139 ++ ((((i_numBytes ((p_d.List.getD k104 d_FeedItem).Time)) ++ (i_textBytes ((p_d.List.getD k104 d_FeedItem).Key))) ++ (i_flagByte ((p_d.List.getD k104 d_FeedItem).Gone))) ++ (i_textBytes ((p_d.List.getD k104 d_FeedItem).Val))), rfl, hlt161, (by omega), rfl, rfl, rfl, rfl, (RdS.ex good_FeedItem (RdS.only good_FeedItem (RdS.ex good_FeedItem hf157 hE168) hO171 (by simp only [Iv]; omega)) hE304), (Ex.trans (Below.only (Ex.trans hf158 hE168) hO171 (by omega)) hE304), (by first | omega | (simp only [List.length_append, List.length_cons, List.length_nil, List.length_set, toS_length]; omega)), (loopM.cont hlt161 hB309).symm.trans hI151⟩
   ·refine CW.seq (CW.region (sd rfl (yl_lss rfl rfl rfl (dn (CW.seq (CW.cond_f rfl (lt_f hlt161) (CW.exit (tx ?_))))))))
    refine tx ?_
    have hL316 : loopM (B_i_diffBytes_0 p_d) (p_d.List.length - 0) 0 (((i_numBytes p_d.From) ++ (i_numBytes p_d.To)) ++ (i_numBytes (p_d.List.length : Int))) = .done (x139) := hI151.symm.trans (loopM.stop hlt161)
    refine bx (tn (CW.seq (CW.region (sd rfl (yl_move rfl rfl (sd rfl (yl_call en56 rfl (oc rfl oz) (Cal.mono (c_i_seal x139 (by unfold okS; omega)) ?_))))))))
    rintro v318 w317 ⟨rfl, hE319⟩
    have hE319z := Ex.size hE319
    have hrf320 := rf_seal x139
    refine sd rfl (yl_assign rfl rfl (dn (CW.ret (rr rfl (.cons rfl .nil) ?_))))
    have hM321 : (i_diffBytes p_d) = ((i_seal x139)) := by simp only [i_diffBytes, hL316, cL]
    rw [hM321]
    exact ⟨rfl, (Ex.trans hf158 hE319)⟩
theorem c_i_ReadDiff {w : World} (p_0 : Str) (o1 : okS p_0) : Cal Try.prog 12 #[.string (bs (p_0))] w fun v w' => ∃ A_1 c_1 lo_1 hi_1, v = .tuple #[.agg #[.int .i64 ((i_ReadDiff p_0).1.From), .int .i64 ((i_ReadDiff p_0).1.To), .slice A_1 (((i_ReadDiff p_0).1.List).length) c_1], .bool ((i_ReadDiff p_0).2)] ∧ OwnL w' lo_1 hi_1 63 5 (RF e_FeedItem) A_1 (((i_ReadDiff p_0).1.List).length) c_1 ((i_ReadDiff p_0).1.List) ∧ ok_Diff ((i_ReadDiff p_0).1) ∧ (w.heap.size ≤ lo_1 ∧ lo_1 ≤ hi_1 ∧ hi_1 ≤ w'.heap.size) ∧ Ex w w' := by
 have hol2 : p_0.length ≤ 1073741824 := o1
 refine Cal.of func12 rfl ntmps12 rfl (CW.seq (CW.region (sd rfl (yl_alloc ty32 (cs := [.int .i64 (0), .int .i64 (0), .slice none 0 0]) rfl rfl ?_))))
 intro b3 w4 hs5 hz6 hB7 hE8
 refine sd rfl (yl_assign rfl rfl (dn (CW.seq (CW.region (sd rfl (yl_move rfl rfl (sd rfl (yl_call en26 rfl (oc rfl oz) (Cal.mono (c_i_OpenSeal p_0 o1) ?_)))))))))
 rintro v11 w9 ⟨rfl, ho10, hE12⟩
 have hE12z := Ex.size hE12
 refine sd rfl (yl_move rfl rfl (sd rfl (yl_extract rfl rfl rfl (sd rfl (yl_extract rfl rfl rfl (sd rfl (yl_assign rfl rfl (sd rfl (yl_assign rfl rfl (dn (CW.seq (CW.seq ?_))))))))))))
 refine CW.region (sd rfl (yl_move rfl rfl (sd rfl (yl_not rfl rfl (dn (bcase ((i_OpenSeal p_0).2) (fun hb13 => ?_) (fun hb13 => ?_)))))))
 ·refine CW.cond_f rfl (not_t hb13) (CW.skip (tn (CW.seq (CW.region (sd rfl (yl_move rfl rfl (sd rfl (yl_build (cs := [.string (bs ((i_OpenSeal p_0).1)), .int .i64 (0), .bool (false)]) rfl (oc rfl oz) (by kernel_rfl) (sd rfl (yl_box rfl rfl rfl ?_))))))))))
  intro b14 w15 hs16 hz17 hB18 hE19
  refine sd rfl (yl_assign rfl rfl (dn (CW.seq (CW.region (sd rfl (yl_move rfl rfl (sd rfl (yl_call en27 rfl (oc rfl oz) (Cal.mono (c_i_source_num ((i_OpenSeal p_0).1) (0, false) hB18 ho10 (by first | omega | assumption | (simp only [wI] at *; omega))) ?_)))))))))
  rintro v21 w20 ⟨rfl, hB23, hc22⟩
  have hc22z := Chg.size hc22
  have hB23z := Box.lt hB23
  have hrf24 := rf_num ho10 (0, false)  (by first | omega | assumption | (simp only [wI] at *; omega))
  refine sd rfl (yl_move rfl rfl (sd rfl (yl_call en27 rfl (oc rfl oz) (Cal.mono (c_i_source_num ((i_OpenSeal p_0).1) ((i_source_num ((i_OpenSeal p_0).1) (0, false)).2) hB23 ho10 (by first | omega | assumption | (simp only [wI] at *; omega))) ?_))))
  rintro v26 w25 ⟨rfl, hB28, hc27⟩
  have hc27z := Chg.size hc27
  have hB28z := Box.lt hB28
  have hrf29 := rf_num ho10 ((i_source_num ((i_OpenSeal p_0).1) (0, false)).2)  (by first | omega | assumption | (simp only [wI] at *; omega))
  refine sd rfl (yl_build (cs := [.int .i64 ((i_source_num ((i_OpenSeal p_0).1) (0, false)).1), .int .i64 ((i_source_num ((i_OpenSeal p_0).1) ((i_source_num ((i_OpenSeal p_0).1) (0, false)).2)).1), .slice none 0 0]) rfl (oc rfl (oc rfl oz)) (by kernel_rfl) (sd rfl (yl_alloc ty32 (cs := [.int .i64 (0), .int .i64 (0), .slice none 0 0]) rfl rfl ?_)))
  intro b30 w31 hs32 hz33 hB34 hE35
  refine SeqR.u rfl rfl (yl_store (vs := [.int .i64 ((i_source_num ((i_OpenSeal p_0).1) (0, false)).1), .int .i64 ((i_source_num ((i_OpenSeal p_0).1) ((i_source_num ((i_OpenSeal p_0).1) (0, false)).2)).1), .slice none 0 0]) ty32 rfl rfl rfl rfl rfl rfl hB34 (Nat.le_of_ble_eq_true rfl) ?_)
  intro w36 hB37 hO38
  have hB37 : Box w36 b30 32 [.int .i64 ((i_source_num ((i_OpenSeal p_0).1) (0, false)).1), .int .i64 ((i_source_num ((i_OpenSeal p_0).1) ((i_source_num ((i_OpenSeal p_0).1) (0, false)).2)).1), .slice none 0 0] := hB37
  have hO38z := hO38.size
  refine dn (CW.seq (CW.seq (CW.region (sd rfl (yl_move rfl rfl (sd rfl (yl_call en27 rfl (oc rfl oz) (Cal.mono (c_i_source_num ((i_OpenSeal p_0).1) ((i_source_num ((i_OpenSeal p_0).1) ((i_source_num ((i_OpenSeal p_0).1) (0, false)).2)).2) (Box.only (Box.ex hB28 hE35) hO38 (by omega)) ho10 (by first | omega | assumption | (simp only [wI] at *; omega))) ?_))))))))
  rintro v42 w41 ⟨rfl, hB44, hc43⟩
  have hc43z := Chg.size hc43
  have hB44z := Box.lt hB44
  have hrf45 := rf_num ho10 ((i_source_num ((i_OpenSeal p_0).1) ((i_source_num ((i_OpenSeal p_0).1) (0, false)).2)).2)  (by first | omega | assumption | (simp only [wI] at *; omega))
  refine sd rfl (yl_assign rfl rfl (dn (CW.block ?_)))
  have q89 := Box.ex (Box.ex hB7 hE12) hE19
  have q90 := Box.chg q89 hc22 (by have := Box.lt q89; simp only [InR, or_false]; omega)
  have q93 := Box.only (Box.ex (Box.chg q90 hc27 (by have := Box.lt q90; simp only [InR, or_false]; omega)) hE35) hO38 (by omega)
  refine CW.loop (fun m85 L86 w87 => ∃ (x78 : Int) (x79 : Int) (x80 : Bool) (x81 : List DFeedItem) (A82 : Option Addr) (c83 : Nat) (u84 : Nat), ((x78).toNat) < m85 ∧ w41.heap.size ≤ w87.heap.size ∧ lkp L86 0 = some (.string (bs (p_0))) ∧ lkp L86 2 = some (.pointer (some ⟨b3, 0, none⟩)) ∧ lkp L86 6 = some (.pointer (some ⟨b14, 0, none⟩)) ∧ lkp L86 7 = some (.pointer (some ⟨b30, 0, none⟩)) ∧ lkp L86 8 = some (.int .i64 (x78)) ∧ Box w87 b3 32 [.int .i64 (0), .int .i64 (0), .slice none 0 0] ∧ Box w87 b14 57 [.string (bs ((i_OpenSeal p_0).1)), .int .i64 (x79), .bool (x80)] ∧ Box w87 b30 32 [.int .i64 ((i_source_num ((i_OpenSeal p_0).1) (0, false)).1), .int .i64 ((i_source_num ((i_OpenSeal p_0).1) ((i_source_num ((i_OpenSeal p_0).1) (0, false)).2)).1), .slice A82 x81.length c83] ∧ OwnL w87 w41.heap.size u84 63 5 (RF e_FeedItem) A82 x81.length c83 x81 ∧ Ex w w87 ∧ (w41.heap.size ≤ u84 ∧ u84 ≤ w87.heap.size) ∧ x81.length + 1 * ((x78).toNat) ≤ 0 + 1 * (((i_source_num ((i_OpenSeal p_0).1) ((i_source_num ((i_OpenSeal p_0).1) ((i_source_num ((i_OpenSeal p_0).1) (0, false)).2)).2)).1).toNat) ∧ (∀ y ∈ x81, ok_FeedItem y) ∧ (0 ≤ x79 ∧ x79 ≤ ((i_OpenSeal p_0).1.length : Int)) ∧ loopW (B_i_ReadDiff_0 p_0) m85 (x78, x79, x80, x81) = loopW (B_i_ReadDiff_0 p_0) ((((i_source_num ((i_OpenSeal p_0).1) ((i_source_num ((i_OpenSeal p_0).1) ((i_source_num ((i_OpenSeal p_0).1) (0, false)).2)).2)).1).toNat) + 1) ((i_source_num ((i_OpenSeal p_0).1) ((i_source_num ((i_OpenSeal p_0).1) ((i_source_num ((i_OpenSeal p_0).1) (0, false)).2)).2)).1, ((i_source_num ((i_OpenSeal p_0).1) ((i_source_num ((i_OpenSeal p_0).1) ((i_source_num ((i_OpenSeal p_0).1) (0, false)).2)).2)).2).1, ((i_source_num ((i_OpenSeal p_0).1) ((i_source_num ((i_OpenSeal p_0).1) ((i_source_num ((i_OpenSeal p_0).1) (0, false)).2)).2)).2).2, ([] : List DFeedItem))) ((((i_source_num ((i_OpenSeal p_0).1) ((i_source_num ((i_OpenSeal p_0).1) ((i_source_num ((i_OpenSeal p_0).1) (0, false)).2)).2)).1).toNat) + 1) ?_ ?_
  ·exact ⟨(i_source_num ((i_OpenSeal p_0).1) ((i_source_num ((i_OpenSeal p_0).1) ((i_source_num ((i_OpenSeal p_0).1) (0, false)).2)).2)).1, ((i_source_num ((i_OpenSeal p_0).1) ((i_source_num ((i_OpenSeal p_0).1) ((i_source_num ((i_OpenSeal p_0).1) (0, false)).2)).2)).2).1, ((i_source_num ((i_OpenSeal p_0).1) ((i_source_num ((i_OpenSeal p_0).1) ((i_source_num ((i_OpenSeal p_0).1) (0, false)).2)).2)).2).2, ([] : List DFeedItem), none, 0, w41.heap.size, Nat.lt_succ_self _, Nat.le_refl _, rfl, rfl, rfl, rfl, rfl, (Box.chg q93 hc43 (by have := Box.lt q93; simp only [InR, or_false]; omega)), hB44, (Box.chg hB37 hc43 (by have := Box.lt hB37; simp only [InR, or_false]; omega)), (OwnL.nil w41 w41.heap.size w41.heap.size 63 5 (RF e_FeedItem)), (Ex.chg (Below.only (Ex.trans (Ex.chg (Ex.chg (Ex.trans (Ex.trans (Ex.trans (Ex.refl w) hE8) hE12) hE19) hc22 (fun k hk => by simp only [InR, or_false] at hk; omega)) hc27 (fun k hk => by simp only [InR, or_false] at hk; omega)) hE35) hO38 (by omega)) hc43 (fun k hk => by simp only [InR, or_false] at hk; omega)), (by omega), (by first | (simp; done) | (first | omega | (simp only [List.length_append, List.length_cons, List.length_nil, List.length_set, toS_length]; omega))), okE.nil, (by first | omega | assumption | (simp only [wI] at *; omega)), rfl⟩
  ·rintro m104 L105 w106 ⟨x78, x79, x80, x81, A82, c83, u84, hk107, hsz109, hl110, hl111, hl112, hl113, hl114, hf115, hf116, hf117, hf118, hf119, hu120, hln121, hok122, hv123, hI108⟩
   refine CW.sub (Sub.cons hl110 (Sub.cons hl111 (Sub.cons hl112 (Sub.cons hl113 (Sub.cons hl114 (Sub.nil _)))))) ?_
   have hf115z := Box.lt hf115
   have hf116z := Box.lt hf116
   have hf117z := Box.lt hf117
   have hf119z := Ex.size hf119
   refine CW.seq (CW.seq (CW.region (sd rfl (yl_move rfl rfl (sd rfl (yl_gtr rfl rfl rfl (sd rfl (yl_move rfl rfl (bcase (decide (0 < x78)) (fun hb124 => ?_) (fun hb124 => ?_))))))))))
   ·have hb124p := dec_t hb124
    refine sy rfl rfl hb124 (yl_move rfl rfl (sy rfl rfl hb124 (yl_nil rfl rfl (sy rfl rfl hb124 (yl_fieldAddr fd57_2 rfl rfl (sy rfl rfl hb124 (yl_load1 ty4 rfl rfl ((hf116.cell 2).trans rfl) (sy rfl rfl hb124 (yl_not rfl rfl (sd rfl (yl_pick_t rfl rfl hb124 rfl (dn (bcase (x80) (fun hb125 => ?_) (fun hb125 => ?_))))))))))))))
    ·refine CW.cond_f rfl (not_t hb125) (CW.exit (tx (tx ?_)))
     have hB127 : B_i_ReadDiff_0 p_0 (x78, x79, x80, x81) = .brk (x78, x79, x80, x81) := by simp only [B_i_ReadDiff_0, hb13, hb124, hb125, cL]
     have hL126 : loopW (B_i_ReadDiff_0 p_0) ((((i_source_num ((i_OpenSeal p_0).1) ((i_source_num ((i_OpenSeal p_0).1) ((i_source_num ((i_OpenSeal p_0).1) (0, false)).2)).2)).1).toNat) + 1) ((i_source_num ((i_OpenSeal p_0).1) ((i_source_num ((i_OpenSeal p_0).1) ((i_source_num ((i_OpenSeal p_0).1) (0, false)).2)).2)).1, ((i_source_num ((i_OpenSeal p_0).1) ((i_source_num ((i_OpenSeal p_0).1) ((i_source_num ((i_OpenSeal p_0).1) (0, false)).2)).2)).2).1, ((i_source_num ((i_OpenSeal p_0).1) ((i_source_num ((i_OpenSeal p_0).1) ((i_source_num ((i_OpenSeal p_0).1) (0, false)).2)).2)).2).2, ([] : List DFeedItem)) = .done (x78, x79, x80, x81) := hI108.symm.trans (loopW.brk hk107 hB127)
     refine bx (tn (CW.seq (CW.seq (CW.region (sd rfl (yl_move rfl rfl (sd rfl (yl_nil rfl rfl (sd rfl (yl_fieldAddr fd57_2 rfl rfl (sd rfl (yl_load1 ty4 rfl rfl ((hf116.cell 2).trans rfl) ?_))))))))))))
     refine sd rfl (yl_move rfl rfl (sz rfl rfl hb125 (sz rfl rfl hb125 (sz rfl rfl hb125 (sd rfl (yl_pick_t rfl rfl hb125 rfl (sd rfl (yl_move rfl rfl (sz rfl rfl rfl (sz rfl rfl rfl (sz rfl rfl rfl ?_)))))))))))
     refine sz rfl rfl rfl (sd rfl (yl_pick_t rfl rfl rfl rfl (dn (CW.cond_t rfl rfl (CW.seq (CW.region (sd rfl (yl_build (cs := [.int .i64 (0), .int .i64 (0), .slice none 0 0]) rfl opvs_nil (by kernel_rfl) (SeqR.u rfl rfl (yl_store (vs := [.int .i64 (0), .int .i64 (0), .slice none 0 0]) ty32 rfl rfl rfl rfl rfl rfl hf115 (Nat.le_of_ble_eq_true rfl) ?_))))))))))
     intro w128 hB129 hO130
     have hB129 : Box w128 b3 32 [.int .i64 (0), .int .i64 (0), .slice none 0 0] := hB129
     have hO130z := hO130.size
     refine sd rfl (yl_assign rfl rfl (dn (CW.ret (tr (rr rfl (.cons ⟨_, rfl, run_loadN ty32 (cs := [.int .i64 (0), .int .i64 (0), .slice none 0 0]) rfl (hB129.cells (n := 3) rfl)⟩ (.cons rfl .nil)) ?_)))))
     have hM131 : (i_ReadDiff p_0) = (((⟨0, 0, []⟩ : DDiff), false)) := by simp only [i_ReadDiff, hb13, hb124, hb125, hL126, cL]
     rw [hM131]
     exact ⟨none, 0, w128.heap.size, w128.heap.size, rfl, (OwnL.nil _ _ _ _ _ _), (okL.nil _), (by omega), (Below.only hf119 hO130 (by omega))⟩
    ·refine CW.cond_t rfl (not_f hb125) (CW.skip (tn (CW.seq (CW.block ?_))))
     have hrf147 := rf_num ho10 (x79, x80)  (by first | omega | assumption | (simp only [wI] at *; omega))
     have hrf148 := rf_text ho10 ((i_source_num ((i_OpenSeal p_0).1) (x79, x80)).2)  (by first | omega | assumption | (simp only [wI] at *; omega))
     have hrf149 := rf_take ho10 ((i_source_text ((i_OpenSeal p_0).1) ((i_source_num ((i_OpenSeal p_0).1) (x79, x80)).2)).2) 1 (by first | omega | assumption | (simp only [wI] at *; omega))
     have hrf150 := rf_text ho10 ((i_source_take ((i_OpenSeal p_0).1) ((i_source_text ((i_OpenSeal p_0).1) ((i_source_num ((i_OpenSeal p_0).1) (x79, x80)).2)).2) 1).2)  (by first | omega | assumption | (simp only [wI] at *; omega))
     refine CW.drawsG 13 (fun G b => (G.dn 3 = true ∧ InR [(b14, b14 + 1)] b) ∨ (G.dn 5 = true ∧ InR [(b14, b14 + 1)] b) ∨ (G.dn 7 = true ∧ InR [(b14, b14 + 1)] b) ∨ (G.dn 10 = true ∧ InR [(b14, b14 + 1)] b)) (fun i G b => (i = 3 ∧ b14 ≤ b ∧ b < b14 + 1) ∨ (i = 5 ∧ b14 ≤ b ∧ b < b14 + 1) ∨ (i = 7 ∧ b14 ≤ b ∧ b < b14 + 1) ∨ (i = 10 ∧ b14 ≤ b ∧ b < b14 + 1)) (vgetG [DetG (.pointer (some ⟨b30, 0 + 2, none⟩)), DetG (.slice A82 x81.length c83), DetG (.pointer (some ⟨b14, 0, none⟩)), fun G v wq => v = .int .i64 ((i_source_num ((i_OpenSeal p_0).1) (x79, x80)).1) ∧ (G.dn 5 = false → Box wq b14 57 [.string (bs ((i_OpenSeal p_0).1)), .int .i64 (((i_source_num ((i_OpenSeal p_0).1) (x79, x80)).2).1), .bool (((i_source_num ((i_OpenSeal p_0).1) (x79, x80)).2).2)]), DetG (.pointer (some ⟨b14, 0, none⟩)), fun G v wq => v = .string (bs ((i_source_text ((i_OpenSeal p_0).1) ((i_source_num ((i_OpenSeal p_0).1) (x79, x80)).2)).1)) ∧ okS ((i_source_text ((i_OpenSeal p_0).1) ((i_source_num ((i_OpenSeal p_0).1) (x79, x80)).2)).1) ∧ (G.dn 7 = false → Box wq b14 57 [.string (bs ((i_OpenSeal p_0).1)), .int .i64 (((i_source_text ((i_OpenSeal p_0).1) ((i_source_num ((i_OpenSeal p_0).1) (x79, x80)).2)).2).1), .bool (((i_source_text ((i_OpenSeal p_0).1) ((i_source_num ((i_OpenSeal p_0).1) (x79, x80)).2)).2).2)]), DetG (.pointer (some ⟨b14, 0, none⟩)), fun G v wq => v = .string (bs ((i_source_take ((i_OpenSeal p_0).1) ((i_source_text ((i_OpenSeal p_0).1) ((i_source_num ((i_OpenSeal p_0).1) (x79, x80)).2)).2) 1).1)) ∧ okS ((i_source_take ((i_OpenSeal p_0).1) ((i_source_text ((i_OpenSeal p_0).1) ((i_source_num ((i_OpenSeal p_0).1) (x79, x80)).2)).2) 1).1) ∧ (G.dn 10 = false → Box wq b14 57 [.string (bs ((i_OpenSeal p_0).1)), .int .i64 (((i_source_take ((i_OpenSeal p_0).1) ((i_source_text ((i_OpenSeal p_0).1) ((i_source_num ((i_OpenSeal p_0).1) (x79, x80)).2)).2) 1).2).1), .bool (((i_source_take ((i_OpenSeal p_0).1) ((i_source_text ((i_OpenSeal p_0).1) ((i_source_num ((i_OpenSeal p_0).1) (x79, x80)).2)).2) 1).2).2)]), DetG (.bool (((i_source_take ((i_OpenSeal p_0).1) ((i_source_text ((i_OpenSeal p_0).1) ((i_source_num ((i_OpenSeal p_0).1) (x79, x80)).2)).2) 1).1) == ([1] : Str))), DetG (.pointer (some ⟨b14, 0, none⟩)), fun G v wq => v = .string (bs ((i_source_text ((i_OpenSeal p_0).1) ((i_source_take ((i_OpenSeal p_0).1) ((i_source_text ((i_OpenSeal p_0).1) ((i_source_num ((i_OpenSeal p_0).1) (x79, x80)).2)).2) 1).2)).1)) ∧ okS ((i_source_text ((i_OpenSeal p_0).1) ((i_source_take ((i_OpenSeal p_0).1) ((i_source_text ((i_OpenSeal p_0).1) ((i_source_num ((i_OpenSeal p_0).1) (x79, x80)).2)).2) 1).2)).1) ∧ Box wq b14 57 [.string (bs ((i_OpenSeal p_0).1)), .int .i64 (((i_source_text ((i_OpenSeal p_0).1) ((i_source_take ((i_OpenSeal p_0).1) ((i_source_text ((i_OpenSeal p_0).1) ((i_source_num ((i_OpenSeal p_0).1) (x79, x80)).2)).2) 1).2)).2).1), .bool (((i_source_text ((i_OpenSeal p_0).1) ((i_source_take ((i_OpenSeal p_0).1) ((i_source_text ((i_OpenSeal p_0).1) ((i_source_num ((i_OpenSeal p_0).1) (x79, x80)).2)).2) 1).2)).2).2)], DetG (.agg #[.int .i64 ((i_source_num ((i_OpenSeal p_0).1) (x79, x80)).1), .int .i64 (0), .string (bs ((i_source_text ((i_OpenSeal p_0).1) ((i_source_num ((i_OpenSeal p_0).1) (x79, x80)).2)).1)), .string (bs ((i_source_text ((i_OpenSeal p_0).1) ((i_source_take ((i_OpenSeal p_0).1) ((i_source_text ((i_OpenSeal p_0).1) ((i_source_num ((i_OpenSeal p_0).1) (x79, x80)).2)).2) 1).2)).1)), .bool (((i_source_take ((i_OpenSeal p_0).1) ((i_source_text ((i_OpenSeal p_0).1) ((i_source_num ((i_OpenSeal p_0).1) (x79, x80)).2)).2) 1).1) == ([1] : Str))]), fun G v wq => ∃ A144, v = .slice A144 1 1 ∧ OwnL wq (G.fl 12) (G.fh 12) 63 5 (RF e_FeedItem) A144 1 1 ([(⟨(i_source_num ((i_OpenSeal p_0).1) (x79, x80)).1, 0, (i_source_text ((i_OpenSeal p_0).1) ((i_source_num ((i_OpenSeal p_0).1) (x79, x80)).2)).1, (i_source_text ((i_OpenSeal p_0).1) ((i_source_take ((i_OpenSeal p_0).1) ((i_source_text ((i_OpenSeal p_0).1) ((i_source_num ((i_OpenSeal p_0).1) (x79, x80)).2)).2) 1).2)).1, ((i_source_take ((i_OpenSeal p_0).1) ((i_source_text ((i_OpenSeal p_0).1) ((i_source_num ((i_OpenSeal p_0).1) (x79, x80)).2)).2) 1).1) == ([1] : Str)⟩ : DFeedItem)] : List DFeedItem)]) Try.follows rfl rfl rfl rfl rfl rfl (fun _ _ _ _ _ h => (fun h => h.imp (fun h => ⟨Gh.udn h.1, h.2⟩) (fun h => h.imp (fun h => ⟨Gh.udn h.1, h.2⟩) (fun h => h.imp (fun h => ⟨Gh.udn h.1, h.2⟩) (fun h => ⟨Gh.udn h.1, h.2⟩)))) h) (fun i G w lo hi b K hn hh hp => by exact (hp.elim (fun ⟨e, q1, q2⟩ => by subst e; exact .inl (.inl ⟨Gh.sdn, .inl ⟨q1, q2⟩⟩)) (fun hp => (hp.elim (fun ⟨e, q1, q2⟩ => by subst e; exact .inl (.inr (.inl ⟨Gh.sdn, .inl ⟨q1, q2⟩⟩))) (fun hp => (hp.elim (fun ⟨e, q1, q2⟩ => by subst e; exact .inl (.inr (.inr (.inl ⟨Gh.sdn, .inl ⟨q1, q2⟩⟩)))) (fun hp => (match hp with | ⟨e, q1, q2⟩ => by subst e; exact .inl (.inr (.inr (.inr (⟨Gh.sdn, .inl ⟨q1, q2⟩⟩)))))))))))) (vgetG_kept ⟨(KeptG.det _), (KeptG.det _), (KeptG.det _), (by rintro i G v w w' K hn hh hj ⟨hv, h0⟩ e; exact ⟨hv, (by intro hd; exact Box.chg (h0 (Gh.off hd).2) e (fun hp => by exact (hp.elim (fun ⟨e, q1, q2⟩ => by subst e; rw [hj] at hn; cases hn) (fun hp => (hp.elim (fun ⟨e, q1, q2⟩ => by subst e; exact absurd rfl (Gh.off hd).1) (fun hp => (hp.elim (fun ⟨e, q1, q2⟩ => by subst e; exact absurd ((Gh.off hd).2.symm.trans (hh 5 rfl)) Bool.false_ne_true) (fun hp => (match hp with | ⟨e, q1, q2⟩ => by subst e; exact absurd ((Gh.off hd).2.symm.trans (hh 5 rfl)) Bool.false_ne_true)))))))))⟩), (KeptG.det _), (by rintro i G v w w' K hn hh hj ⟨hv, h0, h1⟩ e; exact ⟨hv, h0, (by intro hd; exact Box.chg (h1 (Gh.off hd).2) e (fun hp => by exact (hp.elim (fun ⟨e, q1, q2⟩ => by subst e; rw [K.cl 5 3 hj rfl] at hn; cases hn) (fun hp => (hp.elim (fun ⟨e, q1, q2⟩ => by subst e; rw [hj] at hn; cases hn) (fun hp => (hp.elim (fun ⟨e, q1, q2⟩ => by subst e; exact absurd rfl (Gh.off hd).1) (fun hp => (match hp with | ⟨e, q1, q2⟩ => by subst e; exact absurd ((Gh.off hd).2.symm.trans (hh 7 rfl)) Bool.false_ne_true)))))))))⟩), (KeptG.det _), (by rintro i G v w w' K hn hh hj ⟨hv, h0, h1⟩ e; exact ⟨hv, h0, (by intro hd; exact Box.chg (h1 (Gh.off hd).2) e (fun hp => by exact (hp.elim (fun ⟨e, q1, q2⟩ => by subst e; rw [K.cl 7 3 hj rfl] at hn; cases hn) (fun hp => (hp.elim (fun ⟨e, q1, q2⟩ => by subst e; rw [K.cl 7 5 hj rfl] at hn; cases hn) (fun hp => (hp.elim (fun ⟨e, q1, q2⟩ => by subst e; rw [hj] at hn; cases hn) (fun hp => (match hp with | ⟨e, q1, q2⟩ => by subst e; exact absurd rfl (Gh.off hd).1)))))))))⟩), (KeptG.det _), (KeptG.det _), (by rintro i G v w w' K hn hh hj ⟨hv, h0, h1⟩ e; exact ⟨hv, h0, (by exact Box.chg h1 e (fun hp => by exact (hp.elim (fun ⟨e, q1, q2⟩ => by subst e; rw [K.cl 10 3 hj rfl] at hn; cases hn) (fun hp => (hp.elim (fun ⟨e, q1, q2⟩ => by subst e; rw [K.cl 10 5 hj rfl] at hn; cases hn) (fun hp => (hp.elim (fun ⟨e, q1, q2⟩ => by subst e; rw [K.cl 10 7 hj rfl] at hn; cases hn) (fun hp => (match hp with | ⟨e, q1, q2⟩ => by subst e; rw [hj] at hn; cases hn)))))))))⟩), (KeptG.det _), (by rintro i G v w w' K hn hh hj ⟨A144, hv, h0⟩ e; have d12 : G.dn 12 = true := hj; have u12 := Gh.ufl (lo := w.heap.size) (hi := w'.heap.size) d12 hn; have t12 := Gh.ufh (lo := w.heap.size) (hi := w'.heap.size) d12 hn; exact ⟨A144, hv, (by simp only [u12, t12]; exact OwnL.chg good_FeedItem h0 e (fun b hb hp => by exact (hp.elim (fun ⟨e, q1, q2⟩ => by subst e; rw [K.cl 12 3 hj rfl] at hn; cases hn) (fun hp => (hp.elim (fun ⟨e, q1, q2⟩ => by subst e; rw [K.cl 12 5 hj rfl] at hn; cases hn) (fun hp => (hp.elim (fun ⟨e, q1, q2⟩ => by subst e; rw [K.cl 12 7 hj rfl] at hn; cases hn) (fun hp => (match hp with | ⟨e, q1, q2⟩ => by subst e; rw [K.cl 12 10 hj rfl] at hn; cases hn)))))))))⟩), trivial⟩) ⟨?_, ?_, ?_, ?_, ?_, ?_, ?_, ?_, ?_, ?_, ?_, ?_, ?_, trivial⟩ ?_
     ·intro L152 w153 G151 hgk154
      have hE155 : Chg (fun b => InR [(b14, b14 + 1)] b ∨ w106.heap.size ≤ b) w106 w153 := hgk154.st.ex.imp (fun b _ h => h.imp (fun h => h.elim (fun h => h.2) (fun h => h.elim (fun h => h.2) (fun h => h.elim (fun h => h.2) (fun h => h.2)))) (fun h => h))
      have hE155z := Chg.size hE155
      exact OpR.op' rfl (Yl.sameG (yl_fieldAddr fd32_2 rfl (hgk154.old 7 _ rfl rfl) kI))
     ·intro L158 w159 G157 hgk160
      have hE161 : Chg (fun b => InR [(b14, b14 + 1)] b ∨ w106.heap.size ≤ b) w106 w159 := hgk160.st.ex.imp (fun b _ h => h.imp (fun h => h.elim (fun h => h.2) (fun h => h.elim (fun h => h.2) (fun h => h.elim (fun h => h.2) (fun h => h.2)))) (fun h => h))
      have hE161z := Chg.size hE161
      obtain ⟨_, hx162, rfl⟩ := hgk160.val 0 38 rfl rfl
      exact OpR.op' rfl (Yl.sameG (yl_load1 ty30 rfl hx162 (((Box.chg hf117 hE161 (by have := Box.lt hf117; simp only [InR, or_false]; omega)).cell 2).trans rfl) kI))
     ·intro L165 w166 G164 hgk167
      have hE168 := hgk167.st.ex.ex (fun b h => h.elim (fun h => h.elim (fun h => (Bool.false_ne_true (hgk167.new.symm.trans (hgk167.st.cl 3 2 h.1 rfl))).elim) (fun h => h.elim (fun h => (Bool.false_ne_true (hgk167.new.symm.trans (hgk167.st.cl 5 2 h.1 rfl))).elim) (fun h => h.elim (fun h => (Bool.false_ne_true (hgk167.new.symm.trans (hgk167.st.cl 7 2 h.1 rfl))).elim) (fun h => (Bool.false_ne_true (hgk167.new.symm.trans (hgk167.st.cl 10 2 h.1 rfl))).elim)))) (fun h => h))
      have hE168z := Ex.size hE168
      exact OpR.op' rfl (Yl.sameG (yl_move rfl (hgk167.old 6 _ rfl rfl) kI))
     ·intro L171 w172 G170 hgk173
      have hE174 := hgk173.st.ex.ex (fun b h => h.elim (fun h => h.elim (fun h => (Bool.false_ne_true (hgk173.new.symm.trans h.1)).elim) (fun h => h.elim (fun h => (Bool.false_ne_true (hgk173.new.symm.trans (hgk173.st.cl 5 3 h.1 rfl))).elim) (fun h => h.elim (fun h => (Bool.false_ne_true (hgk173.new.symm.trans (hgk173.st.cl 7 3 h.1 rfl))).elim) (fun h => (Bool.false_ne_true (hgk173.new.symm.trans (hgk173.st.cl 10 3 h.1 rfl))).elim)))) (fun h => h))
      have hE174z := Ex.size hE174
      obtain ⟨_, hx175, rfl⟩ := hgk173.val 2 40 rfl rfl
      refine OpR.op' rfl (yl_call en27 rfl (oc hx175 oz) (Cal.mono (c_i_source_num ((i_OpenSeal p_0).1) (x79, x80) (Box.ex hf116 hE174) ho10 (by first | omega | assumption | (simp only [wI] at *; omega))) ?_))
      rintro v178 w177 ⟨rfl, hB180, hE179⟩
      exact ⟨hE179.imp (fun k _ hk => hk.elim (fun hk => (.inl ⟨rfl, hk.1, hk.2⟩)) False.elim), rfl, fun _ => hB180⟩
     ·intro L182 w183 G181 hgk184
      have hE185 : Chg (fun b => InR [(b14, b14 + 1)] b ∨ w106.heap.size ≤ b) w106 w183 := hgk184.st.ex.imp (fun b _ h => h.imp (fun h => h.elim (fun h => h.2) (fun h => h.elim (fun h => (Bool.false_ne_true (hgk184.new.symm.trans (hgk184.st.cl 5 4 h.1 rfl))).elim) (fun h => h.elim (fun h => (Bool.false_ne_true (hgk184.new.symm.trans (hgk184.st.cl 7 4 h.1 rfl))).elim) (fun h => (Bool.false_ne_true (hgk184.new.symm.trans (hgk184.st.cl 10 4 h.1 rfl))).elim)))) (fun h => h))
      have hE185z := Chg.size hE185
      exact OpR.op' rfl (Yl.sameG (yl_move rfl (hgk184.old 6 _ rfl rfl) kI))
     ·intro L188 w189 G187 hgk190
      have hE191 : Chg (fun b => InR [(b14, b14 + 1)] b ∨ w106.heap.size ≤ b) w106 w189 := hgk190.st.ex.imp (fun b _ h => h.imp (fun h => h.elim (fun h => h.2) (fun h => h.elim (fun h => (Bool.false_ne_true (hgk190.new.symm.trans h.1)).elim) (fun h => h.elim (fun h => (Bool.false_ne_true (hgk190.new.symm.trans (hgk190.st.cl 7 5 h.1 rfl))).elim) (fun h => (Bool.false_ne_true (hgk190.new.symm.trans (hgk190.st.cl 10 5 h.1 rfl))).elim)))) (fun h => h))
      have hE191z := Chg.size hE191
      obtain ⟨_, hx192, rfl⟩ := hgk190.val 4 42 rfl rfl
      obtain ⟨_, rfl, h193⟩ := hgk190.fact 3 rfl
      have h193 := h193 hgk190.new
      have hr194 := hgk190.st.rng 3 (hgk190.has 3 rfl)
      refine OpR.op' rfl (yl_call en28 rfl (oc hx192 oz) (Cal.mono (c_i_source_text ((i_OpenSeal p_0).1) ((i_source_num ((i_OpenSeal p_0).1) (x79, x80)).2) h193 ho10 (by first | omega | assumption | (simp only [wI] at *; omega))) ?_))
      rintro v197 w195 ⟨rfl, ho196, hB199, hE198⟩
      exact ⟨hE198.imp (fun k _ hk => hk.elim (fun hk => (.inr (.inl ⟨rfl, hk.1, hk.2⟩))) False.elim), rfl, ho196, fun _ => hB199⟩
     ·intro L201 w202 G200 hgk203
      have hE204 : Chg (fun b => InR [(b14, b14 + 1)] b ∨ w106.heap.size ≤ b) w106 w202 := hgk203.st.ex.imp (fun b _ h => h.imp (fun h => h.elim (fun h => h.2) (fun h => h.elim (fun h => h.2) (fun h => h.elim (fun h => (Bool.false_ne_true (hgk203.new.symm.trans (hgk203.st.cl 7 6 h.1 rfl))).elim) (fun h => (Bool.false_ne_true (hgk203.new.symm.trans (hgk203.st.cl 10 6 h.1 rfl))).elim)))) (fun h => h))
      have hE204z := Chg.size hE204
      exact OpR.op' rfl (Yl.sameG (yl_move rfl (hgk203.old 6 _ rfl rfl) kI))
     ·intro L207 w208 G206 hgk209
      have hE210 : Chg (fun b => InR [(b14, b14 + 1)] b ∨ w106.heap.size ≤ b) w106 w208 := hgk209.st.ex.imp (fun b _ h => h.imp (fun h => h.elim (fun h => h.2) (fun h => h.elim (fun h => h.2) (fun h => h.elim (fun h => (Bool.false_ne_true (hgk209.new.symm.trans h.1)).elim) (fun h => (Bool.false_ne_true (hgk209.new.symm.trans (hgk209.st.cl 10 7 h.1 rfl))).elim)))) (fun h => h))
      have hE210z := Chg.size hE210
      obtain ⟨_, hx211, rfl⟩ := hgk209.val 6 44 rfl rfl
      obtain ⟨_, rfl, h212, h213⟩ := hgk209.fact 5 rfl
      have h213 := h213 hgk209.new
      have hr214 := hgk209.st.rng 5 (hgk209.has 5 rfl)
      refine OpR.op' rfl (yl_call en36 rfl (oc hx211 (oc rfl oz)) (Cal.mono (c_i_source_take ((i_OpenSeal p_0).1) ((i_source_text ((i_OpenSeal p_0).1) ((i_source_num ((i_OpenSeal p_0).1) (x79, x80)).2)).2) 1 h213 ho10 (by first | omega | assumption | (simp only [wI] at *; omega)) (by first | omega | assumption | (simp only [wI] at *; omega))) ?_))
      rintro v217 w215 ⟨rfl, ho216, hB219, hE218⟩
      exact ⟨hE218.imp (fun k _ hk => hk.elim (fun hk => (.inr (.inr (.inl ⟨rfl, hk.1, hk.2⟩)))) False.elim), rfl, ho216, fun _ => hB219⟩
     ·intro L221 w222 G220 hgk223
      have hE224 : Chg (fun b => InR [(b14, b14 + 1)] b ∨ w106.heap.size ≤ b) w106 w222 := hgk223.st.ex.imp (fun b _ h => h.imp (fun h => h.elim (fun h => h.2) (fun h => h.elim (fun h => h.2) (fun h => h.elim (fun h => h.2) (fun h => h.2)))) (fun h => h))
      have hE224z := Chg.size hE224
      obtain ⟨_, hx225, rfl, h226, -⟩ := hgk223.val 7 45 rfl rfl
      have hr227 := hgk223.st.rng 7 (hgk223.has 7 rfl)
      exact OpR.op' rfl (Yl.sameG (yl_seql (a := ((i_source_take ((i_OpenSeal p_0).1) ((i_source_text ((i_OpenSeal p_0).1) ((i_source_num ((i_OpenSeal p_0).1) (x79, x80)).2)).2) 1).1)) (b := ([1] : Str)) rfl hx225 rfl kI))
     ·intro L229 w230 G228 hgk231
      have hE232 : Chg (fun b => InR [(b14, b14 + 1)] b ∨ w106.heap.size ≤ b) w106 w230 := hgk231.st.ex.imp (fun b _ h => h.imp (fun h => h.elim (fun h => h.2) (fun h => h.elim (fun h => h.2) (fun h => h.elim (fun h => h.2) (fun h => (Bool.false_ne_true (hgk231.new.symm.trans (hgk231.st.cl 10 9 h.1 rfl))).elim)))) (fun h => h))
      have hE232z := Chg.size hE232
      exact OpR.op' rfl (Yl.sameG (yl_move rfl (hgk231.old 6 _ rfl rfl) kI))
     ·intro L235 w236 G234 hgk237
      have hE238 : Chg (fun b => InR [(b14, b14 + 1)] b ∨ w106.heap.size ≤ b) w106 w236 := hgk237.st.ex.imp (fun b _ h => h.imp (fun h => h.elim (fun h => h.2) (fun h => h.elim (fun h => h.2) (fun h => h.elim (fun h => h.2) (fun h => (Bool.false_ne_true (hgk237.new.symm.trans h.1)).elim)))) (fun h => h))
      have hE238z := Chg.size hE238
      obtain ⟨_, hx239, rfl⟩ := hgk237.val 9 47 rfl rfl
      obtain ⟨_, rfl, h240, h241⟩ := hgk237.fact 7 rfl
      have h241 := h241 hgk237.new
      have hr242 := hgk237.st.rng 7 (hgk237.has 7 rfl)
      refine OpR.op' rfl (yl_call en28 rfl (oc hx239 oz) (Cal.mono (c_i_source_text ((i_OpenSeal p_0).1) ((i_source_take ((i_OpenSeal p_0).1) ((i_source_text ((i_OpenSeal p_0).1) ((i_source_num ((i_OpenSeal p_0).1) (x79, x80)).2)).2) 1).2) h241 ho10 (by first | omega | assumption | (simp only [wI] at *; omega))) ?_))
      rintro v245 w243 ⟨rfl, ho244, hB247, hE246⟩
      exact ⟨hE246.imp (fun k _ hk => hk.elim (fun hk => (.inr (.inr (.inr (⟨rfl, hk.1, hk.2⟩))))) False.elim), rfl, ho244, hB247⟩
     ·intro L249 w250 G248 hgk251
      have hE252 : Chg (fun b => InR [(b14, b14 + 1)] b ∨ w106.heap.size ≤ b) w106 w250 := hgk251.st.ex.imp (fun b _ h => h.imp (fun h => h.elim (fun h => h.2) (fun h => h.elim (fun h => h.2) (fun h => h.elim (fun h => h.2) (fun h => h.2)))) (fun h => h))
      have hE252z := Chg.size hE252
      obtain ⟨_, hx253, rfl, -⟩ := hgk251.val 3 41 rfl rfl
      obtain ⟨_, hx254, rfl, h255, -⟩ := hgk251.val 5 43 rfl rfl
      obtain ⟨_, hx256, rfl⟩ := hgk251.val 8 46 rfl rfl
      obtain ⟨_, hx257, rfl, h258, h259⟩ := hgk251.val 10 48 rfl rfl
      have hr260 := hgk251.st.rng 3 (hgk251.has 3 rfl)
      have hr261 := hgk251.st.rng 5 (hgk251.has 5 rfl)
      have hr262 := hgk251.st.rng 10 (hgk251.has 10 rfl)
      have hsp263 := hgk251.st.ord 5 3 (hgk251.has 5 rfl) rfl
      have hsp264 := hgk251.st.ord 10 3 (hgk251.has 10 rfl) rfl
      have hsp265 := hgk251.st.ord 10 5 (hgk251.has 10 rfl) rfl
      exact OpR.op' rfl (Yl.sameG (yl_build (cs := [.int .i64 ((i_source_num ((i_OpenSeal p_0).1) (x79, x80)).1), .int .i64 (0), .string (bs ((i_source_text ((i_OpenSeal p_0).1) ((i_source_num ((i_OpenSeal p_0).1) (x79, x80)).2)).1)), .string (bs ((i_source_text ((i_OpenSeal p_0).1) ((i_source_take ((i_OpenSeal p_0).1) ((i_source_text ((i_OpenSeal p_0).1) ((i_source_num ((i_OpenSeal p_0).1) (x79, x80)).2)).2) 1).2)).1)), .bool (((i_source_take ((i_OpenSeal p_0).1) ((i_source_text ((i_OpenSeal p_0).1) ((i_source_num ((i_OpenSeal p_0).1) (x79, x80)).2)).2) 1).1) == ([1] : Str))]) rfl (oc hx253 (oc hx254 (oc hx256 (oc hx257 oz)))) (by kernel_rfl) kI))
     ·intro L267 w268 G266 hgk269
      have hE270 : Chg (fun b => InR [(b14, b14 + 1)] b ∨ w106.heap.size ≤ b) w106 w268 := hgk269.st.ex.imp (fun b _ h => h.imp (fun h => h.elim (fun h => h.2) (fun h => h.elim (fun h => h.2) (fun h => h.elim (fun h => h.2) (fun h => h.2)))) (fun h => h))
      have hE270z := Chg.size hE270
      obtain ⟨_, hx271, rfl⟩ := hgk269.val 11 49 rfl rfl
      refine OpR.op' rfl (yl_buildSlice (cs := [.int .i64 ((i_source_num ((i_OpenSeal p_0).1) (x79, x80)).1), .int .i64 (0), .string (bs ((i_source_text ((i_OpenSeal p_0).1) ((i_source_num ((i_OpenSeal p_0).1) (x79, x80)).2)).1)), .string (bs ((i_source_text ((i_OpenSeal p_0).1) ((i_source_take ((i_OpenSeal p_0).1) ((i_source_text ((i_OpenSeal p_0).1) ((i_source_num ((i_OpenSeal p_0).1) (x79, x80)).2)).2) 1).2)).1)), .bool (((i_source_take ((i_OpenSeal p_0).1) ((i_source_text ((i_OpenSeal p_0).1) ((i_source_num ((i_OpenSeal p_0).1) (x79, x80)).2)).2) 1).1) == ([1] : Str))]) un30 ty63 (by decide) rfl (oc hx271 oz) (by kernel_rfl) ?_)
      intro b272 w273 hs274 hz275 hB276 hE277
      have hO278 : OwnL w273 b272 (b272 + 1) 63 5 (RF e_FeedItem) (some ⟨b272, 0, none⟩) 1 1 ([(⟨(i_source_num ((i_OpenSeal p_0).1) (x79, x80)).1, 0, (i_source_text ((i_OpenSeal p_0).1) ((i_source_num ((i_OpenSeal p_0).1) (x79, x80)).2)).1, (i_source_text ((i_OpenSeal p_0).1) ((i_source_take ((i_OpenSeal p_0).1) ((i_source_text ((i_OpenSeal p_0).1) ((i_source_num ((i_OpenSeal p_0).1) (x79, x80)).2)).2) 1).2)).1, ((i_source_take ((i_OpenSeal p_0).1) ((i_source_text ((i_OpenSeal p_0).1) ((i_source_num ((i_OpenSeal p_0).1) (x79, x80)).2)).2) 1).1) == ([1] : Str)⟩ : DFeedItem)] : List DFeedItem) := OwnL.of_box (S := fun _ => False) hB276 (Nat.le_refl _) (Nat.lt_succ_self _) (EncL.cons (c := [.int .i64 ((i_source_num ((i_OpenSeal p_0).1) (x79, x80)).1), .int .i64 (0), .string (bs ((i_source_text ((i_OpenSeal p_0).1) ((i_source_num ((i_OpenSeal p_0).1) (x79, x80)).2)).1)), .string (bs ((i_source_text ((i_OpenSeal p_0).1) ((i_source_take ((i_OpenSeal p_0).1) ((i_source_text ((i_OpenSeal p_0).1) ((i_source_num ((i_OpenSeal p_0).1) (x79, x80)).2)).2) 1).2)).1)), .bool (((i_source_take ((i_OpenSeal p_0).1) ((i_source_text ((i_OpenSeal p_0).1) ((i_source_num ((i_OpenSeal p_0).1) (x79, x80)).2)).2) 1).1) == ([1] : Str))]) rfl rfl EncL.nil) (Nat.le_of_ble_eq_true rfl) (fun h => h) (fun _ h => False.elim h)
      exact ⟨Chg.of_ex hE277, (some ⟨b272, 0, none⟩), rfl, OwnL.more (lo' := w268.heap.size) (hi' := w273.heap.size) hO278 (by omega) (by omega)⟩
     ·intro G279 L280 w281 hgp282
      have hE283 : Chg (fun b => InR [(b14, b14 + 1)] b ∨ w106.heap.size ≤ b) w106 w281 := hgp282.st.ex.imp (fun b _ h => h.imp (fun h => h.elim (fun h => h.2) (fun h => h.elim (fun h => h.2) (fun h => h.elim (fun h => h.2) (fun h => h.2)))) (fun h => h))
      have hE283z := Chg.size hE283
      have hx287 := hgp282.old 7 _ rfl rfl
      obtain ⟨_, hx294, rfl⟩ := hgp282.val 1 39 rfl rfl
      obtain ⟨_, hx295, rfl, h296, -⟩ := hgp282.val 5 43 rfl rfl
      obtain ⟨_, hx297, rfl, h298, -⟩ := hgp282.val 7 45 rfl rfl
      obtain ⟨_, hx299, rfl, h300, h301⟩ := hgp282.val 10 48 rfl rfl
      obtain ⟨_, hx302, A144_303, rfl, h304⟩ := hgp282.val 12 50 rfl rfl
      have hbz305 := Box.lt h301
      have hr306 := hgp282.st.rng 5 (hgp282.has 5 rfl)
      have hr307 := hgp282.st.rng 7 (hgp282.has 7 rfl)
      have hr308 := hgp282.st.rng 10 (hgp282.has 10 rfl)
      have hr309 := hgp282.st.rng 12 (hgp282.has 12 rfl)
      have hsp310 := hgp282.st.ord 7 5 (hgp282.has 7 rfl) rfl
      have hsp311 := hgp282.st.ord 10 5 (hgp282.has 10 rfl) rfl
      have hsp312 := hgp282.st.ord 12 5 (hgp282.has 12 rfl) rfl
      have hsp313 := hgp282.st.ord 10 7 (hgp282.has 10 rfl) rfl
      have hsp314 := hgp282.st.ord 12 7 (hgp282.has 12 rfl) rfl
      have hsp315 := hgp282.st.ord 12 10 (hgp282.has 12 rfl) rfl
      have q317 := OwnL.rd good_FeedItem h304
      obtain ⟨nw318, he319, hs320⟩ := RdS.src q317
      refine sd rfl (yl_appendL (S := (fun _ => False)) (lo := w41.heap.size) (hi := u84) (xs := x81) (ys := ([(⟨(i_source_num ((i_OpenSeal p_0).1) (x79, x80)).1, 0, (i_source_text ((i_OpenSeal p_0).1) ((i_source_num ((i_OpenSeal p_0).1) (x79, x80)).2)).1, (i_source_text ((i_OpenSeal p_0).1) ((i_source_take ((i_OpenSeal p_0).1) ((i_source_text ((i_OpenSeal p_0).1) ((i_source_num ((i_OpenSeal p_0).1) (x79, x80)).2)).2) 1).2)).1, ((i_source_take ((i_OpenSeal p_0).1) ((i_source_text ((i_OpenSeal p_0).1) ((i_source_num ((i_OpenSeal p_0).1) (x79, x80)).2)).2) 1).1) == ([1] : Str)⟩ : DFeedItem)] : List DFeedItem)) good_FeedItem un30 ty63 rfl (Nat.le_of_ble_eq_true rfl) rfl hx294 hx302 (OwnL.chg good_FeedItem hf118 hE283 (fun k hl hk => by simp only [InR, or_false] at hk; omega)) he319 hs320 (RdS.len q317) (by first | omega | (simp only [List.length_append, List.length_cons, List.length_nil, List.length_take, List.length_drop, List.length_replicate, List.length_set, toS_length]; omega)) (by first | omega | (simp only [List.length_append, List.length_cons, List.length_nil, List.length_take, List.length_drop, List.length_replicate, List.length_set, toS_length]; omega)) (by omega) (by omega) (fun _ h _ => False.elim h) (by omega) ?_)
      intro A321 c322 w323 row324 hO325 hG326 hrg327
      have hG326z := hG326.size
      refine sd rfl (yl_fieldAddr fd32_2 rfl hx287 (SeqR.u rfl rfl (yl_store (vs := [.slice A321 ((x81 ++ ([(⟨(i_source_num ((i_OpenSeal p_0).1) (x79, x80)).1, 0, (i_source_text ((i_OpenSeal p_0).1) ((i_source_num ((i_OpenSeal p_0).1) (x79, x80)).2)).1, (i_source_text ((i_OpenSeal p_0).1) ((i_source_take ((i_OpenSeal p_0).1) ((i_source_text ((i_OpenSeal p_0).1) ((i_source_num ((i_OpenSeal p_0).1) (x79, x80)).2)).2) 1).2)).1, ((i_source_take ((i_OpenSeal p_0).1) ((i_source_text ((i_OpenSeal p_0).1) ((i_source_num ((i_OpenSeal p_0).1) (x79, x80)).2)).2) 1).1) == ([1] : Str)⟩ : DFeedItem)] : List DFeedItem)).length) c322]) ty30 rfl rfl rfl rfl rfl rfl (Box.grown (Box.chg hf117 hE283 (by have := Box.lt hf117; simp only [InR, or_false]; omega)) hG326 (fun k hk => by have := hrg327 k hk; omega)) (Nat.le_of_ble_eq_true rfl) ?_)))
      intro w330 hB331 hO332
      have hB331 : Box w330 b30 32 [.int .i64 ((i_source_num ((i_OpenSeal p_0).1) (0, false)).1), .int .i64 ((i_source_num ((i_OpenSeal p_0).1) ((i_source_num ((i_OpenSeal p_0).1) (0, false)).2)).1), .slice A321 ((x81 ++ ([(⟨(i_source_num ((i_OpenSeal p_0).1) (x79, x80)).1, 0, (i_source_text ((i_OpenSeal p_0).1) ((i_source_num ((i_OpenSeal p_0).1) (x79, x80)).2)).1, (i_source_text ((i_OpenSeal p_0).1) ((i_source_take ((i_OpenSeal p_0).1) ((i_source_text ((i_OpenSeal p_0).1) ((i_source_num ((i_OpenSeal p_0).1) (x79, x80)).2)).2) 1).2)).1, ((i_source_take ((i_OpenSeal p_0).1) ((i_source_text ((i_OpenSeal p_0).1) ((i_source_num ((i_OpenSeal p_0).1) (x79, x80)).2)).2) 1).1) == ([1] : Str)⟩ : DFeedItem)] : List DFeedItem)).length) c322] := hB331
      have hO332z := hO332.size
      refine SeqR.done (bn (tn (CW.sub (Sub.cons (d := 0) (hgp282.old 0 _ rfl rfl) (Sub.cons (d := 2) (hgp282.old 2 _ rfl rfl) (Sub.cons (d := 6) (hgp282.old 6 _ rfl rfl) (Sub.cons (d := 7) hx287 (Sub.cons (d := 8) (hgp282.old 8 _ rfl rfl) (Sub.cons (d := 30) (hgp282.old 30 _ rfl rfl) (Sub.cons (d := 31) (hgp282.old 31 _ rfl rfl) (Sub.cons (d := 32) (hgp282.old 32 _ rfl rfl) (Sub.cons (d := 33) (hgp282.old 33 _ rfl rfl) (Sub.cons (d := 34) (hgp282.old 34 _ rfl rfl) (Sub.nil _))))))))))) (CW.region (sd rfl (yl_move rfl rfl (sd rfl (yl_sub rfl rfl rfl (sd rfl (yl_assign rfl rfl (SeqR.done ?_)))))))))))
      refine tn ?_
      have hB333 : B_i_ReadDiff_0 p_0 (x78, x79, x80, x81) = .cont (IntKind.wrap .i64 (x78 - 1), ((i_source_text ((i_OpenSeal p_0).1) ((i_source_take ((i_OpenSeal p_0).1) ((i_source_text ((i_OpenSeal p_0).1) ((i_source_num ((i_OpenSeal p_0).1) (x79, x80)).2)).2) 1).2)).2).1, ((i_source_text ((i_OpenSeal p_0).1) ((i_source_take ((i_OpenSeal p_0).1) ((i_source_text ((i_OpenSeal p_0).1) ((i_source_num ((i_OpenSeal p_0).1) (x79, x80)).2)).2) 1).2)).2).2, (x81 ++ ([(⟨(i_source_num ((i_OpenSeal p_0).1) (x79, x80)).1, 0, (i_source_text ((i_OpenSeal p_0).1) ((i_source_num ((i_OpenSeal p_0).1) (x79, x80)).2)).1, (i_source_text ((i_OpenSeal p_0).1) ((i_source_take ((i_OpenSeal p_0).1) ((i_source_text ((i_OpenSeal p_0).1) ((i_source_num ((i_OpenSeal p_0).1) (x79, x80)).2)).2) 1).2)).1, ((i_source_take ((i_OpenSeal p_0).1) ((i_source_text ((i_OpenSeal p_0).1) ((i_source_num ((i_OpenSeal p_0).1) (x79, x80)).2)).2) 1).1) == ([1] : Str)⟩ : DFeedItem)] : List DFeedItem))) := by simp only [B_i_ReadDiff_0, hb13, hb124, hb125, cL]
      have hmu343 : ((IntKind.wrap .i64 (x78 - 1)).toNat) < ((x78).toNat) := by first | omega | assumption | (simp only [wI] at *; omega)
      exact ⟨m104 - 1, by omega, IntKind.wrap .i64 (x78 - 1), ((i_source_text ((i_OpenSeal p_0).1) ((i_source_take ((i_OpenSeal p_0).1) ((i_source_text ((i_OpenSeal p_0).1) ((i_source_num ((i_OpenSeal p_0).1) (x79, x80)).2)).2) 1).2)).2).1, ((i_source_text ((i_OpenSeal p_0).1) ((i_source_take ((i_OpenSeal p_0).1) ((i_source_text ((i_OpenSeal p_0).1) ((i_source_num ((i_OpenSeal p_0).1) (x79, x80)).2)).2) 1).2)).2).2, (x81 ++ ([(⟨(i_source_num ((i_OpenSeal p_0).1) (x79, x80)).1, 0, (i_source_text ((i_OpenSeal p_0).1) ((i_source_num ((i_OpenSeal p_0).1) (x79, x80)).2)).1, (i_source_text ((i_OpenSeal p_0).1) ((i_source_take ((i_OpenSeal p_0).1) ((i_source_text ((i_OpenSeal p_0).1) ((i_source_num ((i_OpenSeal p_0).1) (x79, x80)).2)).2) 1).2)).1, ((i_source_take ((i_OpenSeal p_0).1) ((i_source_text ((i_OpenSeal p_0).1) ((i_source_num ((i_OpenSeal p_0).1) (x79, x80)).2)).2) 1).1) == ([1] : Str)⟩ : DFeedItem)] : List DFeedItem)), A321, c322, w323.heap.size, (by omega), (by omega), rfl, rfl, rfl, rfl, rfl, (Box.only (Box.grown (Box.chg hf115 hE283 (by have := Box.lt hf115; simp only [InR, or_false]; omega)) hG326 (fun k hk => by have := hrg327 k hk; omega)) hO332 (by omega)), (Box.only (Box.grown h301 hG326 (fun k hk => by have := hrg327 k hk; omega)) hO332 (by omega)), hB331, (OwnL.only good_FeedItem hO325 hO332 (by omega)), (Below.only (Below.grown (Ex.chg hf119 hE283 (fun k hk => by simp only [InR, or_false] at hk; omega)) hG326 (by omega) (fun k hk => by have := hrg327 k hk; omega)) hO332 (by omega)), (by omega), (by first | omega | (simp only [List.length_append, List.length_cons, List.length_nil, List.length_set, toS_length]; omega)), (okE.append hok122 ((okL.mk (Nat.le_of_ble_eq_true rfl) (okE.cons ⟨h296, h300⟩ okE.nil))).2), (by first | omega | assumption | (simp only [wI] at *; omega)), (loopW.cont hk107 hB333).symm.trans hI108⟩
   ·have hb124p := dec_f hb124
    refine sz rfl rfl hb124 (sz rfl rfl hb124 (sz rfl rfl hb124 (sz rfl rfl hb124 (sz rfl rfl hb124 (sd rfl (yl_pick_f rfl rfl hb124 rfl (dn (CW.cond_f rfl rfl ?_))))))))
    refine CW.exit (tx (tx ?_))
    have hB345 : B_i_ReadDiff_0 p_0 (x78, x79, x80, x81) = .brk (x78, x79, x80, x81) := by simp only [B_i_ReadDiff_0, hb13, hb124, cL]
    have hL344 : loopW (B_i_ReadDiff_0 p_0) ((((i_source_num ((i_OpenSeal p_0).1) ((i_source_num ((i_OpenSeal p_0).1) ((i_source_num ((i_OpenSeal p_0).1) (0, false)).2)).2)).1).toNat) + 1) ((i_source_num ((i_OpenSeal p_0).1) ((i_source_num ((i_OpenSeal p_0).1) ((i_source_num ((i_OpenSeal p_0).1) (0, false)).2)).2)).1, ((i_source_num ((i_OpenSeal p_0).1) ((i_source_num ((i_OpenSeal p_0).1) ((i_source_num ((i_OpenSeal p_0).1) (0, false)).2)).2)).2).1, ((i_source_num ((i_OpenSeal p_0).1) ((i_source_num ((i_OpenSeal p_0).1) ((i_source_num ((i_OpenSeal p_0).1) (0, false)).2)).2)).2).2, ([] : List DFeedItem)) = .done (x78, x79, x80, x81) := hI108.symm.trans (loopW.brk hk107 hB345)
    refine bx (tn (CW.seq (CW.seq (CW.region (sd rfl (yl_move rfl rfl (sd rfl (yl_nil rfl rfl (sd rfl (yl_fieldAddr fd57_2 rfl rfl (sd rfl (yl_load1 ty4 rfl rfl ((hf116.cell 2).trans rfl) ?_))))))))))))
    refine sd rfl (yl_move rfl rfl (bcase (x80) (fun hb346 => ?_) (fun hb346 => ?_)))
    ·refine sz rfl rfl hb346 (sz rfl rfl hb346 (sz rfl rfl hb346 (sd rfl (yl_pick_t rfl rfl hb346 rfl (sd rfl (yl_move rfl rfl (sz rfl rfl rfl (sz rfl rfl rfl (sz rfl rfl rfl (sz rfl rfl rfl ?_))))))))))
     refine sd rfl (yl_pick_t rfl rfl rfl rfl (dn (CW.cond_t rfl rfl (CW.seq (CW.region (sd rfl (yl_build (cs := [.int .i64 (0), .int .i64 (0), .slice none 0 0]) rfl opvs_nil (by kernel_rfl) (SeqR.u rfl rfl (yl_store (vs := [.int .i64 (0), .int .i64 (0), .slice none 0 0]) ty32 rfl rfl rfl rfl rfl rfl hf115 (Nat.le_of_ble_eq_true rfl) ?_)))))))))
     intro w347 hB348 hO349
     have hB348 : Box w347 b3 32 [.int .i64 (0), .int .i64 (0), .slice none 0 0] := hB348
     have hO349z := hO349.size
     refine sd rfl (yl_assign rfl rfl (dn (CW.ret (tr (rr rfl (.cons ⟨_, rfl, run_loadN ty32 (cs := [.int .i64 (0), .int .i64 (0), .slice none 0 0]) rfl (hB348.cells (n := 3) rfl)⟩ (.cons rfl .nil)) ?_)))))
     have hM350 : (i_ReadDiff p_0) = (((⟨0, 0, []⟩ : DDiff), false)) := by simp only [i_ReadDiff, hb13, hb124, hb346, hL344, cL]
     rw [hM350]
     exact ⟨none, 0, w347.heap.size, w347.heap.size, rfl, (OwnL.nil _ _ _ _ _ _), (okL.nil _), (by omega), (Below.only hf119 hO349 (by omega))⟩
    ·refine sy rfl rfl hb346 (yl_loadN ty32 rfl rfl (hf117.cells (n := 3) rfl) rfl (sy rfl rfl hb346 (yl_call en37 rfl (oc rfl oz) (Cal.mono (c_i_GoodDiff (⟨(i_source_num ((i_OpenSeal p_0).1) (0, false)).1, (i_source_num ((i_OpenSeal p_0).1) ((i_source_num ((i_OpenSeal p_0).1) (0, false)).2)).1, x81⟩ : DDiff) (RdS.up (OwnL.rd good_FeedItem hf118) good_FeedItem) (okL.mk (xs := x81) (by first | omega | (simp only [List.length_append, List.length_cons, List.length_nil, List.length_take, List.length_drop, List.length_replicate, List.length_set, toS_length]; omega)) hok122)) ?_))))
     rintro v354 w353 ⟨rfl, hE355⟩
     have hE355z := Ex.size hE355
     refine sy rfl rfl hb346 (yl_not rfl rfl (sd rfl (yl_pick_f rfl rfl hb346 rfl (sd rfl (yl_move rfl rfl (bcase (i_GoodDiff (⟨(i_source_num ((i_OpenSeal p_0).1) (0, false)).1, (i_source_num ((i_OpenSeal p_0).1) ((i_source_num ((i_OpenSeal p_0).1) (0, false)).2)).1, x81⟩ : DDiff)) (fun hb356 => ?_) (fun hb356 => ?_)))))))
     ·have q357 := Box.ex hf117 hE355
      refine sy rfl rfl (not_t hb356) (yl_loadN ty32 rfl rfl (q357.cells (n := 3) rfl) rfl ?_)
      have q359 := OwnL.ex good_FeedItem hf118 hE355
      refine sy rfl rfl (not_t hb356) (yl_call en38 rfl (oc rfl oz) (Cal.mono (c_i_diffBytes (⟨(i_source_num ((i_OpenSeal p_0).1) (0, false)).1, (i_source_num ((i_OpenSeal p_0).1) ((i_source_num ((i_OpenSeal p_0).1) (0, false)).2)).1, x81⟩ : DDiff) (RdS.up (OwnL.rd good_FeedItem q359) good_FeedItem) (okL.mk (xs := x81) (by first | omega | (simp only [List.length_append, List.length_cons, List.length_nil, List.length_take, List.length_drop, List.length_replicate, List.length_set, toS_length]; omega)) hok122) (by first | omega | assumption | (simp only [wI] at *; omega))) ?_))
      rintro v361 w360 ⟨rfl, hE362⟩
      have hE362z := Ex.size hE362
      refine sy rfl rfl (not_t hb356) (yl_move rfl rfl (sy rfl rfl (not_t hb356) (yl_sneq (a := (i_diffBytes (⟨(i_source_num ((i_OpenSeal p_0).1) (0, false)).1, (i_source_num ((i_OpenSeal p_0).1) ((i_source_num ((i_OpenSeal p_0).1) (0, false)).2)).1, x81⟩ : DDiff))) (b := p_0) rfl rfl rfl (sd rfl (yl_pick_f rfl rfl (not_t hb356) rfl (dn (bcase ((i_diffBytes (⟨(i_source_num ((i_OpenSeal p_0).1) (0, false)).1, (i_source_num ((i_OpenSeal p_0).1) ((i_source_num ((i_OpenSeal p_0).1) (0, false)).2)).1, x81⟩ : DDiff)) == p_0) (fun hb363 => ?_) (fun hb363 => ?_))))))))
      ·refine CW.cond_f rfl (not_t hb363) (CW.skip (tn (CW.seq (CW.region (sd rfl (yl_loadN ty32 rfl rfl ((Box.ex q357 hE362).cells (n := 3) rfl) rfl (SeqR.u rfl rfl (yl_store (vs := [.int .i64 ((i_source_num ((i_OpenSeal p_0).1) (0, false)).1), .int .i64 ((i_source_num ((i_OpenSeal p_0).1) ((i_source_num ((i_OpenSeal p_0).1) (0, false)).2)).1), .slice A82 x81.length c83]) ty32 rfl rfl rfl rfl rfl rfl (Box.ex (Box.ex hf115 hE355) hE362) (Nat.le_of_ble_eq_true rfl) ?_))))))))
       intro w367 hB368 hO369
       have hB368 : Box w367 b3 32 [.int .i64 ((i_source_num ((i_OpenSeal p_0).1) (0, false)).1), .int .i64 ((i_source_num ((i_OpenSeal p_0).1) ((i_source_num ((i_OpenSeal p_0).1) (0, false)).2)).1), .slice A82 x81.length c83] := hB368
       have hO369z := hO369.size
       refine sd rfl (yl_assign rfl rfl (dn (CW.ret (rr rfl (.cons ⟨_, rfl, run_loadN ty32 (cs := [.int .i64 ((i_source_num ((i_OpenSeal p_0).1) (0, false)).1), .int .i64 ((i_source_num ((i_OpenSeal p_0).1) ((i_source_num ((i_OpenSeal p_0).1) (0, false)).2)).1), .slice A82 x81.length c83]) rfl (hB368.cells (n := 3) rfl)⟩ (.cons rfl .nil)) ?_))))
       have hM370 : (i_ReadDiff p_0) = (((⟨(i_source_num ((i_OpenSeal p_0).1) (0, false)).1, (i_source_num ((i_OpenSeal p_0).1) ((i_source_num ((i_OpenSeal p_0).1) (0, false)).2)).1, x81⟩ : DDiff), true)) := by simp only [i_ReadDiff, hb13, hb124, hb346, hb356, hb363, hL344, cL]
       rw [hM370]
       exact ⟨A82, c83, w41.heap.size, u84, rfl, (OwnL.only good_FeedItem (OwnL.ex good_FeedItem q359 hE362) hO369 (by omega)), (okL.mk (xs := x81) (by first | omega | (simp only [List.length_append, List.length_cons, List.length_nil, List.length_take, List.length_drop, List.length_replicate, List.length_set, toS_length]; omega)) hok122), (by omega), (Below.only (Ex.trans (Ex.trans hf119 hE355) hE362) hO369 (by omega))⟩
      ·refine CW.cond_t rfl (not_f hb363) (CW.seq (CW.region (sd rfl (yl_build (cs := [.int .i64 (0), .int .i64 (0), .slice none 0 0]) rfl opvs_nil (by kernel_rfl) (SeqR.u rfl rfl (yl_store (vs := [.int .i64 (0), .int .i64 (0), .slice none 0 0]) ty32 rfl rfl rfl rfl rfl rfl (Box.ex (Box.ex hf115 hE355) hE362) (Nat.le_of_ble_eq_true rfl) ?_))))))
       intro w378 hB379 hO380
       have hB379 : Box w378 b3 32 [.int .i64 (0), .int .i64 (0), .slice none 0 0] := hB379
       have hO380z := hO380.size
       refine sd rfl (yl_assign rfl rfl (dn (CW.ret (tr (rr rfl (.cons ⟨_, rfl, run_loadN ty32 (cs := [.int .i64 (0), .int .i64 (0), .slice none 0 0]) rfl (hB379.cells (n := 3) rfl)⟩ (.cons rfl .nil)) ?_)))))
       have hM381 : (i_ReadDiff p_0) = (((⟨0, 0, []⟩ : DDiff), false)) := by simp only [i_ReadDiff, hb13, hb124, hb346, hb356, hb363, hL344, cL]
       rw [hM381]
       exact ⟨none, 0, w378.heap.size, w378.heap.size, rfl, (OwnL.nil _ _ _ _ _ _), (okL.nil _), (by omega), (Below.only (Ex.trans (Ex.trans hf119 hE355) hE362) hO380 (by omega))⟩
     ·refine sz rfl rfl (not_f hb356) (sz rfl rfl (not_f hb356) (sz rfl rfl (not_f hb356) (sz rfl rfl (not_f hb356) (sd rfl (yl_pick_t rfl rfl (not_f hb356) rfl (dn (CW.cond_t rfl rfl (CW.seq ?_))))))))
      refine CW.region (sd rfl (yl_build (cs := [.int .i64 (0), .int .i64 (0), .slice none 0 0]) rfl opvs_nil (by kernel_rfl) (SeqR.u rfl rfl (yl_store (vs := [.int .i64 (0), .int .i64 (0), .slice none 0 0]) ty32 rfl rfl rfl rfl rfl rfl (Box.ex hf115 hE355) (Nat.le_of_ble_eq_true rfl) ?_))))
      intro w386 hB387 hO388
      have hB387 : Box w386 b3 32 [.int .i64 (0), .int .i64 (0), .slice none 0 0] := hB387
      have hO388z := hO388.size
      refine sd rfl (yl_assign rfl rfl (dn (CW.ret (tr (rr rfl (.cons ⟨_, rfl, run_loadN ty32 (cs := [.int .i64 (0), .int .i64 (0), .slice none 0 0]) rfl (hB387.cells (n := 3) rfl)⟩ (.cons rfl .nil)) ?_)))))
      have hM389 : (i_ReadDiff p_0) = (((⟨0, 0, []⟩ : DDiff), false)) := by simp only [i_ReadDiff, hb13, hb124, hb346, hb356, hL344, cL]
      rw [hM389]
      exact ⟨none, 0, w386.heap.size, w386.heap.size, rfl, (OwnL.nil _ _ _ _ _ _), (okL.nil _), (by omega), (Below.only (Ex.trans hf119 hE355) hO388 (by omega))⟩
 ·refine CW.cond_t rfl (not_f hb13) (CW.seq (CW.region (sd rfl (yl_build (cs := [.int .i64 (0), .int .i64 (0), .slice none 0 0]) rfl opvs_nil (by kernel_rfl) (SeqR.u rfl rfl (yl_store (vs := [.int .i64 (0), .int .i64 (0), .slice none 0 0]) ty32 rfl rfl rfl rfl rfl rfl (Box.ex hB7 hE12) (Nat.le_of_ble_eq_true rfl) ?_))))))
  intro w393 hB394 hO395
  have hB394 : Box w393 b3 32 [.int .i64 (0), .int .i64 (0), .slice none 0 0] := hB394
  have hO395z := hO395.size
  refine sd rfl (yl_assign rfl rfl (dn (CW.ret (tr (rr rfl (.cons ⟨_, rfl, run_loadN ty32 (cs := [.int .i64 (0), .int .i64 (0), .slice none 0 0]) rfl (hB394.cells (n := 3) rfl)⟩ (.cons rfl .nil)) ?_)))))
  have hM396 : (i_ReadDiff p_0) = (((⟨0, 0, []⟩ : DDiff), false)) := by simp only [i_ReadDiff, hb13, cL]
  rw [hM396]
  exact ⟨none, 0, w393.heap.size, w393.heap.size, rfl, (OwnL.nil _ _ _ _ _ _), (okL.nil _), (by omega), (Below.only (Ex.trans (Ex.trans (Ex.refl w) hE8) hE12) hO395 (by omega))⟩
theorem c_l_eqFeedItem {w : World} (p_a : DFeedItem) (p_b : DFeedItem) : Cal Try.prog 68 #[.agg #[.int .i64 (p_a.Time), .int .i64 (p_a.Group), .string (bs (p_a.Key)), .string (bs (p_a.Val)), .bool (p_a.Gone)], .agg #[.int .i64 (p_b.Time), .int .i64 (p_b.Group), .string (bs (p_b.Key)), .string (bs (p_b.Val)), .bool (p_b.Gone)]] w fun v w' => v = .bool ((l_eqFeedItem p_a p_b)) ∧ Ex w w' := by
 refine Cal.of func68 rfl ntmps68 rfl (CW.seq (CW.region (sd rfl (yl_box rfl rfl rfl ?_))))
 intro b1 w2 hs3 hz4 hB5 hE6
 refine sd rfl (yl_box rfl rfl rfl ?_)
 intro b7 w8 hs9 hz10 hB11 hE12
 refine sd rfl (yl_assign rfl rfl (dn (CW.seq (CW.seq (CW.region (sd rfl (yl_fieldAddr fd63_0 rfl rfl ?_)))))))
 have q13 := Box.ex hB5 hE12
 refine sd rfl (yl_load1 ty3 rfl rfl ((q13.cell 0).trans rfl) (sd rfl (yl_fieldAddr fd63_0 rfl rfl (sd rfl (yl_load1 ty3 rfl rfl ((hB11.cell 0).trans rfl) (sd rfl (yl_neq rfl rfl rfl (dn (bcase (decide (p_a.Time = p_b.Time)) (fun hb14 => ?_) (fun hb14 => ?_))))))))))
 ·have hb14p := dec_t hb14
  refine CW.cond_f rfl (not_t hb14) (CW.skip (tn (CW.seq (CW.seq (CW.region (sd rfl (yl_fieldAddr fd63_1 rfl rfl (sd rfl (yl_load1 ty3 rfl rfl ((q13.cell 1).trans rfl) (sd rfl (yl_fieldAddr fd63_1 rfl rfl ?_)))))))))))
  refine sd rfl (yl_load1 ty3 rfl rfl ((hB11.cell 1).trans rfl) (sd rfl (yl_neq rfl rfl rfl (dn (bcase (decide (p_a.Group = p_b.Group)) (fun hb15 => ?_) (fun hb15 => ?_))))))
  ·have hb15p := dec_t hb15
   refine CW.cond_f rfl (not_t hb15) (CW.skip (tn (CW.seq (CW.seq (CW.region (sd rfl (yl_fieldAddr fd63_2 rfl rfl (sd rfl (yl_load1 ty9 rfl rfl ((q13.cell 2).trans rfl) (sd rfl (yl_fieldAddr fd63_2 rfl rfl ?_)))))))))))
   refine sd rfl (yl_load1 ty9 rfl rfl ((hB11.cell 2).trans rfl) (sd rfl (yl_sneq (a := p_a.Key) (b := p_b.Key) rfl rfl rfl (dn (bcase (p_a.Key == p_b.Key) (fun hb16 => ?_) (fun hb16 => ?_))))))
   ·refine CW.cond_f rfl (not_t hb16) (CW.skip (tn (CW.seq (CW.seq (CW.region (sd rfl (yl_fieldAddr fd63_3 rfl rfl (sd rfl (yl_load1 ty9 rfl rfl ((q13.cell 3).trans rfl) (sd rfl (yl_fieldAddr fd63_3 rfl rfl ?_)))))))))))
    refine sd rfl (yl_load1 ty9 rfl rfl ((hB11.cell 3).trans rfl) (sd rfl (yl_sneq (a := p_a.Val) (b := p_b.Val) rfl rfl rfl (dn (bcase (p_a.Val == p_b.Val) (fun hb17 => ?_) (fun hb17 => ?_))))))
    ·refine CW.cond_f rfl (not_t hb17) (CW.skip (tn (CW.seq (CW.seq (CW.region (sd rfl (yl_fieldAddr fd63_4 rfl rfl (sd rfl (yl_load1 ty4 rfl rfl ((q13.cell 4).trans rfl) (sd rfl (yl_fieldAddr fd63_4 rfl rfl ?_)))))))))))
     refine sd rfl (yl_load1 ty4 rfl rfl ((hB11.cell 4).trans rfl) (sd rfl (yl_bneq un4 rfl rfl rfl (dn (bcase (p_a.Gone == p_b.Gone) (fun hb18 => ?_) (fun hb18 => ?_))))))
     ·refine CW.cond_f rfl (not_t hb18) (CW.skip (tn (CW.seq (CW.region (sd rfl (yl_assign rfl rfl (dn (CW.ret ?_))))))))
      refine rr rfl (.cons rfl .nil) ?_
      have hM19 : (l_eqFeedItem p_a p_b) = (true) := by simp only [l_eqFeedItem, hb14, hb15, hb16, hb17, hb18, cL]
      rw [hM19]
      exact ⟨rfl, (Ex.trans (Ex.trans (Ex.refl w) hE6) hE12)⟩
     ·refine CW.cond_t rfl (not_f hb18) (CW.seq (CW.region (sd rfl (yl_assign rfl rfl (dn (CW.ret (tr (rr rfl (.cons rfl .nil) ?_))))))))
      have hM22 : (l_eqFeedItem p_a p_b) = (false) := by simp only [l_eqFeedItem, hb14, hb15, hb16, hb17, hb18, cL]
      rw [hM22]
      exact ⟨rfl, (Ex.trans (Ex.trans (Ex.refl w) hE6) hE12)⟩
    ·refine CW.cond_t rfl (not_f hb17) (CW.seq (CW.region (sd rfl (yl_assign rfl rfl (dn (CW.ret (tr (rr rfl (.cons rfl .nil) ?_))))))))
     have hM25 : (l_eqFeedItem p_a p_b) = (false) := by simp only [l_eqFeedItem, hb14, hb15, hb16, hb17, cL]
     rw [hM25]
     exact ⟨rfl, (Ex.trans (Ex.trans (Ex.refl w) hE6) hE12)⟩
   ·refine CW.cond_t rfl (not_f hb16) (CW.seq (CW.region (sd rfl (yl_assign rfl rfl (dn (CW.ret (tr (rr rfl (.cons rfl .nil) ?_))))))))
    have hM28 : (l_eqFeedItem p_a p_b) = (false) := by simp only [l_eqFeedItem, hb14, hb15, hb16, cL]
    rw [hM28]
    exact ⟨rfl, (Ex.trans (Ex.trans (Ex.refl w) hE6) hE12)⟩
  ·have hb15p := dec_f hb15
   refine CW.cond_t rfl (not_f hb15) (CW.seq (CW.region (sd rfl (yl_assign rfl rfl (dn (CW.ret (tr (rr rfl (.cons rfl .nil) ?_))))))))
   have hM31 : (l_eqFeedItem p_a p_b) = (false) := by simp only [l_eqFeedItem, hb14, hb15, cL]
   rw [hM31]
   exact ⟨rfl, (Ex.trans (Ex.trans (Ex.refl w) hE6) hE12)⟩
 ·have hb14p := dec_f hb14
  refine CW.cond_t rfl (not_f hb14) (CW.seq (CW.region (sd rfl (yl_assign rfl rfl (dn (CW.ret (tr (rr rfl (.cons rfl .nil) ?_))))))))
  have hM34 : (l_eqFeedItem p_a p_b) = (false) := by simp only [l_eqFeedItem, hb14, cL]
  rw [hM34]
  exact ⟨rfl, (Ex.trans (Ex.trans (Ex.refl w) hE6) hE12)⟩
theorem c_l_eqFeedItemS {A1 : Option Addr} {c1 : Nat} {A2 : Option Addr} {c2 : Nat} {w : World} (p_a : List DFeedItem) (p_b : List DFeedItem) (h1 : RdS w (Iv 0 w.heap.size) (RF e_FeedItem) 5 A1 p_a.length c1 p_a) (h2 : RdS w (Iv 0 w.heap.size) (RF e_FeedItem) 5 A2 p_b.length c2 p_b) : Cal Try.prog 39 #[.slice A1 p_a.length c1, .slice A2 p_b.length c2] w fun v w' => v = .bool ((l_eqFeedItemS p_a p_b)) ∧ Ex w w' := by
 refine Cal.of func39 rfl ntmps39 rfl (CW.seq (CW.region (sd rfl (yl_assign rfl rfl (dn (CW.seq (CW.seq (CW.region ?_))))))))
 refine sd rfl (yl_move rfl rfl (sd rfl (yl_len un30 rfl rfl (sd rfl (yl_move rfl rfl (sd rfl (yl_len un30 rfl rfl (sd rfl (yl_neq rfl rfl rfl (dn (bcase (decide ((p_a.length : Int) = (p_b.length : Int))) (fun hb3 => ?_) (fun hb3 => ?_))))))))))))
 ·have hb3p := dec_t hb3
  refine CW.cond_f rfl (not_t hb3) (CW.skip (tn (CW.seq (CW.seq (CW.region (sd rfl (yl_assign rfl rfl (dn ?_))))))))
  refine CW.block (CW.loop (fun m5 L6 w7 => ∃ (k4 : Nat), m5 = p_a.length - k4 ∧ k4 ≤ p_a.length ∧ w.heap.size ≤ w7.heap.size ∧ lkp L6 0 = some (.slice A1 p_a.length c1) ∧ lkp L6 1 = some (.slice A2 p_b.length c2) ∧ lkp L6 5 = some (.int .i64 ((k4 : Int))) ∧ RdS w7 (Iv 0 w.heap.size) (RF e_FeedItem) 5 A1 p_a.length c1 p_a ∧ RdS w7 (Iv 0 w.heap.size) (RF e_FeedItem) 5 A2 p_b.length c2 p_b ∧ Ex w w7 ∧ loopM (B_l_eqFeedItemS_0 p_a p_b) (p_a.length - k4) k4 () = loopM (B_l_eqFeedItemS_0 p_a p_b) (p_a.length - 0) 0 ()) (p_a.length - 0) ?_ ?_)
  ·exact ⟨0, rfl, (by omega), Nat.le_refl _, rfl, rfl, rfl, h1, h2, (Ex.refl w), rfl⟩
  ·rintro m8 L9 w10 ⟨k4, rfl, hk11, hsz13, hl14, hl15, hl16, hf17, hf18, hf19, hI12⟩
   refine CW.sub (Sub.cons hl14 (Sub.cons hl15 (Sub.cons hl16 (Sub.nil _)))) ?_
   have hf19z := Ex.size hf19
   have hbg20 := RdS.big hf17
   rcases Nat.lt_or_ge k4 p_a.length with hlt21 | hlt21
   ·refine CW.seq (CW.seq (CW.region (sd rfl (yl_move rfl rfl (sd rfl (yl_move rfl rfl (sd rfl (yl_len un30 rfl rfl (sd rfl (yl_lss rfl rfl rfl (dn ?_)))))))))))
    refine CW.cond_t rfl (lt_t hlt21) (CW.skip (tn (CW.seq (CW.block (CW.seq ?_)))))
    obtain ⟨eb22, eo22, _, eA22, _, ebl22, _, eR22, eC22⟩ := RdS.aD hf17 d_FeedItem (i := k4)
    obtain rfl := eR22
    have eC22 : Cells w10 eb22 (eo22 + k4 * 5) [.int .i64 ((p_a.getD k4 d_FeedItem).Time), .int .i64 ((p_a.getD k4 d_FeedItem).Group), .string (bs ((p_a.getD k4 d_FeedItem).Key)), .string (bs ((p_a.getD k4 d_FeedItem).Val)), .bool ((p_a.getD k4 d_FeedItem).Gone)] := eC22
    obtain ⟨eb23, eo23, _, eA23, _, ebl23, _, eR23, eC23⟩ := RdS.aD hf18 d_FeedItem (i := k4)
    obtain rfl := eR23
    have eC23 : Cells w10 eb23 (eo23 + k4 * 5) [.int .i64 ((p_b.getD k4 d_FeedItem).Time), .int .i64 ((p_b.getD k4 d_FeedItem).Group), .string (bs ((p_b.getD k4 d_FeedItem).Key)), .string (bs ((p_b.getD k4 d_FeedItem).Val)), .bool ((p_b.getD k4 d_FeedItem).Gone)] := eC23
    refine CW.drawsI 10 (vgetI ([.slice A1 p_a.length c1, .int .i64 ((k4 : Int)), .pointer (some ⟨eb22, eo22 + k4 * 5, none⟩), .agg #[.int .i64 ((p_a.getD k4 d_FeedItem).Time), .int .i64 ((p_a.getD k4 d_FeedItem).Group), .string (bs ((p_a.getD k4 d_FeedItem).Key)), .string (bs ((p_a.getD k4 d_FeedItem).Val)), .bool ((p_a.getD k4 d_FeedItem).Gone)], .slice A2 p_b.length c2, .int .i64 ((k4 : Int)), .pointer (some ⟨eb23, eo23 + k4 * 5, none⟩), .agg #[.int .i64 ((p_b.getD k4 d_FeedItem).Time), .int .i64 ((p_b.getD k4 d_FeedItem).Group), .string (bs ((p_b.getD k4 d_FeedItem).Key)), .string (bs ((p_b.getD k4 d_FeedItem).Val)), .bool ((p_b.getD k4 d_FeedItem).Gone)], .bool ((l_eqFeedItem (p_a.getD k4 d_FeedItem) (p_b.getD k4 d_FeedItem))), .bool (!(l_eqFeedItem (p_a.getD k4 d_FeedItem) (p_b.getD k4 d_FeedItem)))].map DetI)) Try.follows rfl rfl rfl rfl rfl rfl (vgetI_stable (stD _)) ⟨?_, ?_, ?_, ?_, ?_, ?_, ?_, ?_, ?_, ?_, trivial⟩ ?_
    ·exact oI rfl fun h => yl_move rfl (h.old 0 _ rfl rfl) kI
    ·exact oI rfl fun h => yl_move rfl (h.old 5 _ rfl rfl) kI
    ·intro L35 w36 hi37
     have hE38 := hi37.ex
     have hE38z := Ex.size hE38
     exact os rfl ((yl_ixN un30 ty63 rfl (hi37.dt 0 17 rfl rfl rfl) (hi37.dt 1 18 rfl rfl rfl) eA22 kI))
    ·exact oI rfl fun h => yl_loadN ty63 rfl (h.dt 2 19 rfl rfl rfl) (Cells.ex eC22 h.ex) rfl kI
    ·exact oI rfl fun h => yl_move rfl (h.old 1 _ rfl rfl) kI
    ·exact oI rfl fun h => yl_move rfl (h.old 5 _ rfl rfl) kI
    ·intro L57 w58 hi59
     have hE60 := hi59.ex
     have hE60z := Ex.size hE60
     exact os rfl ((yl_ixN un30 ty63 rfl (hi59.dt 4 21 rfl rfl rfl) (hi59.dt 5 22 rfl rfl rfl) eA23 kI))
    ·exact oI rfl fun h => yl_loadN ty63 rfl (h.dt 6 23 rfl rfl rfl) (Cells.ex eC23 h.ex) rfl kI
    ·intro L69 w70 hi71
     exact OpR.op' rfl (yl_call en68 rfl (oc (hi71.dt 3 20 rfl rfl rfl) (oc (hi71.dt 7 24 rfl rfl rfl) oz)) (Cal.mono (c_l_eqFeedItem (p_a.getD k4 d_FeedItem) (p_b.getD k4 d_FeedItem)) fun _ _ h => h))
    ·exact oI rfl fun h => yl_not rfl (h.dt 8 25 rfl rfl rfl) kI
    ·intro fl86 fh87 L83 w84 hp85
     have hE88 := hp85.ex
     have hE88z := Ex.size hE88
     refine dn (CW.sub (Sub.cons (d := 0) (hp85.old 0 _ rfl rfl) (Sub.cons (d := 1) (hp85.old 1 _ rfl rfl) (Sub.cons (d := 5) (hp85.old 5 _ rfl rfl) (Sub.cons (d := 26) (hp85.nt 9 26 rfl rfl rfl) (Sub.nil _))))) (bcase (l_eqFeedItem (p_a.getD k4 d_FeedItem) (p_b.getD k4 d_FeedItem)) (fun hb93 => ?_) (fun hb93 => ?_)))
     ·refine CW.cond_f rfl (not_t hb93) (CW.skip (bn (tn (CW.region (sd rfl (yl_move rfl rfl (sd rfl (yl_inc rfl rfl rfl (by omega) (sd rfl (yl_assign rfl rfl (SeqR.done ?_)))))))))))
      refine tn ?_
      have hB94 : B_l_eqFeedItemS_0 p_a p_b k4 () = .cont () := by simp only [B_l_eqFeedItemS_0, hb3, hb93, cL]
      exact ⟨p_a.length - (k4 + 1), by omega, k4 + 1, rfl, hlt21, (by omega), rfl, rfl, rfl, (RdS.ex good_FeedItem hf17 hE88), (RdS.ex good_FeedItem hf18 hE88), (Ex.trans hf19 hE88), (loopM.cont hlt21 hB94).symm.trans hI12⟩
     ·refine CW.cond_t rfl (not_f hb93) (CW.seq (CW.region (sd rfl (yl_assign rfl rfl (dn (CW.ret (br (tr ?_))))))))
      refine tr ?_
      have hB99 : B_l_eqFeedItemS_0 p_a p_b k4 () = .ret false := by simp only [B_l_eqFeedItemS_0, hb3, hb93, cL]
      have hL98 : loopM (B_l_eqFeedItemS_0 p_a p_b) (p_a.length - 0) 0 () = .ret false := hI12.symm.trans (loopM.ret hlt21 hB99)
      refine br (tr (rr rfl (.cons rfl .nil) ?_))
      have hM100 : (l_eqFeedItemS p_a p_b) = (false) := by simp only [l_eqFeedItemS, hb3, hb93, hL98, cL]
      rw [hM100]
      exact ⟨rfl, (Ex.trans hf19 hE88)⟩
   ·refine CW.seq (CW.seq (CW.region (sd rfl (yl_move rfl rfl (sd rfl (yl_move rfl rfl (sd rfl (yl_len un30 rfl rfl (sd rfl (yl_lss rfl rfl rfl (dn ?_)))))))))))
    refine CW.cond_f rfl (lt_f hlt21) (CW.exit (tx (tx ?_)))
    have hL102 : loopM (B_l_eqFeedItemS_0 p_a p_b) (p_a.length - 0) 0 () = .done () := hI12.symm.trans (loopM.stop hlt21)
    refine bx (tn (CW.seq (CW.region (sd rfl (yl_assign rfl rfl (dn (CW.ret (rr rfl (.cons rfl .nil) ?_))))))))
    have hM103 : (l_eqFeedItemS p_a p_b) = (true) := by simp only [l_eqFeedItemS, hb3, hL102, cL]
    rw [hM103]
    exact ⟨rfl, hf19⟩
 ·have hb3p := dec_f hb3
  refine CW.cond_t rfl (not_f hb3) (CW.seq (CW.region (sd rfl (yl_assign rfl rfl (dn (CW.ret (tr (rr rfl (.cons rfl .nil) ?_))))))))
  have hM104 : (l_eqFeedItemS p_a p_b) = (false) := by simp only [l_eqFeedItemS, hb3, cL]
  rw [hM104]
  exact ⟨rfl, (Ex.refl w)⟩
theorem c_l_eqDiff {A1 : Option Addr} {c1 : Nat} {A2 : Option Addr} {c2 : Nat} {w : World} (p_a : DDiff) (p_b : DDiff) (h1 : RdS w (Iv 0 w.heap.size) (RF e_FeedItem) 5 A1 p_a.List.length c1 p_a.List) (h2 : RdS w (Iv 0 w.heap.size) (RF e_FeedItem) 5 A2 p_b.List.length c2 p_b.List) : Cal Try.prog 13 #[.agg #[.int .i64 (p_a.From), .int .i64 (p_a.To), .slice A1 p_a.List.length c1], .agg #[.int .i64 (p_b.From), .int .i64 (p_b.To), .slice A2 p_b.List.length c2]] w fun v w' => v = .bool ((l_eqDiff p_a p_b)) ∧ Ex w w' := by
 refine Cal.of func13 rfl ntmps13 rfl (CW.seq (CW.region (sd rfl (yl_box rfl rfl rfl ?_))))
 intro b3 w4 hs5 hz6 hB7 hE8
 refine sd rfl (yl_box rfl rfl rfl ?_)
 intro b9 w10 hs11 hz12 hB13 hE14
 refine sd rfl (yl_assign rfl rfl (dn (CW.seq (CW.seq (CW.region (sd rfl (yl_fieldAddr fd32_0 rfl rfl ?_)))))))
 have q15 := Box.ex hB7 hE14
 refine sd rfl (yl_load1 ty3 rfl rfl ((q15.cell 0).trans rfl) (sd rfl (yl_fieldAddr fd32_0 rfl rfl (sd rfl (yl_load1 ty3 rfl rfl ((hB13.cell 0).trans rfl) (sd rfl (yl_neq rfl rfl rfl (dn (bcase (decide (p_a.From = p_b.From)) (fun hb16 => ?_) (fun hb16 => ?_))))))))))
 ·have hb16p := dec_t hb16
  refine CW.cond_f rfl (not_t hb16) (CW.skip (tn (CW.seq (CW.seq (CW.region (sd rfl (yl_fieldAddr fd32_1 rfl rfl (sd rfl (yl_load1 ty3 rfl rfl ((q15.cell 1).trans rfl) (sd rfl (yl_fieldAddr fd32_1 rfl rfl ?_)))))))))))
  refine sd rfl (yl_load1 ty3 rfl rfl ((hB13.cell 1).trans rfl) (sd rfl (yl_neq rfl rfl rfl (dn (bcase (decide (p_a.To = p_b.To)) (fun hb17 => ?_) (fun hb17 => ?_))))))
  ·have hb17p := dec_t hb17
   refine CW.cond_f rfl (not_t hb17) (CW.skip (tn (CW.seq (CW.seq (CW.region (sd rfl (yl_fieldAddr fd32_2 rfl rfl (sd rfl (yl_load1 ty30 rfl rfl ((q15.cell 2).trans rfl) (sd rfl (yl_fieldAddr fd32_2 rfl rfl ?_)))))))))))
   refine sd rfl (yl_load1 ty30 rfl rfl ((hB13.cell 2).trans rfl) (sd rfl (yl_call en39 rfl (oc rfl (oc rfl oz)) (Cal.mono (c_l_eqFeedItemS p_a.List p_b.List (RdS.up (RdS.ex good_FeedItem (RdS.ex good_FeedItem h1 hE8) hE14) good_FeedItem) (RdS.up (RdS.ex good_FeedItem (RdS.ex good_FeedItem h2 hE8) hE14) good_FeedItem)) ?_))))
   rintro v23 w22 ⟨rfl, hE24⟩
   refine sd rfl (yl_not rfl rfl (dn (bcase (l_eqFeedItemS p_a.List p_b.List) (fun hb25 => ?_) (fun hb25 => ?_))))
   ·refine CW.cond_f rfl (not_t hb25) (CW.skip (tn (CW.seq (CW.region (sd rfl (yl_assign rfl rfl (dn (CW.ret ?_))))))))
    refine rr rfl (.cons rfl .nil) ?_
    have hM26 : (l_eqDiff p_a p_b) = (true) := by simp only [l_eqDiff, hb16, hb17, hb25, cL]
    rw [hM26]
    exact ⟨rfl, (Ex.trans (Ex.trans (Ex.trans (Ex.refl w) hE8) hE14) hE24)⟩
   ·refine CW.cond_t rfl (not_f hb25) (CW.seq (CW.region (sd rfl (yl_assign rfl rfl (dn (CW.ret (tr (rr rfl (.cons rfl .nil) ?_))))))))
    have hM30 : (l_eqDiff p_a p_b) = (false) := by simp only [l_eqDiff, hb16, hb17, hb25, cL]
    rw [hM30]
    exact ⟨rfl, (Ex.trans (Ex.trans (Ex.trans (Ex.refl w) hE8) hE14) hE24)⟩
  ·have hb17p := dec_f hb17
   refine CW.cond_t rfl (not_f hb17) (CW.seq (CW.region (sd rfl (yl_assign rfl rfl (dn (CW.ret (tr (rr rfl (.cons rfl .nil) ?_))))))))
   have hM34 : (l_eqDiff p_a p_b) = (false) := by simp only [l_eqDiff, hb16, hb17, cL]
   rw [hM34]
   exact ⟨rfl, (Ex.trans (Ex.trans (Ex.refl w) hE8) hE14)⟩
 ·have hb16p := dec_f hb16
  refine CW.cond_t rfl (not_f hb16) (CW.seq (CW.region (sd rfl (yl_assign rfl rfl (dn (CW.ret (tr (rr rfl (.cons rfl .nil) ?_))))))))
  have hM37 : (l_eqDiff p_a p_b) = (false) := by simp only [l_eqDiff, hb16, cL]
  rw [hM37]
  exact ⟨rfl, (Ex.trans (Ex.trans (Ex.refl w) hE8) hE14)⟩
theorem c_l_markText {w : World} (p_k : Int) (pre0 : p_k ≤ 9223372036854775807) : Cal Try.prog 49 #[.int .i64 (p_k)] w fun v w' => v = .string (bs ((l_markText p_k))) ∧ Ex w w' := by
 refine Cal.of func49 rfl ntmps49 rfl (CW.seq (CW.region (sd rfl (yl_assign rfl rfl (dn (CW.seq (CW.seq (CW.region ?_))))))))
 refine sd rfl (yl_move rfl rfl (sd rfl (yl_leq rfl rfl rfl (dn (bcase (decide (p_k ≤ 0)) (fun hb1 => ?_) (fun hb1 => ?_))))))
 ·have hb1p := dec_t hb1
  refine CW.cond_t rfl hb1 (CW.seq (CW.region (sd rfl (yl_assign rfl rfl (dn (CW.ret (tr (rr rfl (.cons rfl .nil) ?_))))))))
  have hM2 : (l_markText p_k) = (([109, 48] : Str)) := by simp only [l_markText, hb1, cL]
  rw [hM2]
  exact ⟨rfl, (Ex.refl w)⟩
 ·have hb1p := dec_f hb1
  refine CW.cond_f rfl hb1 (CW.skip (tn (CW.seq (CW.region (sd rfl (yl_assign rfl rfl (dn (CW.seq ?_))))))))
  refine CW.block (CW.loop (fun m18 L19 w20 => ∃ (x16 : Int) (x17 : Str), (((x16).toNat + 1) / 2) < m18 ∧ w.heap.size ≤ w20.heap.size ∧ lkp L19 0 = some (.int .i64 (x16)) ∧ lkp L19 3 = some (.string (bs (x17))) ∧ Ex w w20 ∧ x17.length + 1 * (((x16).toNat + 1) / 2) ≤ 0 + 1 * (((p_k).toNat + 1) / 2) ∧ x16 ≤ 9223372036854775807 ∧ loopW (B_l_markText_0 p_k) m18 (x16, x17) = loopW (B_l_markText_0 p_k) ((((p_k).toNat + 1) / 2) + 1) (p_k, ([] : Str))) ((((p_k).toNat + 1) / 2) + 1) ?_ ?_)
  ·exact ⟨p_k, ([] : Str), Nat.lt_succ_self _, Nat.le_refl _, rfl, rfl, (Ex.refl w), (by first | (simp; done) | (first | omega | (simp only [List.length_append, List.length_cons, List.length_nil, List.length_set, toS_length]; omega))), (by first | omega | assumption | (simp only [wI] at *; omega)), rfl⟩
  ·rintro m21 L22 w23 ⟨x16, x17, hk24, hsz26, hl27, hl28, hf29, hln30, hv31, hI25⟩
   refine CW.sub (Sub.cons hl27 (Sub.cons hl28 (Sub.nil _))) ?_
   have hf29z := Ex.size hf29
   refine CW.seq (CW.seq (CW.region (sd rfl (yl_move rfl rfl (sd rfl (yl_gtr rfl rfl rfl (dn (bcase (decide (0 < x16)) (fun hb32 => ?_) (fun hb32 => ?_)))))))))
   ·have hb32p := dec_t hb32
    refine CW.cond_t rfl hb32 (CW.skip (tn (CW.block (CW.seq (CW.region (sd rfl (yl_move rfl rfl (sd rfl (yl_rem rfl rfl rfl (by decide) (sd rfl (yl_add rfl rfl rfl ?_)))))))))))
    refine sd rfl (yl_conv un3 un5 rfl rfl (sd rfl (yl_buildSlice (cs := [.int .u8 (IntKind.wrap .u8 (IntKind.wrap .i64 (48 + (Int.tmod x16 10))))]) un101 ty5 (by decide) rfl (oc rfl oz) (by kernel_rfl) ?_)))
    intro b33 w34 hs35 hz36 hB37 hE38
    have hO39 : OwnL w34 b33 (b33 + 1) 5 1 (RF e_U8) (some ⟨b33, 0, none⟩) 1 1 ([IntKind.wrap .u8 (IntKind.wrap .i64 (48 + (Int.tmod x16 10)))] : List Int) := OwnL.of_box (S := fun _ => False) hB37 (Nat.le_refl _) (Nat.lt_succ_self _) (EncL.cons (c := [.int .u8 (IntKind.wrap .u8 (IntKind.wrap .i64 (48 + (Int.tmod x16 10))))]) rfl rfl EncL.nil) (Nat.le_of_ble_eq_true rfl) (fun h => h) (fun _ h => False.elim h)
    refine sd rfl (yl_toS un101 un5 un9 rfl rfl (OwnL.rd good_U8 hO39) (sd rfl (yl_move rfl rfl ?_)))
    have hol41 : (toS ([IntKind.wrap .u8 (IntKind.wrap .i64 (48 + (Int.tmod x16 10)))] : List Int)).length ≤ 1073741824 := (okS_toS (Nat.le_of_ble_eq_true rfl))
    refine sd rfl (yl_sadd (a := (toS ([IntKind.wrap .u8 (IntKind.wrap .i64 (48 + (Int.tmod x16 10)))] : List Int))) (b := x17) rfl rfl rfl (by first | omega | (simp only [List.length_append, List.length_cons, List.length_nil, List.length_take, List.length_drop, toS_length]; omega)) (sd rfl (yl_assign rfl rfl (dn (CW.region (sd rfl (yl_move rfl rfl (sd rfl (yl_quo rfl rfl rfl (by decide) (sd rfl (yl_assign rfl rfl (SeqR.done ?_))))))))))))
    refine bn (tn ?_)
    have hB42 : B_l_markText_0 p_k (x16, x17) = .cont (IntKind.wrap .i64 (Int.tdiv x16 10), (toS ([IntKind.wrap .u8 (IntKind.wrap .i64 (48 + (Int.tmod x16 10)))] : List Int)) ++ x17) := by simp only [B_l_markText_0, hb1, hb32, cL]
    have hmu44 : (((IntKind.wrap .i64 (Int.tdiv x16 10)).toNat + 1) / 2) < (((x16).toNat + 1) / 2) := by (have hq := wtd (n := x16) (c := 10) (by decide) (by omega) (by omega); omega)
    exact ⟨m21 - 1, by omega, IntKind.wrap .i64 (Int.tdiv x16 10), (toS ([IntKind.wrap .u8 (IntKind.wrap .i64 (48 + (Int.tmod x16 10)))] : List Int)) ++ x17, (by omega), (by omega), rfl, rfl, (Ex.trans hf29 hE38), (by first | omega | (simp only [List.length_append, List.length_cons, List.length_nil, List.length_set, toS_length]; omega)), (by (have hq := wtd (n := x16) (c := 10) (by decide) (by omega) (by omega); omega)), (loopW.cont hk24 hB42).symm.trans hI25⟩
   ·have hb32p := dec_f hb32
    refine CW.cond_f rfl hb32 (CW.exit (tx (tx ?_)))
    have hB46 : B_l_markText_0 p_k (x16, x17) = .brk (x16, x17) := by simp only [B_l_markText_0, hb1, hb32, cL]
    have hL45 : loopW (B_l_markText_0 p_k) ((((p_k).toNat + 1) / 2) + 1) (p_k, ([] : Str)) = .done (x16, x17) := hI25.symm.trans (loopW.brk hk24 hB46)
    refine bx (tn (CW.seq (CW.region (sd rfl (yl_move rfl rfl (sd rfl (yl_sadd (a := ([109] : Str)) (b := x17) rfl rfl rfl (by first | omega | (simp only [List.length_append, List.length_cons, List.length_nil, List.length_take, List.length_drop, toS_length]; omega)) (sd rfl (yl_assign rfl rfl (dn ?_))))))))))
    refine CW.ret (rr rfl (.cons rfl .nil) ?_)
    have hM47 : (l_markText p_k) = (([109] : Str) ++ x17) := by simp only [l_markText, hb1, hb32, hL45, cL]
    rw [hM47]
    exact ⟨rfl, hf29⟩
theorem c_l_markFeedItemS {A1 : Option Addr} {c1 : Nat} {lo1 hi1 : Nat} {w : World} (p_a : List DFeedItem) (p_k : Int) (h1 : OwnL w lo1 hi1 63 5 (RF e_FeedItem) A1 p_a.length c1 p_a) (hrn2 : (0 ≤ lo1 ∧ lo1 ≤ hi1 ∧ hi1 ≤ w.heap.size)) (pre0 : p_k ≤ 9223372036854775807) : Cal Try.prog 40 #[.slice A1 p_a.length c1, .int .i64 (p_k)] w fun v w' => v = .int .i64 ((l_markFeedItemS p_a p_k).1) ∧ OwnL w' lo1 hi1 63 5 (RF e_FeedItem) A1 p_a.length c1 ((l_markFeedItemS p_a p_k).2) ∧ Mut [(lo1, hi1)] w w' := by
 refine Cal.of func40 rfl ntmps40 rfl (CW.seq (CW.region (sd rfl (yl_assign rfl rfl (dn (CW.seq (CW.seq (CW.region ?_))))))))
 refine sd rfl (yl_assign rfl rfl (dn (CW.block (CW.loop (fun m43 L44 w45 => ∃ (k3 : Nat) (x41 : Int) (x42 : List DFeedItem), m43 = p_a.length - k3 ∧ k3 ≤ p_a.length ∧ w.heap.size ≤ w45.heap.size ∧ lkp L44 0 = some (.slice A1 p_a.length c1) ∧ lkp L44 1 = some (.int .i64 (x41)) ∧ lkp L44 5 = some (.int .i64 ((k3 : Int))) ∧ OwnL w45 lo1 hi1 63 5 (RF e_FeedItem) A1 p_a.length c1 x42 ∧ Mut [(lo1, hi1)] w w45 ∧ x41 ≤ 9223372036854775807 ∧ loopM (B_l_markFeedItemS_0 p_a p_k) (p_a.length - k3) k3 (x41, x42) = loopM (B_l_markFeedItemS_0 p_a p_k) (p_a.length - 0) 0 (p_k, p_a)) (p_a.length - 0) ?_ ?_))))
 ·exact ⟨0, p_k, p_a, rfl, (by omega), Nat.le_refl _, rfl, rfl, rfl, h1, (Mut.refl (l := [(lo1, hi1)]) w), (by first | omega | assumption | (simp only [wI] at *; omega)), rfl⟩
 ·rintro m46 L47 w48 ⟨k3, x41, x42, rfl, hk49, hsz51, hl52, hl53, hl54, hf55, hf56, hv57, hI50⟩
  refine CW.sub (Sub.cons hl52 (Sub.cons hl53 (Sub.cons hl54 (Sub.nil _)))) ?_
  have hf56z := Mut.size hf56
  have hbg58 := RdS.big (OwnL.rd good_FeedItem hf55)
  rcases Nat.lt_or_ge k3 p_a.length with hlt60 | hlt60
  ·refine CW.seq (CW.seq (CW.region (sd rfl (yl_move rfl rfl (sd rfl (yl_move rfl rfl (sd rfl (yl_len un30 rfl rfl (sd rfl (yl_lss rfl rfl rfl (dn ?_)))))))))))
   refine CW.cond_t rfl (lt_t hlt60) (CW.skip (tn (CW.seq (CW.block (CW.seq (CW.region (sd rfl (yl_move rfl rfl (sd rfl (yl_move rfl rfl ?_))))))))))
   refine sd rfl (yl_move rfl rfl ?_)
   obtain ⟨eb62, eo62, _, eA62, _, ebl62, _, eR62, eC62⟩ := RdS.aD (OwnL.rd good_FeedItem hf55) d_FeedItem (i := k3)
   obtain rfl := eR62
   have eC62 : Cells w48 eb62 (eo62 + k3 * 5) [.int .i64 ((x42.getD k3 d_FeedItem).Time), .int .i64 ((x42.getD k3 d_FeedItem).Group), .string (bs ((x42.getD k3 d_FeedItem).Key)), .string (bs ((x42.getD k3 d_FeedItem).Val)), .bool ((x42.getD k3 d_FeedItem).Gone)] := eC62
   refine sd rfl (yl_ixN un30 ty63 rfl rfl rfl eA62 (sd rfl (yl_fieldAddr fd63_0 rfl rfl ?_)))
   have hrg63 := OwnL.rng hf55 (i := k3) (by first | omega | assumption | (simp only [wI] at *; omega)) eb62 (by rw [eA62]; rfl)
   refine SeqR.u rfl rfl (yl_storeF (off := eo62) (i := k3) (d := 0) (dx := d_FeedItem) (x' := (⟨x41, (x42.getD k3 d_FeedItem).Group, (x42.getD k3 d_FeedItem).Key, (x42.getD k3 d_FeedItem).Val, (x42.getD k3 d_FeedItem).Gone⟩ : DFeedItem)) (vs := [.int .i64 (x41)]) ty3 rfl hf55 eA62 rfl rfl rfl rfl rfl (by first | omega | assumption | (simp only [wI] at *; omega)) (Nat.le_of_ble_eq_true rfl) rfl rfl ?_)
   intro w64 hB65 hO66
   have hO66z := hO66.size
   refine dn (CW.seq (CW.region (sd rfl (yl_move rfl rfl (sd rfl (yl_add rfl rfl rfl (sd rfl (yl_assign rfl rfl (dn ?_)))))))))
   refine CW.seq (CW.region (sd rfl (yl_move rfl rfl (sd rfl (yl_move rfl rfl (sd rfl (yl_move rfl rfl ?_)))))))
   obtain ⟨eb68, eo68, _, eA68, _, ebl68, _, eR68, eC68⟩ := RdS.aD (OwnL.rd good_FeedItem hB65) d_FeedItem (i := k3)
   obtain rfl := eR68
   rw [getD_set_self (by have hq := OwnL.len hB65; simp only [List.length_set] at hq; omega)] at eC68
   have eC68 : Cells w64 eb68 (eo68 + k3 * 5) [.int .i64 (x41), .int .i64 ((x42.getD k3 d_FeedItem).Group), .string (bs ((x42.getD k3 d_FeedItem).Key)), .string (bs ((x42.getD k3 d_FeedItem).Val)), .bool ((x42.getD k3 d_FeedItem).Gone)] := eC68
   refine sd rfl (yl_ixN un30 ty63 rfl rfl rfl eA68 (sd rfl (yl_fieldAddr fd63_1 rfl rfl ?_)))
   have hrg69 := OwnL.rng hB65 (i := k3) (by first | omega | assumption | (simp only [wI] at *; omega)) eb68 (by rw [eA68]; rfl)
   refine SeqR.u rfl rfl (yl_storeF (off := eo68) (i := k3) (d := 1) (dx := d_FeedItem) (x' := (⟨x41, IntKind.wrap .i64 (x41 + 1), (x42.getD k3 d_FeedItem).Key, (x42.getD k3 d_FeedItem).Val, (x42.getD k3 d_FeedItem).Gone⟩ : DFeedItem)) (vs := [.int .i64 (IntKind.wrap .i64 (x41 + 1))]) ty3 rfl hB65 eA68 rfl rfl rfl rfl rfl (by first | omega | assumption | (simp only [wI] at *; omega)) (Nat.le_of_ble_eq_true rfl) (by rw [getD_set_self (by have hq := OwnL.len hB65; simp only [List.length_set] at hq; omega)]; rfl) rfl ?_)
   intro w70 hB71 hO72
   have hO72z := hO72.size
   rw [List.set_set] at hB71
   refine dn (CW.seq (CW.region (sd rfl (yl_move rfl rfl (sd rfl (yl_add rfl rfl rfl (sd rfl (yl_assign rfl rfl (dn ?_)))))))))
   refine CW.seq (CW.region (sd rfl (yl_move rfl rfl (sd rfl (yl_move rfl rfl (sd rfl (yl_move rfl rfl (sd rfl (yl_call en49 rfl (oc rfl oz) (Cal.mono (c_l_markText (IntKind.wrap .i64 ((IntKind.wrap .i64 (x41 + 1)) + 1)) (by first | omega | assumption | (simp only [wI] at *; omega))) ?_))))))))))
   rintro v74 w73 ⟨rfl, hE75⟩
   have hE75z := Ex.size hE75
   have q77 := OwnL.ex good_FeedItem hB71 hE75
   obtain ⟨eb78, eo78, _, eA78, _, ebl78, _, eR78, eC78⟩ := RdS.aD (OwnL.rd good_FeedItem q77) d_FeedItem (i := k3)
   obtain rfl := eR78
   rw [getD_set_self (by have hq := OwnL.len q77; simp only [List.length_set] at hq; omega)] at eC78
   have eC78 : Cells w73 eb78 (eo78 + k3 * 5) [.int .i64 (x41), .int .i64 (IntKind.wrap .i64 (x41 + 1)), .string (bs ((x42.getD k3 d_FeedItem).Key)), .string (bs ((x42.getD k3 d_FeedItem).Val)), .bool ((x42.getD k3 d_FeedItem).Gone)] := eC78
   refine sd rfl (yl_ixN un30 ty63 rfl rfl rfl eA78 (sd rfl (yl_fieldAddr fd63_2 rfl rfl ?_)))
   have hrg79 := OwnL.rng q77 (i := k3) (by first | omega | assumption | (simp only [wI] at *; omega)) eb78 (by rw [eA78]; rfl)
   refine SeqR.u rfl rfl (yl_storeF (off := eo78) (i := k3) (d := 2) (dx := d_FeedItem) (x' := (⟨x41, IntKind.wrap .i64 (x41 + 1), (l_markText (IntKind.wrap .i64 ((IntKind.wrap .i64 (x41 + 1)) + 1))), (x42.getD k3 d_FeedItem).Val, (x42.getD k3 d_FeedItem).Gone⟩ : DFeedItem)) (vs := [.string (bs ((l_markText (IntKind.wrap .i64 ((IntKind.wrap .i64 (x41 + 1)) + 1)))))]) ty9 rfl q77 eA78 rfl rfl rfl rfl rfl (by first | omega | assumption | (simp only [wI] at *; omega)) (Nat.le_of_ble_eq_true rfl) (by rw [getD_set_self (by have hq := OwnL.len q77; simp only [List.length_set] at hq; omega)]; rfl) rfl ?_)
   intro w80 hB81 hO82
   have hO82z := hO82.size
   rw [List.set_set] at hB81
   refine dn (CW.seq (CW.region (sd rfl (yl_move rfl rfl (sd rfl (yl_add rfl rfl rfl (sd rfl (yl_assign rfl rfl (dn ?_)))))))))
   refine CW.seq (CW.region (sd rfl (yl_move rfl rfl (sd rfl (yl_move rfl rfl (sd rfl (yl_move rfl rfl (sd rfl (yl_call en49 rfl (oc rfl oz) (Cal.mono (c_l_markText (IntKind.wrap .i64 ((IntKind.wrap .i64 ((IntKind.wrap .i64 (x41 + 1)) + 1)) + 1)) (by first | omega | assumption | (simp only [wI] at *; omega))) ?_))))))))))
   rintro v84 w83 ⟨rfl, hE85⟩
   have hE85z := Ex.size hE85
   have q87 := OwnL.ex good_FeedItem hB81 hE85
   obtain ⟨eb88, eo88, _, eA88, _, ebl88, _, eR88, eC88⟩ := RdS.aD (OwnL.rd good_FeedItem q87) d_FeedItem (i := k3)
   obtain rfl := eR88
   rw [getD_set_self (by have hq := OwnL.len q87; simp only [List.length_set] at hq; omega)] at eC88
   have eC88 : Cells w83 eb88 (eo88 + k3 * 5) [.int .i64 (x41), .int .i64 (IntKind.wrap .i64 (x41 + 1)), .string (bs ((l_markText (IntKind.wrap .i64 ((IntKind.wrap .i64 (x41 + 1)) + 1))))), .string (bs ((x42.getD k3 d_FeedItem).Val)), .bool ((x42.getD k3 d_FeedItem).Gone)] := eC88
   refine sd rfl (yl_ixN un30 ty63 rfl rfl rfl eA88 (sd rfl (yl_fieldAddr fd63_3 rfl rfl ?_)))
   have hrg89 := OwnL.rng q87 (i := k3) (by first | omega | assumption | (simp only [wI] at *; omega)) eb88 (by rw [eA88]; rfl)
   refine SeqR.u rfl rfl (yl_storeF (off := eo88) (i := k3) (d := 3) (dx := d_FeedItem) (x' := (⟨x41, IntKind.wrap .i64 (x41 + 1), (l_markText (IntKind.wrap .i64 ((IntKind.wrap .i64 (x41 + 1)) + 1))), (l_markText (IntKind.wrap .i64 ((IntKind.wrap .i64 ((IntKind.wrap .i64 (x41 + 1)) + 1)) + 1))), (x42.getD k3 d_FeedItem).Gone⟩ : DFeedItem)) (vs := [.string (bs ((l_markText (IntKind.wrap .i64 ((IntKind.wrap .i64 ((IntKind.wrap .i64 (x41 + 1)) + 1)) + 1)))))]) ty9 rfl q87 eA88 rfl rfl rfl rfl rfl (by first | omega | assumption | (simp only [wI] at *; omega)) (Nat.le_of_ble_eq_true rfl) (by rw [getD_set_self (by have hq := OwnL.len q87; simp only [List.length_set] at hq; omega)]; rfl) rfl ?_)
   intro w90 hB91 hO92
   have hO92z := hO92.size
   rw [List.set_set] at hB91
   refine dn (CW.seq (CW.region (sd rfl (yl_move rfl rfl (sd rfl (yl_add rfl rfl rfl (sd rfl (yl_assign rfl rfl (dn ?_)))))))))
   refine CW.seq (CW.region (sd rfl (yl_move rfl rfl (sd rfl (yl_move rfl rfl (sd rfl (yl_move rfl rfl (sd rfl (yl_rem rfl rfl rfl (by decide) (sd rfl (yl_eql rfl rfl rfl ?_)))))))))))
   obtain ⟨eb94, eo94, _, eA94, _, ebl94, _, eR94, eC94⟩ := RdS.aD (OwnL.rd good_FeedItem hB91) d_FeedItem (i := k3)
   obtain rfl := eR94
   rw [getD_set_self (by have hq := OwnL.len hB91; simp only [List.length_set] at hq; omega)] at eC94
   have eC94 : Cells w90 eb94 (eo94 + k3 * 5) [.int .i64 (x41), .int .i64 (IntKind.wrap .i64 (x41 + 1)), .string (bs ((l_markText (IntKind.wrap .i64 ((IntKind.wrap .i64 (x41 + 1)) + 1))))), .string (bs ((l_markText (IntKind.wrap .i64 ((IntKind.wrap .i64 ((IntKind.wrap .i64 (x41 + 1)) + 1)) + 1))))), .bool ((x42.getD k3 d_FeedItem).Gone)] := eC94
   refine sd rfl (yl_ixN un30 ty63 rfl rfl rfl eA94 (sd rfl (yl_fieldAddr fd63_4 rfl rfl ?_)))
   have hrg95 := OwnL.rng hB91 (i := k3) (by first | omega | assumption | (simp only [wI] at *; omega)) eb94 (by rw [eA94]; rfl)
   refine SeqR.u rfl rfl (yl_storeF (off := eo94) (i := k3) (d := 4) (dx := d_FeedItem) (x' := (⟨x41, IntKind.wrap .i64 (x41 + 1), (l_markText (IntKind.wrap .i64 ((IntKind.wrap .i64 (x41 + 1)) + 1))), (l_markText (IntKind.wrap .i64 ((IntKind.wrap .i64 ((IntKind.wrap .i64 (x41 + 1)) + 1)) + 1))), decide ((Int.tmod (IntKind.wrap .i64 ((IntKind.wrap .i64 ((IntKind.wrap .i64 ((IntKind.wrap .i64 (x41 + 1)) + 1)) + 1)) + 1)) 3) = 0)⟩ : DFeedItem)) (vs := [.bool (decide ((Int.tmod (IntKind.wrap .i64 ((IntKind.wrap .i64 ((IntKind.wrap .i64 ((IntKind.wrap .i64 (x41 + 1)) + 1)) + 1)) + 1)) 3) = 0))]) ty4 rfl hB91 eA94 rfl rfl rfl rfl rfl (by first | omega | assumption | (simp only [wI] at *; omega)) (Nat.le_of_ble_eq_true rfl) (by rw [getD_set_self (by have hq := OwnL.len hB91; simp only [List.length_set] at hq; omega)]; rfl) rfl ?_)
   intro w96 hB97 hO98
   have hO98z := hO98.size
   rw [List.set_set] at hB97
   refine dn (CW.region (sd rfl (yl_move rfl rfl (sd rfl (yl_add rfl rfl rfl (sd rfl (yl_assign rfl rfl (SeqR.done (bn (tn ?_))))))))))
   refine CW.region (sd rfl (yl_move rfl rfl (sd rfl (yl_inc rfl rfl rfl (by omega) (sd rfl (yl_assign rfl rfl (dn ?_)))))))
   have hB99 : B_l_markFeedItemS_0 p_a p_k k3 (x41, x42) = .cont (IntKind.wrap .i64 ((IntKind.wrap .i64 ((IntKind.wrap .i64 ((IntKind.wrap .i64 ((IntKind.wrap .i64 (x41 + 1)) + 1)) + 1)) + 1)) + 1), (x42.set k3 (⟨x41, IntKind.wrap .i64 (x41 + 1), (l_markText (IntKind.wrap .i64 ((IntKind.wrap .i64 (x41 + 1)) + 1))), (l_markText (IntKind.wrap .i64 ((IntKind.wrap .i64 ((IntKind.wrap .i64 (x41 + 1)) + 1)) + 1))), decide ((Int.tmod (IntKind.wrap .i64 ((IntKind.wrap .i64 ((IntKind.wrap .i64 ((IntKind.wrap .i64 (x41 + 1)) + 1)) + 1)) + 1)) 3) = 0)⟩ : DFeedItem))) := by simp only [B_l_markFeedItemS_0, cL]
   exact ⟨p_a.length - (k3 + 1), by omega, k3 + 1, IntKind.wrap .i64 ((IntKind.wrap .i64 ((IntKind.wrap .i64 ((IntKind.wrap .i64 ((IntKind.wrap .i64 (x41 + 1)) + 1)) + 1)) + 1)) + 1), (x42.set k3 (⟨x41, IntKind.wrap .i64 (x41 + 1), (l_markText (IntKind.wrap .i64 ((IntKind.wrap .i64 (x41 + 1)) + 1))), (l_markText (IntKind.wrap .i64 ((IntKind.wrap .i64 ((IntKind.wrap .i64 (x41 + 1)) + 1)) + 1))), decide ((Int.tmod (IntKind.wrap .i64 ((IntKind.wrap .i64 ((IntKind.wrap .i64 ((IntKind.wrap .i64 (x41 + 1)) + 1)) + 1)) + 1)) 3) = 0)⟩ : DFeedItem)), rfl, hlt60, (by omega), rfl, rfl, rfl, hB97, (Mut.only (Mut.only (Mut.ex (Mut.only (Mut.ex (Mut.only (Mut.only hf56 hO66 (by simp only [InR, or_false]; omega)) hO72 (by simp only [InR, or_false]; omega)) hE75) hO82 (by simp only [InR, or_false]; omega)) hE85) hO92 (by simp only [InR, or_false]; omega)) hO98 (by simp only [InR, or_false]; omega)), (by first | omega | assumption | (simp only [wI] at *; omega)), (loopM.cont hlt60 hB99).symm.trans hI50⟩
  ·refine CW.seq (CW.seq (CW.region (sd rfl (yl_move rfl rfl (sd rfl (yl_move rfl rfl (sd rfl (yl_len un30 rfl rfl (sd rfl (yl_lss rfl rfl rfl (dn ?_)))))))))))
   refine CW.cond_f rfl (lt_f hlt60) (CW.exit (tx (tx ?_)))
   have hL107 : loopM (B_l_markFeedItemS_0 p_a p_k) (p_a.length - 0) 0 (p_k, p_a) = .done (x41, x42) := hI50.symm.trans (loopM.stop hlt60)
   refine bx (tn (CW.seq (CW.region (sd rfl (yl_move rfl rfl (sd rfl (yl_assign rfl rfl (dn (CW.ret ?_)))))))))
   refine rr rfl (.cons rfl .nil) ?_
   have hM108 : (l_markFeedItemS p_a p_k) = ((x41, x42)) := by simp only [l_markFeedItemS, hL107, cL]
   rw [hM108]
   exact ⟨rfl, hf55, hf56⟩
theorem c_l_markDiff {A1 : Option Addr} {c1 : Nat} {lo1 hi1 : Nat} {w : World} (p_a : DDiff) (p_k : Int) (h1 : OwnL w lo1 hi1 63 5 (RF e_FeedItem) A1 p_a.List.length c1 p_a.List) (hrn2 : (0 ≤ lo1 ∧ lo1 ≤ hi1 ∧ hi1 ≤ w.heap.size)) (pre0 : p_k ≤ 9223372036854775807) : Cal Try.prog 14 #[.agg #[.int .i64 (p_a.From), .int .i64 (p_a.To), .slice A1 p_a.List.length c1], .int .i64 (p_k)] w fun v w' => v = .int .i64 ((l_markDiff p_a p_k).1) ∧ OwnL w' lo1 hi1 63 5 (RF e_FeedItem) A1 p_a.List.length c1 ((l_markDiff p_a p_k).2.List) ∧ Mut [(lo1, hi1)] w w' := by
 refine Cal.of func14 rfl ntmps14 rfl (CW.seq (CW.region (sd rfl (yl_box rfl rfl rfl ?_))))
 intro b3 w4 hs5 hz6 hB7 hE8
 refine sd rfl (yl_assign rfl rfl (dn (CW.seq (CW.region (sd rfl (yl_fieldAddr fd32_2 rfl rfl (sd rfl (yl_load1 ty30 rfl rfl ((hB7.cell 2).trans rfl) (sd rfl (yl_move rfl rfl (sd rfl (yl_call en40 rfl (oc rfl (oc rfl oz)) (Cal.mono (c_l_markFeedItemS p_a.List p_k (OwnL.ex good_FeedItem h1 hE8) (by omega) (by first | omega | assumption | (simp only [wI] at *; omega))) ?_)))))))))))))
 rintro v11 w10 ⟨rfl, h13, hm12⟩
 have hm12z := Mut.size hm12
 have hrf14 := rf_markFeedItemS p_a.List p_k (by first | omega | assumption | (simp only [wI] at *; omega))
 refine sd rfl (yl_assign rfl rfl (dn (CW.seq (CW.region (sd rfl (yl_move rfl rfl (sd rfl (yl_assign rfl rfl (dn ?_)))))))))
 refine CW.ret (rr rfl (.cons rfl .nil) ?_)
 have hM15 : (l_markDiff p_a p_k) = (((l_markFeedItemS p_a.List p_k).1, (⟨p_a.From, p_a.To, (l_markFeedItemS p_a.List p_k).2⟩ : DDiff))) := by simp only [l_markDiff, cL]
 rw [hM15]
 exact ⟨rfl, h13, (Mut.mut (Mut.ex (Mut.refl (l := [(lo1, hi1)]) w) hE8) hm12 (fun k hk => by simp only [InR, or_false] at hk ⊢; omega))⟩
theorem c_l_heldFeedItemS {A1 : Option Addr} {c1 : Nat} {w : World} (p_a : List DFeedItem) (p_k : Int) (h1 : RdS w (Iv 0 w.heap.size) (RF e_FeedItem) 5 A1 p_a.length c1 p_a) (pre0 : p_k ≤ 9223372036854775807) : Cal Try.prog 41 #[.slice A1 p_a.length c1, .int .i64 (p_k)] w fun v w' => v = .int .i64 ((l_heldFeedItemS p_a p_k)) ∧ Ex w w' := by
 refine Cal.of func41 rfl ntmps41 rfl (CW.seq (CW.region (sd rfl (yl_assign rfl rfl (dn (CW.seq (CW.seq (CW.region ?_))))))))
 refine sd rfl (yl_assign rfl rfl (dn (CW.block (CW.loop (fun m4 L5 w6 => ∃ (k2 : Nat) (x3 : Int), m4 = p_a.length - k2 ∧ k2 ≤ p_a.length ∧ w.heap.size ≤ w6.heap.size ∧ lkp L5 0 = some (.slice A1 p_a.length c1) ∧ lkp L5 1 = some (.int .i64 (x3)) ∧ lkp L5 5 = some (.int .i64 ((k2 : Int))) ∧ RdS w6 (Iv 0 w.heap.size) (RF e_FeedItem) 5 A1 p_a.length c1 p_a ∧ Ex w w6 ∧ x3 ≤ 9223372036854775807 ∧ loopM (B_l_heldFeedItemS_0 p_a p_k) (p_a.length - k2) k2 (x3) = loopM (B_l_heldFeedItemS_0 p_a p_k) (p_a.length - 0) 0 (p_k)) (p_a.length - 0) ?_ ?_))))
 ·exact ⟨0, p_k, rfl, (by omega), Nat.le_refl _, rfl, rfl, rfl, h1, (Ex.refl w), (by first | omega | assumption | (simp only [wI] at *; omega)), rfl⟩
 ·rintro m7 L8 w9 ⟨k2, x3, rfl, hk10, hsz12, hl13, hl14, hl15, hf16, hf17, hv18, hI11⟩
  refine CW.sub (Sub.cons hl13 (Sub.cons hl14 (Sub.cons hl15 (Sub.nil _)))) ?_
  have hf17z := Ex.size hf17
  have hbg19 := RdS.big hf16
  rcases Nat.lt_or_ge k2 p_a.length with hlt20 | hlt20
  ·refine CW.seq (CW.seq (CW.region (sd rfl (yl_move rfl rfl (sd rfl (yl_move rfl rfl (sd rfl (yl_len un30 rfl rfl (sd rfl (yl_lss rfl rfl rfl (dn ?_)))))))))))
   refine CW.cond_t rfl (lt_t hlt20) (CW.skip (tn (CW.seq (CW.block (CW.seq (CW.seq (CW.region (sd rfl (yl_move rfl rfl ?_)))))))))
   refine sd rfl (yl_move rfl rfl ?_)
   obtain ⟨eb21, eo21, _, eA21, _, ebl21, _, eR21, eC21⟩ := RdS.aD hf16 d_FeedItem (i := k2)
   obtain rfl := eR21
   have eC21 : Cells w9 eb21 (eo21 + k2 * 5) [.int .i64 ((p_a.getD k2 d_FeedItem).Time), .int .i64 ((p_a.getD k2 d_FeedItem).Group), .string (bs ((p_a.getD k2 d_FeedItem).Key)), .string (bs ((p_a.getD k2 d_FeedItem).Val)), .bool ((p_a.getD k2 d_FeedItem).Gone)] := eC21
   refine sd rfl (yl_ixN un30 ty63 rfl rfl rfl eA21 (sd rfl (yl_fieldAddr fd63_0 rfl rfl (sd rfl (yl_load1 ty3 rfl rfl (eC21 0 _ rfl) (sd rfl (yl_move rfl rfl (sd rfl (yl_neq rfl rfl rfl (dn (bcase (decide (((p_a.getD k2 d_FeedItem).Time) = x3)) (fun hb22 => ?_) (fun hb22 => ?_))))))))))))
   ·have hb22p := dec_t hb22
    refine CW.cond_f rfl (not_t hb22) (CW.skip (tn (CW.seq (CW.region (sd rfl (yl_move rfl rfl (sd rfl (yl_add rfl rfl rfl (sd rfl (yl_assign rfl rfl (SeqR.done ?_)))))))))))
    refine tn (CW.seq (CW.seq (CW.region (sd rfl (yl_move rfl rfl (sd rfl (yl_move rfl rfl (sd rfl (yl_ixN un30 ty63 rfl rfl rfl eA21 (sd rfl (yl_fieldAddr fd63_1 rfl rfl (sd rfl (yl_load1 ty3 rfl rfl (eC21 1 _ rfl) ?_)))))))))))))
    refine sd rfl (yl_move rfl rfl (sd rfl (yl_neq rfl rfl rfl (dn (bcase (decide (((p_a.getD k2 d_FeedItem).Group) = (IntKind.wrap .i64 (x3 + 1)))) (fun hb23 => ?_) (fun hb23 => ?_))))))
    ·have hb23p := dec_t hb23
     refine CW.cond_f rfl (not_t hb23) (CW.skip (tn (CW.seq (CW.region (sd rfl (yl_move rfl rfl (sd rfl (yl_add rfl rfl rfl (sd rfl (yl_assign rfl rfl (SeqR.done ?_)))))))))))
     refine tn (CW.seq (CW.seq (CW.drawsI 8 (vgetI ([.slice A1 p_a.length c1, .int .i64 ((k2 : Int)), .pointer (some ⟨eb21, eo21 + k2 * 5, none⟩), .pointer (some ⟨eb21, eo21 + k2 * 5 + 2, none⟩), .string (bs ((p_a.getD k2 d_FeedItem).Key)), .int .i64 (IntKind.wrap .i64 ((IntKind.wrap .i64 (x3 + 1)) + 1)), .string (bs ((l_markText (IntKind.wrap .i64 ((IntKind.wrap .i64 (x3 + 1)) + 1))))), .bool (!(((p_a.getD k2 d_FeedItem).Key) == (l_markText (IntKind.wrap .i64 ((IntKind.wrap .i64 (x3 + 1)) + 1)))))].map DetI)) Try.follows rfl rfl rfl rfl rfl rfl (vgetI_stable (stD _)) ⟨?_, ?_, ?_, ?_, ?_, ?_, ?_, ?_, trivial⟩ ?_)))
     ·exact oI rfl fun h => yl_move rfl (h.old 0 _ rfl rfl) kI
     ·exact oI rfl fun h => yl_move rfl (h.old 5 _ rfl rfl) kI
     ·intro L35 w36 hi37
      have hE38 := hi37.ex
      have hE38z := Ex.size hE38
      exact os rfl ((yl_ixN un30 ty63 rfl (hi37.dt 0 30 rfl rfl rfl) (hi37.dt 1 31 rfl rfl rfl) eA21 kI))
     ·exact oI rfl fun h => yl_fieldAddr fd63_2 rfl (h.dt 2 32 rfl rfl rfl) kI
     ·exact oI rfl fun h => yl_load1 ty9 rfl (h.dt 3 33 rfl rfl rfl) ((Cells.ex eC21 h.ex) 2 _ rfl) kI
     ·exact oI rfl fun h => yl_move rfl (h.old 1 _ rfl rfl) kI
     ·intro L57 w58 hi59
      have hE60 := hi59.ex
      have hE60z := Ex.size hE60
      exact OpR.op' rfl (yl_call en49 rfl (oc (hi59.dt 5 35 rfl rfl rfl) oz) (Cal.mono (c_l_markText (IntKind.wrap .i64 ((IntKind.wrap .i64 (x3 + 1)) + 1)) (by first | omega | assumption | (simp only [wI] at *; omega))) fun _ _ h => h))
     ·exact oI rfl fun h => yl_sneq (a := ((p_a.getD k2 d_FeedItem).Key)) (b := (l_markText (IntKind.wrap .i64 ((IntKind.wrap .i64 (x3 + 1)) + 1)))) rfl (h.dt 4 34 rfl rfl rfl) (h.dt 6 36 rfl rfl rfl) kI
     ·intro fl74 fh75 L71 w72 hp73
      have hE76 := hp73.ex
      have hE76z := Ex.size hE76
      refine dn (CW.sub (Sub.cons (d := 0) (hp73.old 0 _ rfl rfl) (Sub.cons (d := 1) (hp73.old 1 _ rfl rfl) (Sub.cons (d := 5) (hp73.old 5 _ rfl rfl) (Sub.cons (d := 37) (hp73.nt 7 37 rfl rfl rfl) (Sub.nil _))))) (bcase (((p_a.getD k2 d_FeedItem).Key) == (l_markText (IntKind.wrap .i64 ((IntKind.wrap .i64 (x3 + 1)) + 1)))) (fun hb81 => ?_) (fun hb81 => ?_)))
      ·refine CW.cond_f rfl (not_t hb81) (CW.skip (tn (CW.seq (CW.region (sd rfl (yl_move rfl rfl (sd rfl (yl_add rfl rfl rfl (sd rfl (yl_assign rfl rfl (SeqR.done ?_)))))))))))
       refine tn (CW.seq (CW.seq ?_))
       have q82 := Cells.ex eC21 hE76
       refine CW.drawsI 8 (vgetI ([.slice A1 p_a.length c1, .int .i64 ((k2 : Int)), .pointer (some ⟨eb21, eo21 + k2 * 5, none⟩), .pointer (some ⟨eb21, eo21 + k2 * 5 + 3, none⟩), .string (bs ((p_a.getD k2 d_FeedItem).Val)), .int .i64 (IntKind.wrap .i64 ((IntKind.wrap .i64 ((IntKind.wrap .i64 (x3 + 1)) + 1)) + 1)), .string (bs ((l_markText (IntKind.wrap .i64 ((IntKind.wrap .i64 ((IntKind.wrap .i64 (x3 + 1)) + 1)) + 1))))), .bool (!(((p_a.getD k2 d_FeedItem).Val) == (l_markText (IntKind.wrap .i64 ((IntKind.wrap .i64 ((IntKind.wrap .i64 (x3 + 1)) + 1)) + 1)))))].map DetI)) Try.follows rfl rfl rfl rfl rfl rfl (vgetI_stable (stD _)) ⟨?_, ?_, ?_, ?_, ?_, ?_, ?_, ?_, trivial⟩ ?_
       ·exact oI rfl fun h => yl_move rfl (h.old 0 _ rfl rfl) kI
       ·exact oI rfl fun h => yl_move rfl (h.old 5 _ rfl rfl) kI
       ·intro L94 w95 hi96
        have hE97 := hi96.ex
        have hE97z := Ex.size hE97
        exact os rfl ((yl_ixN un30 ty63 rfl (hi96.dt 0 40 rfl rfl rfl) (hi96.dt 1 41 rfl rfl rfl) eA21 kI))
       ·exact oI rfl fun h => yl_fieldAddr fd63_3 rfl (h.dt 2 42 rfl rfl rfl) kI
       ·exact oI rfl fun h => yl_load1 ty9 rfl (h.dt 3 43 rfl rfl rfl) ((Cells.ex q82 h.ex) 3 _ rfl) kI
       ·exact oI rfl fun h => yl_move rfl (h.old 1 _ rfl rfl) kI
       ·intro L116 w117 hi118
        have hE119 := hi118.ex
        have hE119z := Ex.size hE119
        exact OpR.op' rfl (yl_call en49 rfl (oc (hi118.dt 5 45 rfl rfl rfl) oz) (Cal.mono (c_l_markText (IntKind.wrap .i64 ((IntKind.wrap .i64 ((IntKind.wrap .i64 (x3 + 1)) + 1)) + 1)) (by first | omega | assumption | (simp only [wI] at *; omega))) fun _ _ h => h))
       ·exact oI rfl fun h => yl_sneq (a := ((p_a.getD k2 d_FeedItem).Val)) (b := (l_markText (IntKind.wrap .i64 ((IntKind.wrap .i64 ((IntKind.wrap .i64 (x3 + 1)) + 1)) + 1)))) rfl (h.dt 4 44 rfl rfl rfl) (h.dt 6 46 rfl rfl rfl) kI
       ·intro fl133 fh134 L130 w131 hp132
        have hE135 := hp132.ex
        have hE135z := Ex.size hE135
        refine dn (CW.sub (Sub.cons (d := 0) (hp132.old 0 _ rfl rfl) (Sub.cons (d := 1) (hp132.old 1 _ rfl rfl) (Sub.cons (d := 5) (hp132.old 5 _ rfl rfl) (Sub.cons (d := 47) (hp132.nt 7 47 rfl rfl rfl) (Sub.nil _))))) (bcase (((p_a.getD k2 d_FeedItem).Val) == (l_markText (IntKind.wrap .i64 ((IntKind.wrap .i64 ((IntKind.wrap .i64 (x3 + 1)) + 1)) + 1)))) (fun hb140 => ?_) (fun hb140 => ?_)))
        ·refine CW.cond_f rfl (not_t hb140) (CW.skip (tn (CW.seq (CW.region (sd rfl (yl_move rfl rfl (sd rfl (yl_add rfl rfl rfl (sd rfl (yl_assign rfl rfl (SeqR.done ?_)))))))))))
         refine tn (CW.seq (CW.seq (CW.region (sd rfl (yl_move rfl rfl (sd rfl (yl_move rfl rfl (sd rfl (yl_ixN un30 ty63 rfl rfl rfl eA21 (sd rfl (yl_fieldAddr fd63_4 rfl rfl (sd rfl (yl_load1 ty4 rfl rfl ((Cells.ex q82 hE135) 4 _ rfl) ?_)))))))))))))
         refine sd rfl (yl_move rfl rfl (sd rfl (yl_rem rfl rfl rfl (by decide) (sd rfl (yl_eql rfl rfl rfl (sd rfl (yl_bneq un4 rfl rfl rfl (dn (bcase (((p_a.getD k2 d_FeedItem).Gone) == (decide ((Int.tmod (IntKind.wrap .i64 ((IntKind.wrap .i64 ((IntKind.wrap .i64 ((IntKind.wrap .i64 (x3 + 1)) + 1)) + 1)) + 1)) 3) = 0))) (fun hb142 => ?_) (fun hb142 => ?_))))))))))
         ·refine CW.cond_f rfl (not_t hb142) (CW.skip (tn (CW.region (sd rfl (yl_move rfl rfl (sd rfl (yl_add rfl rfl rfl (sd rfl (yl_assign rfl rfl (SeqR.done (bn ?_)))))))))))
          refine tn (CW.region (sd rfl (yl_move rfl rfl (sd rfl (yl_inc rfl rfl rfl (by omega) (sd rfl (yl_assign rfl rfl (dn ?_))))))))
          have hB143 : B_l_heldFeedItemS_0 p_a p_k k2 (x3) = .cont (IntKind.wrap .i64 ((IntKind.wrap .i64 ((IntKind.wrap .i64 ((IntKind.wrap .i64 ((IntKind.wrap .i64 (x3 + 1)) + 1)) + 1)) + 1)) + 1)) := by simp only [B_l_heldFeedItemS_0, hb22, hb23, hb81, hb140, hb142, cL]
          exact ⟨p_a.length - (k2 + 1), by omega, k2 + 1, IntKind.wrap .i64 ((IntKind.wrap .i64 ((IntKind.wrap .i64 ((IntKind.wrap .i64 ((IntKind.wrap .i64 (x3 + 1)) + 1)) + 1)) + 1)) + 1), rfl, hlt20, (by omega), rfl, rfl, rfl, (RdS.ex good_FeedItem (RdS.ex good_FeedItem hf16 hE76) hE135), (Ex.trans (Ex.trans hf17 hE76) hE135), (by first | omega | assumption | (simp only [wI] at *; omega)), (loopM.cont hlt20 hB143).symm.trans hI11⟩
         ·refine CW.cond_t rfl (not_f hb142) (CW.seq (CW.region (sd rfl (yl_assign rfl rfl (dn (CW.ret (tr (br ?_))))))))
          refine tr (tr ?_)
          have hB149 : B_l_heldFeedItemS_0 p_a p_k k2 (x3) = .ret (-1) := by simp only [B_l_heldFeedItemS_0, hb22, hb23, hb81, hb140, hb142, cL]
          have hL148 : loopM (B_l_heldFeedItemS_0 p_a p_k) (p_a.length - 0) 0 (p_k) = .ret (-1) := hI11.symm.trans (loopM.ret hlt20 hB149)
          refine br (tr (rr rfl (.cons rfl .nil) ?_))
          have hM150 : (l_heldFeedItemS p_a p_k) = (-1) := by simp only [l_heldFeedItemS, hb22, hb23, hb81, hb140, hb142, hL148, cL]
          rw [hM150]
          exact ⟨rfl, (Ex.trans (Ex.trans hf17 hE76) hE135)⟩
        ·refine CW.cond_t rfl (not_f hb140) (CW.seq (CW.region (sd rfl (yl_assign rfl rfl (dn (CW.ret (tr (br ?_))))))))
         refine tr (tr ?_)
         have hB154 : B_l_heldFeedItemS_0 p_a p_k k2 (x3) = .ret (-1) := by simp only [B_l_heldFeedItemS_0, hb22, hb23, hb81, hb140, cL]
         have hL153 : loopM (B_l_heldFeedItemS_0 p_a p_k) (p_a.length - 0) 0 (p_k) = .ret (-1) := hI11.symm.trans (loopM.ret hlt20 hB154)
         refine br (tr (rr rfl (.cons rfl .nil) ?_))
         have hM155 : (l_heldFeedItemS p_a p_k) = (-1) := by simp only [l_heldFeedItemS, hb22, hb23, hb81, hb140, hL153, cL]
         rw [hM155]
         exact ⟨rfl, (Ex.trans (Ex.trans hf17 hE76) hE135)⟩
      ·refine CW.cond_t rfl (not_f hb81) (CW.seq (CW.region (sd rfl (yl_assign rfl rfl (dn (CW.ret (tr (br ?_))))))))
       refine tr (tr ?_)
       have hB159 : B_l_heldFeedItemS_0 p_a p_k k2 (x3) = .ret (-1) := by simp only [B_l_heldFeedItemS_0, hb22, hb23, hb81, cL]
       have hL158 : loopM (B_l_heldFeedItemS_0 p_a p_k) (p_a.length - 0) 0 (p_k) = .ret (-1) := hI11.symm.trans (loopM.ret hlt20 hB159)
       refine br (tr (rr rfl (.cons rfl .nil) ?_))
       have hM160 : (l_heldFeedItemS p_a p_k) = (-1) := by simp only [l_heldFeedItemS, hb22, hb23, hb81, hL158, cL]
       rw [hM160]
       exact ⟨rfl, (Ex.trans hf17 hE76)⟩
    ·have hb23p := dec_f hb23
     refine CW.cond_t rfl (not_f hb23) (CW.seq (CW.region (sd rfl (yl_assign rfl rfl (dn (CW.ret (tr (br ?_))))))))
     refine tr (tr ?_)
     have hB163 : B_l_heldFeedItemS_0 p_a p_k k2 (x3) = .ret (-1) := by simp only [B_l_heldFeedItemS_0, hb22, hb23, cL]
     have hL162 : loopM (B_l_heldFeedItemS_0 p_a p_k) (p_a.length - 0) 0 (p_k) = .ret (-1) := hI11.symm.trans (loopM.ret hlt20 hB163)
     refine br (tr (rr rfl (.cons rfl .nil) ?_))
     have hM164 : (l_heldFeedItemS p_a p_k) = (-1) := by simp only [l_heldFeedItemS, hb22, hb23, hL162, cL]
     rw [hM164]
     exact ⟨rfl, hf17⟩
   ·have hb22p := dec_f hb22
    refine CW.cond_t rfl (not_f hb22) (CW.seq (CW.region (sd rfl (yl_assign rfl rfl (dn (CW.ret (tr (br ?_))))))))
    refine tr (tr ?_)
    have hB166 : B_l_heldFeedItemS_0 p_a p_k k2 (x3) = .ret (-1) := by simp only [B_l_heldFeedItemS_0, hb22, cL]
    have hL165 : loopM (B_l_heldFeedItemS_0 p_a p_k) (p_a.length - 0) 0 (p_k) = .ret (-1) := hI11.symm.trans (loopM.ret hlt20 hB166)
    refine br (tr (rr rfl (.cons rfl .nil) ?_))
    have hM167 : (l_heldFeedItemS p_a p_k) = (-1) := by simp only [l_heldFeedItemS, hb22, hL165, cL]
    rw [hM167]
    exact ⟨rfl, hf17⟩
  ·refine CW.seq (CW.seq (CW.region (sd rfl (yl_move rfl rfl (sd rfl (yl_move rfl rfl (sd rfl (yl_len un30 rfl rfl (sd rfl (yl_lss rfl rfl rfl (dn ?_)))))))))))
   refine CW.cond_f rfl (lt_f hlt20) (CW.exit (tx (tx ?_)))
   have hL168 : loopM (B_l_heldFeedItemS_0 p_a p_k) (p_a.length - 0) 0 (p_k) = .done (x3) := hI11.symm.trans (loopM.stop hlt20)
   refine bx (tn (CW.seq (CW.region (sd rfl (yl_move rfl rfl (sd rfl (yl_assign rfl rfl (dn (CW.ret ?_)))))))))
   refine rr rfl (.cons rfl .nil) ?_
   have hM169 : (l_heldFeedItemS p_a p_k) = (x3) := by simp only [l_heldFeedItemS, hL168, cL]
   rw [hM169]
   exact ⟨rfl, hf17⟩
theorem c_l_heldDiff {A1 : Option Addr} {c1 : Nat} {w : World} (p_a : DDiff) (p_k : Int) (h1 : RdS w (Iv 0 w.heap.size) (RF e_FeedItem) 5 A1 p_a.List.length c1 p_a.List) (pre0 : p_k ≤ 9223372036854775807) : Cal Try.prog 15 #[.agg #[.int .i64 (p_a.From), .int .i64 (p_a.To), .slice A1 p_a.List.length c1], .int .i64 (p_k)] w fun v w' => v = .int .i64 ((l_heldDiff p_a p_k)) ∧ Ex w w' := by
 refine Cal.of func15 rfl ntmps15 rfl (CW.seq (CW.region (sd rfl (yl_box rfl rfl rfl ?_))))
 intro b2 w3 hs4 hz5 hB6 hE7
 refine sd rfl (yl_assign rfl rfl (dn (CW.seq (CW.region (sd rfl (yl_fieldAddr fd32_2 rfl rfl (sd rfl (yl_load1 ty30 rfl rfl ((hB6.cell 2).trans rfl) (sd rfl (yl_move rfl rfl (sd rfl (yl_call en41 rfl (oc rfl (oc rfl oz)) (Cal.mono (c_l_heldFeedItemS p_a.List p_k (RdS.up (RdS.ex good_FeedItem h1 hE7) good_FeedItem) (by first | omega | assumption | (simp only [wI] at *; omega))) ?_)))))))))))))
 rintro v10 w9 ⟨rfl, hE11⟩
 have hE11z := Ex.size hE11
 have hrf12 := rf_heldFeedItemS p_a.List p_k (by first | omega | assumption | (simp only [wI] at *; omega))
 refine sd rfl (yl_assign rfl rfl (dn (CW.seq (CW.seq (CW.region (sd rfl (yl_move rfl rfl (sd rfl (yl_lss rfl rfl rfl (SeqR.done ?_))))))))))
 refine tn (bcase (decide ((l_heldFeedItemS p_a.List p_k) < 0)) (fun hb13 => ?_) (fun hb13 => ?_))
 ·have hb13p := dec_t hb13
  refine CW.cond_t rfl hb13 (CW.seq (CW.region (sd rfl (yl_assign rfl rfl (dn (CW.ret (tr (rr rfl (.cons rfl .nil) ?_))))))))
  have hM14 : (l_heldDiff p_a p_k) = (-1) := by simp only [l_heldDiff, hb13, cL]
  rw [hM14]
  exact ⟨rfl, (Ex.trans (Ex.trans (Ex.refl w) hE7) hE11)⟩
 ·have hb13p := dec_f hb13
  refine CW.cond_f rfl hb13 (CW.skip (tn (CW.seq (CW.region (sd rfl (yl_move rfl rfl (sd rfl (yl_assign rfl rfl (dn ?_)))))))))
  refine CW.ret (rr rfl (.cons rfl .nil) ?_)
  have hM17 : (l_heldDiff p_a p_k) = ((l_heldFeedItemS p_a.List p_k)) := by simp only [l_heldDiff, hb13, cL]
  rw [hM17]
  exact ⟨rfl, (Ex.trans (Ex.trans (Ex.refl w) hE7) hE11)⟩
theorem c_l_FnExactReadDiff {w : World} (p_0 : Str) (pre0 : wfS p_0) : Cal Try.prog 4 #[.string (bs (p_0))] w fun v w' => v = .bool ((l_FnExactReadDiff p_0)) ∧ Ex w w' := by
 refine Cal.of func4 rfl ntmps4 rfl (CW.seq (CW.region (sd rfl (yl_assign rfl rfl (dn (CW.seq (CW.seq (CW.region ?_))))))))
 refine sd rfl (yl_move rfl rfl (sd rfl (yl_slen un9 (a := p_0) rfl rfl (sd rfl (yl_gtr rfl rfl rfl (dn (bcase (decide (1048576 < (p_0.length : Int))) (fun hb1 => ?_) (fun hb1 => ?_))))))))
 ·have hb1p := dec_t hb1
  refine CW.cond_t rfl hb1 (CW.seq (CW.region (sd rfl (yl_assign rfl rfl (dn (CW.ret (tr (rr rfl (.cons rfl .nil) ?_))))))))
  have hM2 : (l_FnExactReadDiff p_0) = (true) := by simp only [l_FnExactReadDiff, hb1, cL]
  rw [hM2]
  exact ⟨rfl, (Ex.refl w)⟩
 ·have hb1p := dec_f hb1
  refine CW.cond_f rfl hb1 (CW.skip (tn (CW.seq (CW.region (sd rfl (yl_move rfl rfl (sd rfl (yl_call en11 rfl (oc rfl oz) (Cal.mono (c_s_ReadDiff p_0 (by unfold okS; omega)) ?_)))))))))
  rintro v6 w3 ⟨A4, c4, lo4, hi4, rfl, h4, ho5, hrn8, hE7⟩
  have hE7z := Ex.size hE7
  refine sd rfl (yl_move rfl rfl (sd rfl (yl_extract rfl rfl rfl (sd rfl (yl_extract rfl rfl rfl (sd rfl (yl_alloc ty32 (cs := [.int .i64 (0), .int .i64 (0), .slice none 0 0]) rfl rfl ?_)))))))
  intro b9 w10 hs11 hz12 hB13 hE14
  refine SeqR.u rfl rfl (yl_store (vs := [.int .i64 ((s_ReadDiff p_0).1.From), .int .i64 ((s_ReadDiff p_0).1.To), .slice A4 (((s_ReadDiff p_0).1.List).length) c4]) ty32 rfl rfl rfl rfl rfl rfl hB13 (Nat.le_of_ble_eq_true rfl) ?_)
  intro w15 hB16 hO17
  have hB16 : Box w15 b9 32 [.int .i64 ((s_ReadDiff p_0).1.From), .int .i64 ((s_ReadDiff p_0).1.To), .slice A4 (((s_ReadDiff p_0).1.List).length) c4] := hB16
  have hO17z := hO17.size
  refine sd rfl (yl_assign rfl rfl (dn (CW.seq (CW.region (sd rfl (yl_move rfl rfl (sd rfl (yl_call en12 rfl (oc rfl oz) (Cal.mono (c_i_ReadDiff p_0 (by unfold okS; omega)) ?_)))))))))
  rintro v21 w18 ⟨A19, c19, lo19, hi19, rfl, h19, ho20, hrn23, hE22⟩
  have hE22z := Ex.size hE22
  refine sd rfl (yl_move rfl rfl (sd rfl (yl_extract rfl rfl rfl (sd rfl (yl_extract rfl rfl rfl (sd rfl (yl_alloc ty32 (cs := [.int .i64 (0), .int .i64 (0), .slice none 0 0]) rfl rfl ?_)))))))
  intro b24 w25 hs26 hz27 hB28 hE29
  refine SeqR.u rfl rfl (yl_store (vs := [.int .i64 ((i_ReadDiff p_0).1.From), .int .i64 ((i_ReadDiff p_0).1.To), .slice A19 (((i_ReadDiff p_0).1.List).length) c19]) ty32 rfl rfl rfl rfl rfl rfl hB28 (Nat.le_of_ble_eq_true rfl) ?_)
  intro w30 hB31 hO32
  have hB31 : Box w30 b24 32 [.int .i64 ((i_ReadDiff p_0).1.From), .int .i64 ((i_ReadDiff p_0).1.To), .slice A19 (((i_ReadDiff p_0).1.List).length) c19] := hB31
  have hO32z := hO32.size
  refine sd rfl (yl_assign rfl rfl (dn (CW.seq (CW.seq (CW.region (sd rfl (yl_loadN ty32 rfl rfl (hB31.cells (n := 3) rfl) rfl ?_)))))))
  have q35 := Box.only (Box.ex (Box.ex hB16 hE22) hE29) hO32 (by omega)
  refine sd rfl (yl_loadN ty32 rfl rfl (q35.cells (n := 3) rfl) rfl ?_)
  have q38 := OwnL.only good_FeedItem (OwnL.ex good_FeedItem h19 hE29) hO32 (by omega)
  have q44 := OwnL.only good_FeedItem (OwnL.ex good_FeedItem (OwnL.ex good_FeedItem (OwnL.only good_FeedItem (OwnL.ex good_FeedItem h4 hE14) hO17 (by omega)) hE22) hE29) hO32 (by omega)
  refine sd rfl (yl_call en13 rfl (oc rfl (oc rfl oz)) (Cal.mono (c_l_eqDiff ((i_ReadDiff p_0).1) ((s_ReadDiff p_0).1) (RdS.up (OwnL.rd good_FeedItem q38) good_FeedItem) (RdS.up (OwnL.rd good_FeedItem q44) good_FeedItem)) ?_))
  rintro v46 w45 ⟨rfl, hE47⟩
  have hE47z := Ex.size hE47
  refine sd rfl (yl_not rfl rfl (sd rfl (yl_move rfl rfl (bcase (l_eqDiff ((i_ReadDiff p_0).1) ((s_ReadDiff p_0).1)) (fun hb48 => ?_) (fun hb48 => ?_)))))
  ·refine sy rfl rfl (not_t hb48) (yl_move rfl rfl (sy rfl rfl (not_t hb48) (yl_move rfl rfl (sy rfl rfl (not_t hb48) (yl_bneq un4 rfl rfl rfl (sd rfl (yl_pick_f rfl rfl (not_t hb48) rfl (dn (bcase (((i_ReadDiff p_0).2) == ((s_ReadDiff p_0).2)) (fun hb49 => ?_) (fun hb49 => ?_))))))))))
   ·refine CW.cond_f rfl (not_t hb49) (CW.skip (tn (CW.seq (CW.region (sd rfl (yl_assign rfl rfl (dn (CW.seq ?_))))))))
    refine CW.region ?_
    have q50 := Box.ex hB31 hE47
    refine sd rfl (yl_loadN ty32 rfl rfl (q50.cells (n := 3) rfl) rfl (sd rfl (yl_move rfl rfl (sd rfl (yl_call en14 rfl (oc rfl (oc rfl oz)) (Cal.mono (c_l_markDiff ((i_ReadDiff p_0).1) 1 (OwnL.ex good_FeedItem q38 hE47) (by omega) (by first | omega | assumption | (simp only [wI] at *; omega))) ?_))))))
    rintro v53 w52 ⟨rfl, h55, hm54⟩
    have hm54z := Mut.size hm54
    have hrf56 := rf_markDiff ((i_ReadDiff p_0).1) 1 (by first | omega | assumption | (simp only [wI] at *; omega))
    refine sd rfl (yl_assign rfl rfl (dn (CW.seq (CW.region (sd rfl (yl_assign rfl rfl (dn (CW.seq ?_))))))))
    refine CW.region ?_
    have q57 := Box.mut q50 hm54 (fun k hk => by simp only [InR, or_false] at hk; omega)
    refine sd rfl (yl_loadN ty32 rfl rfl (q57.cells (n := 3) rfl) rfl (sd rfl (yl_move rfl rfl ?_)))
    have hle58 := OwnL.len h55
    refine sd rfl (yl_call en15 rfl (oc rfl (oc rfl oz)) (Cal.mono (Cal.args (by rw [← hle58] <;> rfl) (c_l_heldDiff (⟨(i_ReadDiff p_0).1.From, (i_ReadDiff p_0).1.To, (l_markDiff ((i_ReadDiff p_0).1) 1).2.List⟩ : DDiff) 1 (RdS.fix (RdS.up (OwnL.rd good_FeedItem h55) good_FeedItem)) (by first | omega | assumption | (simp only [wI] at *; omega)))) ?_))
    rintro v61 w60 ⟨rfl, hE62⟩
    have hE62z := Ex.size hE62
    have hrf63 := rf_heldDiff (⟨(i_ReadDiff p_0).1.From, (i_ReadDiff p_0).1.To, (l_markDiff ((i_ReadDiff p_0).1) 1).2.List⟩ : DDiff) 1 (by first | omega | assumption | (simp only [wI] at *; omega))
    refine sd rfl (yl_assign rfl rfl (dn (CW.seq (CW.seq (CW.region (sd rfl (yl_move rfl rfl (sd rfl (yl_lss rfl rfl rfl (SeqR.done ?_))))))))))
    refine tn (bcase (decide ((l_heldDiff (⟨(i_ReadDiff p_0).1.From, (i_ReadDiff p_0).1.To, (l_markDiff ((i_ReadDiff p_0).1) 1).2.List⟩ : DDiff) 1) < 0)) (fun hb64 => ?_) (fun hb64 => ?_))
    ·have hb64p := dec_t hb64
     refine CW.cond_t rfl hb64 (CW.seq (CW.region (sd rfl (yl_assign rfl rfl (dn (CW.ret (tr (rr rfl (.cons rfl .nil) ?_))))))))
     have hM65 : (l_FnExactReadDiff p_0) = (false) := by simp only [l_FnExactReadDiff, hb1, hb48, hb49, hb64, cL]
     rw [hM65]
     exact ⟨rfl, (Ex.trans (Ex.mut (Ex.trans (Below.only (Ex.trans (Ex.trans (Below.only (Ex.trans (Ex.trans (Ex.refl w) hE7) hE14) hO17 (by omega)) hE22) hE29) hO32 (by omega)) hE47) hm54 (fun k hk => by simp only [InR, or_false] at hk; omega)) hE62)⟩
    ·have hb64p := dec_f hb64
     refine CW.cond_f rfl hb64 (CW.skip (tn (CW.seq (CW.seq (CW.region (sd rfl (yl_move rfl rfl (sd rfl (yl_move rfl rfl (sd rfl (yl_neq rfl rfl rfl ?_)))))))))))
     refine dn (bcase (decide ((l_heldDiff (⟨(i_ReadDiff p_0).1.From, (i_ReadDiff p_0).1.To, (l_markDiff ((i_ReadDiff p_0).1) 1).2.List⟩ : DDiff) 1) = ((l_markDiff ((i_ReadDiff p_0).1) 1).1))) (fun hb75 => ?_) (fun hb75 => ?_))
     ·have hb75p := dec_t hb75
      refine CW.cond_f rfl (not_t hb75) (CW.skip (tn (CW.seq (CW.region (sd rfl (yl_move rfl rfl (sd rfl (yl_call en12 rfl (oc rfl oz) (Cal.mono (c_i_ReadDiff p_0 (by unfold okS; omega)) ?_)))))))))
      rintro v79 w76 ⟨A77, c77, lo77, hi77, rfl, h77, ho78, hrn81, hE80⟩
      have hE80z := Ex.size hE80
      refine sd rfl (yl_move rfl rfl (sd rfl (yl_extract rfl rfl rfl (sd rfl (yl_extract rfl rfl rfl (sd rfl (yl_alloc ty32 (cs := [.int .i64 (0), .int .i64 (0), .slice none 0 0]) rfl rfl ?_)))))))
      intro b82 w83 hs84 hz85 hB86 hE87
      refine SeqR.u rfl rfl (yl_store (vs := [.int .i64 ((i_ReadDiff p_0).1.From), .int .i64 ((i_ReadDiff p_0).1.To), .slice A77 (((i_ReadDiff p_0).1.List).length) c77]) ty32 rfl rfl rfl rfl rfl rfl hB86 (Nat.le_of_ble_eq_true rfl) ?_)
      intro w88 hB89 hO90
      have hB89 : Box w88 b82 32 [.int .i64 ((i_ReadDiff p_0).1.From), .int .i64 ((i_ReadDiff p_0).1.To), .slice A77 (((i_ReadDiff p_0).1.List).length) c77] := hB89
      have hO90z := hO90.size
      refine sd rfl (yl_assign rfl rfl (dn (CW.seq (CW.seq (CW.region (sd rfl (yl_loadN ty32 rfl rfl (hB89.cells (n := 3) rfl) rfl (sd rfl (yl_loadN ty32 rfl rfl ((Box.only (Box.ex (Box.ex (Box.ex (Box.mut (Box.ex q35 hE47) hm54 (fun k hk => by simp only [InR, or_false] at hk; omega)) hE62) hE80) hE87) hO90 (by omega)).cells (n := 3) rfl) rfl (sd rfl (yl_call en13 rfl (oc rfl (oc rfl oz)) (Cal.mono (c_l_eqDiff ((i_ReadDiff p_0).1) ((s_ReadDiff p_0).1) (RdS.up (OwnL.rd good_FeedItem (OwnL.only good_FeedItem (OwnL.ex good_FeedItem h77 hE87) hO90 (by omega))) good_FeedItem) (RdS.up (OwnL.rd good_FeedItem (OwnL.only good_FeedItem (OwnL.ex good_FeedItem (OwnL.ex good_FeedItem (OwnL.ex good_FeedItem (OwnL.mut good_FeedItem (OwnL.ex good_FeedItem q44 hE47) hm54 (fun k hk => by simp only [InR, or_false] at hk; omega)) hE62) hE80) hE87) hO90 (by omega))) good_FeedItem)) ?_))))))))))))
      rintro v108 w107 ⟨rfl, hE109⟩
      have hE109z := Ex.size hE109
      refine sd rfl (yl_not rfl rfl (sd rfl (yl_move rfl rfl (sy rfl rfl (not_t hb48) (yl_move rfl rfl (sy rfl rfl (not_t hb48) (yl_move rfl rfl (sy rfl rfl (not_t hb48) (yl_bneq un4 rfl rfl rfl (sd rfl (yl_pick_f rfl rfl (not_t hb48) rfl (dn (CW.cond_f rfl (not_t hb49) ?_)))))))))))))
      refine CW.skip (tn (CW.seq (CW.region (sd rfl (yl_assign rfl rfl (dn (CW.seq (CW.region ?_))))))))
      refine sd rfl (yl_loadN ty32 rfl rfl ((Box.ex (Box.only (Box.ex (Box.ex (Box.ex q57 hE62) hE80) hE87) hO90 (by omega)) hE109).cells (n := 3) rfl) rfl (sd rfl (yl_move rfl rfl ?_)))
      have q120 := OwnL.ex good_FeedItem (OwnL.only good_FeedItem (OwnL.ex good_FeedItem (OwnL.ex good_FeedItem (OwnL.ex good_FeedItem h55 hE62) hE80) hE87) hO90 (by omega)) hE109
      have hle115 := OwnL.len q120
      refine sd rfl (yl_call en15 rfl (oc rfl (oc rfl oz)) (Cal.mono (Cal.args (by rw [← hle115] <;> rfl) (c_l_heldDiff (⟨(i_ReadDiff p_0).1.From, (i_ReadDiff p_0).1.To, (l_markDiff ((i_ReadDiff p_0).1) 1).2.List⟩ : DDiff) 1 (RdS.fix (RdS.up (OwnL.rd good_FeedItem q120) good_FeedItem)) (by first | omega | assumption | (simp only [wI] at *; omega)))) ?_))
      rintro v123 w122 ⟨rfl, hE124⟩
      have hE124z := Ex.size hE124
      have hrf125 := rf_heldDiff (⟨(i_ReadDiff p_0).1.From, (i_ReadDiff p_0).1.To, (l_markDiff ((i_ReadDiff p_0).1) 1).2.List⟩ : DDiff) 1 (by first | omega | assumption | (simp only [wI] at *; omega))
      refine sd rfl (yl_assign rfl rfl (dn (CW.seq (CW.seq (CW.region (sd rfl (yl_move rfl rfl (sd rfl (yl_lss rfl rfl rfl (SeqR.done ?_))))))))))
      refine tn (CW.cond_f rfl hb64 (CW.skip (tn (CW.seq (CW.seq (CW.region (sd rfl (yl_move rfl rfl (sd rfl (yl_move rfl rfl ?_))))))))))
      refine sd rfl (yl_neq rfl rfl rfl (dn (CW.cond_f rfl (not_t hb75) (CW.skip (tn (CW.seq (CW.region (sd rfl (yl_assign rfl rfl ?_)))))))))
      refine dn (CW.ret (rr rfl (.cons rfl .nil) ?_))
      have hM126 : (l_FnExactReadDiff p_0) = (true) := by simp only [l_FnExactReadDiff, hb1, hb48, hb49, hb64, hb75, cL]
      rw [hM126]
      exact ⟨rfl, (Ex.trans (Ex.trans (Below.only (Ex.trans (Ex.trans (Ex.trans (Ex.mut (Ex.trans (Below.only (Ex.trans (Ex.trans (Below.only (Ex.trans (Ex.trans (Ex.refl w) hE7) hE14) hO17 (by omega)) hE22) hE29) hO32 (by omega)) hE47) hm54 (fun k hk => by simp only [InR, or_false] at hk; omega)) hE62) hE80) hE87) hO90 (by omega)) hE109) hE124)⟩
     ·have hb75p := dec_f hb75
      refine CW.cond_t rfl (not_f hb75) (CW.seq (CW.region (sd rfl (yl_assign rfl rfl (dn (CW.ret (tr (rr rfl (.cons rfl .nil) ?_))))))))
      have hM141 : (l_FnExactReadDiff p_0) = (false) := by simp only [l_FnExactReadDiff, hb1, hb48, hb49, hb64, hb75, cL]
      rw [hM141]
      exact ⟨rfl, (Ex.trans (Ex.mut (Ex.trans (Below.only (Ex.trans (Ex.trans (Below.only (Ex.trans (Ex.trans (Ex.refl w) hE7) hE14) hO17 (by omega)) hE22) hE29) hO32 (by omega)) hE47) hm54 (fun k hk => by simp only [InR, or_false] at hk; omega)) hE62)⟩
   ·refine CW.cond_t rfl (not_f hb49) (CW.seq (CW.region (sd rfl (yl_assign rfl rfl (dn (CW.ret (tr (rr rfl (.cons rfl .nil) ?_))))))))
    have hM151 : (l_FnExactReadDiff p_0) = (false) := by simp only [l_FnExactReadDiff, hb1, hb48, hb49, cL]
    rw [hM151]
    exact ⟨rfl, (Ex.trans (Below.only (Ex.trans (Ex.trans (Below.only (Ex.trans (Ex.trans (Ex.refl w) hE7) hE14) hO17 (by omega)) hE22) hE29) hO32 (by omega)) hE47)⟩
  ·refine sz rfl rfl (not_f hb48) (sz rfl rfl (not_f hb48) (sz rfl rfl (not_f hb48) (sd rfl (yl_pick_t rfl rfl (not_f hb48) rfl (dn (CW.cond_t rfl rfl (CW.seq (CW.region ?_))))))))
   refine sd rfl (yl_assign rfl rfl (dn (CW.ret (tr (rr rfl (.cons rfl .nil) ?_)))))
   have hM159 : (l_FnExactReadDiff p_0) = (false) := by simp only [l_FnExactReadDiff, hb1, hb48, cL]
   rw [hM159]
   exact ⟨rfl, (Ex.trans (Below.only (Ex.trans (Ex.trans (Below.only (Ex.trans (Ex.trans (Ex.refl w) hE7) hE14) hO17 (by omega)) hE22) hE29) hO32 (by omega)) hE47)⟩
end Go.Proofs.Ytbamdefifgkbgaa
