/- Read Copy: what each call returns, part 2. -/
import Derived.Test.YtbamdefifgkbgaaReadCopyC1
set_option maxRecDepth 100000
set_option maxHeartbeats 2000000
open Go.Proofs.Try Go.Proofs.Ytbamdefifgkbgaa.Try
set_option linter.unusedVariables false
set_option linter.unusedSimpArgs false
namespace Go.Proofs.Ytbamdefifgkbgaa
open Go.RowKit Go.X
theorem c_i_source_num {b1 : Nat} {w : World} (p_r_b : Str) (p_r : Int × Bool) (h2 : Box w b1 57 [.string (bs (p_r_b)), .int .i64 (p_r.1), .bool (p_r.2)]) (o3 : okS p_r_b) (pre0 : (0 ≤ p_r.1 ∧ p_r.1 ≤ (p_r_b.length : Int))) : Cal Try.prog 27 #[.pointer (some ⟨b1, 0, none⟩)] w fun v w' => v = .int .i64 ((i_source_num p_r_b p_r).1) ∧ Box w' b1 57 [.string (bs (p_r_b)), .int .i64 (((i_source_num p_r_b p_r).2).1), .bool (((i_source_num p_r_b p_r).2).2)] ∧ Chg (InR [(b1, b1 + 1)]) w w' := by
 have hol4 : p_r_b.length ≤ 1073741824 := o3
 have hbx5 := Box.lt h2
 refine Cal.of func27 rfl ntmps27 rfl (CW.seq (CW.region (sd rfl (yl_assign rfl rfl (dn (CW.seq (CW.region (sd rfl (yl_move rfl rfl ?_)))))))))
 refine sd rfl (yl_nil rfl rfl (sd rfl (yl_fieldAddr fd57_1 rfl rfl (sd rfl (yl_load1 ty3 rfl rfl ((h2.cell 1).trans rfl) (sd rfl (yl_assign rfl rfl (dn (CW.seq (CW.region (sd rfl (yl_assign rfl rfl ?_))))))))))))
 refine sd rfl (yl_assign rfl rfl (dn (CW.seq (CW.block (CW.loop (fun m33 L34 w35 => ∃ (x29 : Int) (x30 : Int) (x31 : Int) (x32 : Bool), ((6 - (x31 - p_r.1)).toNat) < m33 ∧ w.heap.size ≤ w35.heap.size ∧ lkp L34 0 = some (.pointer (some ⟨b1, 0, none⟩)) ∧ lkp L34 3 = some (.int .i64 (p_r.1)) ∧ lkp L34 4 = some (.int .i64 (x29)) ∧ lkp L34 5 = some (.int .i64 (x30)) ∧ Box w35 b1 57 [.string (bs (p_r_b)), .int .i64 (x31), .bool (x32)] ∧ Chg (InR [(b1, b1 + 1)]) w w35 ∧ (p_r.1 ≤ x31 ∧ x31 ≤ (p_r_b.length : Int)) ∧ (0 ≤ x29 ∧ x29 ≤ 1000000000) ∧ ((x31 - p_r.1 = 0 ∧ x30 = 1) ∨ (x31 - p_r.1 = 1 ∧ x30 = 128) ∨ (x31 - p_r.1 = 2 ∧ x30 = 16384) ∨ (x31 - p_r.1 = 3 ∧ x30 = 2097152) ∨ (x31 - p_r.1 = 4 ∧ x30 = 268435456) ∨ (x31 - p_r.1 = 5 ∧ x30 = 34359738368)) ∧ loopW (B_i_source_num_0 p_r_b p_r) m33 (x29, x30, x31, x32) = loopW (B_i_source_num_0 p_r_b p_r) (((6 - (p_r.1 - p_r.1)).toNat) + 1) (0, 1, p_r.1, p_r.2)) (((6 - (p_r.1 - p_r.1)).toNat) + 1) ?_ ?_)))))
 ·exact ⟨0, 1, p_r.1, p_r.2, Nat.lt_succ_self _, Nat.le_refl _, rfl, rfl, rfl, rfl, h2, (Chg.refl (InR [(b1, b1 + 1)]) w), (by first | omega | assumption | (simp only [wI] at *; omega)), (by first | omega | assumption | (simp only [wI] at *; omega)), (by first | omega | assumption | (simp only [wI] at *; omega)), rfl⟩
 ·rintro m36 L37 w38 ⟨x29, x30, x31, x32, hk39, hsz41, hl42, hl43, hl44, hl45, hf46, hf47, hv48, hv49, hv50, hI40⟩
  refine CW.sub (Sub.cons hl42 (Sub.cons hl43 (Sub.cons hl44 (Sub.cons hl45 (Sub.nil _))))) ?_
  have hf46z := Box.lt hf46
  have hf47z := Chg.size hf47
  refine CW.block (CW.seq (CW.region (sd rfl (yl_move rfl rfl (sd rfl (yl_call en36 rfl (oc rfl (oc rfl oz)) (Cal.mono (c_i_source_take p_r_b (x31, x32) 1 hf46 o3 (by first | omega | assumption | (simp only [wI] at *; omega)) (by first | omega | assumption | (simp only [wI] at *; omega))) ?_)))))))
  rintro v53 w51 ⟨rfl, ho52, hB55, hc54⟩
  have hc54z := Chg.size hc54
  have hB55z := Box.lt hB55
  have hrf56 := rf_take o3 (x31, x32) 1 (by first | omega | assumption | (simp only [wI] at *; omega))
  refine sd rfl (yl_assign rfl rfl (dn (CW.seq (CW.seq (CW.region (sd rfl (yl_move rfl rfl (sd rfl (yl_nil rfl rfl (sd rfl (yl_fieldAddr fd57_2 rfl rfl ?_)))))))))))
  refine sd rfl (yl_load1 ty4 rfl rfl ((hB55.cell 2).trans rfl) (dn (bcase (((i_source_take p_r_b (x31, x32) 1).2).2) (fun hb57 => ?_) (fun hb57 => ?_))))
  ·refine CW.cond_t rfl hb57 (CW.seq (CW.region (sd rfl (yl_assign rfl rfl (dn (CW.ret (tr (br ?_))))))))
   refine tr ?_
   have hB59 : B_i_source_num_0 p_r_b p_r (x29, x30, x31, x32) = .ret (0, ((i_source_take p_r_b (x31, x32) 1).2)) := by simp only [B_i_source_num_0, hb57, cL]
   have hL58 : loopW (B_i_source_num_0 p_r_b p_r) (((6 - (p_r.1 - p_r.1)).toNat) + 1) (0, 1, p_r.1, p_r.2) = .ret (0, ((i_source_take p_r_b (x31, x32) 1).2)) := hI40.symm.trans (loopW.ret hk39 hB59)
   refine br (tr (rr rfl (.cons rfl .nil) ?_))
   have hM60 : (i_source_num p_r_b p_r) = ((0, (((i_source_take p_r_b (x31, x32) 1).2).1, ((i_source_take p_r_b (x31, x32) 1).2).2))) := by first | (simp only [i_source_num, hb57, hL58, cL]; done) | (simp only [i_source_num, hb57, hL58, cond_true, cond_false, loopE_done, loopE_ret, pairE]; done) | exact (show (i_source_num p_r_b p_r) = ((0, ((i_source_take p_r_b (x31, x32) 1).2))) from by simp only [i_source_num, hb57, hL58, cond_true, cond_false, loopE_done, loopE_ret, pairE])
   rw [hM60]
   exact ⟨rfl, hB55, (Chg.tchg hf47 hc54 (fun k hk => by simp only [InR, or_false] at hk ⊢; omega))⟩
  ·have hb57p := f_take hb57 o3 (by omega)
   have hb57q := digit_mul (i_source_take p_r_b (x31, x32) 1).1 (f := x30) (by omega) (by omega)
   have hb57r : IntKind.wrap .i64 (x29 + (IntKind.wrap .i64 ((IntKind.wrap .i64 (Int.tmod ((((i_source_take p_r_b (x31, x32) 1).1).getD 0 0).toNat : Int) 128)) * x30))) = x29 + (IntKind.wrap .i64 ((IntKind.wrap .i64 (Int.tmod ((((i_source_take p_r_b (x31, x32) 1).1).getD 0 0).toNat : Int) 128)) * x30)) := wrap_in (by omega)
   have hb57s : IntKind.wrap .i64 (((i_source_take p_r_b (x31, x32) 1).2).1 - p_r.1) = ((i_source_take p_r_b (x31, x32) 1).2).1 - p_r.1 := wrap_in (by omega)
   have hb57t : IntKind.wrap .i64 (x30 * 128) = x30 * 128 := wrap_in (by omega)
   refine CW.cond_f rfl hb57 (CW.skip (tn (CW.seq (CW.region (sd rfl (yl_move rfl rfl (sd rfl (yl_move rfl rfl (sd rfl (yl_sindexN un9 (a := ((i_source_take p_r_b (x31, x32) 1).1)) rfl rfl rfl (by first | omega | assumption | (simp only [wI] at *; omega)) (sd rfl (yl_rem rfl rfl rfl (by decide) ?_))))))))))))
   refine sd rfl (yl_conv un5 un3 rfl rfl (sd rfl (yl_move rfl rfl (sd rfl (yl_mul rfl rfl rfl (sd rfl (yl_add rfl rfl rfl (sd rfl (yl_assign rfl rfl (dn (CW.seq (CW.seq ?_))))))))))))
   refine CW.region (sd rfl (yl_move rfl rfl (sd rfl (yl_gtr rfl rfl rfl (sd rfl (yl_move rfl rfl (bcase (decide (1000000000 < (IntKind.wrap .i64 (x29 + (IntKind.wrap .i64 ((IntKind.wrap .i64 (Int.tmod ((((i_source_take p_r_b (x31, x32) 1).1).getD 0 0).toNat : Int) 128)) * x30)))))) (fun hb62 => ?_) (fun hb62 => ?_))))))))
   ·have hb62p := dec_t hb62
    refine sz rfl rfl hb62 (sz rfl rfl hb62 (sz rfl rfl hb62 (sz rfl rfl hb62 (sz rfl rfl hb62 (sz rfl rfl hb62 (sz rfl rfl hb62 (sd rfl (yl_pick_t rfl rfl hb62 rfl (SeqR.done ?_)))))))))
    refine tn (CW.cond_t rfl rfl (CW.seq (CW.region (sd rfl (yl_move rfl rfl (sd rfl (yl_call en57 rfl (oc rfl oz) (Cal.mono (c_i_source_fail p_r_b ((i_source_take p_r_b (x31, x32) 1).2) hB55 o3) ?_))))))))
    rintro v64 w63 ⟨rfl, hB66, hc65⟩
    have hc65z := Chg.size hc65
    have hB66z := Box.lt hB66
    have hrf67 := rf_fail p_r_b ((i_source_take p_r_b (x31, x32) 1).2)
    refine dn (CW.seq (CW.region (sd rfl (yl_assign rfl rfl (dn (CW.ret (tr ?_)))))))
    refine br (tr ?_)
    have hB69 : B_i_source_num_0 p_r_b p_r (x29, x30, x31, x32) = .ret (0, (i_source_fail p_r_b ((i_source_take p_r_b (x31, x32) 1).2))) := by simp only [B_i_source_num_0, hb57, hb62, cL]
    have hL68 : loopW (B_i_source_num_0 p_r_b p_r) (((6 - (p_r.1 - p_r.1)).toNat) + 1) (0, 1, p_r.1, p_r.2) = .ret (0, (i_source_fail p_r_b ((i_source_take p_r_b (x31, x32) 1).2))) := hI40.symm.trans (loopW.ret hk39 hB69)
    refine br (tr (rr rfl (.cons rfl .nil) ?_))
    have hM70 : (i_source_num p_r_b p_r) = ((0, ((i_source_fail p_r_b ((i_source_take p_r_b (x31, x32) 1).2)).1, (i_source_fail p_r_b ((i_source_take p_r_b (x31, x32) 1).2)).2))) := by first | (simp only [i_source_num, hb57, hb62, hL68, cL]; done) | (simp only [i_source_num, hb57, hb62, hL68, cond_true, cond_false, loopE_done, loopE_ret, pairE]; done) | exact (show (i_source_num p_r_b p_r) = ((0, (i_source_fail p_r_b ((i_source_take p_r_b (x31, x32) 1).2)))) from by simp only [i_source_num, hb57, hb62, hL68, cond_true, cond_false, loopE_done, loopE_ret, pairE])
    rw [hM70]
    exact ⟨rfl, hB66, (Chg.tchg (Chg.tchg hf47 hc54 (fun k hk => by simp only [InR, or_false] at hk ⊢; omega)) hc65 (fun k hk => by simp only [InR, or_false] at hk ⊢; omega))⟩
   ·have hb62p := dec_f hb62
    refine sy rfl rfl hb62 (yl_move rfl rfl (sy rfl rfl hb62 (yl_nil rfl rfl (sy rfl rfl hb62 (yl_fieldAddr fd57_1 rfl rfl (sy rfl rfl hb62 (yl_load1 ty3 rfl rfl ((hB55.cell 1).trans rfl) (sy rfl rfl hb62 (yl_move rfl rfl (sy rfl rfl hb62 (yl_sub rfl rfl rfl (sy rfl rfl hb62 (yl_gtr rfl rfl rfl (sd rfl (yl_pick_f rfl rfl hb62 rfl (SeqR.done ?_))))))))))))))))
    refine tn (bcase (decide (5 < (IntKind.wrap .i64 ((((i_source_take p_r_b (x31, x32) 1).2).1) - p_r.1)))) (fun hb73 => ?_) (fun hb73 => ?_))
    ·have hb73p := dec_t hb73
     refine CW.cond_t rfl hb73 (CW.seq (CW.region (sd rfl (yl_move rfl rfl (sd rfl (yl_call en57 rfl (oc rfl oz) (Cal.mono (c_i_source_fail p_r_b ((i_source_take p_r_b (x31, x32) 1).2) hB55 o3) ?_)))))))
     rintro v75 w74 ⟨rfl, hB77, hc76⟩
     have hc76z := Chg.size hc76
     have hB77z := Box.lt hB77
     have hrf78 := rf_fail p_r_b ((i_source_take p_r_b (x31, x32) 1).2)
     refine dn (CW.seq (CW.region (sd rfl (yl_assign rfl rfl (dn (CW.ret (tr ?_)))))))
     refine br (tr ?_)
     have hB80 : B_i_source_num_0 p_r_b p_r (x29, x30, x31, x32) = .ret (0, (i_source_fail p_r_b ((i_source_take p_r_b (x31, x32) 1).2))) := by simp only [B_i_source_num_0, hb57, hb62, hb73, cL]
     have hL79 : loopW (B_i_source_num_0 p_r_b p_r) (((6 - (p_r.1 - p_r.1)).toNat) + 1) (0, 1, p_r.1, p_r.2) = .ret (0, (i_source_fail p_r_b ((i_source_take p_r_b (x31, x32) 1).2))) := hI40.symm.trans (loopW.ret hk39 hB80)
     refine br (tr (rr rfl (.cons rfl .nil) ?_))
     have hM81 : (i_source_num p_r_b p_r) = ((0, ((i_source_fail p_r_b ((i_source_take p_r_b (x31, x32) 1).2)).1, (i_source_fail p_r_b ((i_source_take p_r_b (x31, x32) 1).2)).2))) := by first | (simp only [i_source_num, hb57, hb62, hb73, hL79, cL]; done) | (simp only [i_source_num, hb57, hb62, hb73, hL79, cond_true, cond_false, loopE_done, loopE_ret, pairE]; done) | exact (show (i_source_num p_r_b p_r) = ((0, (i_source_fail p_r_b ((i_source_take p_r_b (x31, x32) 1).2)))) from by simp only [i_source_num, hb57, hb62, hb73, hL79, cond_true, cond_false, loopE_done, loopE_ret, pairE])
     rw [hM81]
     exact ⟨rfl, hB77, (Chg.tchg (Chg.tchg hf47 hc54 (fun k hk => by simp only [InR, or_false] at hk ⊢; omega)) hc76 (fun k hk => by simp only [InR, or_false] at hk ⊢; omega))⟩
    ·have hb73p := dec_f hb73
     refine CW.cond_f rfl hb73 (CW.skip (tn (CW.seq (CW.seq (CW.region (sd rfl (yl_move rfl rfl (sd rfl (yl_sindexN un9 (a := ((i_source_take p_r_b (x31, x32) 1).1)) rfl rfl rfl (by first | omega | assumption | (simp only [wI] at *; omega)) (sd rfl (yl_lss rfl rfl rfl ?_)))))))))))
     refine dn (bcase (decide (((((i_source_take p_r_b (x31, x32) 1).1).getD 0 0).toNat : Int) < 128)) (fun hb84 => ?_) (fun hb84 => ?_))
     ·have hb84p := dec_t hb84
      refine CW.cond_t rfl hb84 (CW.exit (tx (by' rfl (tx ?_))))
      have hB86 : B_i_source_num_0 p_r_b p_r (x29, x30, x31, x32) = .brk (IntKind.wrap .i64 (x29 + (IntKind.wrap .i64 ((IntKind.wrap .i64 (Int.tmod ((((i_source_take p_r_b (x31, x32) 1).1).getD 0 0).toNat : Int) 128)) * x30))), x30, ((i_source_take p_r_b (x31, x32) 1).2).1, ((i_source_take p_r_b (x31, x32) 1).2).2) := by simp only [B_i_source_num_0, hb57, hb62, hb73, hb84, cL]
      have hL85 : loopW (B_i_source_num_0 p_r_b p_r) (((6 - (p_r.1 - p_r.1)).toNat) + 1) (0, 1, p_r.1, p_r.2) = .done (IntKind.wrap .i64 (x29 + (IntKind.wrap .i64 ((IntKind.wrap .i64 (Int.tmod ((((i_source_take p_r_b (x31, x32) 1).1).getD 0 0).toNat : Int) 128)) * x30))), x30, ((i_source_take p_r_b (x31, x32) 1).2).1, ((i_source_take p_r_b (x31, x32) 1).2).2) := hI40.symm.trans (loopW.brk hk39 hB86)
      refine bx (tn (CW.seq (CW.seq ?_)))
      have hrf88 := rf_numBytes (IntKind.wrap .i64 (x29 + (IntKind.wrap .i64 ((IntKind.wrap .i64 (Int.tmod ((((i_source_take p_r_b (x31, x32) 1).1).getD 0 0).toNat : Int) 128)) * x30)))) (by first | omega | assumption | (simp only [wI] at *; omega))
      refine CW.drawsI 13 (vgetI ([.int .i64 (IntKind.wrap .i64 (x29 + (IntKind.wrap .i64 ((IntKind.wrap .i64 (Int.tmod ((((i_source_take p_r_b (x31, x32) 1).1).getD 0 0).toNat : Int) 128)) * x30)))), .string (bs ((i_numBytes (IntKind.wrap .i64 (x29 + (IntKind.wrap .i64 ((IntKind.wrap .i64 (Int.tmod ((((i_source_take p_r_b (x31, x32) 1).1).getD 0 0).toNat : Int) 128)) * x30))))))), .pointer (some ⟨b1, 0, none⟩), .pointer (some ⟨b1, 0, none⟩), .pointer (some ⟨b1, 0 + 0, none⟩), .string (bs (p_r_b)), .int .i64 (p_r.1), .pointer (some ⟨b1, 0, none⟩), .pointer (some ⟨b1, 0, none⟩), .pointer (some ⟨b1, 0 + 1, none⟩), .int .i64 (((i_source_take p_r_b (x31, x32) 1).2).1), .string (bs (((p_r_b.take ((((i_source_take p_r_b (x31, x32) 1).2).1).toNat)).drop ((p_r.1).toNat)))), .bool (!((i_numBytes (IntKind.wrap .i64 (x29 + (IntKind.wrap .i64 ((IntKind.wrap .i64 (Int.tmod ((((i_source_take p_r_b (x31, x32) 1).1).getD 0 0).toNat : Int) 128)) * x30))))) == ((p_r_b.take ((((i_source_take p_r_b (x31, x32) 1).2).1).toNat)).drop ((p_r.1).toNat))))].map DetI)) Try.follows rfl rfl rfl rfl rfl rfl (vgetI_stable (stD _)) ⟨?_, ?_, ?_, ?_, ?_, ?_, ?_, ?_, ?_, ?_, ?_, ?_, ?_, trivial⟩ ?_
      ·exact oI rfl fun h => yl_move rfl (h.old 4 _ rfl rfl) kI
      ·intro L94 w95 hi96
       have hE97 := hi96.ex
       have hE97z := Ex.size hE97
       exact OpR.op' rfl (yl_call en58 rfl (oc (hi96.dt 0 43 rfl rfl rfl) oz) (Cal.mono (c_i_numBytes (IntKind.wrap .i64 (x29 + (IntKind.wrap .i64 ((IntKind.wrap .i64 (Int.tmod ((((i_source_take p_r_b (x31, x32) 1).1).getD 0 0).toNat : Int) 128)) * x30)))) (by first | omega | assumption | (simp only [wI] at *; omega))) fun _ _ h => h))
      ·exact oI rfl fun h => yl_move rfl (h.old 0 _ rfl rfl) kI
      ·exact oI rfl fun h => yl_nil rfl (h.dt 2 45 rfl rfl rfl) kI
      ·exact oI rfl fun h => yl_fieldAddr fd57_0 rfl (h.dt 3 46 rfl rfl rfl) kI
      ·exact oI rfl fun h => yl_load1 ty9 rfl (h.dt 4 47 rfl rfl rfl) (((Box.ex hB55 h.ex).cell 0).trans rfl) kI
      ·exact oI rfl fun h => yl_move rfl (h.old 3 _ rfl rfl) kI
      ·exact oI rfl fun h => yl_move rfl (h.old 0 _ rfl rfl) kI
      ·exact oI rfl fun h => yl_nil rfl (h.dt 7 50 rfl rfl rfl) kI
      ·exact oI rfl fun h => yl_fieldAddr fd57_1 rfl (h.dt 8 51 rfl rfl rfl) kI
      ·exact oI rfl fun h => yl_load1 ty3 rfl (h.dt 9 52 rfl rfl rfl) (((Box.ex hB55 h.ex).cell 1).trans rfl) kI
      ·intro L149 w150 hi151
       have hE152 := hi151.ex
       have hE152z := Ex.size hE152
       exact os rfl ((yl_sslice_lh un9 (a := p_r_b) (l := (p_r.1).toNat) (h := (((i_source_take p_r_b (x31, x32) 1).2).1).toNat) rfl (hi151.dt 5 48 rfl rfl rfl) (toNat_op (hi151.dt 6 49 rfl rfl rfl) (by first | omega | assumption | (simp only [wI] at *; omega))) (toNat_op (hi151.dt 10 53 rfl rfl rfl) (by first | omega | assumption | (simp only [wI] at *; omega))) (by first | omega | assumption | (simp only [wI] at *; omega)) (by first | omega | assumption | (simp only [wI] at *; omega)) kI))
      ·exact oI rfl fun h => yl_sneq (a := (i_numBytes (IntKind.wrap .i64 (x29 + (IntKind.wrap .i64 ((IntKind.wrap .i64 (Int.tmod ((((i_source_take p_r_b (x31, x32) 1).1).getD 0 0).toNat : Int) 128)) * x30)))))) (b := ((p_r_b.take ((((i_source_take p_r_b (x31, x32) 1).2).1).toNat)).drop ((p_r.1).toNat))) rfl (h.dt 1 44 rfl rfl rfl) (h.dt 11 54 rfl rfl rfl) kI
      ·intro fl165 fh166 L162 w163 hp164
       have hE167 := hp164.ex
       have hE167z := Ex.size hE167
       refine dn (CW.sub (Sub.cons (d := 0) (hp164.old 0 _ rfl rfl) (Sub.cons (d := 4) (hp164.old 4 _ rfl rfl) (Sub.cons (d := 55) (hp164.nt 12 55 rfl rfl rfl) (Sub.nil _)))) (bcase ((i_numBytes (IntKind.wrap .i64 (x29 + (IntKind.wrap .i64 ((IntKind.wrap .i64 (Int.tmod ((((i_source_take p_r_b (x31, x32) 1).1).getD 0 0).toNat : Int) 128)) * x30))))) == ((p_r_b.take ((((i_source_take p_r_b (x31, x32) 1).2).1).toNat)).drop ((p_r.1).toNat))) (fun hb171 => ?_) (fun hb171 => ?_)))
       ·refine CW.cond_f rfl (not_t hb171) (CW.skip (tn (CW.seq (CW.region (sd rfl (yl_move rfl rfl (sd rfl (yl_assign rfl rfl (dn ?_)))))))))
        refine CW.ret (rr rfl (.cons rfl .nil) ?_)
        have hM172 : (i_source_num p_r_b p_r) = ((IntKind.wrap .i64 (x29 + (IntKind.wrap .i64 ((IntKind.wrap .i64 (Int.tmod ((((i_source_take p_r_b (x31, x32) 1).1).getD 0 0).toNat : Int) 128)) * x30))), (((i_source_take p_r_b (x31, x32) 1).2).1, ((i_source_take p_r_b (x31, x32) 1).2).2))) := by first | (simp only [i_source_num, hb171, hL85, cond_true, cond_false, loopE_done, loopE_ret, pairE]; done) | (simp only [i_source_num, hb57, hb62, hb73, hb84, hb171, hL85, cL]; done) | (simp only [i_source_num, hb57, hb62, hb73, hb84, hb171, hL85, cond_true, cond_false, loopE_done, loopE_ret, pairE]; done) | exact (show (i_source_num p_r_b p_r) = ((IntKind.wrap .i64 (x29 + (IntKind.wrap .i64 ((IntKind.wrap .i64 (Int.tmod ((((i_source_take p_r_b (x31, x32) 1).1).getD 0 0).toNat : Int) 128)) * x30))), ((i_source_take p_r_b (x31, x32) 1).2))) from by simp only [i_source_num, hb57, hb62, hb73, hb84, hb171, hL85, cond_true, cond_false, loopE_done, loopE_ret, pairE])
        rw [hM172]
        exact ⟨rfl, (Box.ex hB55 hE167), (Chg.tex (Chg.tchg hf47 hc54 (fun k hk => by simp only [InR, or_false] at hk ⊢; omega)) hE167)⟩
       ·refine CW.cond_t rfl (not_f hb171) (CW.seq (CW.region (sd rfl (yl_move rfl rfl (sd rfl (yl_call en57 rfl (oc rfl oz) (Cal.mono (c_i_source_fail p_r_b ((i_source_take p_r_b (x31, x32) 1).2) (Box.ex hB55 hE167) o3) ?_)))))))
        rintro v178 w177 ⟨rfl, hB180, hc179⟩
        have hc179z := Chg.size hc179
        have hB180z := Box.lt hB180
        have hrf181 := rf_fail p_r_b ((i_source_take p_r_b (x31, x32) 1).2)
        refine dn (CW.seq (CW.region (sd rfl (yl_assign rfl rfl (dn (CW.ret (tr ?_)))))))
        refine rr rfl (.cons rfl .nil) ?_
        have hM182 : (i_source_num p_r_b p_r) = ((0, ((i_source_fail p_r_b ((i_source_take p_r_b (x31, x32) 1).2)).1, (i_source_fail p_r_b ((i_source_take p_r_b (x31, x32) 1).2)).2))) := by first | (simp only [i_source_num, hb171, hL85, cond_true, cond_false, loopE_done, loopE_ret, pairE]; done) | (simp only [i_source_num, hb57, hb62, hb73, hb84, hb171, hL85, cL]; done) | (simp only [i_source_num, hb57, hb62, hb73, hb84, hb171, hL85, cond_true, cond_false, loopE_done, loopE_ret, pairE]; done) | exact (show (i_source_num p_r_b p_r) = ((0, (i_source_fail p_r_b ((i_source_take p_r_b (x31, x32) 1).2)))) from by simp only [i_source_num, hb57, hb62, hb73, hb84, hb171, hL85, cond_true, cond_false, loopE_done, loopE_ret, pairE])
        rw [hM182]
        exact ⟨rfl, hB180, (Chg.tchg (Chg.tex (Chg.tchg hf47 hc54 (fun k hk => by simp only [InR, or_false] at hk ⊢; omega)) hE167) hc179 (fun k hk => by simp only [InR, or_false] at hk ⊢; omega))⟩
     ·have hb84p := dec_f hb84
      refine CW.cond_f rfl hb84 (CW.skip (tn (CW.region (sd rfl (yl_move rfl rfl (sd rfl (yl_mul rfl rfl rfl (sd rfl (yl_assign rfl rfl (SeqR.done (bn ?_)))))))))))
      refine tn ?_
      have hB186 : B_i_source_num_0 p_r_b p_r (x29, x30, x31, x32) = .cont (IntKind.wrap .i64 (x29 + (IntKind.wrap .i64 ((IntKind.wrap .i64 (Int.tmod ((((i_source_take p_r_b (x31, x32) 1).1).getD 0 0).toNat : Int) 128)) * x30))), IntKind.wrap .i64 (x30 * 128), ((i_source_take p_r_b (x31, x32) 1).2).1, ((i_source_take p_r_b (x31, x32) 1).2).2) := by simp only [B_i_source_num_0, hb57, hb62, hb73, hb84, cL]
      have hmu188 : ((6 - (((i_source_take p_r_b (x31, x32) 1).2).1 - p_r.1)).toNat) < ((6 - (x31 - p_r.1)).toNat) := by first | omega | assumption | (simp only [wI] at *; omega)
      exact ⟨m36 - 1, by omega, IntKind.wrap .i64 (x29 + (IntKind.wrap .i64 ((IntKind.wrap .i64 (Int.tmod ((((i_source_take p_r_b (x31, x32) 1).1).getD 0 0).toNat : Int) 128)) * x30))), IntKind.wrap .i64 (x30 * 128), ((i_source_take p_r_b (x31, x32) 1).2).1, ((i_source_take p_r_b (x31, x32) 1).2).2, (by omega), (by omega), rfl, rfl, rfl, rfl, hB55, (Chg.tchg hf47 hc54 (fun k hk => by simp only [InR, or_false] at hk ⊢; omega)), (by first | omega | assumption | (simp only [wI] at *; omega)), (by first | omega | assumption | (simp only [wI] at *; omega)), (by first | omega | assumption | (simp only [wI] at *; omega)), (loopW.cont hk39 hB186).symm.trans hI40⟩
theorem c_i_source_text {b1 : Nat} {w : World} (p_r_b : Str) (p_r : Int × Bool) (h2 : Box w b1 57 [.string (bs (p_r_b)), .int .i64 (p_r.1), .bool (p_r.2)]) (o3 : okS p_r_b) (pre0 : (0 ≤ p_r.1 ∧ p_r.1 ≤ (p_r_b.length : Int))) : Cal Try.prog 28 #[.pointer (some ⟨b1, 0, none⟩)] w fun v w' => v = .string (bs ((i_source_text p_r_b p_r).1)) ∧ okS ((i_source_text p_r_b p_r).1) ∧ Box w' b1 57 [.string (bs (p_r_b)), .int .i64 (((i_source_text p_r_b p_r).2).1), .bool (((i_source_text p_r_b p_r).2).2)] ∧ Chg (InR [(b1, b1 + 1)]) w w' := by
 have hol4 : p_r_b.length ≤ 1073741824 := o3
 have hbx5 := Box.lt h2
 refine Cal.of func28 rfl ntmps28 rfl (CW.seq (CW.region (sd rfl (yl_assign rfl rfl (dn (CW.seq (CW.region (sd rfl (yl_move rfl rfl ?_)))))))))
 refine sd rfl (yl_call en27 rfl (oc rfl oz) (Cal.mono (c_i_source_num p_r_b p_r h2 o3 (by first | omega | assumption | (simp only [wI] at *; omega))) ?_))
 rintro v7 w6 ⟨rfl, hB9, hc8⟩
 have hc8z := Chg.size hc8
 have hB9z := Box.lt hB9
 have hrf10 := rf_num o3 p_r  (by first | omega | assumption | (simp only [wI] at *; omega))
 refine sd rfl (yl_assign rfl rfl (dn (CW.seq (CW.seq (CW.region (sd rfl (yl_move rfl rfl (sd rfl (yl_gtr rfl rfl rfl (SeqR.done ?_))))))))))
 refine tn (bcase (decide (60 < ((i_source_num p_r_b p_r).1))) (fun hb11 => ?_) (fun hb11 => ?_))
 ·have hb11p := dec_t hb11
  refine CW.cond_t rfl hb11 (CW.seq (CW.region (sd rfl (yl_move rfl rfl (sd rfl (yl_call en57 rfl (oc rfl oz) (Cal.mono (c_i_source_fail p_r_b ((i_source_num p_r_b p_r).2) hB9 o3) ?_)))))))
  rintro v13 w12 ⟨rfl, hB15, hc14⟩
  have hc14z := Chg.size hc14
  have hB15z := Box.lt hB15
  have hrf16 := rf_fail p_r_b ((i_source_num p_r_b p_r).2)
  refine dn (CW.seq (CW.region (sd rfl (yl_assign rfl rfl (dn (CW.ret (tr ?_)))))))
  refine rr rfl (.cons rfl .nil) ?_
  have hM17 : (i_source_text p_r_b p_r) = ((([] : Str), ((i_source_fail p_r_b ((i_source_num p_r_b p_r).2)).1, (i_source_fail p_r_b ((i_source_num p_r_b p_r).2)).2))) := by first | (simp only [i_source_text, hb11, cL]; done) | (simp only [i_source_text, hb11, cond_true, cond_false, loopE_done, loopE_ret, pairE]; done) | exact (show (i_source_text p_r_b p_r) = ((([] : Str), (i_source_fail p_r_b ((i_source_num p_r_b p_r).2)))) from by simp only [i_source_text, hb11, cond_true, cond_false, loopE_done, loopE_ret, pairE])
  rw [hM17]
  exact ⟨rfl, (okS.lit rfl), hB15, (Chg.tchg (Chg.tchg (Chg.refl (InR [(b1, b1 + 1)]) w) hc8 (fun k hk => by simp only [InR, or_false] at hk ⊢; omega)) hc14 (fun k hk => by simp only [InR, or_false] at hk ⊢; omega))⟩
 ·have hb11p := dec_f hb11
  refine CW.cond_f rfl hb11 (CW.skip (tn (CW.seq (CW.region (sd rfl (yl_move rfl rfl (sd rfl (yl_move rfl rfl (sd rfl (yl_call en36 rfl (oc rfl (oc rfl oz)) (Cal.mono (c_i_source_take p_r_b ((i_source_num p_r_b p_r).2) ((i_source_num p_r_b p_r).1) hB9 o3 (by first | omega | assumption | (simp only [wI] at *; omega)) (by first | omega | assumption | (simp only [wI] at *; omega))) ?_)))))))))))
  rintro v22 w20 ⟨rfl, ho21, hB24, hc23⟩
  have hc23z := Chg.size hc23
  have hB24z := Box.lt hB24
  have hrf25 := rf_take o3 ((i_source_num p_r_b p_r).2) ((i_source_num p_r_b p_r).1) (by first | omega | assumption | (simp only [wI] at *; omega))
  refine sd rfl (yl_assign rfl rfl (dn (CW.ret (rr rfl (.cons rfl .nil) ?_))))
  have hM26 : (i_source_text p_r_b p_r) = (((i_source_take p_r_b ((i_source_num p_r_b p_r).2) ((i_source_num p_r_b p_r).1)).1, (((i_source_take p_r_b ((i_source_num p_r_b p_r).2) ((i_source_num p_r_b p_r).1)).2).1, ((i_source_take p_r_b ((i_source_num p_r_b p_r).2) ((i_source_num p_r_b p_r).1)).2).2))) := by first | (simp only [i_source_text, hb11, cL]; done) | (simp only [i_source_text, hb11, cond_true, cond_false, loopE_done, loopE_ret, pairE]; done) | exact (show (i_source_text p_r_b p_r) = (((i_source_take p_r_b ((i_source_num p_r_b p_r).2) ((i_source_num p_r_b p_r).1)).1, ((i_source_take p_r_b ((i_source_num p_r_b p_r).2) ((i_source_num p_r_b p_r).1)).2))) from by simp only [i_source_text, hb11, cond_true, cond_false, loopE_done, loopE_ret, pairE])
  rw [hM26]
  exact ⟨rfl, ho21, hB24, (Chg.tchg (Chg.tchg (Chg.refl (InR [(b1, b1 + 1)]) w) hc8 (fun k hk => by simp only [InR, or_false] at hk ⊢; omega)) hc23 (fun k hk => by simp only [InR, or_false] at hk ⊢; omega))⟩
theorem c_i_isTrue {w : World} (p_now : Int) : Cal Try.prog 46 #[.int .i64 (p_now)] w fun v w' => v = .bool ((i_isTrue p_now)) ∧ Ex w w' := by
 refine Cal.of func46 rfl ntmps46 rfl (CW.seq (CW.region (sd rfl (yl_assign rfl rfl (dn (CW.seq (CW.region (sd rfl (yl_move rfl rfl ?_)))))))))
 refine sd rfl (yl_call en55 rfl (oc rfl (oc rfl (oc rfl oz))) (Cal.mono (c_i_within p_now 0 100000) ?_))
 rintro v2 w1 ⟨rfl, hE3⟩
 refine sd rfl (yl_assign rfl rfl (dn (CW.ret (rr rfl (.cons rfl .nil) ?_))))
 have hM4 : (i_isTrue p_now) = ((i_within p_now 0 100000)) := by simp only [i_isTrue, cL]
 rw [hM4]
 exact ⟨rfl, (Ex.trans (Ex.refl w) hE3)⟩
theorem c_i_isLowerOrDigit {w : World} (p_b : Int) : Cal Try.prog 118 #[.int .u8 (p_b)] w fun v w' => v = .bool ((i_isLowerOrDigit p_b)) ∧ Ex w w' := by
 refine Cal.of func118 rfl ntmps118 rfl (CW.seq (CW.region (sd rfl (yl_assign rfl rfl (dn (CW.seq (CW.region (sd rfl (yl_move rfl rfl ?_)))))))))
 refine sd rfl (yl_geq rfl rfl rfl (sd rfl (yl_move rfl rfl (bcase (decide (97 ≤ p_b)) (fun hb1 => ?_) (fun hb1 => ?_)))))
 ·have hb1p := dec_t hb1
  refine sy rfl rfl hb1 (yl_move rfl rfl (sy rfl rfl hb1 (yl_leq rfl rfl rfl (sd rfl (yl_pick_t rfl rfl hb1 rfl (sd rfl (yl_move rfl rfl (bcase (decide (p_b ≤ 122)) (fun hb2 => ?_) (fun hb2 => ?_)))))))))
  ·have hb2p := dec_t hb2
   refine sz rfl rfl hb2 (sz rfl rfl hb2 (sz rfl rfl hb2 (sq rfl rfl (sq rfl rfl (sz rfl rfl hb2 (sd rfl (yl_pick_t rfl rfl hb2 rfl (sd rfl (yl_assign rfl rfl (SeqR.done ?_))))))))))
   refine tn (CW.ret (rr rfl (.cons rfl .nil) ?_))
   have hM3 : (i_isLowerOrDigit p_b) = (true) := by simp only [i_isLowerOrDigit, hb1, hb2, cL]
   rw [hM3]
   exact ⟨rfl, (Ex.refl w)⟩
  ·have hb2p := dec_f hb2
   refine sy rfl rfl hb2 (yl_move rfl rfl (sy rfl rfl hb2 (yl_geq rfl rfl rfl (sy rfl rfl hb2 (yl_move rfl rfl (bcase (decide (48 ≤ p_b)) (fun hb4 => ?_) (fun hb4 => ?_)))))))
   ·have hb4p := dec_t hb4
    refine sy rfl rfl hb4 (yl_move rfl rfl (sy rfl rfl hb4 (yl_leq rfl rfl rfl (sy rfl rfl hb2 (yl_pick_t rfl rfl hb4 rfl (sd rfl (yl_pick_f rfl rfl hb2 rfl (sd rfl (yl_assign rfl rfl (dn (CW.ret (rr rfl (.cons rfl .nil) ?_))))))))))))
    have hM5 : (i_isLowerOrDigit p_b) = (decide (p_b ≤ 57)) := by simp only [i_isLowerOrDigit, hb1, hb2, hb4, cL]
    rw [hM5]
    exact ⟨rfl, (Ex.refl w)⟩
   ·have hb4p := dec_f hb4
    refine sz rfl rfl hb4 (sz rfl rfl hb4 (sy rfl rfl hb2 (yl_pick_f rfl rfl hb4 rfl (sd rfl (yl_pick_f rfl rfl hb2 rfl (sd rfl (yl_assign rfl rfl (dn (CW.ret (rr rfl (.cons rfl .nil) ?_))))))))))
    have hM6 : (i_isLowerOrDigit p_b) = (false) := by simp only [i_isLowerOrDigit, hb1, hb2, hb4, cL]
    rw [hM6]
    exact ⟨rfl, (Ex.refl w)⟩
 ·have hb1p := dec_f hb1
  refine sz rfl rfl hb1 (sz rfl rfl hb1 (sd rfl (yl_pick_f rfl rfl hb1 rfl (sd rfl (yl_move rfl rfl (sy rfl rfl rfl (yl_move rfl rfl (sy rfl rfl rfl (yl_geq rfl rfl rfl (sy rfl rfl rfl (yl_move rfl rfl (bcase (decide (48 ≤ p_b)) (fun hb7 => ?_) (fun hb7 => ?_)))))))))))))
  ·have hb7p := dec_t hb7
   refine sy rfl rfl hb7 (yl_move rfl rfl (sy rfl rfl hb7 (yl_leq rfl rfl rfl (sy rfl rfl rfl (yl_pick_t rfl rfl hb7 rfl (sd rfl (yl_pick_f rfl rfl rfl rfl (sd rfl (yl_assign rfl rfl (dn (CW.ret (rr rfl (.cons rfl .nil) ?_))))))))))))
   have hM8 : (i_isLowerOrDigit p_b) = (decide (p_b ≤ 57)) := by simp only [i_isLowerOrDigit, hb1, hb7, cL]
   rw [hM8]
   exact ⟨rfl, (Ex.refl w)⟩
  ·have hb7p := dec_f hb7
   refine sz rfl rfl hb7 (sz rfl rfl hb7 (sy rfl rfl rfl (yl_pick_f rfl rfl hb7 rfl (sd rfl (yl_pick_f rfl rfl rfl rfl (sd rfl (yl_assign rfl rfl (dn (CW.ret (rr rfl (.cons rfl .nil) ?_))))))))))
   have hM9 : (i_isLowerOrDigit p_b) = (false) := by simp only [i_isLowerOrDigit, hb1, hb7, cL]
   rw [hM9]
   exact ⟨rfl, (Ex.refl w)⟩
theorem c_g_internal_stringslite_IndexByte {w : World} (p_s : Str) (p_c : Int) (o1 : okS p_s) : Cal Try.prog 122 #[.string (bs (p_s)), .int .u8 (p_c)] w fun v w' => v = .int .i64 ((g_internal_stringslite_IndexByte p_s p_c)) ∧ Ex w w' := by
 refine Cal.of func122 rfl ntmps122 rfl (CW.seq (CW.region (sd rfl (yl_assign rfl rfl (dn (CW.seq (CW.region (sd rfl (yl_move rfl rfl ?_)))))))))
 refine sd rfl (yl_move rfl rfl (sd rfl (yl_idxB (s := p_s) (c := p_c) Try.ex123 rfl (oc rfl (oc rfl oz)) (sd rfl (yl_assign rfl rfl (dn (CW.ret (rr rfl (.cons rfl .nil) ?_))))))))
 have hM3 : (g_internal_stringslite_IndexByte p_s p_c) = (idxB p_s p_c) := by simp only [g_internal_stringslite_IndexByte, cL]
 rw [hM3]
 exact ⟨rfl, (Ex.refl w)⟩
theorem c_g_strings_IndexByte {w : World} (p_s : Str) (p_c : Int) (o1 : okS p_s) : Cal Try.prog 119 #[.string (bs (p_s)), .int .u8 (p_c)] w fun v w' => v = .int .i64 ((g_strings_IndexByte p_s p_c)) ∧ Ex w w' := by
 refine Cal.of func119 rfl ntmps119 rfl (CW.seq (CW.region (sd rfl (yl_assign rfl rfl (dn (CW.seq (CW.region (sd rfl (yl_move rfl rfl ?_)))))))))
 refine sd rfl (yl_move rfl rfl (sd rfl (yl_call en122 rfl (oc rfl (oc rfl oz)) (Cal.mono (c_g_internal_stringslite_IndexByte p_s p_c o1) ?_))))
 rintro v4 w3 ⟨rfl, hE5⟩
 refine sd rfl (yl_assign rfl rfl (dn (CW.ret (rr rfl (.cons rfl .nil) ?_))))
 have hM6 : (g_strings_IndexByte p_s p_c) = ((g_internal_stringslite_IndexByte p_s p_c)) := by simp only [g_strings_IndexByte, cL]
 rw [hM6]
 exact ⟨rfl, (Ex.trans (Ex.refl w) hE5)⟩
theorem c_i_hasBytes {w : World} (p_s : Str) (p_others : Str) (o1 : okS p_s) (o2 : okS p_others) : Cal Try.prog 111 #[.string (bs (p_s)), .string (bs (p_others))] w fun v w' => v = .bool ((i_hasBytes p_s p_others)) ∧ Ex w w' := by
 have hol3 : p_s.length ≤ 1073741824 := o1
 have hol4 : p_others.length ≤ 1073741824 := o2
 refine Cal.of func111 rfl ntmps111 rfl (CW.seq (CW.region (sd rfl (yl_assign rfl rfl (dn (CW.seq (CW.seq (CW.region ?_))))))))
 refine sd rfl (yl_move rfl rfl (sd rfl (yl_slen un9 (a := p_s) rfl rfl (sd rfl (yl_move rfl rfl (dn (CW.block (CW.loop (fun m6 L7 w8 => ∃ (k5 : Nat), m6 = p_s.length - k5 ∧ k5 ≤ p_s.length ∧ w.heap.size ≤ w8.heap.size ∧ lkp L7 0 = some (.string (bs (p_s))) ∧ lkp L7 1 = some (.string (bs (p_others))) ∧ lkp L7 7 = some (.int .i64 ((p_s.length : Int))) ∧ lkp L7 8 = some (.int .i64 ((k5 : Int))) ∧ Ex w w8 ∧ loopM (B_i_hasBytes_0 p_s p_others) (p_s.length - k5) k5 () = loopM (B_i_hasBytes_0 p_s p_others) (p_s.length - 0) 0 ()) (p_s.length - 0) ?_ ?_))))))))
 ·exact ⟨0, rfl, (by omega), Nat.le_refl _, rfl, rfl, rfl, rfl, (Ex.refl w), rfl⟩
 ·rintro m9 L10 w11 ⟨k5, rfl, hk12, hsz14, hl15, hl16, hl17, hl18, hf19, hI13⟩
  refine CW.sub (Sub.cons hl15 (Sub.cons hl16 (Sub.cons hl17 (Sub.cons hl18 (Sub.nil _))))) ?_
  have hf19z := Ex.size hf19
  have hbg20 : p_s.length ≤ 1073741824 := o1
  rcases Nat.lt_or_ge k5 p_s.length with hlt21 | hlt21
  ·refine CW.seq (CW.region (sd rfl (yl_lss rfl rfl rfl (dn (CW.seq (CW.cond_t rfl (lt_t hlt21) (CW.skip (tn ?_))))))))
   refine CW.seq (CW.block (CW.seq (CW.region (sd rfl (yl_move rfl rfl (sd rfl (yl_assign rfl rfl (dn (CW.seq ?_)))))))))
   refine CW.region (sd rfl (yl_move rfl rfl (sd rfl (yl_move rfl rfl (sd rfl (yl_sindexN un9 (a := p_s) rfl rfl rfl (by first | omega | assumption | (simp only [wI] at *; omega)) (sd rfl (yl_call en118 rfl (oc rfl oz) (Cal.mono (c_i_isLowerOrDigit ((p_s.getD k5 0).toNat : Int)) ?_)))))))))
   rintro v23 w22 ⟨rfl, hE24⟩
   have hE24z := Ex.size hE24
   refine sd rfl (yl_not rfl rfl (sd rfl (yl_move rfl rfl (bcase (i_isLowerOrDigit ((p_s.getD k5 0).toNat : Int)) (fun hb25 => ?_) (fun hb25 => ?_)))))
   ·refine sz rfl rfl (not_t hb25) (sz rfl rfl (not_t hb25) (sz rfl rfl (not_t hb25) (sz rfl rfl (not_t hb25) (sz rfl rfl (not_t hb25) (sz rfl rfl (not_t hb25) (sd rfl (yl_pick_f rfl rfl (not_t hb25) rfl (dn ?_))))))))
    refine CW.cond_f rfl rfl (CW.skip (bn (tn (CW.region (sd rfl (yl_inc rfl rfl rfl (by omega) (sd rfl (yl_move rfl rfl (dn ?_)))))))))
    have hB26 : B_i_hasBytes_0 p_s p_others k5 () = .cont () := by simp only [B_i_hasBytes_0, hb25, cL]
    exact ⟨p_s.length - (k5 + 1), by omega, k5 + 1, rfl, hlt21, (by omega), rfl, rfl, rfl, rfl, (Ex.trans hf19 hE24), (loopM.cont hlt21 hB26).symm.trans hI13⟩
   ·refine sy rfl rfl (not_f hb25) (yl_move rfl rfl (sy rfl rfl (not_f hb25) (yl_move rfl rfl (sy rfl rfl (not_f hb25) (yl_move rfl rfl (sy rfl rfl (not_f hb25) (yl_sindexN un9 (a := p_s) rfl rfl rfl (by first | omega | assumption | (simp only [wI] at *; omega)) (sy rfl rfl (not_f hb25) (yl_call en119 rfl (oc rfl (oc rfl oz)) (Cal.mono (c_g_strings_IndexByte p_others ((p_s.getD k5 0).toNat : Int) o2) ?_))))))))))
    rintro v29 w28 ⟨rfl, hE30⟩
    have hE30z := Ex.size hE30
    refine sy rfl rfl (not_f hb25) (yl_lss rfl rfl rfl (sd rfl (yl_pick_t rfl rfl (not_f hb25) rfl (dn (bcase (decide ((g_strings_IndexByte p_others ((p_s.getD k5 0).toNat : Int)) < 0)) (fun hb31 => ?_) (fun hb31 => ?_))))))
    ·have hb31p := dec_t hb31
     refine CW.cond_t rfl hb31 (CW.seq (CW.region (sd rfl (yl_assign rfl rfl (dn (CW.ret (br (tr ?_))))))))
     refine tr ?_
     have hB33 : B_i_hasBytes_0 p_s p_others k5 () = .ret false := by simp only [B_i_hasBytes_0, hb25, hb31, cL]
     have hL32 : loopM (B_i_hasBytes_0 p_s p_others) (p_s.length - 0) 0 () = .ret false := hI13.symm.trans (loopM.ret hlt21 hB33)
     refine br (tr (rr rfl (.cons rfl .nil) ?_))
     have hM34 : (i_hasBytes p_s p_others) = (false) := by simp only [i_hasBytes, hb25, hb31, hL32, cL]
     rw [hM34]
     exact ⟨rfl, (Ex.trans (Ex.trans hf19 hE24) hE30)⟩
    ·have hb31p := dec_f hb31
     refine CW.cond_f rfl hb31 (CW.skip (bn (tn (CW.region (sd rfl (yl_inc rfl rfl rfl (by omega) (sd rfl (yl_move rfl rfl (dn ?_)))))))))
     have hB37 : B_i_hasBytes_0 p_s p_others k5 () = .cont () := by simp only [B_i_hasBytes_0, hb25, hb31, cL]
     exact ⟨p_s.length - (k5 + 1), by omega, k5 + 1, rfl, hlt21, (by omega), rfl, rfl, rfl, rfl, (Ex.trans (Ex.trans hf19 hE24) hE30), (loopM.cont hlt21 hB37).symm.trans hI13⟩
  ·refine CW.seq (CW.region (sd rfl (yl_lss rfl rfl rfl (dn (CW.seq (CW.cond_f rfl (lt_f hlt21) (CW.exit (tx ?_))))))))
   refine tx ?_
   have hL40 : loopM (B_i_hasBytes_0 p_s p_others) (p_s.length - 0) 0 () = .done () := hI13.symm.trans (loopM.stop hlt21)
   refine bx (tn (CW.seq (CW.region (sd rfl (yl_assign rfl rfl (dn (CW.ret (rr rfl (.cons rfl .nil) ?_))))))))
   have hM41 : (i_hasBytes p_s p_others) = (true) := by simp only [i_hasBytes, hL40, cL]
   rw [hM41]
   exact ⟨rfl, hf19⟩
theorem c_i_GoodKey {w : World} (p_s : Str) (o1 : okS p_s) : Cal Try.prog 97 #[.string (bs (p_s))] w fun v w' => v = .bool ((i_GoodKey p_s)) ∧ Ex w w' := by
 refine Cal.of func97 rfl ntmps97 rfl (CW.seq (CW.region (sd rfl (yl_assign rfl rfl (dn (CW.seq (CW.region (sd rfl (yl_move rfl rfl ?_)))))))))
 refine sd rfl (yl_slen un9 (a := p_s) rfl rfl (sd rfl (yl_call en55 rfl (oc rfl (oc rfl (oc rfl oz))) (Cal.mono (c_i_within (p_s.length : Int) 1 12) ?_))))
 rintro v4 w3 ⟨rfl, hE5⟩
 refine sd rfl (yl_move rfl rfl (bcase (i_within (p_s.length : Int) 1 12) (fun hb6 => ?_) (fun hb6 => ?_)))
 ·have hb6p := f_within hb6
  refine sy rfl rfl hb6 (yl_move rfl rfl (sy rfl rfl hb6 (yl_call en111 rfl (oc rfl (oc rfl oz)) (Cal.mono (c_i_hasBytes p_s ([46, 47] : Str) o1 (okS.lit rfl)) ?_))))
  rintro v8 w7 ⟨rfl, hE9⟩
  refine sd rfl (yl_pick_t rfl rfl hb6 rfl (sd rfl (yl_assign rfl rfl (dn (CW.ret (rr rfl (.cons rfl .nil) ?_))))))
  have hM10 : (i_GoodKey p_s) = ((i_hasBytes p_s ([46, 47] : Str))) := by simp only [i_GoodKey, hb6, cL]
  rw [hM10]
  exact ⟨rfl, (Ex.trans (Ex.trans (Ex.refl w) hE5) hE9)⟩
 ·refine sz rfl rfl hb6 (sz rfl rfl hb6 (sd rfl (yl_pick_f rfl rfl hb6 rfl (sd rfl (yl_assign rfl rfl (dn (CW.ret (rr rfl (.cons rfl .nil) ?_))))))))
  have hM13 : (i_GoodKey p_s) = (false) := by simp only [i_GoodKey, hb6, cL]
  rw [hM13]
  exact ⟨rfl, (Ex.trans (Ex.refl w) hE5)⟩
theorem c_i_areRising {A1 : Option Addr} {c1 : Nat} {w : World} (p_keys : List Str) (h1 : RdS w (Iv 0 w.heap.size) (RF e_Str) 1 A1 p_keys.length c1 p_keys) (o2 : (okL okS) p_keys) : Cal Try.prog 75 #[.slice A1 p_keys.length c1] w fun v w' => v = .bool ((i_areRising p_keys)) ∧ Ex w w' := by
 have hol3 := o2.1
 refine Cal.of func75 rfl ntmps75 rfl (CW.seq (CW.region (sd rfl (yl_assign rfl rfl (dn (CW.seq (CW.seq (CW.region ?_))))))))
 refine sd rfl (yl_move rfl rfl (sd rfl (yl_len un96 rfl rfl (sd rfl (yl_move rfl rfl (dn (CW.block (CW.loop (fun m5 L6 w7 => ∃ (k4 : Nat), m5 = p_keys.length - k4 ∧ k4 ≤ p_keys.length ∧ w.heap.size ≤ w7.heap.size ∧ lkp L6 0 = some (.slice A1 p_keys.length c1) ∧ lkp L6 5 = some (.slice A1 p_keys.length c1) ∧ lkp L6 6 = some (.int .i64 ((p_keys.length : Int))) ∧ lkp L6 7 = some (.int .i64 ((k4 : Int))) ∧ RdS w7 (Iv 0 w.heap.size) (RF e_Str) 1 A1 p_keys.length c1 p_keys ∧ Ex w w7 ∧ loopM (B_i_areRising_0 p_keys) (p_keys.length - k4) k4 () = loopM (B_i_areRising_0 p_keys) (p_keys.length - 0) 0 ()) (p_keys.length - 0) ?_ ?_))))))))
 ·exact ⟨0, rfl, (by omega), Nat.le_refl _, rfl, rfl, rfl, rfl, h1, (Ex.refl w), rfl⟩
 ·rintro m8 L9 w10 ⟨k4, rfl, hk11, hsz13, hl14, hl15, hl16, hl17, hf18, hf19, hI12⟩
  refine CW.sub (Sub.cons hl14 (Sub.cons hl15 (Sub.cons hl16 (Sub.cons hl17 (Sub.nil _))))) ?_
  have hf19z := Ex.size hf19
  have hbg20 := RdS.big hf18
  rcases Nat.lt_or_ge k4 p_keys.length with hlt21 | hlt21
  ·refine CW.seq (CW.region (sd rfl (yl_lss rfl rfl rfl (dn (CW.seq (CW.cond_t rfl (lt_t hlt21) (CW.skip (tn ?_))))))))
   refine CW.seq (CW.block (CW.seq (CW.region (sd rfl (yl_move rfl rfl ?_)))))
   obtain ⟨eb22, eo22, _, eA22, _, ebl22, _, eR22, eC22⟩ := RdS.aD hf18 d_Str (i := k4)
   obtain rfl := eR22
   have eC22 : Cells w10 eb22 (eo22 + k4 * 1) [.string (bs ((p_keys.getD k4 d_Str)))] := eC22
   refine sd rfl (yl_ixN un96 ty9 rfl rfl rfl eA22 (sd rfl (yl_load1 ty9 rfl rfl (eC22 0 _ rfl) (sd rfl (yl_assign rfl rfl (sd rfl (yl_assign rfl rfl (dn (CW.seq (CW.region (sd rfl (yl_move rfl rfl ?_))))))))))))
   refine sd rfl (yl_call en97 rfl (oc rfl oz) (Cal.mono (c_i_GoodKey (p_keys.getD k4 d_Str) (okL.getD o2 ok_d_Str _)) ?_))
   rintro v24 w23 ⟨rfl, hE25⟩
   have hE25z := Ex.size hE25
   refine sd rfl (yl_not rfl rfl (sd rfl (yl_move rfl rfl (bcase (i_GoodKey (p_keys.getD k4 d_Str)) (fun hb26 => ?_) (fun hb26 => ?_)))))
   ·refine sy rfl rfl (not_t hb26) (yl_move rfl rfl (sy rfl rfl (not_t hb26) (yl_gtr rfl rfl rfl (sy rfl rfl (not_t hb26) (yl_move rfl rfl (bcase (decide (0 < (k4 : Int))) (fun hb27 => ?_) (fun hb27 => ?_)))))))
    ·have hb27p := dec_t hb27
     refine sy rfl rfl hb27 (yl_move rfl rfl (sy rfl rfl hb27 (yl_move rfl rfl (sy rfl rfl hb27 (yl_move rfl rfl (sy rfl rfl hb27 (yl_sub rfl rfl rfl ?_)))))))
     have q28 := RdS.ex good_Str hf18 hE25
     obtain ⟨eb29, eo29, _, eA29, _, ebl29, _, eR29, eC29⟩ := RdS.atD q28 d_Str (i := (IntKind.wrap .i64 ((k4 : Int) - 1)).toNat) (by first | omega | assumption | (simp only [wI] at *; omega))
     obtain rfl := eR29
     have eC29 : Cells w23 eb29 (eo29 + ((IntKind.wrap .i64 ((k4 : Int) - 1)).toNat) * 1) [.string (bs ((p_keys.getD ((IntKind.wrap .i64 ((k4 : Int) - 1)).toNat) d_Str)))] := eC29
     refine sy rfl rfl hb27 (yl_indexAddr un96 ty9 rfl rfl rfl eA29 (by first | omega | assumption | (simp only [wI] at *; omega)) (by first | omega | assumption | (simp only [wI] at *; omega)) (sy rfl rfl hb27 (yl_load1 ty9 rfl rfl (eC29 0 _ rfl) (sy rfl rfl hb27 (yl_sleq (a := (p_keys.getD k4 d_Str)) (b := (p_keys.getD ((IntKind.wrap .i64 ((k4 : Int) - 1)).toNat) d_Str)) rfl rfl rfl (sy rfl rfl (not_t hb26) (yl_pick_t rfl rfl hb27 rfl (sd rfl (yl_pick_f rfl rfl (not_t hb26) rfl (dn (bcase (sLe (p_keys.getD k4 d_Str) (p_keys.getD ((IntKind.wrap .i64 ((k4 : Int) - 1)).toNat) d_Str)) (fun hb30 => ?_) (fun hb30 => ?_))))))))))))
     ·refine CW.cond_t rfl hb30 (CW.seq (CW.region (sd rfl (yl_assign rfl rfl (dn (CW.ret (br (tr ?_))))))))
      refine tr ?_
      have hB32 : B_i_areRising_0 p_keys k4 () = .ret false := by simp only [B_i_areRising_0, hb26, hb27, hb30, cL]
      have hL31 : loopM (B_i_areRising_0 p_keys) (p_keys.length - 0) 0 () = .ret false := hI12.symm.trans (loopM.ret hlt21 hB32)
      refine br (tr (rr rfl (.cons rfl .nil) ?_))
      have hM33 : (i_areRising p_keys) = (false) := by simp only [i_areRising, hb26, hb27, hb30, hL31, cL]
      rw [hM33]
      exact ⟨rfl, (Ex.trans hf19 hE25)⟩
     ·refine CW.cond_f rfl hb30 (CW.skip (bn (tn (CW.region (sd rfl (yl_inc rfl rfl rfl (by omega) (sd rfl (yl_move rfl rfl (dn ?_)))))))))
      have hB35 : B_i_areRising_0 p_keys k4 () = .cont () := by simp only [B_i_areRising_0, hb26, hb27, hb30, cL]
      exact ⟨p_keys.length - (k4 + 1), by omega, k4 + 1, rfl, hlt21, (by omega), rfl, rfl, rfl, rfl, q28, (Ex.trans hf19 hE25), (loopM.cont hlt21 hB35).symm.trans hI12⟩
    ·have hb27p := dec_f hb27
     refine sz rfl rfl hb27 (sz rfl rfl hb27 (sz rfl rfl hb27 (sz rfl rfl hb27 (sz rfl rfl hb27 (sz rfl rfl hb27 (sz rfl rfl hb27 (sy rfl rfl (not_t hb26) (yl_pick_f rfl rfl hb27 rfl (sd rfl (yl_pick_f rfl rfl (not_t hb26) rfl ?_))))))))))
     refine dn (CW.cond_f rfl rfl (CW.skip (bn (tn (CW.region (sd rfl (yl_inc rfl rfl rfl (by omega) (sd rfl (yl_move rfl rfl ?_)))))))))
     refine dn ?_
     have hB37 : B_i_areRising_0 p_keys k4 () = .cont () := by simp only [B_i_areRising_0, hb26, hb27, cL]
     exact ⟨p_keys.length - (k4 + 1), by omega, k4 + 1, rfl, hlt21, (by omega), rfl, rfl, rfl, rfl, (RdS.ex good_Str hf18 hE25), (Ex.trans hf19 hE25), (loopM.cont hlt21 hB37).symm.trans hI12⟩
   ·refine sz rfl rfl (not_f hb26) (sz rfl rfl (not_f hb26) (sz rfl rfl (not_f hb26) (sq rfl rfl (sq rfl rfl (sq rfl rfl (sq rfl rfl (sq rfl rfl (sq rfl rfl ?_))))))))
    refine sq rfl rfl (sz rfl rfl (not_f hb26) (sd rfl (yl_pick_t rfl rfl (not_f hb26) rfl (dn (CW.cond_t rfl rfl (CW.seq (CW.region (sd rfl (yl_assign rfl rfl ?_)))))))))
    refine dn (CW.ret (br (tr (tr ?_))))
    have hB41 : B_i_areRising_0 p_keys k4 () = .ret false := by simp only [B_i_areRising_0, hb26, cL]
    have hL40 : loopM (B_i_areRising_0 p_keys) (p_keys.length - 0) 0 () = .ret false := hI12.symm.trans (loopM.ret hlt21 hB41)
    refine br (tr (rr rfl (.cons rfl .nil) ?_))
    have hM42 : (i_areRising p_keys) = (false) := by simp only [i_areRising, hb26, hL40, cL]
    rw [hM42]
    exact ⟨rfl, (Ex.trans hf19 hE25)⟩
  ·refine CW.seq (CW.region (sd rfl (yl_lss rfl rfl rfl (dn (CW.seq (CW.cond_f rfl (lt_f hlt21) (CW.exit (tx ?_))))))))
   refine tx ?_
   have hL44 : loopM (B_i_areRising_0 p_keys) (p_keys.length - 0) 0 () = .done () := hI12.symm.trans (loopM.stop hlt21)
   refine bx (tn (CW.seq (CW.region (sd rfl (yl_assign rfl rfl (dn (CW.ret (rr rfl (.cons rfl .nil) ?_))))))))
   have hM45 : (i_areRising p_keys) = (true) := by simp only [i_areRising, hL44, cL]
   rw [hM45]
   exact ⟨rfl, hf19⟩
theorem c_g_slices_IndexFunc_Write {A1 : Option Addr} {c1 : Nat} {g3 : Nat} {cp4 : List Value} {w : World} (p_s : List DWrite) (p_f : DWrite → Bool) (h1 : RdS w (Iv 0 w.heap.size) (RF e_Write) 3 A1 p_s.length c1 p_s) (hen5 : Enters Try.prog g3) (hfn6 : ∀ (w1 : World) (y0 : DWrite), Ex w w1 → y0 ∈ p_s → ok_Write y0 → Cal Try.prog g3 (([.agg #[.string (bs (y0.Key)), .string (bs (y0.Val)), .bool (y0.Gone)]] : List Value) ++ cp4).toArray w1 fun v w2 => v = .bool (p_f y0) ∧ Ex w1 w2) (o2 : (okL ok_Write) p_s) : Cal Try.prog 103 #[.slice A1 p_s.length c1, .func (.func g3) #[] cp4.toArray] w fun v w' => v = .int .i64 ((g_slices_IndexFunc_Write p_s p_f)) ∧ Ex w w' := by
 have hol7 := o2.1
 refine Cal.of func103 rfl ntmps103 rfl (CW.seq (CW.region (sd rfl (yl_assign rfl rfl (dn (CW.seq (CW.seq (CW.region ?_))))))))
 refine sd rfl (yl_move rfl rfl (sd rfl (yl_len un22 rfl rfl (sd rfl (yl_move rfl rfl (dn (CW.block (CW.loop (fun m9 L10 w11 => ∃ (k8 : Nat), m9 = p_s.length - k8 ∧ k8 ≤ p_s.length ∧ w.heap.size ≤ w11.heap.size ∧ lkp L10 0 = some (.slice A1 p_s.length c1) ∧ lkp L10 1 = some (.func (.func g3) #[] cp4.toArray) ∧ lkp L10 7 = some (.int .i64 ((p_s.length : Int))) ∧ lkp L10 8 = some (.int .i64 ((k8 : Int))) ∧ RdS w11 (Iv 0 w.heap.size) (RF e_Write) 3 A1 p_s.length c1 p_s ∧ Ex w w11 ∧ loopM (B_g_slices_IndexFunc_Write_0 p_s p_f) (p_s.length - k8) k8 () = loopM (B_g_slices_IndexFunc_Write_0 p_s p_f) (p_s.length - 0) 0 ()) (p_s.length - 0) ?_ ?_))))))))
 ·exact ⟨0, rfl, (by omega), Nat.le_refl _, rfl, rfl, rfl, rfl, h1, (Ex.refl w), rfl⟩
 ·rintro m12 L13 w14 ⟨k8, rfl, hk15, hsz17, hl18, hl19, hl20, hl21, hf22, hf23, hI16⟩
  refine CW.sub (Sub.cons hl18 (Sub.cons hl19 (Sub.cons hl20 (Sub.cons hl21 (Sub.nil _))))) ?_
  have hf23z := Ex.size hf23
  have hbg24 := RdS.big hf22
  rcases Nat.lt_or_ge k8 p_s.length with hlt25 | hlt25
  ·refine CW.seq (CW.region (sd rfl (yl_lss rfl rfl rfl (dn (CW.seq (CW.cond_t rfl (lt_t hlt25) (CW.skip (tn ?_))))))))
   refine CW.seq (CW.block (CW.seq (CW.region (sd rfl (yl_move rfl rfl (sd rfl (yl_assign rfl rfl (dn (CW.seq ?_)))))))))
   refine CW.region (sd rfl (yl_move rfl rfl (sd rfl (yl_move rfl rfl (sd rfl (yl_move rfl rfl ?_))))))
   obtain ⟨eb26, eo26, _, eA26, _, ebl26, _, eR26, eC26⟩ := RdS.aD hf22 d_Write (i := k8)
   obtain rfl := eR26
   have eC26 : Cells w14 eb26 (eo26 + k8 * 3) [.string (bs ((p_s.getD k8 d_Write).Key)), .string (bs ((p_s.getD k8 d_Write).Val)), .bool ((p_s.getD k8 d_Write).Gone)] := eC26
   refine sd rfl (yl_ixN un22 ty53 rfl rfl rfl eA26 (sd rfl (yl_loadN ty53 rfl rfl eC26 rfl (sd rfl (yl_callv hen5 rfl rfl (oc rfl oz) (Cal.mono (hfn6 w14 (p_s.getD k8 d_Write) hf23 (getD_mem (by omega)) (okL.getD o2 ok_d_Write _)) ?_))))))
   rintro v28 w27 ⟨rfl, hE29⟩
   have hE29z := Ex.size hE29
   refine dn (bcase (p_f (p_s.getD k8 d_Write)) (fun hb30 => ?_) (fun hb30 => ?_))
   ·refine CW.cond_t rfl hb30 (CW.seq (CW.region (sd rfl (yl_move rfl rfl (sd rfl (yl_assign rfl rfl (dn (CW.ret (br ?_)))))))))
    refine tr (tr ?_)
    have hB32 : B_g_slices_IndexFunc_Write_0 p_s p_f k8 () = .ret (k8 : Int) := by simp only [B_g_slices_IndexFunc_Write_0, hb30, cL]
    have hL31 : loopM (B_g_slices_IndexFunc_Write_0 p_s p_f) (p_s.length - 0) 0 () = .ret (k8 : Int) := hI16.symm.trans (loopM.ret hlt25 hB32)
    refine br (tr (rr rfl (.cons rfl .nil) ?_))
    have hM33 : (g_slices_IndexFunc_Write p_s p_f) = ((k8 : Int)) := by simp only [g_slices_IndexFunc_Write, hb30, hL31, cL]
    rw [hM33]
    exact ⟨rfl, (Ex.trans hf23 hE29)⟩
   ·refine CW.cond_f rfl hb30 (CW.skip (bn (tn (CW.region (sd rfl (yl_inc rfl rfl rfl (by omega) (sd rfl (yl_move rfl rfl (dn ?_)))))))))
    have hB35 : B_g_slices_IndexFunc_Write_0 p_s p_f k8 () = .cont () := by simp only [B_g_slices_IndexFunc_Write_0, hb30, cL]
    exact ⟨p_s.length - (k8 + 1), by omega, k8 + 1, rfl, hlt25, (by omega), rfl, rfl, rfl, rfl, (RdS.ex good_Write hf22 hE29), (Ex.trans hf23 hE29), (loopM.cont hlt25 hB35).symm.trans hI16⟩
  ·refine CW.seq (CW.region (sd rfl (yl_lss rfl rfl rfl (dn (CW.seq (CW.cond_f rfl (lt_f hlt25) (CW.exit (tx ?_))))))))
   refine tx ?_
   have hL38 : loopM (B_g_slices_IndexFunc_Write_0 p_s p_f) (p_s.length - 0) 0 () = .done () := hI16.symm.trans (loopM.stop hlt25)
   refine bx (tn (CW.seq (CW.region (sd rfl (yl_assign rfl rfl (dn (CW.ret (rr rfl (.cons rfl .nil) ?_))))))))
   have hM39 : (g_slices_IndexFunc_Write p_s p_f) = (-1) := by simp only [g_slices_IndexFunc_Write, hL38, cL]
   rw [hM39]
   exact ⟨rfl, hf23⟩
theorem c_g_slices_ContainsFunc_Write {A1 : Option Addr} {c1 : Nat} {g3 : Nat} {cp4 : List Value} {w : World} (p_s : List DWrite) (p_f : DWrite → Bool) (h1 : RdS w (Iv 0 w.heap.size) (RF e_Write) 3 A1 p_s.length c1 p_s) (hen5 : Enters Try.prog g3) (hfn6 : ∀ (w1 : World) (y0 : DWrite), Ex w w1 → y0 ∈ p_s → ok_Write y0 → Cal Try.prog g3 (([.agg #[.string (bs (y0.Key)), .string (bs (y0.Val)), .bool (y0.Gone)]] : List Value) ++ cp4).toArray w1 fun v w2 => v = .bool (p_f y0) ∧ Ex w1 w2) (o2 : (okL ok_Write) p_s) : Cal Try.prog 84 #[.slice A1 p_s.length c1, .func (.func g3) #[] cp4.toArray] w fun v w' => v = .bool ((g_slices_ContainsFunc_Write p_s p_f)) ∧ Ex w w' := by
 refine Cal.of func84 rfl ntmps84 rfl (CW.seq (CW.region (sd rfl (yl_assign rfl rfl (dn (CW.seq (CW.region (sd rfl (yl_move rfl rfl ?_)))))))))
 refine sd rfl (yl_move rfl rfl (sd rfl (yl_call en103 rfl (oc rfl (oc rfl oz)) (Cal.mono (c_g_slices_IndexFunc_Write p_s p_f (RdS.up h1 good_Write) hen5 (fun w1 y0 => fun hE => hfn6 w1 y0 (Ex.trans (Ex.refl w) hE)) o2) ?_))))
 rintro v9 w8 ⟨rfl, hE10⟩
 refine sd rfl (yl_geq rfl rfl rfl (sd rfl (yl_assign rfl rfl (dn (CW.ret (rr rfl (.cons rfl .nil) ?_))))))
 have hM11 : (g_slices_ContainsFunc_Write p_s p_f) = (decide (0 ≤ (g_slices_IndexFunc_Write p_s p_f))) := by simp only [g_slices_ContainsFunc_Write, cL]
 rw [hM11]
 exact ⟨rfl, (Ex.trans (Ex.refl w) hE10)⟩
theorem c_i_writeKeys {A1 : Option Addr} {c1 : Nat} {w : World} (p_l : List DWrite) (h1 : RdS w (Iv 0 w.heap.size) (RF e_Write) 3 A1 p_l.length c1 p_l) (o2 : (okL ok_Write) p_l) : Cal Try.prog 101 #[.slice A1 p_l.length c1] w fun v w' => ∃ A_1 c_1 lo_1 hi_1, v = .slice A_1 ((i_writeKeys p_l).length) c_1 ∧ OwnL w' lo_1 hi_1 9 1 (RF e_Str) A_1 ((i_writeKeys p_l).length) c_1 (i_writeKeys p_l) ∧ (okL okS) (i_writeKeys p_l) ∧ (w.heap.size ≤ lo_1 ∧ lo_1 ≤ hi_1 ∧ hi_1 ≤ w'.heap.size) ∧ Ex w w' := by
 have hol3 := o2.1
 refine Cal.of func101 rfl ntmps101 rfl (CW.seq (CW.region (sd rfl (yl_assign rfl rfl (dn (CW.seq (CW.region (sd rfl (yl_buildSlice (cs := []) un96 ty9 (by decide) rfl opvs_nil (by kernel_rfl) ?_)))))))))
 intro b4 w5 hs6 hz7 hB8 hE9
 have hO10 : OwnL w5 b4 (b4 + 1) 9 1 (RF e_Str) (some ⟨b4, 0, none⟩) 0 0 ([] : List Str) := OwnL.of_box (S := fun _ => False) hB8 (Nat.le_refl _) (Nat.lt_succ_self _) EncL.nil (Nat.le_of_ble_eq_true rfl) (fun h => h) (fun _ h => False.elim h)
 refine sd rfl (yl_assign rfl rfl (dn (CW.seq (CW.seq (CW.region (sd rfl (yl_move rfl rfl (sd rfl (yl_len un22 rfl rfl (sd rfl (yl_move rfl rfl ?_)))))))))))
 refine dn (CW.block (CW.loop (fun m65 L66 w67 => ∃ (k11 : Nat) (x61 : List Str) (A62 : Option Addr) (c63 : Nat) (u64 : Nat), m65 = p_l.length - k11 ∧ k11 ≤ p_l.length ∧ w5.heap.size ≤ w67.heap.size ∧ lkp L66 3 = some (.slice A62 x61.length c63) ∧ lkp L66 7 = some (.slice A1 p_l.length c1) ∧ lkp L66 8 = some (.int .i64 ((p_l.length : Int))) ∧ lkp L66 9 = some (.int .i64 ((k11 : Int))) ∧ OwnL w67 b4 u64 9 1 (RF e_Str) A62 x61.length c63 x61 ∧ RdS w67 (Iv 0 w.heap.size) (RF e_Write) 3 A1 p_l.length c1 p_l ∧ Ex w w67 ∧ (b4 ≤ u64 ∧ u64 ≤ w67.heap.size) ∧ x61.length ≤ 0 + 1 * (k11 - 0) ∧ (∀ y ∈ x61, okS y) ∧ loopM (B_i_writeKeys_0 p_l) (p_l.length - k11) k11 (x61) = loopM (B_i_writeKeys_0 p_l) (p_l.length - 0) 0 (([] : List Str))) (p_l.length - 0) ?_ ?_))
 ·exact ⟨0, ([] : List Str), (some ⟨b4, 0, none⟩), 0, (b4 + 1), rfl, (by omega), Nat.le_refl _, rfl, rfl, rfl, rfl, hO10, (RdS.ex good_Write h1 hE9), (Ex.trans (Ex.refl w) hE9), (by omega), (by first | (simp; done) | (first | omega | (simp only [List.length_append, List.length_cons, List.length_nil, List.length_set, toS_length]; omega))), okE.nil, rfl⟩
 ·rintro m70 L71 w72 ⟨k11, x61, A62, c63, u64, rfl, hk73, hsz75, hl76, hl77, hl78, hl79, hf80, hf81, hf82, hu83, hln84, hok85, hI74⟩
  refine CW.sub (Sub.cons hl76 (Sub.cons hl77 (Sub.cons hl78 (Sub.cons hl79 (Sub.nil _))))) ?_
  have hf82z := Ex.size hf82
  have hbg86 := RdS.big hf81
  rcases Nat.lt_or_ge k11 p_l.length with hlt87 | hlt87
  ·refine CW.seq (CW.region (sd rfl (yl_lss rfl rfl rfl (dn (CW.seq (CW.cond_t rfl (lt_t hlt87) (CW.skip (tn ?_))))))))
   refine CW.seq (CW.block (CW.seq (CW.region ?_)))
   obtain ⟨eb88, eo88, _, eA88, _, ebl88, _, eR88, eC88⟩ := RdS.aD hf81 d_Write (i := k11)
   obtain rfl := eR88
   have eC88 : Cells w72 eb88 (eo88 + k11 * 3) [.string (bs ((p_l.getD k11 d_Write).Key)), .string (bs ((p_l.getD k11 d_Write).Val)), .bool ((p_l.getD k11 d_Write).Gone)] := eC88
   refine sd rfl (yl_ixN un22 ty53 rfl rfl rfl eA88 (sd rfl (yl_loadN ty53 rfl rfl eC88 rfl (sd rfl (yl_alloc ty53 (cs := [.string (bs (([] : Str))), .string (bs (([] : Str))), .bool (false)]) rfl rfl ?_)))))
   intro b89 w90 hs91 hz92 hB93 hE94
   refine SeqR.u rfl rfl (yl_store (vs := [.string (bs ((p_l.getD k11 d_Write).Key)), .string (bs ((p_l.getD k11 d_Write).Val)), .bool ((p_l.getD k11 d_Write).Gone)]) ty53 rfl rfl rfl rfl rfl rfl hB93 (Nat.le_of_ble_eq_true rfl) ?_)
   intro w95 hB96 hO97
   have hB96 : Box w95 b89 53 [.string (bs ((p_l.getD k11 d_Write).Key)), .string (bs ((p_l.getD k11 d_Write).Val)), .bool ((p_l.getD k11 d_Write).Gone)] := hB96
   have hO97z := hO97.size
   refine dn (CW.region (sd rfl (yl_move rfl rfl (sd rfl (yl_fieldAddr fd53_0 rfl rfl (sd rfl (yl_load1 ty9 rfl rfl ((hB96.cell 0).trans rfl) (sd rfl (yl_buildSlice (cs := [.string (bs ((p_l.getD k11 d_Write).Key))]) un96 ty9 (by decide) rfl (oc rfl oz) (by kernel_rfl) ?_)))))))))
   intro b98 w99 hs100 hz101 hB102 hE103
   have hO104 : OwnL w99 b98 (b98 + 1) 9 1 (RF e_Str) (some ⟨b98, 0, none⟩) 1 1 ([(p_l.getD k11 d_Write).Key] : List Str) := OwnL.of_box (S := fun _ => False) hB102 (Nat.le_refl _) (Nat.lt_succ_self _) (EncL.cons (c := [.string (bs ((p_l.getD k11 d_Write).Key))]) rfl rfl EncL.nil) (Nat.le_of_ble_eq_true rfl) (fun h => h) (fun _ h => False.elim h)
   refine sd rfl (yl_appendL (S := (fun _ => False)) (lo := b4) (hi := u64) (xs := x61) (ys := ([(p_l.getD k11 d_Write).Key] : List Str)) good_Str un96 ty9 rfl (Nat.le_of_ble_eq_true rfl) rfl rfl rfl (OwnL.ex good_Str (OwnL.only good_Str (OwnL.ex good_Str hf80 hE94) hO97 (by omega)) hE103) (EncL.cons (c := [.string (bs ((p_l.getD k11 d_Write).Key))]) rfl rfl EncL.nil) (Or.inr ⟨_, _, rfl, rfl, hB102.cells (o := 0) (n := 1) rfl⟩) rfl (by first | omega | (simp only [List.length_append, List.length_cons, List.length_nil, List.length_take, List.length_drop, List.length_replicate, List.length_set, toS_length]; omega)) (by first | omega | (simp only [List.length_append, List.length_cons, List.length_nil, List.length_take, List.length_drop, List.length_replicate, List.length_set, toS_length]; omega)) (by omega) (by omega) (fun _ h _ => False.elim h) (by omega) ?_)
   intro A108 c109 w110 row111 hO112 hG113 hrg114
   have hG113z := hG113.size
   refine sd rfl (yl_assign rfl rfl (SeqR.done (bn (tn (CW.region (sd rfl (yl_inc rfl rfl rfl (by omega) (sd rfl (yl_move rfl rfl (dn ?_))))))))))
   have hB115 : B_i_writeKeys_0 p_l k11 (x61) = .cont ((x61 ++ ([(p_l.getD k11 d_Write).Key] : List Str))) := by simp only [B_i_writeKeys_0, cL]
   exact ⟨p_l.length - (k11 + 1), by omega, k11 + 1, (x61 ++ ([(p_l.getD k11 d_Write).Key] : List Str)), A108, c109, w110.heap.size, rfl, hlt87, (by omega), rfl, rfl, rfl, rfl, hO112, (RdS.grown good_Write (RdS.ex good_Write (RdS.only good_Write (RdS.ex good_Write hf81 hE94) hO97 (by simp only [Iv]; omega)) hE103) hG113 (fun k hk => by have := hrg114 k hk; simp only [Iv]; omega)), (Below.grown (Ex.trans (Below.only (Ex.trans hf82 hE94) hO97 (by omega)) hE103) hG113 (by omega) (fun k hk => by have := hrg114 k hk; omega)), (by omega), (by first | omega | (simp only [List.length_append, List.length_cons, List.length_nil, List.length_set, toS_length]; omega)), (okE.append hok85 ((okL.mk (Nat.le_of_ble_eq_true rfl) (okE.cons (okL.getD o2 ok_d_Write _).1 okE.nil))).2), (loopM.cont hlt87 hB115).symm.trans hI74⟩
  ·refine CW.seq (CW.region (sd rfl (yl_lss rfl rfl rfl (dn (CW.seq (CW.cond_f rfl (lt_f hlt87) (CW.exit (tx ?_))))))))
   refine tx ?_
   have hL124 : loopM (B_i_writeKeys_0 p_l) (p_l.length - 0) 0 (([] : List Str)) = .done (x61) := hI74.symm.trans (loopM.stop hlt87)
   refine bx (tn (CW.seq (CW.region (sd rfl (yl_move rfl rfl (sd rfl (yl_assign rfl rfl (dn (CW.ret ?_)))))))))
   refine rr rfl (.cons rfl .nil) ?_
   have hM125 : (i_writeKeys p_l) = (x61) := by simp only [i_writeKeys, hL124, cL]
   rw [hM125]
   exact ⟨A62, c63, b4, u64, rfl, hf80, (okL.mk (xs := x61) (by first | omega | (simp only [List.length_append, List.length_cons, List.length_nil, List.length_take, List.length_drop, List.length_replicate, List.length_set, toS_length]; omega)) hok85), (by omega), hf82⟩
theorem c_i_GoodVal {w : World} (p_s : Str) (o1 : okS p_s) : Cal Try.prog 110 #[.string (bs (p_s))] w fun v w' => v = .bool ((i_GoodVal p_s)) ∧ Ex w w' := by
 refine Cal.of func110 rfl ntmps110 rfl (CW.seq (CW.region (sd rfl (yl_assign rfl rfl (dn (CW.seq (CW.region (sd rfl (yl_move rfl rfl ?_)))))))))
 refine sd rfl (yl_slen un9 (a := p_s) rfl rfl (sd rfl (yl_leq rfl rfl rfl (sd rfl (yl_move rfl rfl (bcase (decide ((p_s.length : Int) ≤ 24)) (fun hb3 => ?_) (fun hb3 => ?_)))))))
 ·have hb3p := dec_t hb3
  refine sy rfl rfl hb3 (yl_move rfl rfl (sy rfl rfl hb3 (yl_call en111 rfl (oc rfl (oc rfl oz)) (Cal.mono (c_i_hasBytes p_s ([46, 45, 44, 95] : Str) o1 (okS.lit rfl)) ?_))))
  rintro v5 w4 ⟨rfl, hE6⟩
  refine sd rfl (yl_pick_t rfl rfl hb3 rfl (sd rfl (yl_assign rfl rfl (dn (CW.ret (rr rfl (.cons rfl .nil) ?_))))))
  have hM7 : (i_GoodVal p_s) = ((i_hasBytes p_s ([46, 45, 44, 95] : Str))) := by simp only [i_GoodVal, hb3, cL]
  rw [hM7]
  exact ⟨rfl, (Ex.trans (Ex.refl w) hE6)⟩
 ·have hb3p := dec_f hb3
  refine sz rfl rfl hb3 (sz rfl rfl hb3 (sd rfl (yl_pick_f rfl rfl hb3 rfl (sd rfl (yl_assign rfl rfl (dn (CW.ret (rr rfl (.cons rfl .nil) ?_))))))))
  have hM9 : (i_GoodVal p_s) = (false) := by simp only [i_GoodVal, hb3, cL]
  rw [hM9]
  exact ⟨rfl, (Ex.refl w)⟩
theorem c_i_isStored {w : World} (p_val : Str) (p_gone : Bool) (o1 : okS p_val) : Cal Try.prog 96 #[.string (bs (p_val)), .bool (p_gone)] w fun v w' => v = .bool ((i_isStored p_val p_gone)) ∧ Ex w w' := by
 refine Cal.of func96 rfl ntmps96 rfl (CW.seq (CW.region (sd rfl (yl_assign rfl rfl (dn (CW.seq (CW.region (sd rfl (yl_move rfl rfl ?_)))))))))
 refine sd rfl (yl_call en110 rfl (oc rfl oz) (Cal.mono (c_i_GoodVal p_val o1) ?_))
 rintro v4 w3 ⟨rfl, hE5⟩
 refine sd rfl (yl_move rfl rfl (bcase (i_GoodVal p_val) (fun hb6 => ?_) (fun hb6 => ?_)))
 ·refine sy rfl rfl hb6 (yl_move rfl rfl (sy rfl rfl hb6 (yl_move rfl rfl (bcase (p_gone) (fun hb7 => ?_) (fun hb7 => ?_)))))
  ·refine sy rfl rfl hb7 (yl_move rfl rfl (sy rfl rfl hb7 (yl_sneq (a := p_val) (b := ([] : Str)) rfl rfl rfl (sy rfl rfl hb6 (yl_pick_t rfl rfl hb7 rfl (sy rfl rfl hb6 (yl_not rfl rfl (sd rfl (yl_pick_t rfl rfl hb6 rfl (sd rfl (yl_assign rfl rfl (dn (CW.ret ?_)))))))))))))
   refine rr rfl (.cons rfl .nil) ?_
   have hM8 : (i_isStored p_val p_gone) = (!(!(p_val == ([] : Str)))) := by simp only [i_isStored, hb6, hb7, cL]
   rw [hM8]
   exact ⟨rfl, (Ex.trans (Ex.refl w) hE5)⟩
  ·refine sz rfl rfl hb7 (sz rfl rfl hb7 (sy rfl rfl hb6 (yl_pick_f rfl rfl hb7 rfl (sy rfl rfl hb6 (yl_not rfl rfl (sd rfl (yl_pick_t rfl rfl hb6 rfl (sd rfl (yl_assign rfl rfl (dn (CW.ret ?_)))))))))))
   refine rr rfl (.cons rfl .nil) ?_
   have hM10 : (i_isStored p_val p_gone) = (!false) := by simp only [i_isStored, hb6, hb7, cL]
   rw [hM10]
   exact ⟨rfl, (Ex.trans (Ex.refl w) hE5)⟩
 ·refine sz rfl rfl hb6 (sz rfl rfl hb6 (sq rfl rfl (sq rfl rfl (sz rfl rfl hb6 (sz rfl rfl hb6 (sd rfl (yl_pick_f rfl rfl hb6 rfl (sd rfl (yl_assign rfl rfl (SeqR.done ?_))))))))))
  refine tn (CW.ret (rr rfl (.cons rfl .nil) ?_))
  have hM12 : (i_isStored p_val p_gone) = (false) := by simp only [i_isStored, hb6, cL]
  rw [hM12]
  exact ⟨rfl, (Ex.trans (Ex.refl w) hE5)⟩
theorem c_i_GoodWrites_c1 {w : World} (p_w : DWrite) (o1 : ok_Write p_w) : Cal Try.prog 102 #[.agg #[.string (bs (p_w.Key)), .string (bs (p_w.Val)), .bool (p_w.Gone)]] w fun v w' => v = .bool ((i_GoodWrites_c1 p_w)) ∧ Ex w w' := by
 refine Cal.of func102 rfl ntmps102 rfl (CW.seq (CW.region (sd rfl (yl_box rfl rfl rfl ?_))))
 intro b4 w5 hs6 hz7 hB8 hE9
 refine sd rfl (yl_assign rfl rfl (dn (CW.seq (CW.region (sd rfl (yl_fieldAddr fd53_1 rfl rfl (sd rfl (yl_load1 ty9 rfl rfl ((hB8.cell 1).trans rfl) (sd rfl (yl_fieldAddr fd53_2 rfl rfl (sd rfl (yl_load1 ty4 rfl rfl ((hB8.cell 2).trans rfl) ?_))))))))))))
 refine sd rfl (yl_call en96 rfl (oc rfl (oc rfl oz)) (Cal.mono (c_i_isStored p_w.Val p_w.Gone o1.2) ?_))
 rintro v11 w10 ⟨rfl, hE12⟩
 refine sd rfl (yl_not rfl rfl (sd rfl (yl_assign rfl rfl (dn (CW.ret (rr rfl (.cons rfl .nil) ?_))))))
 have hM13 : (i_GoodWrites_c1 p_w) = (!(i_isStored p_w.Val p_w.Gone)) := by simp only [i_GoodWrites_c1, cL]
 rw [hM13]
 exact ⟨rfl, (Ex.trans (Ex.trans (Ex.refl w) hE9) hE12)⟩
theorem c_i_GoodWrites {A1 : Option Addr} {c1 : Nat} {w : World} (p_l : List DWrite) (h1 : RdS w (Iv 0 w.heap.size) (RF e_Write) 3 A1 p_l.length c1 p_l) (o2 : (okL ok_Write) p_l) : Cal Try.prog 83 #[.slice A1 p_l.length c1] w fun v w' => v = .bool ((i_GoodWrites p_l)) ∧ Ex w w' := by
 refine Cal.of func83 rfl ntmps83 rfl (CW.seq (CW.region (sd rfl (yl_assign rfl rfl (dn (CW.seq (CW.region (sd rfl (yl_move rfl rfl ?_)))))))))
 refine sd rfl (yl_len un22 rfl rfl (sd rfl (yl_leq rfl rfl rfl (sd rfl (yl_move rfl rfl (bcase (decide ((p_l.length : Int) ≤ 24)) (fun hb4 => ?_) (fun hb4 => ?_)))))))
 ·have hb4p := dec_t hb4
  refine sy rfl rfl hb4 (yl_move rfl rfl (sy rfl rfl hb4 (yl_call en101 rfl (oc rfl oz) (Cal.mono (c_i_writeKeys p_l (RdS.up h1 good_Write) o2) ?_))))
  rintro v8 w5 ⟨A6, c6, lo6, hi6, rfl, h6, ho7, hrn10, hE9⟩
  refine sy rfl rfl hb4 (yl_call en75 rfl (oc rfl oz) (Cal.mono (c_i_areRising (i_writeKeys p_l) (RdS.up (OwnL.rd good_Str h6) good_Str) ho7) ?_))
  rintro v13 w12 ⟨rfl, hE14⟩
  refine sd rfl (yl_pick_t rfl rfl hb4 rfl (sd rfl (yl_move rfl rfl (bcase (i_areRising (i_writeKeys p_l)) (fun hb15 => ?_) (fun hb15 => ?_)))))
  ·refine sy rfl rfl hb15 (yl_move rfl rfl (sy rfl rfl hb15 (yl_call en84 rfl (oc rfl (oc rfl oz)) (Cal.mono (c_g_slices_ContainsFunc_Write p_l (fun y0 => i_GoodWrites_c1 y0) (RdS.up (RdS.ex good_Write (RdS.ex good_Write h1 hE9) hE14) good_Write) en102 (fun _ y0 => fun hE hm0 ov0 => c_i_GoodWrites_c1 y0 ov0) o2) ?_))))
   rintro v19 w18 ⟨rfl, hE20⟩
   refine sy rfl rfl hb15 (yl_not rfl rfl (sd rfl (yl_pick_t rfl rfl hb15 rfl (sd rfl (yl_assign rfl rfl (dn (CW.ret (rr rfl (.cons rfl .nil) ?_))))))))
   have hM21 : (i_GoodWrites p_l) = (!(g_slices_ContainsFunc_Write p_l (fun y0 => i_GoodWrites_c1 y0))) := by simp only [i_GoodWrites, hb4, hb15, cL]
   rw [hM21]
   exact ⟨rfl, (Ex.trans (Ex.trans (Ex.trans (Ex.refl w) hE9) hE14) hE20)⟩
  ·refine sz rfl rfl hb15 (sz rfl rfl hb15 (sz rfl rfl hb15 (sd rfl (yl_pick_f rfl rfl hb15 rfl (sd rfl (yl_assign rfl rfl (dn (CW.ret (rr rfl (.cons rfl .nil) ?_)))))))))
   have hM25 : (i_GoodWrites p_l) = (false) := by simp only [i_GoodWrites, hb4, hb15, cL]
   rw [hM25]
   exact ⟨rfl, (Ex.trans (Ex.trans (Ex.refl w) hE9) hE14)⟩
 ·have hb4p := dec_f hb4
  refine sz rfl rfl hb4 (sz rfl rfl hb4 (sz rfl rfl hb4 (sd rfl (yl_pick_f rfl rfl hb4 rfl (sd rfl (yl_move rfl rfl (sz rfl rfl rfl (sz rfl rfl rfl (sz rfl rfl rfl (sd rfl (yl_pick_f rfl rfl rfl rfl ?_)))))))))))
  refine sd rfl (yl_assign rfl rfl (dn (CW.ret (rr rfl (.cons rfl .nil) ?_))))
  have hM28 : (i_GoodWrites p_l) = (false) := by simp only [i_GoodWrites, hb4, cL]
  rw [hM28]
  exact ⟨rfl, (Ex.refl w)⟩
theorem c_i_isRows_c1 {w : World} (p_w : DWrite) (o1 : ok_Write p_w) : Cal Try.prog 85 #[.agg #[.string (bs (p_w.Key)), .string (bs (p_w.Val)), .bool (p_w.Gone)]] w fun v w' => v = .bool ((i_isRows_c1 p_w)) ∧ Ex w w' := by
 refine Cal.of func85 rfl ntmps85 rfl (CW.seq (CW.region (sd rfl (yl_box rfl rfl rfl ?_))))
 intro b4 w5 hs6 hz7 hB8 hE9
 refine sd rfl (yl_assign rfl rfl (dn (CW.seq (CW.region (sd rfl (yl_fieldAddr fd53_2 rfl rfl (sd rfl (yl_load1 ty4 rfl rfl ((hB8.cell 2).trans rfl) (sd rfl (yl_assign rfl rfl (SeqR.done ?_)))))))))))
 refine tn (CW.ret (rr rfl (.cons rfl .nil) ?_))
 have hM10 : (i_isRows_c1 p_w) = (p_w.Gone) := by simp only [i_isRows_c1, cL]
 rw [hM10]
 exact ⟨rfl, (Ex.trans (Ex.refl w) hE9)⟩
theorem c_i_isRows {A1 : Option Addr} {c1 : Nat} {w : World} (p_rows : List DWrite) (h1 : RdS w (Iv 0 w.heap.size) (RF e_Write) 3 A1 p_rows.length c1 p_rows) (o2 : (okL ok_Write) p_rows) : Cal Try.prog 59 #[.slice A1 p_rows.length c1] w fun v w' => v = .bool ((i_isRows p_rows)) ∧ Ex w w' := by
 refine Cal.of func59 rfl ntmps59 rfl (CW.seq (CW.region (sd rfl (yl_assign rfl rfl (dn (CW.seq (CW.region (sd rfl (yl_move rfl rfl ?_)))))))))
 refine sd rfl (yl_call en83 rfl (oc rfl oz) (Cal.mono (c_i_GoodWrites p_rows (RdS.up h1 good_Write) o2) ?_))
 rintro v5 w4 ⟨rfl, hE6⟩
 refine sd rfl (yl_move rfl rfl (bcase (i_GoodWrites p_rows) (fun hb7 => ?_) (fun hb7 => ?_)))
 ·refine sy rfl rfl hb7 (yl_move rfl rfl (sy rfl rfl hb7 (yl_call en84 rfl (oc rfl (oc rfl oz)) (Cal.mono (c_g_slices_ContainsFunc_Write p_rows (fun y0 => i_isRows_c1 y0) (RdS.up (RdS.ex good_Write h1 hE6) good_Write) en85 (fun _ y0 => fun hE hm0 ov0 => c_i_isRows_c1 y0 ov0) o2) ?_))))
  rintro v10 w9 ⟨rfl, hE11⟩
  refine sy rfl rfl hb7 (yl_not rfl rfl (sd rfl (yl_pick_t rfl rfl hb7 rfl (sd rfl (yl_assign rfl rfl (dn (CW.ret (rr rfl (.cons rfl .nil) ?_))))))))
  have hM12 : (i_isRows p_rows) = (!(g_slices_ContainsFunc_Write p_rows (fun y0 => i_isRows_c1 y0))) := by simp only [i_isRows, hb7, cL]
  rw [hM12]
  exact ⟨rfl, (Ex.trans (Ex.trans (Ex.refl w) hE6) hE11)⟩
 ·refine sz rfl rfl hb7 (sz rfl rfl hb7 (sz rfl rfl hb7 (sd rfl (yl_pick_f rfl rfl hb7 rfl (sd rfl (yl_assign rfl rfl (dn (CW.ret (rr rfl (.cons rfl .nil) ?_)))))))))
  have hM15 : (i_isRows p_rows) = (false) := by simp only [i_isRows, hb7, cL]
  rw [hM15]
  exact ⟨rfl, (Ex.trans (Ex.refl w) hE6)⟩
theorem c_i_GoodCopy {A1 : Option Addr} {c1 : Nat} {w : World} (p_c : DCopy) (h1 : RdS w (Iv 0 w.heap.size) (RF e_Write) 3 A1 p_c.Rows.length c1 p_c.Rows) (o2 : ok_Copy p_c) : Cal Try.prog 29 #[.agg #[.int .i64 (p_c.Time), .slice A1 p_c.Rows.length c1]] w fun v w' => v = .bool ((i_GoodCopy p_c)) ∧ Ex w w' := by
 refine Cal.of func29 rfl ntmps29 rfl (CW.seq (CW.region (sd rfl (yl_box rfl rfl rfl ?_))))
 intro b4 w5 hs6 hz7 hB8 hE9
 refine sd rfl (yl_assign rfl rfl (dn (CW.seq (CW.region (sd rfl (yl_fieldAddr fd24_0 rfl rfl (sd rfl (yl_load1 ty3 rfl rfl ((hB8.cell 0).trans rfl) (sd rfl (yl_call en46 rfl (oc rfl oz) (Cal.mono (c_i_isTrue p_c.Time) ?_)))))))))))
 rintro v11 w10 ⟨rfl, hE12⟩
 refine sd rfl (yl_move rfl rfl (bcase (i_isTrue p_c.Time) (fun hb13 => ?_) (fun hb13 => ?_)))
 ·refine sy rfl rfl hb13 (yl_fieldAddr fd24_1 rfl rfl ?_)
  have q14 := Box.ex hB8 hE12
  refine sy rfl rfl hb13 (yl_load1 ty22 rfl rfl ((q14.cell 1).trans rfl) (sy rfl rfl hb13 (yl_call en59 rfl (oc rfl oz) (Cal.mono (c_i_isRows p_c.Rows (RdS.up (RdS.ex good_Write (RdS.ex good_Write h1 hE9) hE12) good_Write) o2) ?_))))
  rintro v18 w17 ⟨rfl, hE19⟩
  refine sd rfl (yl_pick_t rfl rfl hb13 rfl (sd rfl (yl_move rfl rfl (bcase (i_isRows p_c.Rows) (fun hb20 => ?_) (fun hb20 => ?_)))))
  ·refine sy rfl rfl hb20 (yl_fieldAddr fd24_0 rfl rfl ?_)
   have q21 := Box.ex q14 hE19
   refine sy rfl rfl hb20 (yl_load1 ty3 rfl rfl ((q21.cell 0).trans rfl) (sy rfl rfl hb20 (yl_gtr rfl rfl rfl (sy rfl rfl hb20 (yl_move rfl rfl (bcase (decide (0 < p_c.Time)) (fun hb22 => ?_) (fun hb22 => ?_)))))))
   ·have hb22p := dec_t hb22
    refine sz rfl rfl hb22 (sz rfl rfl hb22 (sz rfl rfl hb22 (sz rfl rfl hb22 (sy rfl rfl hb20 (yl_pick_t rfl rfl hb22 rfl (sd rfl (yl_pick_t rfl rfl hb20 rfl (sd rfl (yl_assign rfl rfl (dn ?_))))))))))
    refine CW.ret (rr rfl (.cons rfl .nil) ?_)
    have hM23 : (i_GoodCopy p_c) = (true) := by simp only [i_GoodCopy, hb13, hb20, hb22, cL]
    rw [hM23]
    exact ⟨rfl, (Ex.trans (Ex.trans (Ex.trans (Ex.refl w) hE9) hE12) hE19)⟩
   ·have hb22p := dec_f hb22
    refine sy rfl rfl hb22 (yl_fieldAddr fd24_1 rfl rfl (sy rfl rfl hb22 (yl_load1 ty22 rfl rfl ((q21.cell 1).trans rfl) (sy rfl rfl hb22 (yl_len un22 rfl rfl (sy rfl rfl hb22 (yl_eql rfl rfl rfl (sy rfl rfl hb20 (yl_pick_f rfl rfl hb22 rfl (sd rfl (yl_pick_t rfl rfl hb20 rfl (sd rfl (yl_assign rfl rfl (dn ?_))))))))))))))
    refine CW.ret (rr rfl (.cons rfl .nil) ?_)
    have hM27 : (i_GoodCopy p_c) = (decide ((p_c.Rows.length : Int) = 0)) := by simp only [i_GoodCopy, hb13, hb20, hb22, cL]
    rw [hM27]
    exact ⟨rfl, (Ex.trans (Ex.trans (Ex.trans (Ex.refl w) hE9) hE12) hE19)⟩
  ·refine sz rfl rfl hb20 (sz rfl rfl hb20 (sz rfl rfl hb20 (sz rfl rfl hb20 (sq rfl rfl (sq rfl rfl (sq rfl rfl (sq rfl rfl (sz rfl rfl hb20 ?_))))))))
   refine sd rfl (yl_pick_f rfl rfl hb20 rfl (sd rfl (yl_assign rfl rfl (dn (CW.ret (rr rfl (.cons rfl .nil) ?_))))))
   have hM31 : (i_GoodCopy p_c) = (false) := by simp only [i_GoodCopy, hb13, hb20, cL]
   rw [hM31]
   exact ⟨rfl, (Ex.trans (Ex.trans (Ex.trans (Ex.refl w) hE9) hE12) hE19)⟩
 ·refine sz rfl rfl hb13 (sz rfl rfl hb13 (sz rfl rfl hb13 (sd rfl (yl_pick_f rfl rfl hb13 rfl (sd rfl (yl_move rfl rfl (sz rfl rfl rfl (sz rfl rfl rfl (sz rfl rfl rfl (sz rfl rfl rfl ?_))))))))))
  refine sq rfl rfl (sq rfl rfl (sq rfl rfl (sq rfl rfl (sz rfl rfl rfl (sd rfl (yl_pick_f rfl rfl rfl rfl (sd rfl (yl_assign rfl rfl (dn ?_)))))))))
  refine CW.ret (rr rfl (.cons rfl .nil) ?_)
  have hM35 : (i_GoodCopy p_c) = (false) := by simp only [i_GoodCopy, hb13, cL]
  rw [hM35]
  exact ⟨rfl, (Ex.trans (Ex.trans (Ex.refl w) hE9) hE12)⟩
theorem c_i_textBytes {w : World} (p_s : Str) (o1 : okS p_s) : Cal Try.prog 60 #[.string (bs (p_s))] w fun v w' => v = .string (bs ((i_textBytes p_s))) ∧ Ex w w' := by
 have hol2 : p_s.length ≤ 1073741824 := o1
 refine Cal.of func60 rfl ntmps60 rfl (CW.seq (CW.region (sd rfl (yl_assign rfl rfl (dn (CW.seq (CW.region (sd rfl (yl_move rfl rfl ?_)))))))))
 refine sd rfl (yl_slen un9 (a := p_s) rfl rfl (sd rfl (yl_call en58 rfl (oc rfl oz) (Cal.mono (c_i_numBytes (p_s.length : Int) (by first | omega | assumption | (simp only [wI] at *; omega))) ?_))))
 rintro v4 w3 ⟨rfl, hE5⟩
 have hE5z := Ex.size hE5
 have hrf6 := rf_numBytes (p_s.length : Int) (by first | omega | assumption | (simp only [wI] at *; omega))
 refine sd rfl (yl_move rfl rfl ?_)
 have hol7 : p_s.length ≤ 1073741824 := o1
 refine sd rfl (yl_sadd (a := (i_numBytes (p_s.length : Int))) (b := p_s) rfl rfl rfl (by first | omega | (simp only [List.length_append, List.length_cons, List.length_nil, List.length_take, List.length_drop, toS_length]; omega)) (sd rfl (yl_assign rfl rfl (dn (CW.ret (rr rfl (.cons rfl .nil) ?_))))))
 have hM8 : (i_textBytes p_s) = ((i_numBytes (p_s.length : Int)) ++ p_s) := by simp only [i_textBytes, cL]
 rw [hM8]
 exact ⟨rfl, (Ex.trans (Ex.refl w) hE5)⟩
theorem c_i_copyBytes {A1 : Option Addr} {c1 : Nat} {w : World} (p_c : DCopy) (h1 : RdS w (Iv 0 w.heap.size) (RF e_Write) 3 A1 p_c.Rows.length c1 p_c.Rows) (o2 : ok_Copy p_c) (pre0 : i_GoodCopy p_c = true) : Cal Try.prog 30 #[.agg #[.int .i64 (p_c.Time), .slice A1 p_c.Rows.length c1]] w fun v w' => v = .string (bs ((i_copyBytes p_c))) ∧ Ex w w' := by
 have hol3 := o2.1
 obtain ⟨hcp1, hcp2⟩ := f_i_GoodCopy pre0
 refine Cal.of func30 rfl ntmps30 rfl (CW.seq (CW.region (sd rfl (yl_box rfl rfl rfl ?_))))
 intro b4 w5 hs6 hz7 hB8 hE9
 refine sd rfl (yl_assign rfl rfl (dn (CW.seq ?_)))
 have hrf12 := rf_numBytes p_c.Time (by first | omega | assumption | (simp only [wI] at *; omega))
 have hrf13 := rf_numBytes (p_c.Rows.length : Int) (by first | omega | assumption | (simp only [wI] at *; omega))
 refine CW.drawsI 9 (vgetI ([.pointer (some ⟨b4, 0 + 0, none⟩), .int .i64 (p_c.Time), .string (bs ((i_numBytes p_c.Time))), .pointer (some ⟨b4, 0 + 1, none⟩), .slice A1 p_c.Rows.length c1, .int .i64 ((p_c.Rows.length : Int)), .string (bs ((i_numBytes (p_c.Rows.length : Int)))), .string (bs ((i_numBytes p_c.Time) ++ (i_numBytes (p_c.Rows.length : Int)))), .string (bs ((i_numBytes p_c.Time) ++ (i_numBytes (p_c.Rows.length : Int))))].map DetI)) Try.follows rfl rfl rfl rfl rfl rfl (vgetI_stable (stD _)) ⟨?_, ?_, ?_, ?_, ?_, ?_, ?_, ?_, ?_, trivial⟩ ?_
 ·exact oI rfl fun h => yl_fieldAddr fd24_0 rfl (h.old 1 _ rfl rfl) kI
 ·exact oI rfl fun h => yl_load1 ty3 rfl (h.dt 0 6 rfl rfl rfl) (((Box.ex hB8 h.ex).cell 0).trans rfl) kI
 ·intro L25 w26 hi27
  have hE28 := hi27.ex
  have hE28z := Ex.size hE28
  exact OpR.op' rfl (yl_call en58 rfl (oc (hi27.dt 1 7 rfl rfl rfl) oz) (Cal.mono (c_i_numBytes p_c.Time (by first | omega | assumption | (simp only [wI] at *; omega))) fun _ _ h => h))
 ·exact oI rfl fun h => yl_fieldAddr fd24_1 rfl (h.old 1 _ rfl rfl) kI
 ·exact oI rfl fun h => yl_load1 ty22 rfl (h.dt 3 9 rfl rfl rfl) (((Box.ex hB8 h.ex).cell 1).trans rfl) kI
 ·exact oI rfl fun h => yl_len un22 rfl (h.dt 4 10 rfl rfl rfl) kI
 ·intro L49 w50 hi51
  have hE52 := hi51.ex
  have hE52z := Ex.size hE52
  exact OpR.op' rfl (yl_call en58 rfl (oc (hi51.dt 5 11 rfl rfl rfl) oz) (Cal.mono (c_i_numBytes (p_c.Rows.length : Int) (by first | omega | assumption | (simp only [wI] at *; omega))) fun _ _ h => h))
 ·intro L57 w58 hi59
  have hE60 := hi59.ex
  have hE60z := Ex.size hE60
  exact os rfl ((yl_sadd (a := (i_numBytes p_c.Time)) (b := (i_numBytes (p_c.Rows.length : Int))) rfl (hi59.dt 2 8 rfl rfl rfl) (hi59.dt 6 12 rfl rfl rfl) (by first | omega | (simp only [List.length_append, List.length_cons, List.length_nil, List.length_take, List.length_drop, toS_length]; omega)) kI))
 ·exact oI rfl fun h => yl_assign rfl (h.dt 7 13 rfl rfl rfl) kI
 ·intro fl71 fh72 L68 w69 hp70
  have hE73 := hp70.ex
  have hE73z := Ex.size hE73
  refine dn (CW.sub (Sub.cons (d := 1) (hp70.old 1 _ rfl rfl) (Sub.cons (d := 3) (hp70.nt 8 3 rfl rfl rfl) (Sub.nil _))) (CW.seq (CW.seq (CW.region (sd rfl (yl_fieldAddr fd24_1 rfl rfl (sd rfl (yl_load1 ty22 rfl rfl (((Box.ex hB8 hE73).cell 1).trans rfl) (sd rfl (yl_len un22 rfl rfl ?_))))))))))
  refine sd rfl (yl_move rfl rfl (dn (CW.block (CW.loop (fun m107 L108 w109 => ∃ (k77 : Nat) (x106 : Str), m107 = p_c.Rows.length - k77 ∧ k77 ≤ p_c.Rows.length ∧ w69.heap.size ≤ w109.heap.size ∧ lkp L108 3 = some (.string (bs (x106))) ∧ lkp L108 15 = some (.slice A1 p_c.Rows.length c1) ∧ lkp L108 16 = some (.int .i64 ((p_c.Rows.length : Int))) ∧ lkp L108 17 = some (.int .i64 ((k77 : Int))) ∧ RdS w109 (Iv 0 w.heap.size) (RF e_Write) 3 A1 p_c.Rows.length c1 p_c.Rows ∧ Ex w w109 ∧ x106.length ≤ (i_numBytes p_c.Time).length + (i_numBytes (p_c.Rows.length : Int)).length + 46 * (k77 - 0) ∧ loopM (B_i_copyBytes_0 p_c) (p_c.Rows.length - k77) k77 (x106) = loopM (B_i_copyBytes_0 p_c) (p_c.Rows.length - 0) 0 ((i_numBytes p_c.Time) ++ (i_numBytes (p_c.Rows.length : Int)))) (p_c.Rows.length - 0) ?_ ?_))))
  ·exact ⟨0, (i_numBytes p_c.Time) ++ (i_numBytes (p_c.Rows.length : Int)), rfl, (by omega), Nat.le_refl _, rfl, rfl, rfl, rfl, (RdS.ex good_Write (RdS.ex good_Write h1 hE9) hE73), (Ex.trans (Ex.trans (Ex.refl w) hE9) hE73), (by first | (simp; done) | (first | omega | (simp only [List.length_append, List.length_cons, List.length_nil, List.length_set, toS_length]; omega))), rfl⟩
  ·rintro m114 L115 w116 ⟨k77, x106, rfl, hk117, hsz119, hl120, hl121, hl122, hl123, hf124, hf125, hln126, hI118⟩
   refine CW.sub (Sub.cons hl120 (Sub.cons hl121 (Sub.cons hl122 (Sub.cons hl123 (Sub.nil _))))) ?_
   have hf125z := Ex.size hf125
   have hbg127 := RdS.big hf124
   rcases Nat.lt_or_ge k77 p_c.Rows.length with hlt128 | hlt128
   ·have hcp3 := hcp2 k77 hlt128
    refine CW.seq (CW.region (sd rfl (yl_lss rfl rfl rfl (dn (CW.seq (CW.cond_t rfl (lt_t hlt128) (CW.skip (tn ?_))))))))
    refine CW.seq (CW.block (CW.seq (CW.region ?_)))
    obtain ⟨eb129, eo129, _, eA129, _, ebl129, _, eR129, eC129⟩ := RdS.aD hf124 d_Write (i := k77)
    obtain rfl := eR129
    have eC129 : Cells w116 eb129 (eo129 + k77 * 3) [.string (bs ((p_c.Rows.getD k77 d_Write).Key)), .string (bs ((p_c.Rows.getD k77 d_Write).Val)), .bool ((p_c.Rows.getD k77 d_Write).Gone)] := eC129
    refine sd rfl (yl_ixN un22 ty53 rfl rfl rfl eA129 (sd rfl (yl_loadN ty53 rfl rfl eC129 rfl (sd rfl (yl_alloc ty53 (cs := [.string (bs (([] : Str))), .string (bs (([] : Str))), .bool (false)]) rfl rfl ?_)))))
    intro b130 w131 hs132 hz133 hB134 hE135
    refine SeqR.u rfl rfl (yl_store (vs := [.string (bs ((p_c.Rows.getD k77 d_Write).Key)), .string (bs ((p_c.Rows.getD k77 d_Write).Val)), .bool ((p_c.Rows.getD k77 d_Write).Gone)]) ty53 rfl rfl rfl rfl rfl rfl hB134 (Nat.le_of_ble_eq_true rfl) ?_)
    intro w136 hB137 hO138
    have hB137 : Box w136 b130 53 [.string (bs ((p_c.Rows.getD k77 d_Write).Key)), .string (bs ((p_c.Rows.getD k77 d_Write).Val)), .bool ((p_c.Rows.getD k77 d_Write).Gone)] := hB137
    have hO138z := hO138.size
    refine dn ?_
    have hrf141 := rf_textBytes ((p_c.Rows.getD k77 d_Write).Key) (by omega)
    have hrf142 := rf_textBytes ((p_c.Rows.getD k77 d_Write).Val) (by omega)
    refine CW.drawsI 10 (vgetI ([.string (bs (x106)), .pointer (some ⟨b130, 0 + 0, none⟩), .string (bs ((p_c.Rows.getD k77 d_Write).Key)), .string (bs ((i_textBytes ((p_c.Rows.getD k77 d_Write).Key)))), .pointer (some ⟨b130, 0 + 1, none⟩), .string (bs ((p_c.Rows.getD k77 d_Write).Val)), .string (bs ((i_textBytes ((p_c.Rows.getD k77 d_Write).Val)))), .string (bs ((i_textBytes ((p_c.Rows.getD k77 d_Write).Key)) ++ (i_textBytes ((p_c.Rows.getD k77 d_Write).Val)))), .string (bs (x106 ++ ((i_textBytes ((p_c.Rows.getD k77 d_Write).Key)) ++ (i_textBytes ((p_c.Rows.getD k77 d_Write).Val))))), .string (bs (x106 ++ ((i_textBytes ((p_c.Rows.getD k77 d_Write).Key)) ++ (i_textBytes ((p_c.Rows.getD k77 d_Write).Val)))))].map DetI)) Try.follows rfl rfl rfl rfl rfl rfl (vgetI_stable (stD _)) ⟨?_, ?_, ?_, ?_, ?_, ?_, ?_, ?_, ?_, ?_, trivial⟩ ?_
    ·exact oI rfl fun h => yl_move rfl (h.old 3 _ rfl rfl) kI
    ·exact oI rfl fun h => yl_fieldAddr fd53_0 rfl (h.old 5 _ rfl rfl) kI
    ·exact oI rfl fun h => yl_load1 ty9 rfl (h.dt 1 22 rfl rfl rfl) (((Box.ex hB137 h.ex).cell 0).trans rfl) kI
    ·intro L159 w160 hi161
     exact OpR.op' rfl (yl_call en60 rfl (oc (hi161.dt 2 23 rfl rfl rfl) oz) (Cal.mono (c_i_textBytes ((p_c.Rows.getD k77 d_Write).Key) ((okL.getD o2 ok_d_Write _).1)) fun _ _ h => h))
    ·exact oI rfl fun h => yl_fieldAddr fd53_1 rfl (h.old 5 _ rfl rfl) kI
    ·exact oI rfl fun h => yl_load1 ty9 rfl (h.dt 4 25 rfl rfl rfl) (((Box.ex hB137 h.ex).cell 1).trans rfl) kI
    ·intro L178 w179 hi180
     exact OpR.op' rfl (yl_call en60 rfl (oc (hi180.dt 5 26 rfl rfl rfl) oz) (Cal.mono (c_i_textBytes ((p_c.Rows.getD k77 d_Write).Val) ((okL.getD o2 ok_d_Write _).2)) fun _ _ h => h))
    ·intro L186 w187 hi188
     have hE189 := hi188.ex
     have hE189z := Ex.size hE189
     exact os rfl ((yl_sadd (a := (i_textBytes ((p_c.Rows.getD k77 d_Write).Key))) (b := (i_textBytes ((p_c.Rows.getD k77 d_Write).Val))) rfl (hi188.dt 3 24 rfl rfl rfl) (hi188.dt 6 27 rfl rfl rfl) (by first | omega | (simp only [List.length_append, List.length_cons, List.length_nil, List.length_take, List.length_drop, toS_length]; omega)) kI))
    ·intro L192 w193 hi194
     have hE195 := hi194.ex
     have hE195z := Ex.size hE195
     exact os rfl ((yl_sadd (a := x106) (b := ((i_textBytes ((p_c.Rows.getD k77 d_Write).Key)) ++ (i_textBytes ((p_c.Rows.getD k77 d_Write).Val)))) rfl (hi194.dt 0 21 rfl rfl rfl) (hi194.dt 7 28 rfl rfl rfl) (by first | omega | (simp only [List.length_append, List.length_cons, List.length_nil, List.length_take, List.length_drop, toS_length]; omega)) kI))
    ·exact oI rfl fun h => yl_assign rfl (h.dt 8 29 rfl rfl rfl) kI
    ·intro fl206 fh207 L203 w204 hp205
     have hE208 := hp205.ex
     have hE208z := Ex.size hE208
     refine SeqR.done (bn (tn (CW.sub (Sub.cons (d := 3) (hp205.nt 9 3 rfl rfl rfl) (Sub.cons (d := 15) (hp205.old 15 _ rfl rfl) (Sub.cons (d := 16) (hp205.old 16 _ rfl rfl) (Sub.cons (d := 17) (hp205.old 17 _ rfl rfl) (Sub.nil _))))) (CW.region (sd rfl (yl_inc rfl rfl rfl (by omega) (sd rfl (yl_move rfl rfl (dn ?_)))))))))
     have hB213 : B_i_copyBytes_0 p_c k77 (x106) = .cont (x106 ++ ((i_textBytes ((p_c.Rows.getD k77 d_Write).Key)) ++ (i_textBytes ((p_c.Rows.getD k77 d_Write).Val)))) := by simp only [B_i_copyBytes_0, cL]
     exact ⟨p_c.Rows.length - (k77 + 1), by omega, k77 + 1, x106 ++ ((i_textBytes ((p_c.Rows.getD k77 d_Write).Key)) ++ (i_textBytes ((p_c.Rows.getD k77 d_Write).Val))), rfl, hlt128, (by omega), rfl, rfl, rfl, rfl, (RdS.ex good_Write (RdS.only good_Write (RdS.ex good_Write hf124 hE135) hO138 (by simp only [Iv]; omega)) hE208), (Ex.trans (Below.only (Ex.trans hf125 hE135) hO138 (by omega)) hE208), (by first | omega | (simp only [List.length_append, List.length_cons, List.length_nil, List.length_set, toS_length]; omega)), (loopM.cont hlt128 hB213).symm.trans hI118⟩
   ·refine CW.seq (CW.region (sd rfl (yl_lss rfl rfl rfl (dn (CW.seq (CW.cond_f rfl (lt_f hlt128) (CW.exit (tx ?_))))))))
    refine tx ?_
    have hL220 : loopM (B_i_copyBytes_0 p_c) (p_c.Rows.length - 0) 0 ((i_numBytes p_c.Time) ++ (i_numBytes (p_c.Rows.length : Int))) = .done (x106) := hI118.symm.trans (loopM.stop hlt128)
    refine bx (tn (CW.seq (CW.region (sd rfl (yl_move rfl rfl (sd rfl (yl_call en56 rfl (oc rfl oz) (Cal.mono (c_i_seal x106 (by unfold okS; omega)) ?_))))))))
    rintro v222 w221 ⟨rfl, hE223⟩
    have hE223z := Ex.size hE223
    have hrf224 := rf_seal x106
    refine sd rfl (yl_assign rfl rfl (dn (CW.ret (rr rfl (.cons rfl .nil) ?_))))
    have hM225 : (i_copyBytes p_c) = ((i_seal x106)) := by simp only [i_copyBytes, hL220, cL]
    rw [hM225]
    exact ⟨rfl, (Ex.trans hf125 hE223)⟩
theorem c_i_ReadCopy {w : World} (p_b : Str) (o1 : okS p_b) : Cal Try.prog 7 #[.string (bs (p_b))] w fun v w' => ∃ A_1 c_1 lo_1 hi_1, v = .tuple #[.agg #[.int .i64 ((i_ReadCopy p_b).1.Time), .slice A_1 (((i_ReadCopy p_b).1.Rows).length) c_1], .bool ((i_ReadCopy p_b).2)] ∧ OwnL w' lo_1 hi_1 53 3 (RF e_Write) A_1 (((i_ReadCopy p_b).1.Rows).length) c_1 ((i_ReadCopy p_b).1.Rows) ∧ ok_Copy ((i_ReadCopy p_b).1) ∧ (w.heap.size ≤ lo_1 ∧ lo_1 ≤ hi_1 ∧ hi_1 ≤ w'.heap.size) ∧ Ex w w' := by
 have hol2 : p_b.length ≤ 1073741824 := o1
 refine Cal.of func7 rfl ntmps7 rfl (CW.seq (CW.region (sd rfl (yl_alloc ty24 (cs := [.int .i64 (0), .slice none 0 0]) rfl rfl ?_))))
 intro b3 w4 hs5 hz6 hB7 hE8
 refine sd rfl (yl_assign rfl rfl (dn (CW.seq (CW.region (sd rfl (yl_move rfl rfl (sd rfl (yl_call en26 rfl (oc rfl oz) (Cal.mono (c_i_OpenSeal p_b o1) ?_)))))))))
 rintro v11 w9 ⟨rfl, ho10, hE12⟩
 have hE12z := Ex.size hE12
 refine sd rfl (yl_move rfl rfl (sd rfl (yl_extract rfl rfl rfl (sd rfl (yl_extract rfl rfl rfl (sd rfl (yl_assign rfl rfl (sd rfl (yl_assign rfl rfl (dn (CW.seq (CW.seq ?_))))))))))))
 refine CW.region (sd rfl (yl_move rfl rfl (sd rfl (yl_not rfl rfl (dn (bcase ((i_OpenSeal p_b).2) (fun hb13 => ?_) (fun hb13 => ?_)))))))
 ·refine CW.cond_f rfl (not_t hb13) (CW.skip (tn (CW.seq (CW.region (sd rfl (yl_move rfl rfl (sd rfl (yl_build (cs := [.string (bs ((i_OpenSeal p_b).1)), .int .i64 (0), .bool (false)]) rfl (oc rfl oz) (by kernel_rfl) (sd rfl (yl_box rfl rfl rfl ?_))))))))))
  intro b14 w15 hs16 hz17 hB18 hE19
  refine sd rfl (yl_assign rfl rfl (dn (CW.seq (CW.region (sd rfl (yl_move rfl rfl (sd rfl (yl_call en27 rfl (oc rfl oz) (Cal.mono (c_i_source_num ((i_OpenSeal p_b).1) (0, false) hB18 ho10 (by first | omega | assumption | (simp only [wI] at *; omega))) ?_)))))))))
  rintro v21 w20 ⟨rfl, hB23, hc22⟩
  have hc22z := Chg.size hc22
  have hB23z := Box.lt hB23
  have hrf24 := rf_num ho10 (0, false)  (by first | omega | assumption | (simp only [wI] at *; omega))
  refine sd rfl (yl_build (cs := [.int .i64 ((i_source_num ((i_OpenSeal p_b).1) (0, false)).1), .slice none 0 0]) rfl (oc rfl oz) (by kernel_rfl) (sd rfl (yl_alloc ty24 (cs := [.int .i64 (0), .slice none 0 0]) rfl rfl ?_)))
  intro b25 w26 hs27 hz28 hB29 hE30
  refine SeqR.u rfl rfl (yl_store (vs := [.int .i64 ((i_source_num ((i_OpenSeal p_b).1) (0, false)).1), .slice none 0 0]) ty24 rfl rfl rfl rfl rfl rfl hB29 (Nat.le_of_ble_eq_true rfl) ?_)
  intro w31 hB32 hO33
  have hB32 : Box w31 b25 24 [.int .i64 ((i_source_num ((i_OpenSeal p_b).1) (0, false)).1), .slice none 0 0] := hB32
  have hO33z := hO33.size
  refine dn (CW.seq (CW.seq (CW.region (sd rfl (yl_move rfl rfl (sd rfl (yl_call en27 rfl (oc rfl oz) (Cal.mono (c_i_source_num ((i_OpenSeal p_b).1) ((i_source_num ((i_OpenSeal p_b).1) (0, false)).2) (Box.only (Box.ex hB23 hE30) hO33 (by omega)) ho10 (by first | omega | assumption | (simp only [wI] at *; omega))) ?_))))))))
  rintro v37 w36 ⟨rfl, hB39, hc38⟩
  have hc38z := Chg.size hc38
  have hB39z := Box.lt hB39
  have hrf40 := rf_num ho10 ((i_source_num ((i_OpenSeal p_b).1) (0, false)).2)  (by first | omega | assumption | (simp only [wI] at *; omega))
  refine sd rfl (yl_assign rfl rfl (dn (CW.block ?_)))
  have q79 := Box.ex (Box.ex hB7 hE12) hE19
  have q82 := Box.only (Box.ex (Box.chg q79 hc22 (by have := Box.lt q79; simp only [InR, or_false]; omega)) hE30) hO33 (by omega)
  refine CW.loop (fun m75 L76 w77 => ∃ (x68 : Int) (x69 : Int) (x70 : Bool) (x71 : List DWrite) (A72 : Option Addr) (c73 : Nat) (u74 : Nat), ((x68).toNat) < m75 ∧ w36.heap.size ≤ w77.heap.size ∧ lkp L76 0 = some (.string (bs (p_b))) ∧ lkp L76 2 = some (.pointer (some ⟨b3, 0, none⟩)) ∧ lkp L76 6 = some (.pointer (some ⟨b14, 0, none⟩)) ∧ lkp L76 7 = some (.pointer (some ⟨b25, 0, none⟩)) ∧ lkp L76 8 = some (.int .i64 (x68)) ∧ Box w77 b3 24 [.int .i64 (0), .slice none 0 0] ∧ Box w77 b14 57 [.string (bs ((i_OpenSeal p_b).1)), .int .i64 (x69), .bool (x70)] ∧ Box w77 b25 24 [.int .i64 ((i_source_num ((i_OpenSeal p_b).1) (0, false)).1), .slice A72 x71.length c73] ∧ OwnL w77 w36.heap.size u74 53 3 (RF e_Write) A72 x71.length c73 x71 ∧ Ex w w77 ∧ (w36.heap.size ≤ u74 ∧ u74 ≤ w77.heap.size) ∧ x71.length + 1 * ((x68).toNat) ≤ 0 + 1 * (((i_source_num ((i_OpenSeal p_b).1) ((i_source_num ((i_OpenSeal p_b).1) (0, false)).2)).1).toNat) ∧ (∀ y ∈ x71, ok_Write y) ∧ (0 ≤ x69 ∧ x69 ≤ ((i_OpenSeal p_b).1.length : Int)) ∧ loopW (B_i_ReadCopy_0 p_b) m75 (x68, x69, x70, x71) = loopW (B_i_ReadCopy_0 p_b) ((((i_source_num ((i_OpenSeal p_b).1) ((i_source_num ((i_OpenSeal p_b).1) (0, false)).2)).1).toNat) + 1) ((i_source_num ((i_OpenSeal p_b).1) ((i_source_num ((i_OpenSeal p_b).1) (0, false)).2)).1, ((i_source_num ((i_OpenSeal p_b).1) ((i_source_num ((i_OpenSeal p_b).1) (0, false)).2)).2).1, ((i_source_num ((i_OpenSeal p_b).1) ((i_source_num ((i_OpenSeal p_b).1) (0, false)).2)).2).2, ([] : List DWrite))) ((((i_source_num ((i_OpenSeal p_b).1) ((i_source_num ((i_OpenSeal p_b).1) (0, false)).2)).1).toNat) + 1) ?_ ?_
  ·exact ⟨(i_source_num ((i_OpenSeal p_b).1) ((i_source_num ((i_OpenSeal p_b).1) (0, false)).2)).1, ((i_source_num ((i_OpenSeal p_b).1) ((i_source_num ((i_OpenSeal p_b).1) (0, false)).2)).2).1, ((i_source_num ((i_OpenSeal p_b).1) ((i_source_num ((i_OpenSeal p_b).1) (0, false)).2)).2).2, ([] : List DWrite), none, 0, w36.heap.size, Nat.lt_succ_self _, Nat.le_refl _, rfl, rfl, rfl, rfl, rfl, (Box.chg q82 hc38 (by have := Box.lt q82; simp only [InR, or_false]; omega)), hB39, (Box.chg hB32 hc38 (by have := Box.lt hB32; simp only [InR, or_false]; omega)), (OwnL.nil w36 w36.heap.size w36.heap.size 53 3 (RF e_Write)), (Ex.chg (Below.only (Ex.trans (Ex.chg (Ex.trans (Ex.trans (Ex.trans (Ex.refl w) hE8) hE12) hE19) hc22 (fun k hk => by simp only [InR, or_false] at hk; omega)) hE30) hO33 (by omega)) hc38 (fun k hk => by simp only [InR, or_false] at hk; omega)), (by omega), (by first | (simp; done) | (first | omega | (simp only [List.length_append, List.length_cons, List.length_nil, List.length_set, toS_length]; omega))), okE.nil, (by first | omega | assumption | (simp only [wI] at *; omega)), rfl⟩
  ·rintro m92 L93 w94 ⟨x68, x69, x70, x71, A72, c73, u74, hk95, hsz97, hl98, hl99, hl100, hl101, hl102, hf103, hf104, hf105, hf106, hf107, hu108, hln109, hok110, hv111, hI96⟩
   refine CW.sub (Sub.cons hl98 (Sub.cons hl99 (Sub.cons hl100 (Sub.cons hl101 (Sub.cons hl102 (Sub.nil _)))))) ?_
   have hf103z := Box.lt hf103
   have hf104z := Box.lt hf104
   have hf105z := Box.lt hf105
   have hf107z := Ex.size hf107
   refine CW.seq (CW.seq (CW.region (sd rfl (yl_move rfl rfl (sd rfl (yl_gtr rfl rfl rfl (sd rfl (yl_move rfl rfl (bcase (decide (0 < x68)) (fun hb112 => ?_) (fun hb112 => ?_))))))))))
   ·have hb112p := dec_t hb112
    refine sy rfl rfl hb112 (yl_move rfl rfl (sy rfl rfl hb112 (yl_nil rfl rfl (sy rfl rfl hb112 (yl_fieldAddr fd57_2 rfl rfl (sy rfl rfl hb112 (yl_load1 ty4 rfl rfl ((hf104.cell 2).trans rfl) (sy rfl rfl hb112 (yl_not rfl rfl (sd rfl (yl_pick_t rfl rfl hb112 rfl (dn (bcase (x70) (fun hb113 => ?_) (fun hb113 => ?_))))))))))))))
    ·refine CW.cond_f rfl (not_t hb113) (CW.exit (tx (tx ?_)))
     have hB115 : B_i_ReadCopy_0 p_b (x68, x69, x70, x71) = .brk (x68, x69, x70, x71) := by simp only [B_i_ReadCopy_0, hb13, hb112, hb113, cL]
     have hL114 : loopW (B_i_ReadCopy_0 p_b) ((((i_source_num ((i_OpenSeal p_b).1) ((i_source_num ((i_OpenSeal p_b).1) (0, false)).2)).1).toNat) + 1) ((i_source_num ((i_OpenSeal p_b).1) ((i_source_num ((i_OpenSeal p_b).1) (0, false)).2)).1, ((i_source_num ((i_OpenSeal p_b).1) ((i_source_num ((i_OpenSeal p_b).1) (0, false)).2)).2).1, ((i_source_num ((i_OpenSeal p_b).1) ((i_source_num ((i_OpenSeal p_b).1) (0, false)).2)).2).2, ([] : List DWrite)) = .done (x68, x69, x70, x71) := hI96.symm.trans (loopW.brk hk95 hB115)
     refine bx (tn (CW.seq (CW.seq (CW.region (sd rfl (yl_move rfl rfl (sd rfl (yl_nil rfl rfl (sd rfl (yl_fieldAddr fd57_2 rfl rfl (sd rfl (yl_load1 ty4 rfl rfl ((hf104.cell 2).trans rfl) ?_))))))))))))
     refine sd rfl (yl_move rfl rfl (sz rfl rfl hb113 (sz rfl rfl hb113 (sz rfl rfl hb113 (sd rfl (yl_pick_t rfl rfl hb113 rfl (sd rfl (yl_move rfl rfl (sz rfl rfl rfl (sz rfl rfl rfl (sz rfl rfl rfl ?_)))))))))))
     refine sz rfl rfl rfl (sd rfl (yl_pick_t rfl rfl rfl rfl (dn (CW.cond_t rfl rfl (CW.seq (CW.region (sd rfl (yl_build (cs := [.int .i64 (0), .slice none 0 0]) rfl opvs_nil (by kernel_rfl) (SeqR.u rfl rfl (yl_store (vs := [.int .i64 (0), .slice none 0 0]) ty24 rfl rfl rfl rfl rfl rfl hf103 (Nat.le_of_ble_eq_true rfl) ?_))))))))))
     intro w116 hB117 hO118
     have hB117 : Box w116 b3 24 [.int .i64 (0), .slice none 0 0] := hB117
     have hO118z := hO118.size
     refine sd rfl (yl_assign rfl rfl (dn (CW.ret (tr (rr rfl (.cons ⟨_, rfl, run_loadN ty24 (cs := [.int .i64 (0), .slice none 0 0]) rfl (hB117.cells (n := 2) rfl)⟩ (.cons rfl .nil)) ?_)))))
     have hM119 : (i_ReadCopy p_b) = (((⟨0, []⟩ : DCopy), false)) := by simp only [i_ReadCopy, hb13, hb112, hb113, hL114, cL]
     rw [hM119]
     exact ⟨none, 0, w116.heap.size, w116.heap.size, rfl, (OwnL.nil _ _ _ _ _ _), (okL.nil _), (by omega), (Below.only hf107 hO118 (by omega))⟩
    ·refine CW.cond_t rfl (not_f hb113) (CW.skip (tn (CW.seq (CW.block ?_))))
     have hrf130 := rf_text ho10 (x69, x70)  (by first | omega | assumption | (simp only [wI] at *; omega))
     have hrf131 := rf_text ho10 ((i_source_text ((i_OpenSeal p_b).1) (x69, x70)).2)  (by first | omega | assumption | (simp only [wI] at *; omega))
     refine CW.drawsG 8 (fun G b => (G.dn 3 = true ∧ InR [(b14, b14 + 1)] b) ∨ (G.dn 5 = true ∧ InR [(b14, b14 + 1)] b)) (fun i G b => (i = 3 ∧ b14 ≤ b ∧ b < b14 + 1) ∨ (i = 5 ∧ b14 ≤ b ∧ b < b14 + 1)) (vgetG [DetG (.pointer (some ⟨b25, 0 + 1, none⟩)), DetG (.slice A72 x71.length c73), DetG (.pointer (some ⟨b14, 0, none⟩)), fun G v wq => v = .string (bs ((i_source_text ((i_OpenSeal p_b).1) (x69, x70)).1)) ∧ okS ((i_source_text ((i_OpenSeal p_b).1) (x69, x70)).1) ∧ (G.dn 5 = false → Box wq b14 57 [.string (bs ((i_OpenSeal p_b).1)), .int .i64 (((i_source_text ((i_OpenSeal p_b).1) (x69, x70)).2).1), .bool (((i_source_text ((i_OpenSeal p_b).1) (x69, x70)).2).2)]), DetG (.pointer (some ⟨b14, 0, none⟩)), fun G v wq => v = .string (bs ((i_source_text ((i_OpenSeal p_b).1) ((i_source_text ((i_OpenSeal p_b).1) (x69, x70)).2)).1)) ∧ okS ((i_source_text ((i_OpenSeal p_b).1) ((i_source_text ((i_OpenSeal p_b).1) (x69, x70)).2)).1) ∧ Box wq b14 57 [.string (bs ((i_OpenSeal p_b).1)), .int .i64 (((i_source_text ((i_OpenSeal p_b).1) ((i_source_text ((i_OpenSeal p_b).1) (x69, x70)).2)).2).1), .bool (((i_source_text ((i_OpenSeal p_b).1) ((i_source_text ((i_OpenSeal p_b).1) (x69, x70)).2)).2).2)], DetG (.agg #[.string (bs ((i_source_text ((i_OpenSeal p_b).1) (x69, x70)).1)), .string (bs ((i_source_text ((i_OpenSeal p_b).1) ((i_source_text ((i_OpenSeal p_b).1) (x69, x70)).2)).1)), .bool (false)]), fun G v wq => ∃ A127, v = .slice A127 1 1 ∧ OwnL wq (G.fl 7) (G.fh 7) 53 3 (RF e_Write) A127 1 1 ([(⟨(i_source_text ((i_OpenSeal p_b).1) (x69, x70)).1, (i_source_text ((i_OpenSeal p_b).1) ((i_source_text ((i_OpenSeal p_b).1) (x69, x70)).2)).1, false⟩ : DWrite)] : List DWrite)]) Try.follows rfl rfl rfl rfl rfl rfl (fun _ _ _ _ _ h => (fun h => h.imp (fun h => ⟨Gh.udn h.1, h.2⟩) (fun h => ⟨Gh.udn h.1, h.2⟩)) h) (fun i G w lo hi b K hn hh hp => by exact (hp.elim (fun ⟨e, q1, q2⟩ => by subst e; exact .inl (.inl ⟨Gh.sdn, .inl ⟨q1, q2⟩⟩)) (fun hp => (match hp with | ⟨e, q1, q2⟩ => by subst e; exact .inl (.inr (⟨Gh.sdn, .inl ⟨q1, q2⟩⟩)))))) (vgetG_kept ⟨(KeptG.det _), (KeptG.det _), (KeptG.det _), (by rintro i G v w w' K hn hh hj ⟨hv, h0, h1⟩ e; exact ⟨hv, h0, (by intro hd; exact Box.chg (h1 (Gh.off hd).2) e (fun hp => by exact (hp.elim (fun ⟨e, q1, q2⟩ => by subst e; rw [hj] at hn; cases hn) (fun hp => (match hp with | ⟨e, q1, q2⟩ => by subst e; exact absurd rfl (Gh.off hd).1)))))⟩), (KeptG.det _), (by rintro i G v w w' K hn hh hj ⟨hv, h0, h1⟩ e; exact ⟨hv, h0, (by exact Box.chg h1 e (fun hp => by exact (hp.elim (fun ⟨e, q1, q2⟩ => by subst e; rw [K.cl 5 3 hj rfl] at hn; cases hn) (fun hp => (match hp with | ⟨e, q1, q2⟩ => by subst e; rw [hj] at hn; cases hn)))))⟩), (KeptG.det _), (by rintro i G v w w' K hn hh hj ⟨A127, hv, h0⟩ e; have d7 : G.dn 7 = true := hj; have u7 := Gh.ufl (lo := w.heap.size) (hi := w'.heap.size) d7 hn; have t7 := Gh.ufh (lo := w.heap.size) (hi := w'.heap.size) d7 hn; exact ⟨A127, hv, (by simp only [u7, t7]; exact OwnL.chg good_Write h0 e (fun b hb hp => by exact (hp.elim (fun ⟨e, q1, q2⟩ => by subst e; rw [K.cl 7 3 hj rfl] at hn; cases hn) (fun hp => (match hp with | ⟨e, q1, q2⟩ => by subst e; rw [K.cl 7 5 hj rfl] at hn; cases hn)))))⟩), trivial⟩) ⟨?_, ?_, ?_, ?_, ?_, ?_, ?_, ?_, trivial⟩ ?_
     ·intro L133 w134 G132 hgk135
      have hE136 : Chg (fun b => InR [(b14, b14 + 1)] b ∨ w94.heap.size ≤ b) w94 w134 := hgk135.st.ex.imp (fun b _ h => h.imp (fun h => h.elim (fun h => h.2) (fun h => h.2)) (fun h => h))
      have hE136z := Chg.size hE136
      exact OpR.op' rfl (Yl.sameG (yl_fieldAddr fd24_1 rfl (hgk135.old 7 _ rfl rfl) kI))
     ·intro L139 w140 G138 hgk141
      have hE142 : Chg (fun b => InR [(b14, b14 + 1)] b ∨ w94.heap.size ≤ b) w94 w140 := hgk141.st.ex.imp (fun b _ h => h.imp (fun h => h.elim (fun h => h.2) (fun h => h.2)) (fun h => h))
      have hE142z := Chg.size hE142
      obtain ⟨_, hx143, rfl⟩ := hgk141.val 0 36 rfl rfl
      exact OpR.op' rfl (Yl.sameG (yl_load1 ty22 rfl hx143 (((Box.chg hf105 hE142 (by have := Box.lt hf105; simp only [InR, or_false]; omega)).cell 1).trans rfl) kI))
     ·intro L146 w147 G145 hgk148
      have hE149 := hgk148.st.ex.ex (fun b h => h.elim (fun h => h.elim (fun h => (Bool.false_ne_true (hgk148.new.symm.trans (hgk148.st.cl 3 2 h.1 rfl))).elim) (fun h => (Bool.false_ne_true (hgk148.new.symm.trans (hgk148.st.cl 5 2 h.1 rfl))).elim)) (fun h => h))
      have hE149z := Ex.size hE149
      exact OpR.op' rfl (Yl.sameG (yl_move rfl (hgk148.old 6 _ rfl rfl) kI))
     ·intro L152 w153 G151 hgk154
      have hE155 := hgk154.st.ex.ex (fun b h => h.elim (fun h => h.elim (fun h => (Bool.false_ne_true (hgk154.new.symm.trans h.1)).elim) (fun h => (Bool.false_ne_true (hgk154.new.symm.trans (hgk154.st.cl 5 3 h.1 rfl))).elim)) (fun h => h))
      have hE155z := Ex.size hE155
      obtain ⟨_, hx156, rfl⟩ := hgk154.val 2 38 rfl rfl
      refine OpR.op' rfl (yl_call en28 rfl (oc hx156 oz) (Cal.mono (c_i_source_text ((i_OpenSeal p_b).1) (x69, x70) (Box.ex hf104 hE155) ho10 (by first | omega | assumption | (simp only [wI] at *; omega))) ?_))
      rintro v160 w158 ⟨rfl, ho159, hB162, hE161⟩
      exact ⟨hE161.imp (fun k _ hk => hk.elim (fun hk => (.inl ⟨rfl, hk.1, hk.2⟩)) False.elim), rfl, ho159, fun _ => hB162⟩
     ·intro L164 w165 G163 hgk166
      have hE167 : Chg (fun b => InR [(b14, b14 + 1)] b ∨ w94.heap.size ≤ b) w94 w165 := hgk166.st.ex.imp (fun b _ h => h.imp (fun h => h.elim (fun h => h.2) (fun h => (Bool.false_ne_true (hgk166.new.symm.trans (hgk166.st.cl 5 4 h.1 rfl))).elim)) (fun h => h))
      have hE167z := Chg.size hE167
      exact OpR.op' rfl (Yl.sameG (yl_move rfl (hgk166.old 6 _ rfl rfl) kI))
     ·intro L170 w171 G169 hgk172
      have hE173 : Chg (fun b => InR [(b14, b14 + 1)] b ∨ w94.heap.size ≤ b) w94 w171 := hgk172.st.ex.imp (fun b _ h => h.imp (fun h => h.elim (fun h => h.2) (fun h => (Bool.false_ne_true (hgk172.new.symm.trans h.1)).elim)) (fun h => h))
      have hE173z := Chg.size hE173
      obtain ⟨_, hx174, rfl⟩ := hgk172.val 4 40 rfl rfl
      obtain ⟨_, rfl, h175, h176⟩ := hgk172.fact 3 rfl
      have h176 := h176 hgk172.new
      have hr177 := hgk172.st.rng 3 (hgk172.has 3 rfl)
      refine OpR.op' rfl (yl_call en28 rfl (oc hx174 oz) (Cal.mono (c_i_source_text ((i_OpenSeal p_b).1) ((i_source_text ((i_OpenSeal p_b).1) (x69, x70)).2) h176 ho10 (by first | omega | assumption | (simp only [wI] at *; omega))) ?_))
      rintro v180 w178 ⟨rfl, ho179, hB182, hE181⟩
      exact ⟨hE181.imp (fun k _ hk => hk.elim (fun hk => (.inr (⟨rfl, hk.1, hk.2⟩))) False.elim), rfl, ho179, hB182⟩
     ·intro L184 w185 G183 hgk186
      have hE187 : Chg (fun b => InR [(b14, b14 + 1)] b ∨ w94.heap.size ≤ b) w94 w185 := hgk186.st.ex.imp (fun b _ h => h.imp (fun h => h.elim (fun h => h.2) (fun h => h.2)) (fun h => h))
      have hE187z := Chg.size hE187
      obtain ⟨_, hx188, rfl, h189, -⟩ := hgk186.val 3 39 rfl rfl
      obtain ⟨_, hx190, rfl, h191, h192⟩ := hgk186.val 5 41 rfl rfl
      have hr193 := hgk186.st.rng 3 (hgk186.has 3 rfl)
      have hr194 := hgk186.st.rng 5 (hgk186.has 5 rfl)
      have hsp195 := hgk186.st.ord 5 3 (hgk186.has 5 rfl) rfl
      exact OpR.op' rfl (Yl.sameG (yl_build (cs := [.string (bs ((i_source_text ((i_OpenSeal p_b).1) (x69, x70)).1)), .string (bs ((i_source_text ((i_OpenSeal p_b).1) ((i_source_text ((i_OpenSeal p_b).1) (x69, x70)).2)).1)), .bool (false)]) rfl (oc hx188 (oc hx190 oz)) (by kernel_rfl) kI))
     ·intro L197 w198 G196 hgk199
      have hE200 : Chg (fun b => InR [(b14, b14 + 1)] b ∨ w94.heap.size ≤ b) w94 w198 := hgk199.st.ex.imp (fun b _ h => h.imp (fun h => h.elim (fun h => h.2) (fun h => h.2)) (fun h => h))
      have hE200z := Chg.size hE200
      obtain ⟨_, hx201, rfl⟩ := hgk199.val 6 42 rfl rfl
      refine OpR.op' rfl (yl_buildSlice (cs := [.string (bs ((i_source_text ((i_OpenSeal p_b).1) (x69, x70)).1)), .string (bs ((i_source_text ((i_OpenSeal p_b).1) ((i_source_text ((i_OpenSeal p_b).1) (x69, x70)).2)).1)), .bool (false)]) un22 ty53 (by decide) rfl (oc hx201 oz) (by kernel_rfl) ?_)
      intro b202 w203 hs204 hz205 hB206 hE207
      have hO208 : OwnL w203 b202 (b202 + 1) 53 3 (RF e_Write) (some ⟨b202, 0, none⟩) 1 1 ([(⟨(i_source_text ((i_OpenSeal p_b).1) (x69, x70)).1, (i_source_text ((i_OpenSeal p_b).1) ((i_source_text ((i_OpenSeal p_b).1) (x69, x70)).2)).1, false⟩ : DWrite)] : List DWrite) := OwnL.of_box (S := fun _ => False) hB206 (Nat.le_refl _) (Nat.lt_succ_self _) (EncL.cons (c := [.string (bs ((i_source_text ((i_OpenSeal p_b).1) (x69, x70)).1)), .string (bs ((i_source_text ((i_OpenSeal p_b).1) ((i_source_text ((i_OpenSeal p_b).1) (x69, x70)).2)).1)), .bool (false)]) rfl rfl EncL.nil) (Nat.le_of_ble_eq_true rfl) (fun h => h) (fun _ h => False.elim h)
      exact ⟨Chg.of_ex hE207, (some ⟨b202, 0, none⟩), rfl, OwnL.more (lo' := w198.heap.size) (hi' := w203.heap.size) hO208 (by omega) (by omega)⟩
     ·intro G209 L210 w211 hgp212
      have hE213 : Chg (fun b => InR [(b14, b14 + 1)] b ∨ w94.heap.size ≤ b) w94 w211 := hgp212.st.ex.imp (fun b _ h => h.imp (fun h => h.elim (fun h => h.2) (fun h => h.2)) (fun h => h))
      have hE213z := Chg.size hE213
      have hx217 := hgp212.old 7 _ rfl rfl
      obtain ⟨_, hx224, rfl⟩ := hgp212.val 1 37 rfl rfl
      obtain ⟨_, hx225, rfl, h226, -⟩ := hgp212.val 3 39 rfl rfl
      obtain ⟨_, hx227, rfl, h228, h229⟩ := hgp212.val 5 41 rfl rfl
      obtain ⟨_, hx230, A127_231, rfl, h232⟩ := hgp212.val 7 43 rfl rfl
      have hbz233 := Box.lt h229
      have hr234 := hgp212.st.rng 3 (hgp212.has 3 rfl)
      have hr235 := hgp212.st.rng 5 (hgp212.has 5 rfl)
      have hr236 := hgp212.st.rng 7 (hgp212.has 7 rfl)
      have hsp237 := hgp212.st.ord 5 3 (hgp212.has 5 rfl) rfl
      have hsp238 := hgp212.st.ord 7 3 (hgp212.has 7 rfl) rfl
      have hsp239 := hgp212.st.ord 7 5 (hgp212.has 7 rfl) rfl
      have q241 := OwnL.rd good_Write h232
      obtain ⟨nw242, he243, hs244⟩ := RdS.src q241
      refine sd rfl (yl_appendL (S := (fun _ => False)) (lo := w36.heap.size) (hi := u74) (xs := x71) (ys := ([(⟨(i_source_text ((i_OpenSeal p_b).1) (x69, x70)).1, (i_source_text ((i_OpenSeal p_b).1) ((i_source_text ((i_OpenSeal p_b).1) (x69, x70)).2)).1, false⟩ : DWrite)] : List DWrite)) good_Write un22 ty53 rfl (Nat.le_of_ble_eq_true rfl) rfl hx224 hx230 (OwnL.chg good_Write hf106 hE213 (fun k hl hk => by simp only [InR, or_false] at hk; omega)) he243 hs244 (RdS.len q241) (by first | omega | (simp only [List.length_append, List.length_cons, List.length_nil, List.length_take, List.length_drop, List.length_replicate, List.length_set, toS_length]; omega)) (by first | omega | (simp only [List.length_append, List.length_cons, List.length_nil, List.length_take, List.length_drop, List.length_replicate, List.length_set, toS_length]; omega)) (by omega) (by omega) (fun _ h _ => False.elim h) (by omega) ?_)
      intro A245 c246 w247 row248 hO249 hG250 hrg251
      have hG250z := hG250.size
      refine sd rfl (yl_fieldAddr fd24_1 rfl hx217 (SeqR.u rfl rfl (yl_store (vs := [.slice A245 ((x71 ++ ([(⟨(i_source_text ((i_OpenSeal p_b).1) (x69, x70)).1, (i_source_text ((i_OpenSeal p_b).1) ((i_source_text ((i_OpenSeal p_b).1) (x69, x70)).2)).1, false⟩ : DWrite)] : List DWrite)).length) c246]) ty22 rfl rfl rfl rfl rfl rfl (Box.grown (Box.chg hf105 hE213 (by have := Box.lt hf105; simp only [InR, or_false]; omega)) hG250 (fun k hk => by have := hrg251 k hk; omega)) (Nat.le_of_ble_eq_true rfl) ?_)))
      intro w254 hB255 hO256
      have hB255 : Box w254 b25 24 [.int .i64 ((i_source_num ((i_OpenSeal p_b).1) (0, false)).1), .slice A245 ((x71 ++ ([(⟨(i_source_text ((i_OpenSeal p_b).1) (x69, x70)).1, (i_source_text ((i_OpenSeal p_b).1) ((i_source_text ((i_OpenSeal p_b).1) (x69, x70)).2)).1, false⟩ : DWrite)] : List DWrite)).length) c246] := hB255
      have hO256z := hO256.size
      refine SeqR.done (bn (tn (CW.sub (Sub.cons (d := 0) (hgp212.old 0 _ rfl rfl) (Sub.cons (d := 2) (hgp212.old 2 _ rfl rfl) (Sub.cons (d := 6) (hgp212.old 6 _ rfl rfl) (Sub.cons (d := 7) hx217 (Sub.cons (d := 8) (hgp212.old 8 _ rfl rfl) (Sub.cons (d := 28) (hgp212.old 28 _ rfl rfl) (Sub.cons (d := 29) (hgp212.old 29 _ rfl rfl) (Sub.cons (d := 30) (hgp212.old 30 _ rfl rfl) (Sub.cons (d := 31) (hgp212.old 31 _ rfl rfl) (Sub.cons (d := 32) (hgp212.old 32 _ rfl rfl) (Sub.nil _))))))))))) (CW.region (sd rfl (yl_move rfl rfl (sd rfl (yl_sub rfl rfl rfl (sd rfl (yl_assign rfl rfl (SeqR.done ?_)))))))))))
      refine tn ?_
      have hB257 : B_i_ReadCopy_0 p_b (x68, x69, x70, x71) = .cont (IntKind.wrap .i64 (x68 - 1), ((i_source_text ((i_OpenSeal p_b).1) ((i_source_text ((i_OpenSeal p_b).1) (x69, x70)).2)).2).1, ((i_source_text ((i_OpenSeal p_b).1) ((i_source_text ((i_OpenSeal p_b).1) (x69, x70)).2)).2).2, (x71 ++ ([(⟨(i_source_text ((i_OpenSeal p_b).1) (x69, x70)).1, (i_source_text ((i_OpenSeal p_b).1) ((i_source_text ((i_OpenSeal p_b).1) (x69, x70)).2)).1, false⟩ : DWrite)] : List DWrite))) := by simp only [B_i_ReadCopy_0, hb13, hb112, hb113, cL]
      have hmu267 : ((IntKind.wrap .i64 (x68 - 1)).toNat) < ((x68).toNat) := by first | omega | assumption | (simp only [wI] at *; omega)
      exact ⟨m92 - 1, by omega, IntKind.wrap .i64 (x68 - 1), ((i_source_text ((i_OpenSeal p_b).1) ((i_source_text ((i_OpenSeal p_b).1) (x69, x70)).2)).2).1, ((i_source_text ((i_OpenSeal p_b).1) ((i_source_text ((i_OpenSeal p_b).1) (x69, x70)).2)).2).2, (x71 ++ ([(⟨(i_source_text ((i_OpenSeal p_b).1) (x69, x70)).1, (i_source_text ((i_OpenSeal p_b).1) ((i_source_text ((i_OpenSeal p_b).1) (x69, x70)).2)).1, false⟩ : DWrite)] : List DWrite)), A245, c246, w247.heap.size, (by omega), (by omega), rfl, rfl, rfl, rfl, rfl, (Box.only (Box.grown (Box.chg hf103 hE213 (by have := Box.lt hf103; simp only [InR, or_false]; omega)) hG250 (fun k hk => by have := hrg251 k hk; omega)) hO256 (by omega)), (Box.only (Box.grown h229 hG250 (fun k hk => by have := hrg251 k hk; omega)) hO256 (by omega)), hB255, (OwnL.only good_Write hO249 hO256 (by omega)), (Below.only (Below.grown (Ex.chg hf107 hE213 (fun k hk => by simp only [InR, or_false] at hk; omega)) hG250 (by omega) (fun k hk => by have := hrg251 k hk; omega)) hO256 (by omega)), (by omega), (by first | omega | (simp only [List.length_append, List.length_cons, List.length_nil, List.length_set, toS_length]; omega)), (okE.append hok110 ((okL.mk (Nat.le_of_ble_eq_true rfl) (okE.cons ⟨h226, h228⟩ okE.nil))).2), (by first | omega | assumption | (simp only [wI] at *; omega)), (loopW.cont hk95 hB257).symm.trans hI96⟩
   ·have hb112p := dec_f hb112
    refine sz rfl rfl hb112 (sz rfl rfl hb112 (sz rfl rfl hb112 (sz rfl rfl hb112 (sz rfl rfl hb112 (sd rfl (yl_pick_f rfl rfl hb112 rfl (dn (CW.cond_f rfl rfl ?_))))))))
    refine CW.exit (tx (tx ?_))
    have hB269 : B_i_ReadCopy_0 p_b (x68, x69, x70, x71) = .brk (x68, x69, x70, x71) := by simp only [B_i_ReadCopy_0, hb13, hb112, cL]
    have hL268 : loopW (B_i_ReadCopy_0 p_b) ((((i_source_num ((i_OpenSeal p_b).1) ((i_source_num ((i_OpenSeal p_b).1) (0, false)).2)).1).toNat) + 1) ((i_source_num ((i_OpenSeal p_b).1) ((i_source_num ((i_OpenSeal p_b).1) (0, false)).2)).1, ((i_source_num ((i_OpenSeal p_b).1) ((i_source_num ((i_OpenSeal p_b).1) (0, false)).2)).2).1, ((i_source_num ((i_OpenSeal p_b).1) ((i_source_num ((i_OpenSeal p_b).1) (0, false)).2)).2).2, ([] : List DWrite)) = .done (x68, x69, x70, x71) := hI96.symm.trans (loopW.brk hk95 hB269)
    refine bx (tn (CW.seq (CW.seq (CW.region (sd rfl (yl_move rfl rfl (sd rfl (yl_nil rfl rfl (sd rfl (yl_fieldAddr fd57_2 rfl rfl (sd rfl (yl_load1 ty4 rfl rfl ((hf104.cell 2).trans rfl) ?_))))))))))))
    refine sd rfl (yl_move rfl rfl (bcase (x70) (fun hb270 => ?_) (fun hb270 => ?_)))
    ·refine sz rfl rfl hb270 (sz rfl rfl hb270 (sz rfl rfl hb270 (sd rfl (yl_pick_t rfl rfl hb270 rfl (sd rfl (yl_move rfl rfl (sz rfl rfl rfl (sz rfl rfl rfl (sz rfl rfl rfl (sz rfl rfl rfl ?_))))))))))
     refine sd rfl (yl_pick_t rfl rfl rfl rfl (dn (CW.cond_t rfl rfl (CW.seq (CW.region (sd rfl (yl_build (cs := [.int .i64 (0), .slice none 0 0]) rfl opvs_nil (by kernel_rfl) (SeqR.u rfl rfl (yl_store (vs := [.int .i64 (0), .slice none 0 0]) ty24 rfl rfl rfl rfl rfl rfl hf103 (Nat.le_of_ble_eq_true rfl) ?_)))))))))
     intro w271 hB272 hO273
     have hB272 : Box w271 b3 24 [.int .i64 (0), .slice none 0 0] := hB272
     have hO273z := hO273.size
     refine sd rfl (yl_assign rfl rfl (dn (CW.ret (tr (rr rfl (.cons ⟨_, rfl, run_loadN ty24 (cs := [.int .i64 (0), .slice none 0 0]) rfl (hB272.cells (n := 2) rfl)⟩ (.cons rfl .nil)) ?_)))))
     have hM274 : (i_ReadCopy p_b) = (((⟨0, []⟩ : DCopy), false)) := by simp only [i_ReadCopy, hb13, hb112, hb270, hL268, cL]
     rw [hM274]
     exact ⟨none, 0, w271.heap.size, w271.heap.size, rfl, (OwnL.nil _ _ _ _ _ _), (okL.nil _), (by omega), (Below.only hf107 hO273 (by omega))⟩
    ·refine sy rfl rfl hb270 (yl_loadN ty24 rfl rfl (hf105.cells (n := 2) rfl) rfl (sy rfl rfl hb270 (yl_call en29 rfl (oc rfl oz) (Cal.mono (c_i_GoodCopy (⟨(i_source_num ((i_OpenSeal p_b).1) (0, false)).1, x71⟩ : DCopy) (RdS.up (OwnL.rd good_Write hf106) good_Write) (okL.mk (xs := x71) (by first | omega | (simp only [List.length_append, List.length_cons, List.length_nil, List.length_take, List.length_drop, List.length_replicate, List.length_set, toS_length]; omega)) hok110)) ?_))))
     rintro v278 w277 ⟨rfl, hE279⟩
     have hE279z := Ex.size hE279
     refine sy rfl rfl hb270 (yl_not rfl rfl (sd rfl (yl_pick_f rfl rfl hb270 rfl (sd rfl (yl_move rfl rfl (bcase (i_GoodCopy (⟨(i_source_num ((i_OpenSeal p_b).1) (0, false)).1, x71⟩ : DCopy)) (fun hb280 => ?_) (fun hb280 => ?_)))))))
     ·have q281 := Box.ex hf105 hE279
      refine sy rfl rfl (not_t hb280) (yl_loadN ty24 rfl rfl (q281.cells (n := 2) rfl) rfl ?_)
      have q283 := OwnL.ex good_Write hf106 hE279
      refine sy rfl rfl (not_t hb280) (yl_call en30 rfl (oc rfl oz) (Cal.mono (c_i_copyBytes (⟨(i_source_num ((i_OpenSeal p_b).1) (0, false)).1, x71⟩ : DCopy) (RdS.up (OwnL.rd good_Write q283) good_Write) (okL.mk (xs := x71) (by first | omega | (simp only [List.length_append, List.length_cons, List.length_nil, List.length_take, List.length_drop, List.length_replicate, List.length_set, toS_length]; omega)) hok110) (by first | omega | assumption | (simp only [wI] at *; omega))) ?_))
      rintro v285 w284 ⟨rfl, hE286⟩
      have hE286z := Ex.size hE286
      refine sy rfl rfl (not_t hb280) (yl_move rfl rfl (sy rfl rfl (not_t hb280) (yl_sneq (a := (i_copyBytes (⟨(i_source_num ((i_OpenSeal p_b).1) (0, false)).1, x71⟩ : DCopy))) (b := p_b) rfl rfl rfl (sd rfl (yl_pick_f rfl rfl (not_t hb280) rfl (dn (bcase ((i_copyBytes (⟨(i_source_num ((i_OpenSeal p_b).1) (0, false)).1, x71⟩ : DCopy)) == p_b) (fun hb287 => ?_) (fun hb287 => ?_))))))))
      ·refine CW.cond_f rfl (not_t hb287) (CW.skip (tn (CW.seq (CW.region (sd rfl (yl_loadN ty24 rfl rfl ((Box.ex q281 hE286).cells (n := 2) rfl) rfl (SeqR.u rfl rfl (yl_store (vs := [.int .i64 ((i_source_num ((i_OpenSeal p_b).1) (0, false)).1), .slice A72 x71.length c73]) ty24 rfl rfl rfl rfl rfl rfl (Box.ex (Box.ex hf103 hE279) hE286) (Nat.le_of_ble_eq_true rfl) ?_))))))))
       intro w291 hB292 hO293
       have hB292 : Box w291 b3 24 [.int .i64 ((i_source_num ((i_OpenSeal p_b).1) (0, false)).1), .slice A72 x71.length c73] := hB292
       have hO293z := hO293.size
       refine sd rfl (yl_assign rfl rfl (dn (CW.ret (rr rfl (.cons ⟨_, rfl, run_loadN ty24 (cs := [.int .i64 ((i_source_num ((i_OpenSeal p_b).1) (0, false)).1), .slice A72 x71.length c73]) rfl (hB292.cells (n := 2) rfl)⟩ (.cons rfl .nil)) ?_))))
       have hM294 : (i_ReadCopy p_b) = (((⟨(i_source_num ((i_OpenSeal p_b).1) (0, false)).1, x71⟩ : DCopy), true)) := by simp only [i_ReadCopy, hb13, hb112, hb270, hb280, hb287, hL268, cL]
       rw [hM294]
       exact ⟨A72, c73, w36.heap.size, u74, rfl, (OwnL.only good_Write (OwnL.ex good_Write q283 hE286) hO293 (by omega)), (okL.mk (xs := x71) (by first | omega | (simp only [List.length_append, List.length_cons, List.length_nil, List.length_take, List.length_drop, List.length_replicate, List.length_set, toS_length]; omega)) hok110), (by omega), (Below.only (Ex.trans (Ex.trans hf107 hE279) hE286) hO293 (by omega))⟩
      ·refine CW.cond_t rfl (not_f hb287) (CW.seq (CW.region (sd rfl (yl_build (cs := [.int .i64 (0), .slice none 0 0]) rfl opvs_nil (by kernel_rfl) (SeqR.u rfl rfl (yl_store (vs := [.int .i64 (0), .slice none 0 0]) ty24 rfl rfl rfl rfl rfl rfl (Box.ex (Box.ex hf103 hE279) hE286) (Nat.le_of_ble_eq_true rfl) ?_))))))
       intro w302 hB303 hO304
       have hB303 : Box w302 b3 24 [.int .i64 (0), .slice none 0 0] := hB303
       have hO304z := hO304.size
       refine sd rfl (yl_assign rfl rfl (dn (CW.ret (tr (rr rfl (.cons ⟨_, rfl, run_loadN ty24 (cs := [.int .i64 (0), .slice none 0 0]) rfl (hB303.cells (n := 2) rfl)⟩ (.cons rfl .nil)) ?_)))))
       have hM305 : (i_ReadCopy p_b) = (((⟨0, []⟩ : DCopy), false)) := by simp only [i_ReadCopy, hb13, hb112, hb270, hb280, hb287, hL268, cL]
       rw [hM305]
       exact ⟨none, 0, w302.heap.size, w302.heap.size, rfl, (OwnL.nil _ _ _ _ _ _), (okL.nil _), (by omega), (Below.only (Ex.trans (Ex.trans hf107 hE279) hE286) hO304 (by omega))⟩
     ·refine sz rfl rfl (not_f hb280) (sz rfl rfl (not_f hb280) (sz rfl rfl (not_f hb280) (sz rfl rfl (not_f hb280) (sd rfl (yl_pick_t rfl rfl (not_f hb280) rfl (dn (CW.cond_t rfl rfl (CW.seq ?_))))))))
      refine CW.region (sd rfl (yl_build (cs := [.int .i64 (0), .slice none 0 0]) rfl opvs_nil (by kernel_rfl) (SeqR.u rfl rfl (yl_store (vs := [.int .i64 (0), .slice none 0 0]) ty24 rfl rfl rfl rfl rfl rfl (Box.ex hf103 hE279) (Nat.le_of_ble_eq_true rfl) ?_))))
      intro w310 hB311 hO312
      have hB311 : Box w310 b3 24 [.int .i64 (0), .slice none 0 0] := hB311
      have hO312z := hO312.size
      refine sd rfl (yl_assign rfl rfl (dn (CW.ret (tr (rr rfl (.cons ⟨_, rfl, run_loadN ty24 (cs := [.int .i64 (0), .slice none 0 0]) rfl (hB311.cells (n := 2) rfl)⟩ (.cons rfl .nil)) ?_)))))
      have hM313 : (i_ReadCopy p_b) = (((⟨0, []⟩ : DCopy), false)) := by simp only [i_ReadCopy, hb13, hb112, hb270, hb280, hL268, cL]
      rw [hM313]
      exact ⟨none, 0, w310.heap.size, w310.heap.size, rfl, (OwnL.nil _ _ _ _ _ _), (okL.nil _), (by omega), (Below.only (Ex.trans hf107 hE279) hO312 (by omega))⟩
 ·refine CW.cond_t rfl (not_f hb13) (CW.seq (CW.region (sd rfl (yl_build (cs := [.int .i64 (0), .slice none 0 0]) rfl opvs_nil (by kernel_rfl) (SeqR.u rfl rfl (yl_store (vs := [.int .i64 (0), .slice none 0 0]) ty24 rfl rfl rfl rfl rfl rfl (Box.ex hB7 hE12) (Nat.le_of_ble_eq_true rfl) ?_))))))
  intro w317 hB318 hO319
  have hB318 : Box w317 b3 24 [.int .i64 (0), .slice none 0 0] := hB318
  have hO319z := hO319.size
  refine sd rfl (yl_assign rfl rfl (dn (CW.ret (tr (rr rfl (.cons ⟨_, rfl, run_loadN ty24 (cs := [.int .i64 (0), .slice none 0 0]) rfl (hB318.cells (n := 2) rfl)⟩ (.cons rfl .nil)) ?_)))))
  have hM320 : (i_ReadCopy p_b) = (((⟨0, []⟩ : DCopy), false)) := by simp only [i_ReadCopy, hb13, cL]
  rw [hM320]
  exact ⟨none, 0, w317.heap.size, w317.heap.size, rfl, (OwnL.nil _ _ _ _ _ _), (okL.nil _), (by omega), (Below.only (Ex.trans (Ex.trans (Ex.refl w) hE8) hE12) hO319 (by omega))⟩
theorem c_l_eqWrite {w : World} (p_a : DWrite) (p_b : DWrite) : Cal Try.prog 61 #[.agg #[.string (bs (p_a.Key)), .string (bs (p_a.Val)), .bool (p_a.Gone)], .agg #[.string (bs (p_b.Key)), .string (bs (p_b.Val)), .bool (p_b.Gone)]] w fun v w' => v = .bool ((l_eqWrite p_a p_b)) ∧ Ex w w' := by
 refine Cal.of func61 rfl ntmps61 rfl (CW.seq (CW.region (sd rfl (yl_box rfl rfl rfl ?_))))
 intro b1 w2 hs3 hz4 hB5 hE6
 refine sd rfl (yl_box rfl rfl rfl ?_)
 intro b7 w8 hs9 hz10 hB11 hE12
 refine sd rfl (yl_assign rfl rfl (dn (CW.seq (CW.seq (CW.region (sd rfl (yl_fieldAddr fd53_0 rfl rfl ?_)))))))
 have q13 := Box.ex hB5 hE12
 refine sd rfl (yl_load1 ty9 rfl rfl ((q13.cell 0).trans rfl) (sd rfl (yl_fieldAddr fd53_0 rfl rfl (sd rfl (yl_load1 ty9 rfl rfl ((hB11.cell 0).trans rfl) (sd rfl (yl_sneq (a := p_a.Key) (b := p_b.Key) rfl rfl rfl (dn (bcase (p_a.Key == p_b.Key) (fun hb14 => ?_) (fun hb14 => ?_))))))))))
 ·refine CW.cond_f rfl (not_t hb14) (CW.skip (tn (CW.seq (CW.seq (CW.region (sd rfl (yl_fieldAddr fd53_1 rfl rfl (sd rfl (yl_load1 ty9 rfl rfl ((q13.cell 1).trans rfl) (sd rfl (yl_fieldAddr fd53_1 rfl rfl ?_)))))))))))
  refine sd rfl (yl_load1 ty9 rfl rfl ((hB11.cell 1).trans rfl) (sd rfl (yl_sneq (a := p_a.Val) (b := p_b.Val) rfl rfl rfl (dn (bcase (p_a.Val == p_b.Val) (fun hb15 => ?_) (fun hb15 => ?_))))))
  ·refine CW.cond_f rfl (not_t hb15) (CW.skip (tn (CW.seq (CW.seq (CW.region (sd rfl (yl_fieldAddr fd53_2 rfl rfl (sd rfl (yl_load1 ty4 rfl rfl ((q13.cell 2).trans rfl) (sd rfl (yl_fieldAddr fd53_2 rfl rfl ?_)))))))))))
   refine sd rfl (yl_load1 ty4 rfl rfl ((hB11.cell 2).trans rfl) (sd rfl (yl_bneq un4 rfl rfl rfl (dn (bcase (p_a.Gone == p_b.Gone) (fun hb16 => ?_) (fun hb16 => ?_))))))
   ·refine CW.cond_f rfl (not_t hb16) (CW.skip (tn (CW.seq (CW.region (sd rfl (yl_assign rfl rfl (dn (CW.ret ?_))))))))
    refine rr rfl (.cons rfl .nil) ?_
    have hM17 : (l_eqWrite p_a p_b) = (true) := by simp only [l_eqWrite, hb14, hb15, hb16, cL]
    rw [hM17]
    exact ⟨rfl, (Ex.trans (Ex.trans (Ex.refl w) hE6) hE12)⟩
   ·refine CW.cond_t rfl (not_f hb16) (CW.seq (CW.region (sd rfl (yl_assign rfl rfl (dn (CW.ret (tr (rr rfl (.cons rfl .nil) ?_))))))))
    have hM20 : (l_eqWrite p_a p_b) = (false) := by simp only [l_eqWrite, hb14, hb15, hb16, cL]
    rw [hM20]
    exact ⟨rfl, (Ex.trans (Ex.trans (Ex.refl w) hE6) hE12)⟩
  ·refine CW.cond_t rfl (not_f hb15) (CW.seq (CW.region (sd rfl (yl_assign rfl rfl (dn (CW.ret (tr (rr rfl (.cons rfl .nil) ?_))))))))
   have hM23 : (l_eqWrite p_a p_b) = (false) := by simp only [l_eqWrite, hb14, hb15, cL]
   rw [hM23]
   exact ⟨rfl, (Ex.trans (Ex.trans (Ex.refl w) hE6) hE12)⟩
 ·refine CW.cond_t rfl (not_f hb14) (CW.seq (CW.region (sd rfl (yl_assign rfl rfl (dn (CW.ret (tr (rr rfl (.cons rfl .nil) ?_))))))))
  have hM26 : (l_eqWrite p_a p_b) = (false) := by simp only [l_eqWrite, hb14, cL]
  rw [hM26]
  exact ⟨rfl, (Ex.trans (Ex.trans (Ex.refl w) hE6) hE12)⟩
theorem c_l_eqWriteS {A1 : Option Addr} {c1 : Nat} {A2 : Option Addr} {c2 : Nat} {w : World} (p_a : List DWrite) (p_b : List DWrite) (h1 : RdS w (Iv 0 w.heap.size) (RF e_Write) 3 A1 p_a.length c1 p_a) (h2 : RdS w (Iv 0 w.heap.size) (RF e_Write) 3 A2 p_b.length c2 p_b) : Cal Try.prog 31 #[.slice A1 p_a.length c1, .slice A2 p_b.length c2] w fun v w' => v = .bool ((l_eqWriteS p_a p_b)) ∧ Ex w w' := by
 refine Cal.of func31 rfl ntmps31 rfl (CW.seq (CW.region (sd rfl (yl_assign rfl rfl (dn (CW.seq (CW.seq (CW.region ?_))))))))
 refine sd rfl (yl_move rfl rfl (sd rfl (yl_len un22 rfl rfl (sd rfl (yl_move rfl rfl (sd rfl (yl_len un22 rfl rfl (sd rfl (yl_neq rfl rfl rfl (dn (bcase (decide ((p_a.length : Int) = (p_b.length : Int))) (fun hb3 => ?_) (fun hb3 => ?_))))))))))))
 ·have hb3p := dec_t hb3
  refine CW.cond_f rfl (not_t hb3) (CW.skip (tn (CW.seq (CW.seq (CW.region (sd rfl (yl_assign rfl rfl (dn ?_))))))))
  refine CW.block (CW.loop (fun m5 L6 w7 => ∃ (k4 : Nat), m5 = p_a.length - k4 ∧ k4 ≤ p_a.length ∧ w.heap.size ≤ w7.heap.size ∧ lkp L6 0 = some (.slice A1 p_a.length c1) ∧ lkp L6 1 = some (.slice A2 p_b.length c2) ∧ lkp L6 5 = some (.int .i64 ((k4 : Int))) ∧ RdS w7 (Iv 0 w.heap.size) (RF e_Write) 3 A1 p_a.length c1 p_a ∧ RdS w7 (Iv 0 w.heap.size) (RF e_Write) 3 A2 p_b.length c2 p_b ∧ Ex w w7 ∧ loopM (B_l_eqWriteS_0 p_a p_b) (p_a.length - k4) k4 () = loopM (B_l_eqWriteS_0 p_a p_b) (p_a.length - 0) 0 ()) (p_a.length - 0) ?_ ?_)
  ·exact ⟨0, rfl, (by omega), Nat.le_refl _, rfl, rfl, rfl, h1, h2, (Ex.refl w), rfl⟩
  ·rintro m8 L9 w10 ⟨k4, rfl, hk11, hsz13, hl14, hl15, hl16, hf17, hf18, hf19, hI12⟩
   refine CW.sub (Sub.cons hl14 (Sub.cons hl15 (Sub.cons hl16 (Sub.nil _)))) ?_
   have hf19z := Ex.size hf19
   have hbg20 := RdS.big hf17
   rcases Nat.lt_or_ge k4 p_a.length with hlt21 | hlt21
   ·refine CW.seq (CW.seq (CW.region (sd rfl (yl_move rfl rfl (sd rfl (yl_move rfl rfl (sd rfl (yl_len un22 rfl rfl (sd rfl (yl_lss rfl rfl rfl (dn ?_)))))))))))
    refine CW.cond_t rfl (lt_t hlt21) (CW.skip (tn (CW.seq (CW.block (CW.seq ?_)))))
    obtain ⟨eb22, eo22, _, eA22, _, ebl22, _, eR22, eC22⟩ := RdS.aD hf17 d_Write (i := k4)
    obtain rfl := eR22
    have eC22 : Cells w10 eb22 (eo22 + k4 * 3) [.string (bs ((p_a.getD k4 d_Write).Key)), .string (bs ((p_a.getD k4 d_Write).Val)), .bool ((p_a.getD k4 d_Write).Gone)] := eC22
    obtain ⟨eb23, eo23, _, eA23, _, ebl23, _, eR23, eC23⟩ := RdS.aD hf18 d_Write (i := k4)
    obtain rfl := eR23
    have eC23 : Cells w10 eb23 (eo23 + k4 * 3) [.string (bs ((p_b.getD k4 d_Write).Key)), .string (bs ((p_b.getD k4 d_Write).Val)), .bool ((p_b.getD k4 d_Write).Gone)] := eC23
    refine CW.drawsI 10 (vgetI ([.slice A1 p_a.length c1, .int .i64 ((k4 : Int)), .pointer (some ⟨eb22, eo22 + k4 * 3, none⟩), .agg #[.string (bs ((p_a.getD k4 d_Write).Key)), .string (bs ((p_a.getD k4 d_Write).Val)), .bool ((p_a.getD k4 d_Write).Gone)], .slice A2 p_b.length c2, .int .i64 ((k4 : Int)), .pointer (some ⟨eb23, eo23 + k4 * 3, none⟩), .agg #[.string (bs ((p_b.getD k4 d_Write).Key)), .string (bs ((p_b.getD k4 d_Write).Val)), .bool ((p_b.getD k4 d_Write).Gone)], .bool ((l_eqWrite (p_a.getD k4 d_Write) (p_b.getD k4 d_Write))), .bool (!(l_eqWrite (p_a.getD k4 d_Write) (p_b.getD k4 d_Write)))].map DetI)) Try.follows rfl rfl rfl rfl rfl rfl (vgetI_stable (stD _)) ⟨?_, ?_, ?_, ?_, ?_, ?_, ?_, ?_, ?_, ?_, trivial⟩ ?_
    ·exact oI rfl fun h => yl_move rfl (h.old 0 _ rfl rfl) kI
    ·exact oI rfl fun h => yl_move rfl (h.old 5 _ rfl rfl) kI
    ·intro L35 w36 hi37
     have hE38 := hi37.ex
     have hE38z := Ex.size hE38
     exact os rfl ((yl_ixN un22 ty53 rfl (hi37.dt 0 17 rfl rfl rfl) (hi37.dt 1 18 rfl rfl rfl) eA22 kI))
    ·exact oI rfl fun h => yl_loadN ty53 rfl (h.dt 2 19 rfl rfl rfl) (Cells.ex eC22 h.ex) rfl kI
    ·exact oI rfl fun h => yl_move rfl (h.old 1 _ rfl rfl) kI
    ·exact oI rfl fun h => yl_move rfl (h.old 5 _ rfl rfl) kI
    ·intro L57 w58 hi59
     have hE60 := hi59.ex
     have hE60z := Ex.size hE60
     exact os rfl ((yl_ixN un22 ty53 rfl (hi59.dt 4 21 rfl rfl rfl) (hi59.dt 5 22 rfl rfl rfl) eA23 kI))
    ·exact oI rfl fun h => yl_loadN ty53 rfl (h.dt 6 23 rfl rfl rfl) (Cells.ex eC23 h.ex) rfl kI
    ·intro L69 w70 hi71
     exact OpR.op' rfl (yl_call en61 rfl (oc (hi71.dt 3 20 rfl rfl rfl) (oc (hi71.dt 7 24 rfl rfl rfl) oz)) (Cal.mono (c_l_eqWrite (p_a.getD k4 d_Write) (p_b.getD k4 d_Write)) fun _ _ h => h))
    ·exact oI rfl fun h => yl_not rfl (h.dt 8 25 rfl rfl rfl) kI
    ·intro fl86 fh87 L83 w84 hp85
     have hE88 := hp85.ex
     have hE88z := Ex.size hE88
     refine dn (CW.sub (Sub.cons (d := 0) (hp85.old 0 _ rfl rfl) (Sub.cons (d := 1) (hp85.old 1 _ rfl rfl) (Sub.cons (d := 5) (hp85.old 5 _ rfl rfl) (Sub.cons (d := 26) (hp85.nt 9 26 rfl rfl rfl) (Sub.nil _))))) (bcase (l_eqWrite (p_a.getD k4 d_Write) (p_b.getD k4 d_Write)) (fun hb93 => ?_) (fun hb93 => ?_)))
     ·refine CW.cond_f rfl (not_t hb93) (CW.skip (bn (tn (CW.region (sd rfl (yl_move rfl rfl (sd rfl (yl_inc rfl rfl rfl (by omega) (sd rfl (yl_assign rfl rfl (SeqR.done ?_)))))))))))
      refine tn ?_
      have hB94 : B_l_eqWriteS_0 p_a p_b k4 () = .cont () := by simp only [B_l_eqWriteS_0, hb3, hb93, cL]
      exact ⟨p_a.length - (k4 + 1), by omega, k4 + 1, rfl, hlt21, (by omega), rfl, rfl, rfl, (RdS.ex good_Write hf17 hE88), (RdS.ex good_Write hf18 hE88), (Ex.trans hf19 hE88), (loopM.cont hlt21 hB94).symm.trans hI12⟩
     ·refine CW.cond_t rfl (not_f hb93) (CW.seq (CW.region (sd rfl (yl_assign rfl rfl (dn (CW.ret (br (tr ?_))))))))
      refine tr ?_
      have hB99 : B_l_eqWriteS_0 p_a p_b k4 () = .ret false := by simp only [B_l_eqWriteS_0, hb3, hb93, cL]
      have hL98 : loopM (B_l_eqWriteS_0 p_a p_b) (p_a.length - 0) 0 () = .ret false := hI12.symm.trans (loopM.ret hlt21 hB99)
      refine br (tr (rr rfl (.cons rfl .nil) ?_))
      have hM100 : (l_eqWriteS p_a p_b) = (false) := by simp only [l_eqWriteS, hb3, hb93, hL98, cL]
      rw [hM100]
      exact ⟨rfl, (Ex.trans hf19 hE88)⟩
   ·refine CW.seq (CW.seq (CW.region (sd rfl (yl_move rfl rfl (sd rfl (yl_move rfl rfl (sd rfl (yl_len un22 rfl rfl (sd rfl (yl_lss rfl rfl rfl (dn ?_)))))))))))
    refine CW.cond_f rfl (lt_f hlt21) (CW.exit (tx (tx ?_)))
    have hL102 : loopM (B_l_eqWriteS_0 p_a p_b) (p_a.length - 0) 0 () = .done () := hI12.symm.trans (loopM.stop hlt21)
    refine bx (tn (CW.seq (CW.region (sd rfl (yl_assign rfl rfl (dn (CW.ret (rr rfl (.cons rfl .nil) ?_))))))))
    have hM103 : (l_eqWriteS p_a p_b) = (true) := by simp only [l_eqWriteS, hb3, hL102, cL]
    rw [hM103]
    exact ⟨rfl, hf19⟩
 ·have hb3p := dec_f hb3
  refine CW.cond_t rfl (not_f hb3) (CW.seq (CW.region (sd rfl (yl_assign rfl rfl (dn (CW.ret (tr (rr rfl (.cons rfl .nil) ?_))))))))
  have hM104 : (l_eqWriteS p_a p_b) = (false) := by simp only [l_eqWriteS, hb3, cL]
  rw [hM104]
  exact ⟨rfl, (Ex.refl w)⟩
theorem c_l_eqCopy {A1 : Option Addr} {c1 : Nat} {A2 : Option Addr} {c2 : Nat} {w : World} (p_a : DCopy) (p_b : DCopy) (h1 : RdS w (Iv 0 w.heap.size) (RF e_Write) 3 A1 p_a.Rows.length c1 p_a.Rows) (h2 : RdS w (Iv 0 w.heap.size) (RF e_Write) 3 A2 p_b.Rows.length c2 p_b.Rows) : Cal Try.prog 8 #[.agg #[.int .i64 (p_a.Time), .slice A1 p_a.Rows.length c1], .agg #[.int .i64 (p_b.Time), .slice A2 p_b.Rows.length c2]] w fun v w' => v = .bool ((l_eqCopy p_a p_b)) ∧ Ex w w' := by
 refine Cal.of func8 rfl ntmps8 rfl (CW.seq (CW.region (sd rfl (yl_box rfl rfl rfl ?_))))
 intro b3 w4 hs5 hz6 hB7 hE8
 refine sd rfl (yl_box rfl rfl rfl ?_)
 intro b9 w10 hs11 hz12 hB13 hE14
 refine sd rfl (yl_assign rfl rfl (dn (CW.seq (CW.seq (CW.region (sd rfl (yl_fieldAddr fd24_0 rfl rfl ?_)))))))
 have q15 := Box.ex hB7 hE14
 refine sd rfl (yl_load1 ty3 rfl rfl ((q15.cell 0).trans rfl) (sd rfl (yl_fieldAddr fd24_0 rfl rfl (sd rfl (yl_load1 ty3 rfl rfl ((hB13.cell 0).trans rfl) (sd rfl (yl_neq rfl rfl rfl (dn (bcase (decide (p_a.Time = p_b.Time)) (fun hb16 => ?_) (fun hb16 => ?_))))))))))
 ·have hb16p := dec_t hb16
  refine CW.cond_f rfl (not_t hb16) (CW.skip (tn (CW.seq (CW.seq (CW.region (sd rfl (yl_fieldAddr fd24_1 rfl rfl (sd rfl (yl_load1 ty22 rfl rfl ((q15.cell 1).trans rfl) (sd rfl (yl_fieldAddr fd24_1 rfl rfl ?_)))))))))))
  refine sd rfl (yl_load1 ty22 rfl rfl ((hB13.cell 1).trans rfl) (sd rfl (yl_call en31 rfl (oc rfl (oc rfl oz)) (Cal.mono (c_l_eqWriteS p_a.Rows p_b.Rows (RdS.up (RdS.ex good_Write (RdS.ex good_Write h1 hE8) hE14) good_Write) (RdS.up (RdS.ex good_Write (RdS.ex good_Write h2 hE8) hE14) good_Write)) ?_))))
  rintro v22 w21 ⟨rfl, hE23⟩
  refine sd rfl (yl_not rfl rfl (dn (bcase (l_eqWriteS p_a.Rows p_b.Rows) (fun hb24 => ?_) (fun hb24 => ?_))))
  ·refine CW.cond_f rfl (not_t hb24) (CW.skip (tn (CW.seq (CW.region (sd rfl (yl_assign rfl rfl (dn (CW.ret ?_))))))))
   refine rr rfl (.cons rfl .nil) ?_
   have hM25 : (l_eqCopy p_a p_b) = (true) := by simp only [l_eqCopy, hb16, hb24, cL]
   rw [hM25]
   exact ⟨rfl, (Ex.trans (Ex.trans (Ex.trans (Ex.refl w) hE8) hE14) hE23)⟩
  ·refine CW.cond_t rfl (not_f hb24) (CW.seq (CW.region (sd rfl (yl_assign rfl rfl (dn (CW.ret (tr (rr rfl (.cons rfl .nil) ?_))))))))
   have hM29 : (l_eqCopy p_a p_b) = (false) := by simp only [l_eqCopy, hb16, hb24, cL]
   rw [hM29]
   exact ⟨rfl, (Ex.trans (Ex.trans (Ex.trans (Ex.refl w) hE8) hE14) hE23)⟩
 ·have hb16p := dec_f hb16
  refine CW.cond_t rfl (not_f hb16) (CW.seq (CW.region (sd rfl (yl_assign rfl rfl (dn (CW.ret (tr (rr rfl (.cons rfl .nil) ?_))))))))
  have hM33 : (l_eqCopy p_a p_b) = (false) := by simp only [l_eqCopy, hb16, cL]
  rw [hM33]
  exact ⟨rfl, (Ex.trans (Ex.trans (Ex.refl w) hE8) hE14)⟩
theorem c_l_markText {w : World} (p_k : Int) (pre0 : p_k ≤ 9223372036854775807) : Cal Try.prog 49 #[.int .i64 (p_k)] w fun v w' => v = .string (bs ((l_markText p_k))) ∧ Ex w w' := by
 refine Cal.of func49 rfl ntmps49 rfl (CW.seq (CW.region (sd rfl (yl_assign rfl rfl (dn (CW.seq (CW.seq (CW.region ?_))))))))
 refine sd rfl (yl_move rfl rfl (sd rfl (yl_leq rfl rfl rfl (dn (bcase (decide (p_k ≤ 0)) (fun hb1 => ?_) (fun hb1 => ?_))))))
 ·have hb1p := dec_t hb1
  refine CW.cond_t rfl hb1 (CW.seq (CW.region (sd rfl (yl_assign rfl rfl (dn (CW.ret (tr (rr rfl (.cons rfl .nil) ?_))))))))
  have hM2 : (l_markText p_k) = (([109, 48] : Str)) := by simp only [l_markText, hb1, cL]
  rw [hM2]
  exact ⟨rfl, (Ex.refl w)⟩
 ·have hb1p := dec_f hb1
  refine CW.cond_f rfl hb1 (CW.skip (tn (CW.seq (CW.region (sd rfl (yl_assign rfl rfl (dn (CW.seq ?_))))))))
  refine CW.block (CW.loop (fun m18 L19 w20 => ∃ (x16 : Int) (x17 : Str), (((x16).toNat + 1) / 2) < m18 ∧ w.heap.size ≤ w20.heap.size ∧ lkp L19 0 = some (.int .i64 (x16)) ∧ lkp L19 3 = some (.string (bs (x17))) ∧ Ex w w20 ∧ x17.length + 1 * (((x16).toNat + 1) / 2) ≤ 0 + 1 * (((p_k).toNat + 1) / 2) ∧ x16 ≤ 9223372036854775807 ∧ loopW (B_l_markText_0 p_k) m18 (x16, x17) = loopW (B_l_markText_0 p_k) ((((p_k).toNat + 1) / 2) + 1) (p_k, ([] : Str))) ((((p_k).toNat + 1) / 2) + 1) ?_ ?_)
  ·exact ⟨p_k, ([] : Str), Nat.lt_succ_self _, Nat.le_refl _, rfl, rfl, (Ex.refl w), (by first | (simp; done) | (first | omega | (simp only [List.length_append, List.length_cons, List.length_nil, List.length_set, toS_length]; omega))), (by first | omega | assumption | (simp only [wI] at *; omega)), rfl⟩
  ·rintro m21 L22 w23 ⟨x16, x17, hk24, hsz26, hl27, hl28, hf29, hln30, hv31, hI25⟩
   refine CW.sub (Sub.cons hl27 (Sub.cons hl28 (Sub.nil _))) ?_
   have hf29z := Ex.size hf29
   refine CW.seq (CW.seq (CW.region (sd rfl (yl_move rfl rfl (sd rfl (yl_gtr rfl rfl rfl (dn (bcase (decide (0 < x16)) (fun hb32 => ?_) (fun hb32 => ?_)))))))))
   ·have hb32p := dec_t hb32
    refine CW.cond_t rfl hb32 (CW.skip (tn (CW.block (CW.seq (CW.region (sd rfl (yl_move rfl rfl (sd rfl (yl_rem rfl rfl rfl (by decide) (sd rfl (yl_add rfl rfl rfl ?_)))))))))))
    refine sd rfl (yl_conv un3 un5 rfl rfl (sd rfl (yl_buildSlice (cs := [.int .u8 (IntKind.wrap .u8 (IntKind.wrap .i64 (48 + (Int.tmod x16 10))))]) un101 ty5 (by decide) rfl (oc rfl oz) (by kernel_rfl) ?_)))
    intro b33 w34 hs35 hz36 hB37 hE38
    have hO39 : OwnL w34 b33 (b33 + 1) 5 1 (RF e_U8) (some ⟨b33, 0, none⟩) 1 1 ([IntKind.wrap .u8 (IntKind.wrap .i64 (48 + (Int.tmod x16 10)))] : List Int) := OwnL.of_box (S := fun _ => False) hB37 (Nat.le_refl _) (Nat.lt_succ_self _) (EncL.cons (c := [.int .u8 (IntKind.wrap .u8 (IntKind.wrap .i64 (48 + (Int.tmod x16 10))))]) rfl rfl EncL.nil) (Nat.le_of_ble_eq_true rfl) (fun h => h) (fun _ h => False.elim h)
    refine sd rfl (yl_toS un101 un5 un9 rfl rfl (OwnL.rd good_U8 hO39) (sd rfl (yl_move rfl rfl ?_)))
    have hol41 : (toS ([IntKind.wrap .u8 (IntKind.wrap .i64 (48 + (Int.tmod x16 10)))] : List Int)).length ≤ 1073741824 := (okS_toS (Nat.le_of_ble_eq_true rfl))
    refine sd rfl (yl_sadd (a := (toS ([IntKind.wrap .u8 (IntKind.wrap .i64 (48 + (Int.tmod x16 10)))] : List Int))) (b := x17) rfl rfl rfl (by first | omega | (simp only [List.length_append, List.length_cons, List.length_nil, List.length_take, List.length_drop, toS_length]; omega)) (sd rfl (yl_assign rfl rfl (dn (CW.region (sd rfl (yl_move rfl rfl (sd rfl (yl_quo rfl rfl rfl (by decide) (sd rfl (yl_assign rfl rfl (SeqR.done ?_))))))))))))
    refine bn (tn ?_)
    have hB42 : B_l_markText_0 p_k (x16, x17) = .cont (IntKind.wrap .i64 (Int.tdiv x16 10), (toS ([IntKind.wrap .u8 (IntKind.wrap .i64 (48 + (Int.tmod x16 10)))] : List Int)) ++ x17) := by simp only [B_l_markText_0, hb1, hb32, cL]
    have hmu44 : (((IntKind.wrap .i64 (Int.tdiv x16 10)).toNat + 1) / 2) < (((x16).toNat + 1) / 2) := by (have hq := wtd (n := x16) (c := 10) (by decide) (by omega) (by omega); omega)
    exact ⟨m21 - 1, by omega, IntKind.wrap .i64 (Int.tdiv x16 10), (toS ([IntKind.wrap .u8 (IntKind.wrap .i64 (48 + (Int.tmod x16 10)))] : List Int)) ++ x17, (by omega), (by omega), rfl, rfl, (Ex.trans hf29 hE38), (by first | omega | (simp only [List.length_append, List.length_cons, List.length_nil, List.length_set, toS_length]; omega)), (by (have hq := wtd (n := x16) (c := 10) (by decide) (by omega) (by omega); omega)), (loopW.cont hk24 hB42).symm.trans hI25⟩
   ·have hb32p := dec_f hb32
    refine CW.cond_f rfl hb32 (CW.exit (tx (tx ?_)))
    have hB46 : B_l_markText_0 p_k (x16, x17) = .brk (x16, x17) := by simp only [B_l_markText_0, hb1, hb32, cL]
    have hL45 : loopW (B_l_markText_0 p_k) ((((p_k).toNat + 1) / 2) + 1) (p_k, ([] : Str)) = .done (x16, x17) := hI25.symm.trans (loopW.brk hk24 hB46)
    refine bx (tn (CW.seq (CW.region (sd rfl (yl_move rfl rfl (sd rfl (yl_sadd (a := ([109] : Str)) (b := x17) rfl rfl rfl (by first | omega | (simp only [List.length_append, List.length_cons, List.length_nil, List.length_take, List.length_drop, toS_length]; omega)) (sd rfl (yl_assign rfl rfl (dn ?_))))))))))
    refine CW.ret (rr rfl (.cons rfl .nil) ?_)
    have hM47 : (l_markText p_k) = (([109] : Str) ++ x17) := by simp only [l_markText, hb1, hb32, hL45, cL]
    rw [hM47]
    exact ⟨rfl, hf29⟩
theorem c_l_markWriteS {A1 : Option Addr} {c1 : Nat} {lo1 hi1 : Nat} {w : World} (p_a : List DWrite) (p_k : Int) (h1 : OwnL w lo1 hi1 53 3 (RF e_Write) A1 p_a.length c1 p_a) (hrn2 : (0 ≤ lo1 ∧ lo1 ≤ hi1 ∧ hi1 ≤ w.heap.size)) (pre0 : p_k ≤ 9223372036854775807) : Cal Try.prog 32 #[.slice A1 p_a.length c1, .int .i64 (p_k)] w fun v w' => v = .int .i64 ((l_markWriteS p_a p_k).1) ∧ OwnL w' lo1 hi1 53 3 (RF e_Write) A1 p_a.length c1 ((l_markWriteS p_a p_k).2) ∧ Mut [(lo1, hi1)] w w' := by
 refine Cal.of func32 rfl ntmps32 rfl (CW.seq (CW.region (sd rfl (yl_assign rfl rfl (dn (CW.seq (CW.seq (CW.region ?_))))))))
 refine sd rfl (yl_assign rfl rfl (dn (CW.block (CW.loop (fun m31 L32 w33 => ∃ (k3 : Nat) (x29 : Int) (x30 : List DWrite), m31 = p_a.length - k3 ∧ k3 ≤ p_a.length ∧ w.heap.size ≤ w33.heap.size ∧ lkp L32 0 = some (.slice A1 p_a.length c1) ∧ lkp L32 1 = some (.int .i64 (x29)) ∧ lkp L32 5 = some (.int .i64 ((k3 : Int))) ∧ OwnL w33 lo1 hi1 53 3 (RF e_Write) A1 p_a.length c1 x30 ∧ Mut [(lo1, hi1)] w w33 ∧ x29 ≤ 9223372036854775807 ∧ loopM (B_l_markWriteS_0 p_a p_k) (p_a.length - k3) k3 (x29, x30) = loopM (B_l_markWriteS_0 p_a p_k) (p_a.length - 0) 0 (p_k, p_a)) (p_a.length - 0) ?_ ?_))))
 ·exact ⟨0, p_k, p_a, rfl, (by omega), Nat.le_refl _, rfl, rfl, rfl, h1, (Mut.refl (l := [(lo1, hi1)]) w), (by first | omega | assumption | (simp only [wI] at *; omega)), rfl⟩
 ·rintro m34 L35 w36 ⟨k3, x29, x30, rfl, hk37, hsz39, hl40, hl41, hl42, hf43, hf44, hv45, hI38⟩
  refine CW.sub (Sub.cons hl40 (Sub.cons hl41 (Sub.cons hl42 (Sub.nil _)))) ?_
  have hf44z := Mut.size hf44
  have hbg46 := RdS.big (OwnL.rd good_Write hf43)
  rcases Nat.lt_or_ge k3 p_a.length with hlt48 | hlt48
  ·refine CW.seq (CW.seq (CW.region (sd rfl (yl_move rfl rfl (sd rfl (yl_move rfl rfl (sd rfl (yl_len un22 rfl rfl (sd rfl (yl_lss rfl rfl rfl (dn ?_)))))))))))
   refine CW.cond_t rfl (lt_t hlt48) (CW.skip (tn (CW.seq (CW.block (CW.seq (CW.region (sd rfl (yl_move rfl rfl (sd rfl (yl_move rfl rfl ?_))))))))))
   refine sd rfl (yl_move rfl rfl (sd rfl (yl_call en49 rfl (oc rfl oz) (Cal.mono (c_l_markText x29 (by first | omega | assumption | (simp only [wI] at *; omega))) ?_))))
   rintro v50 w49 ⟨rfl, hE51⟩
   have hE51z := Ex.size hE51
   have q53 := OwnL.ex good_Write hf43 hE51
   obtain ⟨eb54, eo54, _, eA54, _, ebl54, _, eR54, eC54⟩ := RdS.aD (OwnL.rd good_Write q53) d_Write (i := k3)
   obtain rfl := eR54
   have eC54 : Cells w49 eb54 (eo54 + k3 * 3) [.string (bs ((x30.getD k3 d_Write).Key)), .string (bs ((x30.getD k3 d_Write).Val)), .bool ((x30.getD k3 d_Write).Gone)] := eC54
   refine sd rfl (yl_ixN un22 ty53 rfl rfl rfl eA54 (sd rfl (yl_fieldAddr fd53_0 rfl rfl ?_)))
   have hrg55 := OwnL.rng q53 (i := k3) (by first | omega | assumption | (simp only [wI] at *; omega)) eb54 (by rw [eA54]; rfl)
   refine SeqR.u rfl rfl (yl_storeF (off := eo54) (i := k3) (d := 0) (dx := d_Write) (x' := (⟨(l_markText x29), (x30.getD k3 d_Write).Val, (x30.getD k3 d_Write).Gone⟩ : DWrite)) (vs := [.string (bs ((l_markText x29)))]) ty9 rfl q53 eA54 rfl rfl rfl rfl rfl (by first | omega | assumption | (simp only [wI] at *; omega)) (Nat.le_of_ble_eq_true rfl) rfl rfl ?_)
   intro w56 hB57 hO58
   have hO58z := hO58.size
   refine dn (CW.seq (CW.region (sd rfl (yl_move rfl rfl (sd rfl (yl_add rfl rfl rfl (sd rfl (yl_assign rfl rfl (dn ?_)))))))))
   refine CW.seq (CW.region (sd rfl (yl_move rfl rfl (sd rfl (yl_move rfl rfl (sd rfl (yl_move rfl rfl (sd rfl (yl_call en49 rfl (oc rfl oz) (Cal.mono (c_l_markText (IntKind.wrap .i64 (x29 + 1)) (by first | omega | assumption | (simp only [wI] at *; omega))) ?_))))))))))
   rintro v60 w59 ⟨rfl, hE61⟩
   have hE61z := Ex.size hE61
   have q63 := OwnL.ex good_Write hB57 hE61
   obtain ⟨eb64, eo64, _, eA64, _, ebl64, _, eR64, eC64⟩ := RdS.aD (OwnL.rd good_Write q63) d_Write (i := k3)
   obtain rfl := eR64
   rw [getD_set_self (by have hq := OwnL.len q63; simp only [List.length_set] at hq; omega)] at eC64
   have eC64 : Cells w59 eb64 (eo64 + k3 * 3) [.string (bs ((l_markText x29))), .string (bs ((x30.getD k3 d_Write).Val)), .bool ((x30.getD k3 d_Write).Gone)] := eC64
   refine sd rfl (yl_ixN un22 ty53 rfl rfl rfl eA64 (sd rfl (yl_fieldAddr fd53_1 rfl rfl ?_)))
   have hrg65 := OwnL.rng q63 (i := k3) (by first | omega | assumption | (simp only [wI] at *; omega)) eb64 (by rw [eA64]; rfl)
   refine SeqR.u rfl rfl (yl_storeF (off := eo64) (i := k3) (d := 1) (dx := d_Write) (x' := (⟨(l_markText x29), (l_markText (IntKind.wrap .i64 (x29 + 1))), (x30.getD k3 d_Write).Gone⟩ : DWrite)) (vs := [.string (bs ((l_markText (IntKind.wrap .i64 (x29 + 1)))))]) ty9 rfl q63 eA64 rfl rfl rfl rfl rfl (by first | omega | assumption | (simp only [wI] at *; omega)) (Nat.le_of_ble_eq_true rfl) (by rw [getD_set_self (by have hq := OwnL.len q63; simp only [List.length_set] at hq; omega)]; rfl) rfl ?_)
   intro w66 hB67 hO68
   have hO68z := hO68.size
   rw [List.set_set] at hB67
   refine dn (CW.seq (CW.region (sd rfl (yl_move rfl rfl (sd rfl (yl_add rfl rfl rfl (sd rfl (yl_assign rfl rfl (dn ?_)))))))))
   refine CW.seq (CW.region (sd rfl (yl_move rfl rfl (sd rfl (yl_move rfl rfl (sd rfl (yl_move rfl rfl (sd rfl (yl_rem rfl rfl rfl (by decide) (sd rfl (yl_eql rfl rfl rfl ?_)))))))))))
   obtain ⟨eb70, eo70, _, eA70, _, ebl70, _, eR70, eC70⟩ := RdS.aD (OwnL.rd good_Write hB67) d_Write (i := k3)
   obtain rfl := eR70
   rw [getD_set_self (by have hq := OwnL.len hB67; simp only [List.length_set] at hq; omega)] at eC70
   have eC70 : Cells w66 eb70 (eo70 + k3 * 3) [.string (bs ((l_markText x29))), .string (bs ((l_markText (IntKind.wrap .i64 (x29 + 1))))), .bool ((x30.getD k3 d_Write).Gone)] := eC70
   refine sd rfl (yl_ixN un22 ty53 rfl rfl rfl eA70 (sd rfl (yl_fieldAddr fd53_2 rfl rfl ?_)))
   have hrg71 := OwnL.rng hB67 (i := k3) (by first | omega | assumption | (simp only [wI] at *; omega)) eb70 (by rw [eA70]; rfl)
   refine SeqR.u rfl rfl (yl_storeF (off := eo70) (i := k3) (d := 2) (dx := d_Write) (x' := (⟨(l_markText x29), (l_markText (IntKind.wrap .i64 (x29 + 1))), decide ((Int.tmod (IntKind.wrap .i64 ((IntKind.wrap .i64 (x29 + 1)) + 1)) 3) = 0)⟩ : DWrite)) (vs := [.bool (decide ((Int.tmod (IntKind.wrap .i64 ((IntKind.wrap .i64 (x29 + 1)) + 1)) 3) = 0))]) ty4 rfl hB67 eA70 rfl rfl rfl rfl rfl (by first | omega | assumption | (simp only [wI] at *; omega)) (Nat.le_of_ble_eq_true rfl) (by rw [getD_set_self (by have hq := OwnL.len hB67; simp only [List.length_set] at hq; omega)]; rfl) rfl ?_)
   intro w72 hB73 hO74
   have hO74z := hO74.size
   rw [List.set_set] at hB73
   refine dn (CW.region (sd rfl (yl_move rfl rfl (sd rfl (yl_add rfl rfl rfl (sd rfl (yl_assign rfl rfl (SeqR.done (bn (tn ?_))))))))))
   refine CW.region (sd rfl (yl_move rfl rfl (sd rfl (yl_inc rfl rfl rfl (by omega) (sd rfl (yl_assign rfl rfl (dn ?_)))))))
   have hB75 : B_l_markWriteS_0 p_a p_k k3 (x29, x30) = .cont (IntKind.wrap .i64 ((IntKind.wrap .i64 ((IntKind.wrap .i64 (x29 + 1)) + 1)) + 1), (x30.set k3 (⟨(l_markText x29), (l_markText (IntKind.wrap .i64 (x29 + 1))), decide ((Int.tmod (IntKind.wrap .i64 ((IntKind.wrap .i64 (x29 + 1)) + 1)) 3) = 0)⟩ : DWrite))) := by simp only [B_l_markWriteS_0, cL]
   exact ⟨p_a.length - (k3 + 1), by omega, k3 + 1, IntKind.wrap .i64 ((IntKind.wrap .i64 ((IntKind.wrap .i64 (x29 + 1)) + 1)) + 1), (x30.set k3 (⟨(l_markText x29), (l_markText (IntKind.wrap .i64 (x29 + 1))), decide ((Int.tmod (IntKind.wrap .i64 ((IntKind.wrap .i64 (x29 + 1)) + 1)) 3) = 0)⟩ : DWrite)), rfl, hlt48, (by omega), rfl, rfl, rfl, hB73, (Mut.only (Mut.only (Mut.ex (Mut.only (Mut.ex hf44 hE51) hO58 (by simp only [InR, or_false]; omega)) hE61) hO68 (by simp only [InR, or_false]; omega)) hO74 (by simp only [InR, or_false]; omega)), (by first | omega | assumption | (simp only [wI] at *; omega)), (loopM.cont hlt48 hB75).symm.trans hI38⟩
  ·refine CW.seq (CW.seq (CW.region (sd rfl (yl_move rfl rfl (sd rfl (yl_move rfl rfl (sd rfl (yl_len un22 rfl rfl (sd rfl (yl_lss rfl rfl rfl (dn ?_)))))))))))
   refine CW.cond_f rfl (lt_f hlt48) (CW.exit (tx (tx ?_)))
   have hL81 : loopM (B_l_markWriteS_0 p_a p_k) (p_a.length - 0) 0 (p_k, p_a) = .done (x29, x30) := hI38.symm.trans (loopM.stop hlt48)
   refine bx (tn (CW.seq (CW.region (sd rfl (yl_move rfl rfl (sd rfl (yl_assign rfl rfl (dn (CW.ret ?_)))))))))
   refine rr rfl (.cons rfl .nil) ?_
   have hM82 : (l_markWriteS p_a p_k) = ((x29, x30)) := by simp only [l_markWriteS, hL81, cL]
   rw [hM82]
   exact ⟨rfl, hf43, hf44⟩
theorem c_l_markCopy {A1 : Option Addr} {c1 : Nat} {lo1 hi1 : Nat} {w : World} (p_a : DCopy) (p_k : Int) (h1 : OwnL w lo1 hi1 53 3 (RF e_Write) A1 p_a.Rows.length c1 p_a.Rows) (hrn2 : (0 ≤ lo1 ∧ lo1 ≤ hi1 ∧ hi1 ≤ w.heap.size)) (pre0 : p_k ≤ 9223372036854775807) : Cal Try.prog 9 #[.agg #[.int .i64 (p_a.Time), .slice A1 p_a.Rows.length c1], .int .i64 (p_k)] w fun v w' => v = .int .i64 ((l_markCopy p_a p_k).1) ∧ OwnL w' lo1 hi1 53 3 (RF e_Write) A1 p_a.Rows.length c1 ((l_markCopy p_a p_k).2.Rows) ∧ Mut [(lo1, hi1)] w w' := by
 refine Cal.of func9 rfl ntmps9 rfl (CW.seq (CW.region (sd rfl (yl_box rfl rfl rfl ?_))))
 intro b3 w4 hs5 hz6 hB7 hE8
 refine sd rfl (yl_assign rfl rfl (dn (CW.seq (CW.region (sd rfl (yl_fieldAddr fd24_1 rfl rfl (sd rfl (yl_load1 ty22 rfl rfl ((hB7.cell 1).trans rfl) (sd rfl (yl_move rfl rfl (sd rfl (yl_call en32 rfl (oc rfl (oc rfl oz)) (Cal.mono (c_l_markWriteS p_a.Rows p_k (OwnL.ex good_Write h1 hE8) (by omega) (by first | omega | assumption | (simp only [wI] at *; omega))) ?_)))))))))))))
 rintro v11 w10 ⟨rfl, h13, hm12⟩
 have hm12z := Mut.size hm12
 have hrf14 := rf_markWriteS p_a.Rows p_k (by first | omega | assumption | (simp only [wI] at *; omega))
 refine sd rfl (yl_assign rfl rfl (dn (CW.seq (CW.region (sd rfl (yl_move rfl rfl (sd rfl (yl_assign rfl rfl (dn ?_)))))))))
 refine CW.ret (rr rfl (.cons rfl .nil) ?_)
 have hM15 : (l_markCopy p_a p_k) = (((l_markWriteS p_a.Rows p_k).1, (⟨p_a.Time, (l_markWriteS p_a.Rows p_k).2⟩ : DCopy))) := by simp only [l_markCopy, cL]
 rw [hM15]
 exact ⟨rfl, h13, (Mut.mut (Mut.ex (Mut.refl (l := [(lo1, hi1)]) w) hE8) hm12 (fun k hk => by simp only [InR, or_false] at hk ⊢; omega))⟩
theorem c_l_heldWriteS {A1 : Option Addr} {c1 : Nat} {w : World} (p_a : List DWrite) (p_k : Int) (h1 : RdS w (Iv 0 w.heap.size) (RF e_Write) 3 A1 p_a.length c1 p_a) (pre0 : p_k ≤ 9223372036854775807) : Cal Try.prog 33 #[.slice A1 p_a.length c1, .int .i64 (p_k)] w fun v w' => v = .int .i64 ((l_heldWriteS p_a p_k)) ∧ Ex w w' := by
 refine Cal.of func33 rfl ntmps33 rfl (CW.seq (CW.region (sd rfl (yl_assign rfl rfl (dn (CW.seq (CW.seq (CW.region ?_))))))))
 refine sd rfl (yl_assign rfl rfl (dn (CW.block (CW.loop (fun m4 L5 w6 => ∃ (k2 : Nat) (x3 : Int), m4 = p_a.length - k2 ∧ k2 ≤ p_a.length ∧ w.heap.size ≤ w6.heap.size ∧ lkp L5 0 = some (.slice A1 p_a.length c1) ∧ lkp L5 1 = some (.int .i64 (x3)) ∧ lkp L5 5 = some (.int .i64 ((k2 : Int))) ∧ RdS w6 (Iv 0 w.heap.size) (RF e_Write) 3 A1 p_a.length c1 p_a ∧ Ex w w6 ∧ x3 ≤ 9223372036854775807 ∧ loopM (B_l_heldWriteS_0 p_a p_k) (p_a.length - k2) k2 (x3) = loopM (B_l_heldWriteS_0 p_a p_k) (p_a.length - 0) 0 (p_k)) (p_a.length - 0) ?_ ?_))))
 ·exact ⟨0, p_k, rfl, (by omega), Nat.le_refl _, rfl, rfl, rfl, h1, (Ex.refl w), (by first | omega | assumption | (simp only [wI] at *; omega)), rfl⟩
 ·rintro m7 L8 w9 ⟨k2, x3, rfl, hk10, hsz12, hl13, hl14, hl15, hf16, hf17, hv18, hI11⟩
  refine CW.sub (Sub.cons hl13 (Sub.cons hl14 (Sub.cons hl15 (Sub.nil _)))) ?_
  have hf17z := Ex.size hf17
  have hbg19 := RdS.big hf16
  rcases Nat.lt_or_ge k2 p_a.length with hlt20 | hlt20
  ·refine CW.seq (CW.seq (CW.region (sd rfl (yl_move rfl rfl (sd rfl (yl_move rfl rfl (sd rfl (yl_len un22 rfl rfl (sd rfl (yl_lss rfl rfl rfl (dn ?_)))))))))))
   refine CW.cond_t rfl (lt_t hlt20) (CW.skip (tn (CW.seq (CW.block (CW.seq (CW.seq ?_))))))
   obtain ⟨eb21, eo21, _, eA21, _, ebl21, _, eR21, eC21⟩ := RdS.aD hf16 d_Write (i := k2)
   obtain rfl := eR21
   have eC21 : Cells w9 eb21 (eo21 + k2 * 3) [.string (bs ((p_a.getD k2 d_Write).Key)), .string (bs ((p_a.getD k2 d_Write).Val)), .bool ((p_a.getD k2 d_Write).Gone)] := eC21
   refine CW.drawsI 8 (vgetI ([.slice A1 p_a.length c1, .int .i64 ((k2 : Int)), .pointer (some ⟨eb21, eo21 + k2 * 3, none⟩), .pointer (some ⟨eb21, eo21 + k2 * 3 + 0, none⟩), .string (bs ((p_a.getD k2 d_Write).Key)), .int .i64 (x3), .string (bs ((l_markText x3))), .bool (!(((p_a.getD k2 d_Write).Key) == (l_markText x3)))].map DetI)) Try.follows rfl rfl rfl rfl rfl rfl (vgetI_stable (stD _)) ⟨?_, ?_, ?_, ?_, ?_, ?_, ?_, ?_, trivial⟩ ?_
   ·exact oI rfl fun h => yl_move rfl (h.old 0 _ rfl rfl) kI
   ·exact oI rfl fun h => yl_move rfl (h.old 5 _ rfl rfl) kI
   ·intro L33 w34 hi35
    have hE36 := hi35.ex
    have hE36z := Ex.size hE36
    exact os rfl ((yl_ixN un22 ty53 rfl (hi35.dt 0 12 rfl rfl rfl) (hi35.dt 1 13 rfl rfl rfl) eA21 kI))
   ·exact oI rfl fun h => yl_fieldAddr fd53_0 rfl (h.dt 2 14 rfl rfl rfl) kI
   ·exact oI rfl fun h => yl_load1 ty9 rfl (h.dt 3 15 rfl rfl rfl) ((Cells.ex eC21 h.ex) 0 _ rfl) kI
   ·exact oI rfl fun h => yl_move rfl (h.old 1 _ rfl rfl) kI
   ·intro L55 w56 hi57
    have hE58 := hi57.ex
    have hE58z := Ex.size hE58
    exact OpR.op' rfl (yl_call en49 rfl (oc (hi57.dt 5 17 rfl rfl rfl) oz) (Cal.mono (c_l_markText x3 (by first | omega | assumption | (simp only [wI] at *; omega))) fun _ _ h => h))
   ·exact oI rfl fun h => yl_sneq (a := ((p_a.getD k2 d_Write).Key)) (b := (l_markText x3)) rfl (h.dt 4 16 rfl rfl rfl) (h.dt 6 18 rfl rfl rfl) kI
   ·intro fl72 fh73 L69 w70 hp71
    have hE74 := hp71.ex
    have hE74z := Ex.size hE74
    refine dn (CW.sub (Sub.cons (d := 0) (hp71.old 0 _ rfl rfl) (Sub.cons (d := 1) (hp71.old 1 _ rfl rfl) (Sub.cons (d := 5) (hp71.old 5 _ rfl rfl) (Sub.cons (d := 19) (hp71.nt 7 19 rfl rfl rfl) (Sub.nil _))))) (bcase (((p_a.getD k2 d_Write).Key) == (l_markText x3)) (fun hb79 => ?_) (fun hb79 => ?_)))
    ·refine CW.cond_f rfl (not_t hb79) (CW.skip (tn (CW.seq (CW.region (sd rfl (yl_move rfl rfl (sd rfl (yl_add rfl rfl rfl (sd rfl (yl_assign rfl rfl (SeqR.done ?_)))))))))))
     refine tn (CW.seq (CW.seq ?_))
     have q80 := Cells.ex eC21 hE74
     refine CW.drawsI 8 (vgetI ([.slice A1 p_a.length c1, .int .i64 ((k2 : Int)), .pointer (some ⟨eb21, eo21 + k2 * 3, none⟩), .pointer (some ⟨eb21, eo21 + k2 * 3 + 1, none⟩), .string (bs ((p_a.getD k2 d_Write).Val)), .int .i64 (IntKind.wrap .i64 (x3 + 1)), .string (bs ((l_markText (IntKind.wrap .i64 (x3 + 1))))), .bool (!(((p_a.getD k2 d_Write).Val) == (l_markText (IntKind.wrap .i64 (x3 + 1)))))].map DetI)) Try.follows rfl rfl rfl rfl rfl rfl (vgetI_stable (stD _)) ⟨?_, ?_, ?_, ?_, ?_, ?_, ?_, ?_, trivial⟩ ?_
     ·exact oI rfl fun h => yl_move rfl (h.old 0 _ rfl rfl) kI
     ·exact oI rfl fun h => yl_move rfl (h.old 5 _ rfl rfl) kI
     ·intro L92 w93 hi94
      have hE95 := hi94.ex
      have hE95z := Ex.size hE95
      exact os rfl ((yl_ixN un22 ty53 rfl (hi94.dt 0 22 rfl rfl rfl) (hi94.dt 1 23 rfl rfl rfl) eA21 kI))
     ·exact oI rfl fun h => yl_fieldAddr fd53_1 rfl (h.dt 2 24 rfl rfl rfl) kI
     ·exact oI rfl fun h => yl_load1 ty9 rfl (h.dt 3 25 rfl rfl rfl) ((Cells.ex q80 h.ex) 1 _ rfl) kI
     ·exact oI rfl fun h => yl_move rfl (h.old 1 _ rfl rfl) kI
     ·intro L114 w115 hi116
      have hE117 := hi116.ex
      have hE117z := Ex.size hE117
      exact OpR.op' rfl (yl_call en49 rfl (oc (hi116.dt 5 27 rfl rfl rfl) oz) (Cal.mono (c_l_markText (IntKind.wrap .i64 (x3 + 1)) (by first | omega | assumption | (simp only [wI] at *; omega))) fun _ _ h => h))
     ·exact oI rfl fun h => yl_sneq (a := ((p_a.getD k2 d_Write).Val)) (b := (l_markText (IntKind.wrap .i64 (x3 + 1)))) rfl (h.dt 4 26 rfl rfl rfl) (h.dt 6 28 rfl rfl rfl) kI
     ·intro fl131 fh132 L128 w129 hp130
      have hE133 := hp130.ex
      have hE133z := Ex.size hE133
      refine dn (CW.sub (Sub.cons (d := 0) (hp130.old 0 _ rfl rfl) (Sub.cons (d := 1) (hp130.old 1 _ rfl rfl) (Sub.cons (d := 5) (hp130.old 5 _ rfl rfl) (Sub.cons (d := 29) (hp130.nt 7 29 rfl rfl rfl) (Sub.nil _))))) (bcase (((p_a.getD k2 d_Write).Val) == (l_markText (IntKind.wrap .i64 (x3 + 1)))) (fun hb138 => ?_) (fun hb138 => ?_)))
      ·refine CW.cond_f rfl (not_t hb138) (CW.skip (tn (CW.seq (CW.region (sd rfl (yl_move rfl rfl (sd rfl (yl_add rfl rfl rfl (sd rfl (yl_assign rfl rfl (SeqR.done ?_)))))))))))
       refine tn (CW.seq (CW.seq (CW.region (sd rfl (yl_move rfl rfl (sd rfl (yl_move rfl rfl (sd rfl (yl_ixN un22 ty53 rfl rfl rfl eA21 (sd rfl (yl_fieldAddr fd53_2 rfl rfl (sd rfl (yl_load1 ty4 rfl rfl ((Cells.ex q80 hE133) 2 _ rfl) ?_)))))))))))))
       refine sd rfl (yl_move rfl rfl (sd rfl (yl_rem rfl rfl rfl (by decide) (sd rfl (yl_eql rfl rfl rfl (sd rfl (yl_bneq un4 rfl rfl rfl (dn (bcase (((p_a.getD k2 d_Write).Gone) == (decide ((Int.tmod (IntKind.wrap .i64 ((IntKind.wrap .i64 (x3 + 1)) + 1)) 3) = 0))) (fun hb140 => ?_) (fun hb140 => ?_))))))))))
       ·refine CW.cond_f rfl (not_t hb140) (CW.skip (tn (CW.region (sd rfl (yl_move rfl rfl (sd rfl (yl_add rfl rfl rfl (sd rfl (yl_assign rfl rfl (SeqR.done (bn ?_)))))))))))
        refine tn (CW.region (sd rfl (yl_move rfl rfl (sd rfl (yl_inc rfl rfl rfl (by omega) (sd rfl (yl_assign rfl rfl (dn ?_))))))))
        have hB141 : B_l_heldWriteS_0 p_a p_k k2 (x3) = .cont (IntKind.wrap .i64 ((IntKind.wrap .i64 ((IntKind.wrap .i64 (x3 + 1)) + 1)) + 1)) := by simp only [B_l_heldWriteS_0, hb79, hb138, hb140, cL]
        exact ⟨p_a.length - (k2 + 1), by omega, k2 + 1, IntKind.wrap .i64 ((IntKind.wrap .i64 ((IntKind.wrap .i64 (x3 + 1)) + 1)) + 1), rfl, hlt20, (by omega), rfl, rfl, rfl, (RdS.ex good_Write (RdS.ex good_Write hf16 hE74) hE133), (Ex.trans (Ex.trans hf17 hE74) hE133), (by first | omega | assumption | (simp only [wI] at *; omega)), (loopM.cont hlt20 hB141).symm.trans hI11⟩
       ·refine CW.cond_t rfl (not_f hb140) (CW.seq (CW.region (sd rfl (yl_assign rfl rfl (dn (CW.ret (tr (br ?_))))))))
        refine tr (tr ?_)
        have hB147 : B_l_heldWriteS_0 p_a p_k k2 (x3) = .ret (-1) := by simp only [B_l_heldWriteS_0, hb79, hb138, hb140, cL]
        have hL146 : loopM (B_l_heldWriteS_0 p_a p_k) (p_a.length - 0) 0 (p_k) = .ret (-1) := hI11.symm.trans (loopM.ret hlt20 hB147)
        refine br (tr (rr rfl (.cons rfl .nil) ?_))
        have hM148 : (l_heldWriteS p_a p_k) = (-1) := by simp only [l_heldWriteS, hb79, hb138, hb140, hL146, cL]
        rw [hM148]
        exact ⟨rfl, (Ex.trans (Ex.trans hf17 hE74) hE133)⟩
      ·refine CW.cond_t rfl (not_f hb138) (CW.seq (CW.region (sd rfl (yl_assign rfl rfl (dn (CW.ret (tr (br ?_))))))))
       refine tr (tr ?_)
       have hB152 : B_l_heldWriteS_0 p_a p_k k2 (x3) = .ret (-1) := by simp only [B_l_heldWriteS_0, hb79, hb138, cL]
       have hL151 : loopM (B_l_heldWriteS_0 p_a p_k) (p_a.length - 0) 0 (p_k) = .ret (-1) := hI11.symm.trans (loopM.ret hlt20 hB152)
       refine br (tr (rr rfl (.cons rfl .nil) ?_))
       have hM153 : (l_heldWriteS p_a p_k) = (-1) := by simp only [l_heldWriteS, hb79, hb138, hL151, cL]
       rw [hM153]
       exact ⟨rfl, (Ex.trans (Ex.trans hf17 hE74) hE133)⟩
    ·refine CW.cond_t rfl (not_f hb79) (CW.seq (CW.region (sd rfl (yl_assign rfl rfl (dn (CW.ret (tr (br ?_))))))))
     refine tr (tr ?_)
     have hB157 : B_l_heldWriteS_0 p_a p_k k2 (x3) = .ret (-1) := by simp only [B_l_heldWriteS_0, hb79, cL]
     have hL156 : loopM (B_l_heldWriteS_0 p_a p_k) (p_a.length - 0) 0 (p_k) = .ret (-1) := hI11.symm.trans (loopM.ret hlt20 hB157)
     refine br (tr (rr rfl (.cons rfl .nil) ?_))
     have hM158 : (l_heldWriteS p_a p_k) = (-1) := by simp only [l_heldWriteS, hb79, hL156, cL]
     rw [hM158]
     exact ⟨rfl, (Ex.trans hf17 hE74)⟩
  ·refine CW.seq (CW.seq (CW.region (sd rfl (yl_move rfl rfl (sd rfl (yl_move rfl rfl (sd rfl (yl_len un22 rfl rfl (sd rfl (yl_lss rfl rfl rfl (dn ?_)))))))))))
   refine CW.cond_f rfl (lt_f hlt20) (CW.exit (tx (tx ?_)))
   have hL160 : loopM (B_l_heldWriteS_0 p_a p_k) (p_a.length - 0) 0 (p_k) = .done (x3) := hI11.symm.trans (loopM.stop hlt20)
   refine bx (tn (CW.seq (CW.region (sd rfl (yl_move rfl rfl (sd rfl (yl_assign rfl rfl (dn (CW.ret ?_)))))))))
   refine rr rfl (.cons rfl .nil) ?_
   have hM161 : (l_heldWriteS p_a p_k) = (x3) := by simp only [l_heldWriteS, hL160, cL]
   rw [hM161]
   exact ⟨rfl, hf17⟩
theorem c_l_heldCopy {A1 : Option Addr} {c1 : Nat} {w : World} (p_a : DCopy) (p_k : Int) (h1 : RdS w (Iv 0 w.heap.size) (RF e_Write) 3 A1 p_a.Rows.length c1 p_a.Rows) (pre0 : p_k ≤ 9223372036854775807) : Cal Try.prog 10 #[.agg #[.int .i64 (p_a.Time), .slice A1 p_a.Rows.length c1], .int .i64 (p_k)] w fun v w' => v = .int .i64 ((l_heldCopy p_a p_k)) ∧ Ex w w' := by
 refine Cal.of func10 rfl ntmps10 rfl (CW.seq (CW.region (sd rfl (yl_box rfl rfl rfl ?_))))
 intro b2 w3 hs4 hz5 hB6 hE7
 refine sd rfl (yl_assign rfl rfl (dn (CW.seq (CW.region (sd rfl (yl_fieldAddr fd24_1 rfl rfl (sd rfl (yl_load1 ty22 rfl rfl ((hB6.cell 1).trans rfl) (sd rfl (yl_move rfl rfl (sd rfl (yl_call en33 rfl (oc rfl (oc rfl oz)) (Cal.mono (c_l_heldWriteS p_a.Rows p_k (RdS.up (RdS.ex good_Write h1 hE7) good_Write) (by first | omega | assumption | (simp only [wI] at *; omega))) ?_)))))))))))))
 rintro v10 w9 ⟨rfl, hE11⟩
 have hE11z := Ex.size hE11
 have hrf12 := rf_heldWriteS p_a.Rows p_k (by first | omega | assumption | (simp only [wI] at *; omega))
 refine sd rfl (yl_assign rfl rfl (dn (CW.seq (CW.seq (CW.region (sd rfl (yl_move rfl rfl (sd rfl (yl_lss rfl rfl rfl (SeqR.done ?_))))))))))
 refine tn (bcase (decide ((l_heldWriteS p_a.Rows p_k) < 0)) (fun hb13 => ?_) (fun hb13 => ?_))
 ·have hb13p := dec_t hb13
  refine CW.cond_t rfl hb13 (CW.seq (CW.region (sd rfl (yl_assign rfl rfl (dn (CW.ret (tr (rr rfl (.cons rfl .nil) ?_))))))))
  have hM14 : (l_heldCopy p_a p_k) = (-1) := by simp only [l_heldCopy, hb13, cL]
  rw [hM14]
  exact ⟨rfl, (Ex.trans (Ex.trans (Ex.refl w) hE7) hE11)⟩
 ·have hb13p := dec_f hb13
  refine CW.cond_f rfl hb13 (CW.skip (tn (CW.seq (CW.region (sd rfl (yl_move rfl rfl (sd rfl (yl_assign rfl rfl (dn ?_)))))))))
  refine CW.ret (rr rfl (.cons rfl .nil) ?_)
  have hM17 : (l_heldCopy p_a p_k) = ((l_heldWriteS p_a.Rows p_k)) := by simp only [l_heldCopy, hb13, cL]
  rw [hM17]
  exact ⟨rfl, (Ex.trans (Ex.trans (Ex.refl w) hE7) hE11)⟩
theorem c_l_FnExactReadCopy {w : World} (p_0 : Str) (pre0 : wfS p_0) : Cal Try.prog 3 #[.string (bs (p_0))] w fun v w' => v = .bool ((l_FnExactReadCopy p_0)) ∧ Ex w w' := by
 refine Cal.of func3 rfl ntmps3 rfl (CW.seq (CW.region (sd rfl (yl_assign rfl rfl (dn (CW.seq (CW.seq (CW.region ?_))))))))
 refine sd rfl (yl_move rfl rfl (sd rfl (yl_slen un9 (a := p_0) rfl rfl (sd rfl (yl_gtr rfl rfl rfl (dn (bcase (decide (1048576 < (p_0.length : Int))) (fun hb1 => ?_) (fun hb1 => ?_))))))))
 ·have hb1p := dec_t hb1
  refine CW.cond_t rfl hb1 (CW.seq (CW.region (sd rfl (yl_assign rfl rfl (dn (CW.ret (tr (rr rfl (.cons rfl .nil) ?_))))))))
  have hM2 : (l_FnExactReadCopy p_0) = (true) := by simp only [l_FnExactReadCopy, hb1, cL]
  rw [hM2]
  exact ⟨rfl, (Ex.refl w)⟩
 ·have hb1p := dec_f hb1
  refine CW.cond_f rfl hb1 (CW.skip (tn (CW.seq (CW.region (sd rfl (yl_move rfl rfl (sd rfl (yl_call en6 rfl (oc rfl oz) (Cal.mono (c_s_ReadCopy p_0 (by unfold okS; omega)) ?_)))))))))
  rintro v6 w3 ⟨A4, c4, lo4, hi4, rfl, h4, ho5, hrn8, hE7⟩
  have hE7z := Ex.size hE7
  refine sd rfl (yl_move rfl rfl (sd rfl (yl_extract rfl rfl rfl (sd rfl (yl_extract rfl rfl rfl (sd rfl (yl_alloc ty24 (cs := [.int .i64 (0), .slice none 0 0]) rfl rfl ?_)))))))
  intro b9 w10 hs11 hz12 hB13 hE14
  refine SeqR.u rfl rfl (yl_store (vs := [.int .i64 ((s_ReadCopy p_0).1.Time), .slice A4 (((s_ReadCopy p_0).1.Rows).length) c4]) ty24 rfl rfl rfl rfl rfl rfl hB13 (Nat.le_of_ble_eq_true rfl) ?_)
  intro w15 hB16 hO17
  have hB16 : Box w15 b9 24 [.int .i64 ((s_ReadCopy p_0).1.Time), .slice A4 (((s_ReadCopy p_0).1.Rows).length) c4] := hB16
  have hO17z := hO17.size
  refine sd rfl (yl_assign rfl rfl (dn (CW.seq (CW.region (sd rfl (yl_move rfl rfl (sd rfl (yl_call en7 rfl (oc rfl oz) (Cal.mono (c_i_ReadCopy p_0 (by unfold okS; omega)) ?_)))))))))
  rintro v21 w18 ⟨A19, c19, lo19, hi19, rfl, h19, ho20, hrn23, hE22⟩
  have hE22z := Ex.size hE22
  refine sd rfl (yl_move rfl rfl (sd rfl (yl_extract rfl rfl rfl (sd rfl (yl_extract rfl rfl rfl (sd rfl (yl_alloc ty24 (cs := [.int .i64 (0), .slice none 0 0]) rfl rfl ?_)))))))
  intro b24 w25 hs26 hz27 hB28 hE29
  refine SeqR.u rfl rfl (yl_store (vs := [.int .i64 ((i_ReadCopy p_0).1.Time), .slice A19 (((i_ReadCopy p_0).1.Rows).length) c19]) ty24 rfl rfl rfl rfl rfl rfl hB28 (Nat.le_of_ble_eq_true rfl) ?_)
  intro w30 hB31 hO32
  have hB31 : Box w30 b24 24 [.int .i64 ((i_ReadCopy p_0).1.Time), .slice A19 (((i_ReadCopy p_0).1.Rows).length) c19] := hB31
  have hO32z := hO32.size
  refine sd rfl (yl_assign rfl rfl (dn (CW.seq (CW.seq (CW.region (sd rfl (yl_loadN ty24 rfl rfl (hB31.cells (n := 2) rfl) rfl ?_)))))))
  have q35 := Box.only (Box.ex (Box.ex hB16 hE22) hE29) hO32 (by omega)
  refine sd rfl (yl_loadN ty24 rfl rfl (q35.cells (n := 2) rfl) rfl ?_)
  have q38 := OwnL.only good_Write (OwnL.ex good_Write h19 hE29) hO32 (by omega)
  have q44 := OwnL.only good_Write (OwnL.ex good_Write (OwnL.ex good_Write (OwnL.only good_Write (OwnL.ex good_Write h4 hE14) hO17 (by omega)) hE22) hE29) hO32 (by omega)
  refine sd rfl (yl_call en8 rfl (oc rfl (oc rfl oz)) (Cal.mono (c_l_eqCopy ((i_ReadCopy p_0).1) ((s_ReadCopy p_0).1) (RdS.up (OwnL.rd good_Write q38) good_Write) (RdS.up (OwnL.rd good_Write q44) good_Write)) ?_))
  rintro v46 w45 ⟨rfl, hE47⟩
  have hE47z := Ex.size hE47
  refine sd rfl (yl_not rfl rfl (sd rfl (yl_move rfl rfl (bcase (l_eqCopy ((i_ReadCopy p_0).1) ((s_ReadCopy p_0).1)) (fun hb48 => ?_) (fun hb48 => ?_)))))
  ·refine sy rfl rfl (not_t hb48) (yl_move rfl rfl (sy rfl rfl (not_t hb48) (yl_move rfl rfl (sy rfl rfl (not_t hb48) (yl_bneq un4 rfl rfl rfl (sd rfl (yl_pick_f rfl rfl (not_t hb48) rfl (dn (bcase (((i_ReadCopy p_0).2) == ((s_ReadCopy p_0).2)) (fun hb49 => ?_) (fun hb49 => ?_))))))))))
   ·refine CW.cond_f rfl (not_t hb49) (CW.skip (tn (CW.seq (CW.region (sd rfl (yl_assign rfl rfl (dn (CW.seq ?_))))))))
    refine CW.region ?_
    have q50 := Box.ex hB31 hE47
    refine sd rfl (yl_loadN ty24 rfl rfl (q50.cells (n := 2) rfl) rfl (sd rfl (yl_move rfl rfl (sd rfl (yl_call en9 rfl (oc rfl (oc rfl oz)) (Cal.mono (c_l_markCopy ((i_ReadCopy p_0).1) 1 (OwnL.ex good_Write q38 hE47) (by omega) (by first | omega | assumption | (simp only [wI] at *; omega))) ?_))))))
    rintro v53 w52 ⟨rfl, h55, hm54⟩
    have hm54z := Mut.size hm54
    have hrf56 := rf_markCopy ((i_ReadCopy p_0).1) 1 (by first | omega | assumption | (simp only [wI] at *; omega))
    refine sd rfl (yl_assign rfl rfl (dn (CW.seq (CW.region (sd rfl (yl_assign rfl rfl (dn (CW.seq ?_))))))))
    refine CW.region ?_
    have q57 := Box.mut q50 hm54 (fun k hk => by simp only [InR, or_false] at hk; omega)
    refine sd rfl (yl_loadN ty24 rfl rfl (q57.cells (n := 2) rfl) rfl (sd rfl (yl_move rfl rfl ?_)))
    have hle58 := OwnL.len h55
    refine sd rfl (yl_call en10 rfl (oc rfl (oc rfl oz)) (Cal.mono (Cal.args (by rw [← hle58] <;> rfl) (c_l_heldCopy (⟨(i_ReadCopy p_0).1.Time, (l_markCopy ((i_ReadCopy p_0).1) 1).2.Rows⟩ : DCopy) 1 (RdS.fix (RdS.up (OwnL.rd good_Write h55) good_Write)) (by first | omega | assumption | (simp only [wI] at *; omega)))) ?_))
    rintro v61 w60 ⟨rfl, hE62⟩
    have hE62z := Ex.size hE62
    have hrf63 := rf_heldCopy (⟨(i_ReadCopy p_0).1.Time, (l_markCopy ((i_ReadCopy p_0).1) 1).2.Rows⟩ : DCopy) 1 (by first | omega | assumption | (simp only [wI] at *; omega))
    refine sd rfl (yl_assign rfl rfl (dn (CW.seq (CW.seq (CW.region (sd rfl (yl_move rfl rfl (sd rfl (yl_lss rfl rfl rfl (SeqR.done ?_))))))))))
    refine tn (bcase (decide ((l_heldCopy (⟨(i_ReadCopy p_0).1.Time, (l_markCopy ((i_ReadCopy p_0).1) 1).2.Rows⟩ : DCopy) 1) < 0)) (fun hb64 => ?_) (fun hb64 => ?_))
    ·have hb64p := dec_t hb64
     refine CW.cond_t rfl hb64 (CW.seq (CW.region (sd rfl (yl_assign rfl rfl (dn (CW.ret (tr (rr rfl (.cons rfl .nil) ?_))))))))
     have hM65 : (l_FnExactReadCopy p_0) = (false) := by simp only [l_FnExactReadCopy, hb1, hb48, hb49, hb64, cL]
     rw [hM65]
     exact ⟨rfl, (Ex.trans (Ex.mut (Ex.trans (Below.only (Ex.trans (Ex.trans (Below.only (Ex.trans (Ex.trans (Ex.refl w) hE7) hE14) hO17 (by omega)) hE22) hE29) hO32 (by omega)) hE47) hm54 (fun k hk => by simp only [InR, or_false] at hk; omega)) hE62)⟩
    ·have hb64p := dec_f hb64
     refine CW.cond_f rfl hb64 (CW.skip (tn (CW.seq (CW.seq (CW.region (sd rfl (yl_move rfl rfl (sd rfl (yl_move rfl rfl (sd rfl (yl_neq rfl rfl rfl ?_)))))))))))
     refine dn (bcase (decide ((l_heldCopy (⟨(i_ReadCopy p_0).1.Time, (l_markCopy ((i_ReadCopy p_0).1) 1).2.Rows⟩ : DCopy) 1) = ((l_markCopy ((i_ReadCopy p_0).1) 1).1))) (fun hb75 => ?_) (fun hb75 => ?_))
     ·have hb75p := dec_t hb75
      refine CW.cond_f rfl (not_t hb75) (CW.skip (tn (CW.seq (CW.region (sd rfl (yl_move rfl rfl (sd rfl (yl_call en7 rfl (oc rfl oz) (Cal.mono (c_i_ReadCopy p_0 (by unfold okS; omega)) ?_)))))))))
      rintro v79 w76 ⟨A77, c77, lo77, hi77, rfl, h77, ho78, hrn81, hE80⟩
      have hE80z := Ex.size hE80
      refine sd rfl (yl_move rfl rfl (sd rfl (yl_extract rfl rfl rfl (sd rfl (yl_extract rfl rfl rfl (sd rfl (yl_alloc ty24 (cs := [.int .i64 (0), .slice none 0 0]) rfl rfl ?_)))))))
      intro b82 w83 hs84 hz85 hB86 hE87
      refine SeqR.u rfl rfl (yl_store (vs := [.int .i64 ((i_ReadCopy p_0).1.Time), .slice A77 (((i_ReadCopy p_0).1.Rows).length) c77]) ty24 rfl rfl rfl rfl rfl rfl hB86 (Nat.le_of_ble_eq_true rfl) ?_)
      intro w88 hB89 hO90
      have hB89 : Box w88 b82 24 [.int .i64 ((i_ReadCopy p_0).1.Time), .slice A77 (((i_ReadCopy p_0).1.Rows).length) c77] := hB89
      have hO90z := hO90.size
      refine sd rfl (yl_assign rfl rfl (dn (CW.seq (CW.seq (CW.region (sd rfl (yl_loadN ty24 rfl rfl (hB89.cells (n := 2) rfl) rfl (sd rfl (yl_loadN ty24 rfl rfl ((Box.only (Box.ex (Box.ex (Box.ex (Box.mut (Box.ex q35 hE47) hm54 (fun k hk => by simp only [InR, or_false] at hk; omega)) hE62) hE80) hE87) hO90 (by omega)).cells (n := 2) rfl) rfl (sd rfl (yl_call en8 rfl (oc rfl (oc rfl oz)) (Cal.mono (c_l_eqCopy ((i_ReadCopy p_0).1) ((s_ReadCopy p_0).1) (RdS.up (OwnL.rd good_Write (OwnL.only good_Write (OwnL.ex good_Write h77 hE87) hO90 (by omega))) good_Write) (RdS.up (OwnL.rd good_Write (OwnL.only good_Write (OwnL.ex good_Write (OwnL.ex good_Write (OwnL.ex good_Write (OwnL.mut good_Write (OwnL.ex good_Write q44 hE47) hm54 (fun k hk => by simp only [InR, or_false] at hk; omega)) hE62) hE80) hE87) hO90 (by omega))) good_Write)) ?_))))))))))))
      rintro v108 w107 ⟨rfl, hE109⟩
      have hE109z := Ex.size hE109
      refine sd rfl (yl_not rfl rfl (sd rfl (yl_move rfl rfl (sy rfl rfl (not_t hb48) (yl_move rfl rfl (sy rfl rfl (not_t hb48) (yl_move rfl rfl (sy rfl rfl (not_t hb48) (yl_bneq un4 rfl rfl rfl (sd rfl (yl_pick_f rfl rfl (not_t hb48) rfl (dn (CW.cond_f rfl (not_t hb49) ?_)))))))))))))
      refine CW.skip (tn (CW.seq (CW.region (sd rfl (yl_assign rfl rfl (dn (CW.seq (CW.region ?_))))))))
      refine sd rfl (yl_loadN ty24 rfl rfl ((Box.ex (Box.only (Box.ex (Box.ex (Box.ex q57 hE62) hE80) hE87) hO90 (by omega)) hE109).cells (n := 2) rfl) rfl (sd rfl (yl_move rfl rfl ?_)))
      have q120 := OwnL.ex good_Write (OwnL.only good_Write (OwnL.ex good_Write (OwnL.ex good_Write (OwnL.ex good_Write h55 hE62) hE80) hE87) hO90 (by omega)) hE109
      have hle115 := OwnL.len q120
      refine sd rfl (yl_call en10 rfl (oc rfl (oc rfl oz)) (Cal.mono (Cal.args (by rw [← hle115] <;> rfl) (c_l_heldCopy (⟨(i_ReadCopy p_0).1.Time, (l_markCopy ((i_ReadCopy p_0).1) 1).2.Rows⟩ : DCopy) 1 (RdS.fix (RdS.up (OwnL.rd good_Write q120) good_Write)) (by first | omega | assumption | (simp only [wI] at *; omega)))) ?_))
      rintro v123 w122 ⟨rfl, hE124⟩
      have hE124z := Ex.size hE124
      have hrf125 := rf_heldCopy (⟨(i_ReadCopy p_0).1.Time, (l_markCopy ((i_ReadCopy p_0).1) 1).2.Rows⟩ : DCopy) 1 (by first | omega | assumption | (simp only [wI] at *; omega))
      refine sd rfl (yl_assign rfl rfl (dn (CW.seq (CW.seq (CW.region (sd rfl (yl_move rfl rfl (sd rfl (yl_lss rfl rfl rfl (SeqR.done ?_))))))))))
      refine tn (CW.cond_f rfl hb64 (CW.skip (tn (CW.seq (CW.seq (CW.region (sd rfl (yl_move rfl rfl (sd rfl (yl_move rfl rfl ?_))))))))))
      refine sd rfl (yl_neq rfl rfl rfl (dn (CW.cond_f rfl (not_t hb75) (CW.skip (tn (CW.seq (CW.region (sd rfl (yl_assign rfl rfl ?_)))))))))
      refine dn (CW.ret (rr rfl (.cons rfl .nil) ?_))
      have hM126 : (l_FnExactReadCopy p_0) = (true) := by simp only [l_FnExactReadCopy, hb1, hb48, hb49, hb64, hb75, cL]
      rw [hM126]
      exact ⟨rfl, (Ex.trans (Ex.trans (Below.only (Ex.trans (Ex.trans (Ex.trans (Ex.mut (Ex.trans (Below.only (Ex.trans (Ex.trans (Below.only (Ex.trans (Ex.trans (Ex.refl w) hE7) hE14) hO17 (by omega)) hE22) hE29) hO32 (by omega)) hE47) hm54 (fun k hk => by simp only [InR, or_false] at hk; omega)) hE62) hE80) hE87) hO90 (by omega)) hE109) hE124)⟩
     ·have hb75p := dec_f hb75
      refine CW.cond_t rfl (not_f hb75) (CW.seq (CW.region (sd rfl (yl_assign rfl rfl (dn (CW.ret (tr (rr rfl (.cons rfl .nil) ?_))))))))
      have hM141 : (l_FnExactReadCopy p_0) = (false) := by simp only [l_FnExactReadCopy, hb1, hb48, hb49, hb64, hb75, cL]
      rw [hM141]
      exact ⟨rfl, (Ex.trans (Ex.mut (Ex.trans (Below.only (Ex.trans (Ex.trans (Below.only (Ex.trans (Ex.trans (Ex.refl w) hE7) hE14) hO17 (by omega)) hE22) hE29) hO32 (by omega)) hE47) hm54 (fun k hk => by simp only [InR, or_false] at hk; omega)) hE62)⟩
   ·refine CW.cond_t rfl (not_f hb49) (CW.seq (CW.region (sd rfl (yl_assign rfl rfl (dn (CW.ret (tr (rr rfl (.cons rfl .nil) ?_))))))))
    have hM151 : (l_FnExactReadCopy p_0) = (false) := by simp only [l_FnExactReadCopy, hb1, hb48, hb49, cL]
    rw [hM151]
    exact ⟨rfl, (Ex.trans (Below.only (Ex.trans (Ex.trans (Below.only (Ex.trans (Ex.trans (Ex.refl w) hE7) hE14) hO17 (by omega)) hE22) hE29) hO32 (by omega)) hE47)⟩
  ·refine sz rfl rfl (not_f hb48) (sz rfl rfl (not_f hb48) (sz rfl rfl (not_f hb48) (sd rfl (yl_pick_t rfl rfl (not_f hb48) rfl (dn (CW.cond_t rfl rfl (CW.seq (CW.region ?_))))))))
   refine sd rfl (yl_assign rfl rfl (dn (CW.ret (tr (rr rfl (.cons rfl .nil) ?_)))))
   have hM159 : (l_FnExactReadCopy p_0) = (false) := by simp only [l_FnExactReadCopy, hb1, hb48, cL]
   rw [hM159]
   exact ⟨rfl, (Ex.trans (Below.only (Ex.trans (Ex.trans (Below.only (Ex.trans (Ex.trans (Ex.refl w) hE7) hE14) hO17 (by omega)) hE22) hE29) hO32 (by omega)) hE47)⟩
end Go.Proofs.Ytbamdefifgkbgaa
