/- New Renew: what each call returns, part 1. -/
import Derived.Test.YtfmepgbpbbneaaaNewRenewL
import Derived.Test.YtfmepgbpbbneaaaNewRenewF
set_option linter.unusedVariables false
set_option linter.unusedSimpArgs false
namespace Go.Proofs.Ytfmepgbpbbneaaa
open Go.RowKit Go.X
set_option maxRecDepth 100000 in
set_option maxHeartbeats 2000000 in
theorem c_s_l1In {w : World} (p_n : Int) (p_lo : Int) (p_hi : Int) : Cal Try.prog 50 #[.int .i64 (p_n), .int .i64 (p_lo), .int .i64 (p_hi)] w fun v w' => v = .bool ((s_l1In p_n p_lo p_hi)) ∧ Ex w w' := by
 refine Cal.of (vs := [.int .i64 (p_n), .int .i64 (p_lo), .int .i64 (p_hi)]) Try.func50 rfl Try.ntmps50 rfl (CW.seq (CW.region (sd rfl (yl_assign rfl rfl (SeqR.done (tn (CW.seq (CW.region (sd rfl (yl_move rfl rfl ?_))))))))))
 refine sd rfl (yl_move rfl rfl (sd rfl (yl_geq rfl rfl rfl (sd rfl (yl_move rfl rfl (bcase (decide (p_lo ≤ p_n)) (fun hb1 => ?_) (fun hb1 => ?_)))))))
 ·have hb1p := dec_t hb1
  refine sy rfl rfl hb1 (yl_move rfl rfl (sy rfl rfl hb1 (yl_move rfl rfl (sy rfl rfl hb1 (yl_leq rfl rfl rfl (sd rfl (yl_pick_t rfl rfl hb1 rfl (sd rfl (yl_assign rfl rfl (SeqR.done (tn (CW.ret (rr rfl (.cons rfl .nil) ?_)))))))))))))
  have hM2 : (s_l1In p_n p_lo p_hi) = (decide (p_n ≤ p_hi)) := by simp only [s_l1In, hb1, cond_true, cond_false, loopE_done, loopE_ret]
  rw [hM2]
  exact ⟨rfl, (Ex.refl w)⟩
 ·have hb1p := dec_f hb1
  refine sz rfl rfl hb1 (sz rfl rfl hb1 (sz rfl rfl hb1 (sd rfl (yl_pick_f rfl rfl hb1 rfl (sd rfl (yl_assign rfl rfl (SeqR.done (tn (CW.ret (rr rfl (.cons rfl .nil) ?_))))))))))
  have hM3 : (s_l1In p_n p_lo p_hi) = (false) := by simp only [s_l1In, hb1, cond_true, cond_false, loopE_done, loopE_ret]
  rw [hM3]
  exact ⟨rfl, (Ex.refl w)⟩
set_option maxRecDepth 100000 in
set_option maxHeartbeats 2000000 in
theorem c_s_NewRenew {w : World} (p_servers : Int) : Cal Try.prog 10 #[.int .i64 (p_servers)] w fun v w' => ∃ A_1 c_1 lo_1 hi_1 A_2 c_2 lo_2 hi_2, v = .tuple #[.agg #[.int .i64 ((s_NewRenew p_servers).1.Now), .int .i64 ((s_NewRenew p_servers).1.Master.Off), .slice A_1 (((s_NewRenew p_servers).1.Clocks).length) c_1, .int .i64 ((s_NewRenew p_servers).1.Ver), .slice A_2 (((s_NewRenew p_servers).1.Leases).length) c_2], .bool ((s_NewRenew p_servers).2)] ∧ OwnL w' lo_1 hi_1 23 1 (RF e_Clock) A_1 (((s_NewRenew p_servers).1.Clocks).length) c_1 ((s_NewRenew p_servers).1.Clocks) ∧ OwnL w' lo_2 hi_2 162 2 (RF e_VLease) A_2 (((s_NewRenew p_servers).1.Leases).length) c_2 ((s_NewRenew p_servers).1.Leases) ∧ ok_Renew ((s_NewRenew p_servers).1) ∧ (w.heap.size ≤ lo_1 ∧ lo_1 ≤ hi_1 ∧ hi_1 ≤ w'.heap.size) ∧ (w.heap.size ≤ lo_2 ∧ lo_2 ≤ hi_2 ∧ hi_2 ≤ w'.heap.size) ∧ (hi_1 ≤ lo_2 ∨ hi_2 ≤ lo_1) ∧ Ex w w' := by
 refine Cal.of (vs := [.int .i64 (p_servers)]) Try.func10 rfl Try.ntmps10 rfl (CW.seq (CW.region (sd rfl (yl_alloc Try.ty27 (cs := [.int .i64 (0), .int .i64 (0), .slice none 0 0, .int .i64 (0), .slice none 0 0]) rfl rfl ?_))))
 intro b1 w2 hs3 hz4 hB5 hE6
 refine sd rfl (yl_assign rfl rfl (SeqR.done (tn (CW.seq (CW.seq (CW.region (sd rfl (yl_move rfl rfl (sd rfl (yl_call Try.en50 rfl (opvs_cons rfl (opvs_cons rfl (opvs_cons rfl opvs_nil))) (Cal.mono (c_s_l1In p_servers 1 3) ?_)))))))))))
 rintro v8 w7 ⟨rfl, hE9⟩
 have hE9z := Ex.size hE9
 refine sd rfl (yl_not rfl rfl (SeqR.done (tn (bcase (s_l1In p_servers 1 3) (fun hb10 => ?_) (fun hb10 => ?_)))))
 ·have hb10p := f_l1In hb10
  refine CW.cond_f rfl (not_t hb10) (CW.skip (tn (CW.seq (CW.drawsI 4 (vgetI [DetI (.int .i64 (p_servers)), fun lo hi v wq => ∃ A11 c12, v = .slice A11 ((p_servers).toNat) c12 ∧ OwnL wq lo hi 23 1 (RF e_Clock) A11 ((p_servers).toNat) c12 (List.replicate ((p_servers).toNat) d_Clock), DetI (.int .i64 (p_servers)), fun lo hi v wq => ∃ A14 c15, v = .slice A14 ((p_servers).toNat) c15 ∧ OwnL wq lo hi 162 2 (RF e_VLease) A14 ((p_servers).toNat) c15 (List.replicate ((p_servers).toNat) d_VLease)]) Try.follows rfl rfl rfl rfl rfl rfl (vgetI_stable ⟨StableI.det _, (fun _ _ _ _ _ ⟨A11, c12, hv, hO⟩ e => ⟨A11, c12, hv, OwnL.ex good_Clock hO e⟩), StableI.det _, (fun _ _ _ _ _ ⟨A14, c15, hv, hO⟩ e => ⟨A14, c15, hv, OwnL.ex good_VLease hO e⟩), trivial⟩) ⟨?_, ?_, ?_, ?_, trivial⟩ ?_))))
  ·exact fun _ _ h => os rfl ((yl_move rfl (h.old 0 _ rfl rfl) kI))
  ·intro L22 w23 hi24
   have hE25 := hi24.ex
   have hE25z := Ex.size hE25
   have hx26 := hi24.dt 0 8 rfl rfl rfl
   refine OpR.op' rfl (yl_make (zs := [.int .i64 (0)]) (n := (p_servers).toNat) Try.un24 Try.ty23 rfl rfl (Nat.le_of_ble_eq_true rfl) rfl (toNat_op hx26 (by first | omega | assumption | (simp only [IntKind.wrap_i64] at *; omega))) (toNat_op hx26 (by first | omega | assumption | (simp only [IntKind.wrap_i64] at *; omega))) (by first | omega | assumption | (simp only [IntKind.wrap_i64] at *; omega)) (by first | omega | assumption | (simp only [IntKind.wrap_i64] at *; omega)) ?_)
   intro b27 w28 hs29 hz30 hB31 hE32
   have hO33 : OwnL w28 b27 (b27 + 1) 23 1 (RF e_Clock) (some ⟨b27, 0, none⟩) ((p_servers).toNat) ((p_servers).toNat) (List.replicate ((p_servers).toNat) d_Clock) := by have := OwnL.of_boxF (lo := b27) (hi := b27 + 1) (xs := (List.replicate ((p_servers).toNat) d_Clock)) hB31 (Nat.le_refl _) (Nat.lt_succ_self _) (EncL.zerosF (enc := e_Clock) (d := d_Clock) rfl ((p_servers).toNat)) (by rw [List.length_replicate]; omega); rwa [List.length_replicate] at this
   exact ⟨⟨(some ⟨b27, 0, none⟩), (p_servers).toNat, rfl, OwnL.more hO33 (by omega) (by omega)⟩, hE32⟩
  ·exact fun _ _ h => os rfl ((yl_move rfl (h.old 0 _ rfl rfl) kI))
  ·intro L39 w40 hi41
   have hE42 := hi41.ex
   have hE42z := Ex.size hE42
   have hx43 := hi41.dt 2 10 rfl rfl rfl
   refine OpR.op' rfl (yl_make (zs := [.int .i64 (0), .int .i64 (0)]) (n := (p_servers).toNat) Try.un25 Try.ty162 rfl rfl (Nat.le_of_ble_eq_true rfl) rfl (toNat_op hx43 (by first | omega | assumption | (simp only [IntKind.wrap_i64] at *; omega))) (toNat_op hx43 (by first | omega | assumption | (simp only [IntKind.wrap_i64] at *; omega))) (by first | omega | assumption | (simp only [IntKind.wrap_i64] at *; omega)) (by first | omega | assumption | (simp only [IntKind.wrap_i64] at *; omega)) ?_)
   intro b44 w45 hs46 hz47 hB48 hE49
   have hO50 : OwnL w45 b44 (b44 + 1) 162 2 (RF e_VLease) (some ⟨b44, 0, none⟩) ((p_servers).toNat) ((p_servers).toNat) (List.replicate ((p_servers).toNat) d_VLease) := by have := OwnL.of_boxF (lo := b44) (hi := b44 + 1) (xs := (List.replicate ((p_servers).toNat) d_VLease)) hB48 (Nat.le_refl _) (Nat.lt_succ_self _) (EncL.zerosF (enc := e_VLease) (d := d_VLease) rfl ((p_servers).toNat)) (by rw [List.length_replicate]; omega); rwa [List.length_replicate] at this
   exact ⟨⟨(some ⟨b44, 0, none⟩), (p_servers).toNat, rfl, OwnL.more hO50 (by omega) (by omega)⟩, hE49⟩
  ·intro fl54 fh55 L51 w52 hp53
   have hE56 := hp53.ex
   have hE56z := Ex.size hE56
   have hx57 := hp53.old 2 _ rfl rfl
   have hr59 := hp53.rng 1 rfl
   obtain ⟨_, hx58, A11_60, c12_61, rfl, h62⟩ := hp53.new 1 9 rfl rfl
   have hr64 := hp53.rng 3 rfl
   have hsp65 := hp53.sep 1 3 rfl rfl rfl
   obtain ⟨_, hx63, A14_66, c15_67, rfl, h68⟩ := hp53.new 3 11 rfl rfl
   refine sd rfl (yl_build (cs := [.int .i64 (0), .int .i64 (0), .slice A11_60 ((p_servers).toNat) c12_61, .int .i64 (0), .slice A14_66 ((p_servers).toNat) c15_67]) rfl (opvs_cons hx58 (opvs_cons hx63 opvs_nil)) (by kernel_rfl) (SeqR.u rfl rfl (yl_store (vs := [.int .i64 (0), .int .i64 (0), .slice A11_60 ((p_servers).toNat) c12_61, .int .i64 (0), .slice A14_66 ((p_servers).toNat) c15_67]) Try.ty27 rfl hx57 rfl rfl rfl rfl (Box.ex (Box.ex hB5 hE9) hE56) (Nat.le_of_ble_eq_true rfl) ?_)))
   intro w71 hB72 hO73
   have hB72 : Box w71 b1 27 [.int .i64 (0), .int .i64 (0), .slice A11_60 ((p_servers).toNat) c12_61, .int .i64 (0), .slice A14_66 ((p_servers).toNat) c15_67] := hB72
   have hO73z := hO73.size
   refine sd rfl (yl_assign rfl rfl (SeqR.done (tn (CW.sub (Sub.cons (d := 2) hx57 (Sub.cons (d := 3) rfl (Sub.nil _))) (CW.ret (rr rfl (.cons ⟨_, rfl, run_loadN Try.ty27 (cs := [.int .i64 (0), .int .i64 (0), .slice A11_60 ((p_servers).toNat) c12_61, .int .i64 (0), .slice A14_66 ((p_servers).toNat) c15_67]) rfl (hB72.cells (n := 5) rfl)⟩ (.cons rfl .nil)) ?_))))))
   have hM74 : (s_NewRenew p_servers) = (((⟨0, (⟨0⟩ : DClock), (List.replicate ((p_servers).toNat) d_Clock), 0, (List.replicate ((p_servers).toNat) d_VLease)⟩ : DRenew), true)) := by simp only [s_NewRenew, hb10, cond_true, cond_false, loopE_done, loopE_ret]
   have q75 := OwnL.only good_Clock h62 hO73 (by omega)
   have hfx76 := (q75).1
   have q77 := OwnL.only good_VLease h68 hO73 (by omega)
   have hfx78 := (q77).1
   rw [hM74]
   exact ⟨A11_60, c12_61, (fl54 1), (fh55 1), A14_66, c15_67, (fl54 3), (fh55 3), (by first | rfl | (simp only [List.length_replicate, List.length_set]; done) | (simp only [List.length_replicate, List.length_set]; rfl) | rw [hfx76, hfx78]), (OwnL.fix q75), (OwnL.fix q77), ⟨(okL.mk (xs := (List.replicate ((p_servers).toNat) d_Clock)) (by first | omega | (simp only [List.length_append, List.length_cons, List.length_nil, List.length_take, List.length_drop, List.length_replicate, List.length_set]; omega)) fun _ _ => trivial), (okL.mk (xs := (List.replicate ((p_servers).toNat) d_VLease)) (by first | omega | (simp only [List.length_append, List.length_cons, List.length_nil, List.length_take, List.length_drop, List.length_replicate, List.length_set]; omega)) fun _ _ => trivial)⟩, (by omega), (by omega), (by omega), (Below.only (Ex.trans (Ex.trans (Ex.trans (Ex.refl w) hE6) hE9) hE56) hO73 (by omega))⟩
 ·refine CW.cond_t rfl (not_f hb10) (CW.seq (CW.region (sd rfl (yl_build (cs := [.int .i64 (0), .int .i64 (0), .slice none 0 0, .int .i64 (0), .slice none 0 0]) rfl opvs_nil (by kernel_rfl) (SeqR.u rfl rfl (yl_store (vs := [.int .i64 (0), .int .i64 (0), .slice none 0 0, .int .i64 (0), .slice none 0 0]) Try.ty27 rfl rfl rfl rfl rfl rfl (Box.ex hB5 hE9) (Nat.le_of_ble_eq_true rfl) ?_))))))
  intro w84 hB85 hO86
  have hB85 : Box w84 b1 27 [.int .i64 (0), .int .i64 (0), .slice none 0 0, .int .i64 (0), .slice none 0 0] := hB85
  have hO86z := hO86.size
  refine sd rfl (yl_assign rfl rfl (SeqR.done (tn (CW.ret (tr (rr rfl (.cons ⟨_, rfl, run_loadN Try.ty27 (cs := [.int .i64 (0), .int .i64 (0), .slice none 0 0, .int .i64 (0), .slice none 0 0]) rfl (hB85.cells (n := 5) rfl)⟩ (.cons rfl .nil)) ?_))))))
  have hM87 : (s_NewRenew p_servers) = (((⟨0, (⟨0⟩ : DClock), [], 0, []⟩ : DRenew), false)) := by simp only [s_NewRenew, hb10, cond_true, cond_false, loopE_done, loopE_ret]
  rw [hM87]
  exact ⟨none, 0, w84.heap.size, w84.heap.size, none, 0, w84.heap.size, w84.heap.size, rfl, (OwnL.nil _ _ _ _ _ _), (OwnL.nil _ _ _ _ _ _), ⟨(okL.nil _), (okL.nil _)⟩, (by omega), (by omega), (by omega), (Below.only (Ex.trans (Ex.trans (Ex.refl w) hE6) hE9) hO86 (by omega))⟩
set_option maxRecDepth 100000 in
set_option maxHeartbeats 2000000 in
theorem c_i_within {w : World} (p_n : Int) (p_low : Int) (p_high : Int) : Cal Try.prog 51 #[.int .i64 (p_n), .int .i64 (p_low), .int .i64 (p_high)] w fun v w' => v = .bool ((i_within p_n p_low p_high)) ∧ Ex w w' := by
 refine Cal.of (vs := [.int .i64 (p_n), .int .i64 (p_low), .int .i64 (p_high)]) Try.func51 rfl Try.ntmps51 rfl (CW.seq (CW.region (sd rfl (yl_assign rfl rfl (SeqR.done (tn (CW.seq (CW.region (sd rfl (yl_move rfl rfl ?_))))))))))
 refine sd rfl (yl_move rfl rfl (sd rfl (yl_geq rfl rfl rfl (sd rfl (yl_move rfl rfl (bcase (decide (p_low ≤ p_n)) (fun hb1 => ?_) (fun hb1 => ?_)))))))
 ·have hb1p := dec_t hb1
  refine sy rfl rfl hb1 (yl_move rfl rfl (sy rfl rfl hb1 (yl_move rfl rfl (sy rfl rfl hb1 (yl_leq rfl rfl rfl (sd rfl (yl_pick_t rfl rfl hb1 rfl (sd rfl (yl_assign rfl rfl (SeqR.done (tn (CW.ret (rr rfl (.cons rfl .nil) ?_)))))))))))))
  have hM2 : (i_within p_n p_low p_high) = (decide (p_n ≤ p_high)) := by simp only [i_within, hb1, cond_true, cond_false, loopE_done, loopE_ret]
  rw [hM2]
  exact ⟨rfl, (Ex.refl w)⟩
 ·have hb1p := dec_f hb1
  refine sz rfl rfl hb1 (sz rfl rfl hb1 (sz rfl rfl hb1 (sd rfl (yl_pick_f rfl rfl hb1 rfl (sd rfl (yl_assign rfl rfl (SeqR.done (tn (CW.ret (rr rfl (.cons rfl .nil) ?_))))))))))
  have hM3 : (i_within p_n p_low p_high) = (false) := by simp only [i_within, hb1, cond_true, cond_false, loopE_done, loopE_ret]
  rw [hM3]
  exact ⟨rfl, (Ex.refl w)⟩
set_option maxRecDepth 100000 in
set_option maxHeartbeats 2000000 in
theorem c_i_NewRenew {w : World} (p_servers : Int) : Cal Try.prog 11 #[.int .i64 (p_servers)] w fun v w' => ∃ A_1 c_1 lo_1 hi_1 A_2 c_2 lo_2 hi_2, v = .tuple #[.agg #[.int .i64 ((i_NewRenew p_servers).1.Now), .int .i64 ((i_NewRenew p_servers).1.Master.Off), .slice A_1 (((i_NewRenew p_servers).1.Clocks).length) c_1, .int .i64 ((i_NewRenew p_servers).1.Ver), .slice A_2 (((i_NewRenew p_servers).1.Leases).length) c_2], .bool ((i_NewRenew p_servers).2)] ∧ OwnL w' lo_1 hi_1 23 1 (RF e_Clock) A_1 (((i_NewRenew p_servers).1.Clocks).length) c_1 ((i_NewRenew p_servers).1.Clocks) ∧ OwnL w' lo_2 hi_2 162 2 (RF e_VLease) A_2 (((i_NewRenew p_servers).1.Leases).length) c_2 ((i_NewRenew p_servers).1.Leases) ∧ ok_Renew ((i_NewRenew p_servers).1) ∧ (w.heap.size ≤ lo_1 ∧ lo_1 ≤ hi_1 ∧ hi_1 ≤ w'.heap.size) ∧ (w.heap.size ≤ lo_2 ∧ lo_2 ≤ hi_2 ∧ hi_2 ≤ w'.heap.size) ∧ (hi_1 ≤ lo_2 ∨ hi_2 ≤ lo_1) ∧ Ex w w' := by
 refine Cal.of (vs := [.int .i64 (p_servers)]) Try.func11 rfl Try.ntmps11 rfl (CW.seq (CW.region (sd rfl (yl_alloc Try.ty27 (cs := [.int .i64 (0), .int .i64 (0), .slice none 0 0, .int .i64 (0), .slice none 0 0]) rfl rfl ?_))))
 intro b1 w2 hs3 hz4 hB5 hE6
 refine sd rfl (yl_assign rfl rfl (SeqR.done (tn (CW.seq (CW.seq (CW.region (sd rfl (yl_move rfl rfl (sd rfl (yl_call Try.en51 rfl (opvs_cons rfl (opvs_cons rfl (opvs_cons rfl opvs_nil))) (Cal.mono (c_i_within p_servers 1 3) ?_)))))))))))
 rintro v8 w7 ⟨rfl, hE9⟩
 have hE9z := Ex.size hE9
 refine sd rfl (yl_not rfl rfl (SeqR.done (tn (bcase (i_within p_servers 1 3) (fun hb10 => ?_) (fun hb10 => ?_)))))
 ·have hb10p := f_within hb10
  refine CW.cond_f rfl (not_t hb10) (CW.skip (tn (CW.seq (CW.drawsI 4 (vgetI [DetI (.int .i64 (p_servers)), fun lo hi v wq => ∃ A11 c12, v = .slice A11 ((p_servers).toNat) c12 ∧ OwnL wq lo hi 23 1 (RF e_Clock) A11 ((p_servers).toNat) c12 (List.replicate ((p_servers).toNat) d_Clock), DetI (.int .i64 (p_servers)), fun lo hi v wq => ∃ A14 c15, v = .slice A14 ((p_servers).toNat) c15 ∧ OwnL wq lo hi 162 2 (RF e_VLease) A14 ((p_servers).toNat) c15 (List.replicate ((p_servers).toNat) d_VLease)]) Try.follows rfl rfl rfl rfl rfl rfl (vgetI_stable ⟨StableI.det _, (fun _ _ _ _ _ ⟨A11, c12, hv, hO⟩ e => ⟨A11, c12, hv, OwnL.ex good_Clock hO e⟩), StableI.det _, (fun _ _ _ _ _ ⟨A14, c15, hv, hO⟩ e => ⟨A14, c15, hv, OwnL.ex good_VLease hO e⟩), trivial⟩) ⟨?_, ?_, ?_, ?_, trivial⟩ ?_))))
  ·exact fun _ _ h => os rfl ((yl_move rfl (h.old 0 _ rfl rfl) kI))
  ·intro L22 w23 hi24
   have hE25 := hi24.ex
   have hE25z := Ex.size hE25
   have hx26 := hi24.dt 0 8 rfl rfl rfl
   refine OpR.op' rfl (yl_make (zs := [.int .i64 (0)]) (n := (p_servers).toNat) Try.un24 Try.ty23 rfl rfl (Nat.le_of_ble_eq_true rfl) rfl (toNat_op hx26 (by first | omega | assumption | (simp only [IntKind.wrap_i64] at *; omega))) (toNat_op hx26 (by first | omega | assumption | (simp only [IntKind.wrap_i64] at *; omega))) (by first | omega | assumption | (simp only [IntKind.wrap_i64] at *; omega)) (by first | omega | assumption | (simp only [IntKind.wrap_i64] at *; omega)) ?_)
   intro b27 w28 hs29 hz30 hB31 hE32
   have hO33 : OwnL w28 b27 (b27 + 1) 23 1 (RF e_Clock) (some ⟨b27, 0, none⟩) ((p_servers).toNat) ((p_servers).toNat) (List.replicate ((p_servers).toNat) d_Clock) := by have := OwnL.of_boxF (lo := b27) (hi := b27 + 1) (xs := (List.replicate ((p_servers).toNat) d_Clock)) hB31 (Nat.le_refl _) (Nat.lt_succ_self _) (EncL.zerosF (enc := e_Clock) (d := d_Clock) rfl ((p_servers).toNat)) (by rw [List.length_replicate]; omega); rwa [List.length_replicate] at this
   exact ⟨⟨(some ⟨b27, 0, none⟩), (p_servers).toNat, rfl, OwnL.more hO33 (by omega) (by omega)⟩, hE32⟩
  ·exact fun _ _ h => os rfl ((yl_move rfl (h.old 0 _ rfl rfl) kI))
  ·intro L39 w40 hi41
   have hE42 := hi41.ex
   have hE42z := Ex.size hE42
   have hx43 := hi41.dt 2 10 rfl rfl rfl
   refine OpR.op' rfl (yl_make (zs := [.int .i64 (0), .int .i64 (0)]) (n := (p_servers).toNat) Try.un25 Try.ty162 rfl rfl (Nat.le_of_ble_eq_true rfl) rfl (toNat_op hx43 (by first | omega | assumption | (simp only [IntKind.wrap_i64] at *; omega))) (toNat_op hx43 (by first | omega | assumption | (simp only [IntKind.wrap_i64] at *; omega))) (by first | omega | assumption | (simp only [IntKind.wrap_i64] at *; omega)) (by first | omega | assumption | (simp only [IntKind.wrap_i64] at *; omega)) ?_)
   intro b44 w45 hs46 hz47 hB48 hE49
   have hO50 : OwnL w45 b44 (b44 + 1) 162 2 (RF e_VLease) (some ⟨b44, 0, none⟩) ((p_servers).toNat) ((p_servers).toNat) (List.replicate ((p_servers).toNat) d_VLease) := by have := OwnL.of_boxF (lo := b44) (hi := b44 + 1) (xs := (List.replicate ((p_servers).toNat) d_VLease)) hB48 (Nat.le_refl _) (Nat.lt_succ_self _) (EncL.zerosF (enc := e_VLease) (d := d_VLease) rfl ((p_servers).toNat)) (by rw [List.length_replicate]; omega); rwa [List.length_replicate] at this
   exact ⟨⟨(some ⟨b44, 0, none⟩), (p_servers).toNat, rfl, OwnL.more hO50 (by omega) (by omega)⟩, hE49⟩
  ·intro fl54 fh55 L51 w52 hp53
   have hE56 := hp53.ex
   have hE56z := Ex.size hE56
   have hx57 := hp53.old 2 _ rfl rfl
   have hr59 := hp53.rng 1 rfl
   obtain ⟨_, hx58, A11_60, c12_61, rfl, h62⟩ := hp53.new 1 9 rfl rfl
   have hr64 := hp53.rng 3 rfl
   have hsp65 := hp53.sep 1 3 rfl rfl rfl
   obtain ⟨_, hx63, A14_66, c15_67, rfl, h68⟩ := hp53.new 3 11 rfl rfl
   refine sd rfl (yl_build (cs := [.int .i64 (0), .int .i64 (0), .slice A11_60 ((p_servers).toNat) c12_61, .int .i64 (0), .slice A14_66 ((p_servers).toNat) c15_67]) rfl (opvs_cons hx58 (opvs_cons hx63 opvs_nil)) (by kernel_rfl) (SeqR.u rfl rfl (yl_store (vs := [.int .i64 (0), .int .i64 (0), .slice A11_60 ((p_servers).toNat) c12_61, .int .i64 (0), .slice A14_66 ((p_servers).toNat) c15_67]) Try.ty27 rfl hx57 rfl rfl rfl rfl (Box.ex (Box.ex hB5 hE9) hE56) (Nat.le_of_ble_eq_true rfl) ?_)))
   intro w71 hB72 hO73
   have hB72 : Box w71 b1 27 [.int .i64 (0), .int .i64 (0), .slice A11_60 ((p_servers).toNat) c12_61, .int .i64 (0), .slice A14_66 ((p_servers).toNat) c15_67] := hB72
   have hO73z := hO73.size
   refine sd rfl (yl_assign rfl rfl (SeqR.done (tn (CW.sub (Sub.cons (d := 2) hx57 (Sub.cons (d := 3) rfl (Sub.nil _))) (CW.ret (rr rfl (.cons ⟨_, rfl, run_loadN Try.ty27 (cs := [.int .i64 (0), .int .i64 (0), .slice A11_60 ((p_servers).toNat) c12_61, .int .i64 (0), .slice A14_66 ((p_servers).toNat) c15_67]) rfl (hB72.cells (n := 5) rfl)⟩ (.cons rfl .nil)) ?_))))))
   have hM74 : (i_NewRenew p_servers) = (((⟨0, (⟨0⟩ : DClock), (List.replicate ((p_servers).toNat) d_Clock), 0, (List.replicate ((p_servers).toNat) d_VLease)⟩ : DRenew), true)) := by simp only [i_NewRenew, hb10, cond_true, cond_false, loopE_done, loopE_ret]
   have q75 := OwnL.only good_Clock h62 hO73 (by omega)
   have hfx76 := (q75).1
   have q77 := OwnL.only good_VLease h68 hO73 (by omega)
   have hfx78 := (q77).1
   rw [hM74]
   exact ⟨A11_60, c12_61, (fl54 1), (fh55 1), A14_66, c15_67, (fl54 3), (fh55 3), (by first | rfl | (simp only [List.length_replicate, List.length_set]; done) | (simp only [List.length_replicate, List.length_set]; rfl) | rw [hfx76, hfx78]), (OwnL.fix q75), (OwnL.fix q77), ⟨(okL.mk (xs := (List.replicate ((p_servers).toNat) d_Clock)) (by first | omega | (simp only [List.length_append, List.length_cons, List.length_nil, List.length_take, List.length_drop, List.length_replicate, List.length_set]; omega)) fun _ _ => trivial), (okL.mk (xs := (List.replicate ((p_servers).toNat) d_VLease)) (by first | omega | (simp only [List.length_append, List.length_cons, List.length_nil, List.length_take, List.length_drop, List.length_replicate, List.length_set]; omega)) fun _ _ => trivial)⟩, (by omega), (by omega), (by omega), (Below.only (Ex.trans (Ex.trans (Ex.trans (Ex.refl w) hE6) hE9) hE56) hO73 (by omega))⟩
 ·refine CW.cond_t rfl (not_f hb10) (CW.seq (CW.region (sd rfl (yl_build (cs := [.int .i64 (0), .int .i64 (0), .slice none 0 0, .int .i64 (0), .slice none 0 0]) rfl opvs_nil (by kernel_rfl) (SeqR.u rfl rfl (yl_store (vs := [.int .i64 (0), .int .i64 (0), .slice none 0 0, .int .i64 (0), .slice none 0 0]) Try.ty27 rfl rfl rfl rfl rfl rfl (Box.ex hB5 hE9) (Nat.le_of_ble_eq_true rfl) ?_))))))
  intro w84 hB85 hO86
  have hB85 : Box w84 b1 27 [.int .i64 (0), .int .i64 (0), .slice none 0 0, .int .i64 (0), .slice none 0 0] := hB85
  have hO86z := hO86.size
  refine sd rfl (yl_assign rfl rfl (SeqR.done (tn (CW.ret (tr (rr rfl (.cons ⟨_, rfl, run_loadN Try.ty27 (cs := [.int .i64 (0), .int .i64 (0), .slice none 0 0, .int .i64 (0), .slice none 0 0]) rfl (hB85.cells (n := 5) rfl)⟩ (.cons rfl .nil)) ?_))))))
  have hM87 : (i_NewRenew p_servers) = (((⟨0, (⟨0⟩ : DClock), [], 0, []⟩ : DRenew), false)) := by simp only [i_NewRenew, hb10, cond_true, cond_false, loopE_done, loopE_ret]
  rw [hM87]
  exact ⟨none, 0, w84.heap.size, w84.heap.size, none, 0, w84.heap.size, w84.heap.size, rfl, (OwnL.nil _ _ _ _ _ _), (OwnL.nil _ _ _ _ _ _), ⟨(okL.nil _), (okL.nil _)⟩, (by omega), (by omega), (by omega), (Below.only (Ex.trans (Ex.trans (Ex.refl w) hE6) hE9) hO86 (by omega))⟩
set_option maxRecDepth 100000 in
set_option maxHeartbeats 2000000 in
theorem c_l_eqClock {w : World} (p_a : DClock) (p_b : DClock) : Cal Try.prog 52 #[.agg #[.int .i64 (p_a.Off)], .agg #[.int .i64 (p_b.Off)]] w fun v w' => v = .bool ((l_eqClock p_a p_b)) ∧ Ex w w' := by
 refine Cal.of (vs := [.agg #[.int .i64 (p_a.Off)], .agg #[.int .i64 (p_b.Off)]]) Try.func52 rfl Try.ntmps52 rfl (CW.seq (CW.region (sd rfl (yl_box (cs := [.int .i64 (p_a.Off)]) rfl rfl rfl ?_))))
 intro b1 w2 hs3 hz4 hB5 hE6
 refine sd rfl (yl_box (cs := [.int .i64 (p_b.Off)]) rfl rfl rfl ?_)
 intro b7 w8 hs9 hz10 hB11 hE12
 refine sd rfl (yl_assign rfl rfl (SeqR.done (tn (CW.seq (CW.seq (CW.region (sd rfl (yl_fieldAddr Try.fd23_0 rfl rfl (sd rfl (yl_load1 Try.ty3 rfl rfl (((Box.ex hB5 hE12).cell 0).trans rfl) (sd rfl (yl_fieldAddr Try.fd23_0 rfl rfl ?_))))))))))))
 refine sd rfl (yl_load1 Try.ty3 rfl rfl ((hB11.cell 0).trans rfl) (sd rfl (yl_neq rfl rfl rfl (SeqR.done (tn (bcase (decide (p_a.Off = p_b.Off)) (fun hb14 => ?_) (fun hb14 => ?_)))))))
 ·have hb14p := dec_t hb14
  refine CW.cond_f rfl (not_t hb14) (CW.skip (tn (CW.seq (CW.region (sd rfl (yl_assign rfl rfl (SeqR.done (tn (CW.ret ?_)))))))))
  refine rr rfl (.cons rfl .nil) ?_
  have hM15 : (l_eqClock p_a p_b) = (true) := by simp only [l_eqClock, hb14, cond_true, cond_false, loopE_done, loopE_ret]
  rw [hM15]
  exact ⟨rfl, (Ex.trans (Ex.trans (Ex.refl w) hE6) hE12)⟩
 ·have hb14p := dec_f hb14
  refine CW.cond_t rfl (not_f hb14) (CW.seq (CW.region (sd rfl (yl_assign rfl rfl (SeqR.done (tn (CW.ret (tr (rr rfl (.cons rfl .nil) ?_)))))))))
  have hM18 : (l_eqClock p_a p_b) = (false) := by simp only [l_eqClock, hb14, cond_true, cond_false, loopE_done, loopE_ret]
  rw [hM18]
  exact ⟨rfl, (Ex.trans (Ex.trans (Ex.refl w) hE6) hE12)⟩
set_option maxRecDepth 100000 in
set_option maxHeartbeats 2000000 in
theorem c_l_eqClockS {A1 : Option Addr} {c1 : Nat} {A2 : Option Addr} {c2 : Nat} {w : World} (p_a : List DClock) (p_b : List DClock) (h1 : RdS w (Iv 0 w.heap.size) (RF e_Clock) 1 A1 p_a.length c1 p_a) (h2 : RdS w (Iv 0 w.heap.size) (RF e_Clock) 1 A2 p_b.length c2 p_b) : Cal Try.prog 53 #[.slice A1 p_a.length c1, .slice A2 p_b.length c2] w fun v w' => v = .bool ((l_eqClockS p_a p_b)) ∧ Ex w w' := by
 refine Cal.of (vs := [.slice A1 p_a.length c1, .slice A2 p_b.length c2]) Try.func53 rfl Try.ntmps53 rfl (CW.seq (CW.region (sd rfl (yl_assign rfl rfl (SeqR.done (tn (CW.seq (CW.seq (CW.region ?_)))))))))
 refine sd rfl (yl_move rfl rfl (sd rfl (yl_len Try.un24 rfl rfl (sd rfl (yl_move rfl rfl (sd rfl (yl_len Try.un24 rfl rfl (sd rfl (yl_neq rfl rfl rfl (SeqR.done (tn (bcase (decide ((p_a.length : Int) = (p_b.length : Int))) (fun hb3 => ?_) (fun hb3 => ?_)))))))))))))
 ·have hb3p := dec_t hb3
  refine CW.cond_f rfl (not_t hb3) (CW.skip (tn (CW.seq (CW.seq (CW.region (sd rfl (yl_assign rfl rfl (SeqR.done (tn ?_)))))))))
  refine CW.block (CW.loop (fun m5 L6 w7 => ∃ (k4 : Nat), m5 = p_a.length - k4 ∧ k4 ≤ p_a.length ∧ w.heap.size ≤ w7.heap.size ∧ lkp L6 0 = some (.slice A1 p_a.length c1) ∧ lkp L6 1 = some (.slice A2 p_b.length c2) ∧ lkp L6 5 = some (.int .i64 ((k4 : Int))) ∧ RdS w7 (Iv 0 w.heap.size) (RF e_Clock) 1 A1 p_a.length c1 p_a ∧ RdS w7 (Iv 0 w.heap.size) (RF e_Clock) 1 A2 p_b.length c2 p_b ∧ Ex w w7 ∧ loopM (B_l_eqClockS_0 p_a p_b) (p_a.length - k4) k4 () = loopM (B_l_eqClockS_0 p_a p_b) (p_a.length - 0) 0 ()) (p_a.length - 0) ?_ ?_)
  ·exact ⟨0, rfl, (by omega), Nat.le_refl _, rfl, rfl, rfl, h1, h2, (Ex.refl w), rfl⟩
  ·rintro m8 L9 w10 ⟨k4, rfl, hk11, hsz13, hl14, hl15, hl16, hf17, hf18, hf19, hI12⟩
   refine CW.sub (Sub.cons hl14 (Sub.cons hl15 (Sub.cons hl16 (Sub.nil _)))) ?_
   have hf19z := Ex.size hf19
   have hbg20 := RdS.big hf17
   rcases Nat.lt_or_ge k4 p_a.length with hlt21 | hlt21
   ·refine CW.seq (CW.seq (CW.region (sd rfl (yl_move rfl rfl (sd rfl (yl_move rfl rfl (sd rfl (yl_len Try.un24 rfl rfl (sd rfl (yl_lss rfl rfl rfl (SeqR.done (tn ?_))))))))))))
    refine CW.cond_t rfl (lt_t hlt21) (CW.skip (tn (CW.seq (CW.block (CW.seq ?_)))))
    obtain ⟨eb22, eo22, ec22, eA22, eS22, ebl22, el22, eR22, eC22⟩ := RdS.atD hf17 d_Clock (i := k4) (by first | omega | assumption)
    obtain rfl := eR22
    have eC22 : Cells w10 eb22 (eo22 + k4 * 1) [.int .i64 ((p_a.getD k4 d_Clock).Off)] := eC22
    obtain ⟨eb23, eo23, ec23, eA23, eS23, ebl23, el23, eR23, eC23⟩ := RdS.atD hf18 d_Clock (i := k4) (by first | omega | assumption)
    obtain rfl := eR23
    have eC23 : Cells w10 eb23 (eo23 + k4 * 1) [.int .i64 ((p_b.getD k4 d_Clock).Off)] := eC23
    refine CW.drawsI 10 (vgetI [DetI (.slice A1 p_a.length c1), DetI (.int .i64 ((k4 : Int))), DetI (.pointer (some ⟨eb22, eo22 + k4 * 1, none⟩)), DetI (.agg #[.int .i64 ((p_a.getD k4 d_Clock).Off)]), DetI (.slice A2 p_b.length c2), DetI (.int .i64 ((k4 : Int))), DetI (.pointer (some ⟨eb23, eo23 + k4 * 1, none⟩)), DetI (.agg #[.int .i64 ((p_b.getD k4 d_Clock).Off)]), DetI (.bool ((l_eqClock (p_a.getD k4 d_Clock) (p_b.getD k4 d_Clock)))), DetI (.bool (!(l_eqClock (p_a.getD k4 d_Clock) (p_b.getD k4 d_Clock))))]) Try.follows rfl rfl rfl rfl rfl rfl (vgetI_stable ⟨StableI.det _, StableI.det _, StableI.det _, StableI.det _, StableI.det _, StableI.det _, StableI.det _, StableI.det _, StableI.det _, StableI.det _, trivial⟩) ⟨?_, ?_, ?_, ?_, ?_, ?_, ?_, ?_, ?_, ?_, trivial⟩ ?_
    ·exact fun _ _ h => os rfl ((yl_move rfl (h.old 0 _ rfl rfl) kI))
    ·exact fun _ _ h => os rfl ((yl_move rfl (h.old 5 _ rfl rfl) kI))
    ·intro L35 w36 hi37
     have hE38 := hi37.ex
     have hE38z := Ex.size hE38
     exact os rfl ((yl_indexAddrN Try.un24 Try.ty23 rfl (hi37.dt 0 17 rfl rfl rfl) (hi37.dt 1 18 rfl rfl rfl) eA22 (by first | omega | assumption | (simp only [IntKind.wrap_i64] at *; omega)) kI))
    ·exact fun _ _ h => os rfl ((yl_loadN (cs := [.int .i64 ((p_a.getD k4 d_Clock).Off)]) Try.ty23 rfl (h.dt 2 19 rfl rfl rfl) (Cells.ex eC22 h.ex) rfl kI))
    ·exact fun _ _ h => os rfl ((yl_move rfl (h.old 1 _ rfl rfl) kI))
    ·exact fun _ _ h => os rfl ((yl_move rfl (h.old 5 _ rfl rfl) kI))
    ·intro L57 w58 hi59
     have hE60 := hi59.ex
     have hE60z := Ex.size hE60
     exact os rfl ((yl_indexAddrN Try.un24 Try.ty23 rfl (hi59.dt 4 21 rfl rfl rfl) (hi59.dt 5 22 rfl rfl rfl) eA23 (by first | omega | assumption | (simp only [IntKind.wrap_i64] at *; omega)) kI))
    ·exact fun _ _ h => os rfl ((yl_loadN (cs := [.int .i64 ((p_b.getD k4 d_Clock).Off)]) Try.ty23 rfl (h.dt 6 23 rfl rfl rfl) (Cells.ex eC23 h.ex) rfl kI))
    ·intro L69 w70 hi71
     refine OpR.op' rfl (yl_call Try.en52 rfl (opvs_cons (hi71.dt 3 20 rfl rfl rfl) (opvs_cons (hi71.dt 7 24 rfl rfl rfl) opvs_nil)) (Cal.mono (c_l_eqClock (p_a.getD k4 d_Clock) (p_b.getD k4 d_Clock)) ?_))
     rintro v76 w75 ⟨rfl, hE77⟩
     exact ⟨rfl, hE77⟩
    ·exact fun _ _ h => os rfl ((yl_not rfl (h.dt 8 25 rfl rfl rfl) kI))
    ·intro fl86 fh87 L83 w84 hp85
     have hE88 := hp85.ex
     have hE88z := Ex.size hE88
     refine SeqR.done (tn (CW.sub (Sub.cons (d := 0) (hp85.old 0 _ rfl rfl) (Sub.cons (d := 1) (hp85.old 1 _ rfl rfl) (Sub.cons (d := 5) (hp85.old 5 _ rfl rfl) (Sub.cons (d := 26) (hp85.nt 9 26 rfl rfl rfl) (Sub.nil _))))) (bcase (l_eqClock (p_a.getD k4 d_Clock) (p_b.getD k4 d_Clock)) (fun hb93 => ?_) (fun hb93 => ?_))))
     ·refine CW.cond_f rfl (not_t hb93) (CW.skip (bn (tn (CW.region (sd rfl (yl_move rfl rfl (sd rfl (yl_inc rfl rfl rfl (by omega) (sd rfl (yl_assign rfl rfl (SeqR.done ?_)))))))))))
      refine tn ?_
      have hB94 : B_l_eqClockS_0 p_a p_b k4 () = .cont () := by simp only [B_l_eqClockS_0, hb3, hb93, cond_true, cond_false, loopE_done, loopE_ret]
      exact ⟨p_a.length - (k4 + 1), by omega, k4 + 1, rfl, hlt21, (by omega), rfl, rfl, rfl, (RdS.ex good_Clock hf17 hE88), (RdS.ex good_Clock hf18 hE88), (Ex.trans hf19 hE88), (loopM.cont hlt21 hB94).symm.trans hI12⟩
     ·refine CW.cond_t rfl (not_f hb93) (CW.seq (CW.region (sd rfl (yl_assign rfl rfl (SeqR.done (tn (CW.ret (br (tr ?_)))))))))
      refine tr ?_
      have hB99 : B_l_eqClockS_0 p_a p_b k4 () = .ret false := by simp only [B_l_eqClockS_0, hb3, hb93, cond_true, cond_false, loopE_done, loopE_ret]
      have hL98 : loopM (B_l_eqClockS_0 p_a p_b) (p_a.length - 0) 0 () = .ret false := hI12.symm.trans (loopM.ret hlt21 hB99)
      refine br (tr (rr rfl (.cons rfl .nil) ?_))
      have hM100 : (l_eqClockS p_a p_b) = (false) := by simp only [l_eqClockS, hb3, hb93, hL98, cond_true, cond_false, loopE_done, loopE_ret]
      rw [hM100]
      exact ⟨rfl, (Ex.trans hf19 hE88)⟩
   ·refine CW.seq (CW.seq (CW.region (sd rfl (yl_move rfl rfl (sd rfl (yl_move rfl rfl (sd rfl (yl_len Try.un24 rfl rfl (sd rfl (yl_lss rfl rfl rfl (SeqR.done (tn ?_))))))))))))
    refine CW.cond_f rfl (lt_f hlt21) (CW.exit (tx (tx ?_)))
    have hL102 : loopM (B_l_eqClockS_0 p_a p_b) (p_a.length - 0) 0 () = .done () := hI12.symm.trans (loopM.stop hlt21)
    refine bx (tn (CW.seq (CW.region (sd rfl (yl_assign rfl rfl (SeqR.done (tn (CW.ret (rr rfl (.cons rfl .nil) ?_)))))))))
    have hM103 : (l_eqClockS p_a p_b) = (true) := by simp only [l_eqClockS, hb3, hL102, cond_true, cond_false, loopE_done, loopE_ret]
    rw [hM103]
    exact ⟨rfl, hf19⟩
 ·have hb3p := dec_f hb3
  refine CW.cond_t rfl (not_f hb3) (CW.seq (CW.region (sd rfl (yl_assign rfl rfl (SeqR.done (tn (CW.ret (tr (rr rfl (.cons rfl .nil) ?_)))))))))
  have hM104 : (l_eqClockS p_a p_b) = (false) := by simp only [l_eqClockS, hb3, cond_true, cond_false, loopE_done, loopE_ret]
  rw [hM104]
  exact ⟨rfl, (Ex.refl w)⟩
set_option maxRecDepth 100000 in
set_option maxHeartbeats 2000000 in
theorem c_l_eqVLease {w : World} (p_a : DVLease) (p_b : DVLease) : Cal Try.prog 115 #[.agg #[.int .i64 (p_a.Ver), .int .i64 (p_a.Until)], .agg #[.int .i64 (p_b.Ver), .int .i64 (p_b.Until)]] w fun v w' => v = .bool ((l_eqVLease p_a p_b)) ∧ Ex w w' := by
 refine Cal.of (vs := [.agg #[.int .i64 (p_a.Ver), .int .i64 (p_a.Until)], .agg #[.int .i64 (p_b.Ver), .int .i64 (p_b.Until)]]) Try.func115 rfl Try.ntmps115 rfl (CW.seq (CW.region (sd rfl (yl_box (cs := [.int .i64 (p_a.Ver), .int .i64 (p_a.Until)]) rfl rfl rfl ?_))))
 intro b1 w2 hs3 hz4 hB5 hE6
 refine sd rfl (yl_box (cs := [.int .i64 (p_b.Ver), .int .i64 (p_b.Until)]) rfl rfl rfl ?_)
 intro b7 w8 hs9 hz10 hB11 hE12
 refine sd rfl (yl_assign rfl rfl (SeqR.done (tn (CW.seq (CW.seq (CW.region (sd rfl (yl_fieldAddr Try.fd162_0 rfl rfl ?_))))))))
 have q13 := Box.ex hB5 hE12
 refine sd rfl (yl_load1 Try.ty3 rfl rfl ((q13.cell 0).trans rfl) (sd rfl (yl_fieldAddr Try.fd162_0 rfl rfl (sd rfl (yl_load1 Try.ty3 rfl rfl ((hB11.cell 0).trans rfl) (sd rfl (yl_neq rfl rfl rfl (SeqR.done (tn (bcase (decide (p_a.Ver = p_b.Ver)) (fun hb14 => ?_) (fun hb14 => ?_)))))))))))
 ·have hb14p := dec_t hb14
  refine CW.cond_f rfl (not_t hb14) (CW.skip (tn (CW.seq (CW.seq (CW.region (sd rfl (yl_fieldAddr Try.fd162_1 rfl rfl (sd rfl (yl_load1 Try.ty3 rfl rfl ((q13.cell 1).trans rfl) (sd rfl (yl_fieldAddr Try.fd162_1 rfl rfl ?_)))))))))))
  refine sd rfl (yl_load1 Try.ty3 rfl rfl ((hB11.cell 1).trans rfl) (sd rfl (yl_neq rfl rfl rfl (SeqR.done (tn (bcase (decide (p_a.Until = p_b.Until)) (fun hb15 => ?_) (fun hb15 => ?_)))))))
  ·have hb15p := dec_t hb15
   refine CW.cond_f rfl (not_t hb15) (CW.skip (tn (CW.seq (CW.region (sd rfl (yl_assign rfl rfl (SeqR.done (tn (CW.ret ?_)))))))))
   refine rr rfl (.cons rfl .nil) ?_
   have hM16 : (l_eqVLease p_a p_b) = (true) := by simp only [l_eqVLease, hb14, hb15, cond_true, cond_false, loopE_done, loopE_ret]
   rw [hM16]
   exact ⟨rfl, (Ex.trans (Ex.trans (Ex.refl w) hE6) hE12)⟩
  ·have hb15p := dec_f hb15
   refine CW.cond_t rfl (not_f hb15) (CW.seq (CW.region (sd rfl (yl_assign rfl rfl (SeqR.done (tn (CW.ret (tr (rr rfl (.cons rfl .nil) ?_)))))))))
   have hM19 : (l_eqVLease p_a p_b) = (false) := by simp only [l_eqVLease, hb14, hb15, cond_true, cond_false, loopE_done, loopE_ret]
   rw [hM19]
   exact ⟨rfl, (Ex.trans (Ex.trans (Ex.refl w) hE6) hE12)⟩
 ·have hb14p := dec_f hb14
  refine CW.cond_t rfl (not_f hb14) (CW.seq (CW.region (sd rfl (yl_assign rfl rfl (SeqR.done (tn (CW.ret (tr (rr rfl (.cons rfl .nil) ?_)))))))))
  have hM22 : (l_eqVLease p_a p_b) = (false) := by simp only [l_eqVLease, hb14, cond_true, cond_false, loopE_done, loopE_ret]
  rw [hM22]
  exact ⟨rfl, (Ex.trans (Ex.trans (Ex.refl w) hE6) hE12)⟩
set_option maxRecDepth 100000 in
set_option maxHeartbeats 2000000 in
theorem c_l_eqVLeaseS {A1 : Option Addr} {c1 : Nat} {A2 : Option Addr} {c2 : Nat} {w : World} (p_a : List DVLease) (p_b : List DVLease) (h1 : RdS w (Iv 0 w.heap.size) (RF e_VLease) 2 A1 p_a.length c1 p_a) (h2 : RdS w (Iv 0 w.heap.size) (RF e_VLease) 2 A2 p_b.length c2 p_b) : Cal Try.prog 54 #[.slice A1 p_a.length c1, .slice A2 p_b.length c2] w fun v w' => v = .bool ((l_eqVLeaseS p_a p_b)) ∧ Ex w w' := by
 refine Cal.of (vs := [.slice A1 p_a.length c1, .slice A2 p_b.length c2]) Try.func54 rfl Try.ntmps54 rfl (CW.seq (CW.region (sd rfl (yl_assign rfl rfl (SeqR.done (tn (CW.seq (CW.seq (CW.region ?_)))))))))
 refine sd rfl (yl_move rfl rfl (sd rfl (yl_len Try.un25 rfl rfl (sd rfl (yl_move rfl rfl (sd rfl (yl_len Try.un25 rfl rfl (sd rfl (yl_neq rfl rfl rfl (SeqR.done (tn (bcase (decide ((p_a.length : Int) = (p_b.length : Int))) (fun hb3 => ?_) (fun hb3 => ?_)))))))))))))
 ·have hb3p := dec_t hb3
  refine CW.cond_f rfl (not_t hb3) (CW.skip (tn (CW.seq (CW.seq (CW.region (sd rfl (yl_assign rfl rfl (SeqR.done (tn ?_)))))))))
  refine CW.block (CW.loop (fun m5 L6 w7 => ∃ (k4 : Nat), m5 = p_a.length - k4 ∧ k4 ≤ p_a.length ∧ w.heap.size ≤ w7.heap.size ∧ lkp L6 0 = some (.slice A1 p_a.length c1) ∧ lkp L6 1 = some (.slice A2 p_b.length c2) ∧ lkp L6 5 = some (.int .i64 ((k4 : Int))) ∧ RdS w7 (Iv 0 w.heap.size) (RF e_VLease) 2 A1 p_a.length c1 p_a ∧ RdS w7 (Iv 0 w.heap.size) (RF e_VLease) 2 A2 p_b.length c2 p_b ∧ Ex w w7 ∧ loopM (B_l_eqVLeaseS_0 p_a p_b) (p_a.length - k4) k4 () = loopM (B_l_eqVLeaseS_0 p_a p_b) (p_a.length - 0) 0 ()) (p_a.length - 0) ?_ ?_)
  ·exact ⟨0, rfl, (by omega), Nat.le_refl _, rfl, rfl, rfl, h1, h2, (Ex.refl w), rfl⟩
  ·rintro m8 L9 w10 ⟨k4, rfl, hk11, hsz13, hl14, hl15, hl16, hf17, hf18, hf19, hI12⟩
   refine CW.sub (Sub.cons hl14 (Sub.cons hl15 (Sub.cons hl16 (Sub.nil _)))) ?_
   have hf19z := Ex.size hf19
   have hbg20 := RdS.big hf17
   rcases Nat.lt_or_ge k4 p_a.length with hlt21 | hlt21
   ·refine CW.seq (CW.seq (CW.region (sd rfl (yl_move rfl rfl (sd rfl (yl_move rfl rfl (sd rfl (yl_len Try.un25 rfl rfl (sd rfl (yl_lss rfl rfl rfl (SeqR.done (tn ?_))))))))))))
    refine CW.cond_t rfl (lt_t hlt21) (CW.skip (tn (CW.seq (CW.block (CW.seq ?_)))))
    obtain ⟨eb22, eo22, ec22, eA22, eS22, ebl22, el22, eR22, eC22⟩ := RdS.atD hf17 d_VLease (i := k4) (by first | omega | assumption)
    obtain rfl := eR22
    have eC22 : Cells w10 eb22 (eo22 + k4 * 2) [.int .i64 ((p_a.getD k4 d_VLease).Ver), .int .i64 ((p_a.getD k4 d_VLease).Until)] := eC22
    obtain ⟨eb23, eo23, ec23, eA23, eS23, ebl23, el23, eR23, eC23⟩ := RdS.atD hf18 d_VLease (i := k4) (by first | omega | assumption)
    obtain rfl := eR23
    have eC23 : Cells w10 eb23 (eo23 + k4 * 2) [.int .i64 ((p_b.getD k4 d_VLease).Ver), .int .i64 ((p_b.getD k4 d_VLease).Until)] := eC23
    refine CW.drawsI 10 (vgetI [DetI (.slice A1 p_a.length c1), DetI (.int .i64 ((k4 : Int))), DetI (.pointer (some ⟨eb22, eo22 + k4 * 2, none⟩)), DetI (.agg #[.int .i64 ((p_a.getD k4 d_VLease).Ver), .int .i64 ((p_a.getD k4 d_VLease).Until)]), DetI (.slice A2 p_b.length c2), DetI (.int .i64 ((k4 : Int))), DetI (.pointer (some ⟨eb23, eo23 + k4 * 2, none⟩)), DetI (.agg #[.int .i64 ((p_b.getD k4 d_VLease).Ver), .int .i64 ((p_b.getD k4 d_VLease).Until)]), DetI (.bool ((l_eqVLease (p_a.getD k4 d_VLease) (p_b.getD k4 d_VLease)))), DetI (.bool (!(l_eqVLease (p_a.getD k4 d_VLease) (p_b.getD k4 d_VLease))))]) Try.follows rfl rfl rfl rfl rfl rfl (vgetI_stable ⟨StableI.det _, StableI.det _, StableI.det _, StableI.det _, StableI.det _, StableI.det _, StableI.det _, StableI.det _, StableI.det _, StableI.det _, trivial⟩) ⟨?_, ?_, ?_, ?_, ?_, ?_, ?_, ?_, ?_, ?_, trivial⟩ ?_
    ·exact fun _ _ h => os rfl ((yl_move rfl (h.old 0 _ rfl rfl) kI))
    ·exact fun _ _ h => os rfl ((yl_move rfl (h.old 5 _ rfl rfl) kI))
    ·intro L35 w36 hi37
     have hE38 := hi37.ex
     have hE38z := Ex.size hE38
     exact os rfl ((yl_indexAddrN Try.un25 Try.ty162 rfl (hi37.dt 0 17 rfl rfl rfl) (hi37.dt 1 18 rfl rfl rfl) eA22 (by first | omega | assumption | (simp only [IntKind.wrap_i64] at *; omega)) kI))
    ·exact fun _ _ h => os rfl ((yl_loadN (cs := [.int .i64 ((p_a.getD k4 d_VLease).Ver), .int .i64 ((p_a.getD k4 d_VLease).Until)]) Try.ty162 rfl (h.dt 2 19 rfl rfl rfl) (Cells.ex eC22 h.ex) rfl kI))
    ·exact fun _ _ h => os rfl ((yl_move rfl (h.old 1 _ rfl rfl) kI))
    ·exact fun _ _ h => os rfl ((yl_move rfl (h.old 5 _ rfl rfl) kI))
    ·intro L57 w58 hi59
     have hE60 := hi59.ex
     have hE60z := Ex.size hE60
     exact os rfl ((yl_indexAddrN Try.un25 Try.ty162 rfl (hi59.dt 4 21 rfl rfl rfl) (hi59.dt 5 22 rfl rfl rfl) eA23 (by first | omega | assumption | (simp only [IntKind.wrap_i64] at *; omega)) kI))
    ·exact fun _ _ h => os rfl ((yl_loadN (cs := [.int .i64 ((p_b.getD k4 d_VLease).Ver), .int .i64 ((p_b.getD k4 d_VLease).Until)]) Try.ty162 rfl (h.dt 6 23 rfl rfl rfl) (Cells.ex eC23 h.ex) rfl kI))
    ·intro L69 w70 hi71
     refine OpR.op' rfl (yl_call Try.en115 rfl (opvs_cons (hi71.dt 3 20 rfl rfl rfl) (opvs_cons (hi71.dt 7 24 rfl rfl rfl) opvs_nil)) (Cal.mono (c_l_eqVLease (p_a.getD k4 d_VLease) (p_b.getD k4 d_VLease)) ?_))
     rintro v76 w75 ⟨rfl, hE77⟩
     exact ⟨rfl, hE77⟩
    ·exact fun _ _ h => os rfl ((yl_not rfl (h.dt 8 25 rfl rfl rfl) kI))
    ·intro fl86 fh87 L83 w84 hp85
     have hE88 := hp85.ex
     have hE88z := Ex.size hE88
     refine SeqR.done (tn (CW.sub (Sub.cons (d := 0) (hp85.old 0 _ rfl rfl) (Sub.cons (d := 1) (hp85.old 1 _ rfl rfl) (Sub.cons (d := 5) (hp85.old 5 _ rfl rfl) (Sub.cons (d := 26) (hp85.nt 9 26 rfl rfl rfl) (Sub.nil _))))) (bcase (l_eqVLease (p_a.getD k4 d_VLease) (p_b.getD k4 d_VLease)) (fun hb93 => ?_) (fun hb93 => ?_))))
     ·refine CW.cond_f rfl (not_t hb93) (CW.skip (bn (tn (CW.region (sd rfl (yl_move rfl rfl (sd rfl (yl_inc rfl rfl rfl (by omega) (sd rfl (yl_assign rfl rfl (SeqR.done ?_)))))))))))
      refine tn ?_
      have hB94 : B_l_eqVLeaseS_0 p_a p_b k4 () = .cont () := by simp only [B_l_eqVLeaseS_0, hb3, hb93, cond_true, cond_false, loopE_done, loopE_ret]
      exact ⟨p_a.length - (k4 + 1), by omega, k4 + 1, rfl, hlt21, (by omega), rfl, rfl, rfl, (RdS.ex good_VLease hf17 hE88), (RdS.ex good_VLease hf18 hE88), (Ex.trans hf19 hE88), (loopM.cont hlt21 hB94).symm.trans hI12⟩
     ·refine CW.cond_t rfl (not_f hb93) (CW.seq (CW.region (sd rfl (yl_assign rfl rfl (SeqR.done (tn (CW.ret (br (tr ?_)))))))))
      refine tr ?_
      have hB99 : B_l_eqVLeaseS_0 p_a p_b k4 () = .ret false := by simp only [B_l_eqVLeaseS_0, hb3, hb93, cond_true, cond_false, loopE_done, loopE_ret]
      have hL98 : loopM (B_l_eqVLeaseS_0 p_a p_b) (p_a.length - 0) 0 () = .ret false := hI12.symm.trans (loopM.ret hlt21 hB99)
      refine br (tr (rr rfl (.cons rfl .nil) ?_))
      have hM100 : (l_eqVLeaseS p_a p_b) = (false) := by simp only [l_eqVLeaseS, hb3, hb93, hL98, cond_true, cond_false, loopE_done, loopE_ret]
      rw [hM100]
      exact ⟨rfl, (Ex.trans hf19 hE88)⟩
   ·refine CW.seq (CW.seq (CW.region (sd rfl (yl_move rfl rfl (sd rfl (yl_move rfl rfl (sd rfl (yl_len Try.un25 rfl rfl (sd rfl (yl_lss rfl rfl rfl (SeqR.done (tn ?_))))))))))))
    refine CW.cond_f rfl (lt_f hlt21) (CW.exit (tx (tx ?_)))
    have hL102 : loopM (B_l_eqVLeaseS_0 p_a p_b) (p_a.length - 0) 0 () = .done () := hI12.symm.trans (loopM.stop hlt21)
    refine bx (tn (CW.seq (CW.region (sd rfl (yl_assign rfl rfl (SeqR.done (tn (CW.ret (rr rfl (.cons rfl .nil) ?_)))))))))
    have hM103 : (l_eqVLeaseS p_a p_b) = (true) := by simp only [l_eqVLeaseS, hb3, hL102, cond_true, cond_false, loopE_done, loopE_ret]
    rw [hM103]
    exact ⟨rfl, hf19⟩
 ·have hb3p := dec_f hb3
  refine CW.cond_t rfl (not_f hb3) (CW.seq (CW.region (sd rfl (yl_assign rfl rfl (SeqR.done (tn (CW.ret (tr (rr rfl (.cons rfl .nil) ?_)))))))))
  have hM104 : (l_eqVLeaseS p_a p_b) = (false) := by simp only [l_eqVLeaseS, hb3, cond_true, cond_false, loopE_done, loopE_ret]
  rw [hM104]
  exact ⟨rfl, (Ex.refl w)⟩
set_option maxRecDepth 100000 in
set_option maxHeartbeats 2000000 in
theorem c_l_eqRenew {A1 : Option Addr} {c1 : Nat} {A2 : Option Addr} {c2 : Nat} {A3 : Option Addr} {c3 : Nat} {A4 : Option Addr} {c4 : Nat} {w : World} (p_a : DRenew) (p_b : DRenew) (h1 : RdS w (Iv 0 w.heap.size) (RF e_Clock) 1 A1 p_a.Clocks.length c1 p_a.Clocks) (h2 : RdS w (Iv 0 w.heap.size) (RF e_VLease) 2 A2 p_a.Leases.length c2 p_a.Leases) (h3 : RdS w (Iv 0 w.heap.size) (RF e_Clock) 1 A3 p_b.Clocks.length c3 p_b.Clocks) (h4 : RdS w (Iv 0 w.heap.size) (RF e_VLease) 2 A4 p_b.Leases.length c4 p_b.Leases) : Cal Try.prog 12 #[.agg #[.int .i64 (p_a.Now), .int .i64 (p_a.Master.Off), .slice A1 p_a.Clocks.length c1, .int .i64 (p_a.Ver), .slice A2 p_a.Leases.length c2], .agg #[.int .i64 (p_b.Now), .int .i64 (p_b.Master.Off), .slice A3 p_b.Clocks.length c3, .int .i64 (p_b.Ver), .slice A4 p_b.Leases.length c4]] w fun v w' => v = .bool ((l_eqRenew p_a p_b)) ∧ Ex w w' := by
 refine Cal.of (vs := [.agg #[.int .i64 (p_a.Now), .int .i64 (p_a.Master.Off), .slice A1 p_a.Clocks.length c1, .int .i64 (p_a.Ver), .slice A2 p_a.Leases.length c2], .agg #[.int .i64 (p_b.Now), .int .i64 (p_b.Master.Off), .slice A3 p_b.Clocks.length c3, .int .i64 (p_b.Ver), .slice A4 p_b.Leases.length c4]]) Try.func12 rfl Try.ntmps12 rfl (CW.seq (CW.region (sd rfl (yl_box (cs := [.int .i64 (p_a.Now), .int .i64 (p_a.Master.Off), .slice A1 p_a.Clocks.length c1, .int .i64 (p_a.Ver), .slice A2 p_a.Leases.length c2]) rfl rfl rfl ?_))))
 intro b5 w6 hs7 hz8 hB9 hE10
 refine sd rfl (yl_box (cs := [.int .i64 (p_b.Now), .int .i64 (p_b.Master.Off), .slice A3 p_b.Clocks.length c3, .int .i64 (p_b.Ver), .slice A4 p_b.Leases.length c4]) rfl rfl rfl ?_)
 intro b11 w12 hs13 hz14 hB15 hE16
 refine sd rfl (yl_assign rfl rfl (SeqR.done (tn (CW.seq (CW.seq (CW.region (sd rfl (yl_fieldAddr Try.fd27_0 rfl rfl ?_))))))))
 have q17 := Box.ex hB9 hE16
 refine sd rfl (yl_load1 Try.ty3 rfl rfl ((q17.cell 0).trans rfl) (sd rfl (yl_fieldAddr Try.fd27_0 rfl rfl (sd rfl (yl_load1 Try.ty3 rfl rfl ((hB15.cell 0).trans rfl) (sd rfl (yl_neq rfl rfl rfl (SeqR.done (tn (bcase (decide (p_a.Now = p_b.Now)) (fun hb18 => ?_) (fun hb18 => ?_)))))))))))
 ·have hb18p := dec_t hb18
  refine CW.cond_f rfl (not_t hb18) (CW.skip (tn (CW.seq (CW.seq (CW.region (sd rfl (yl_fieldAddr Try.fd27_1 rfl rfl (sd rfl (yl_loadN (cs := [.int .i64 (p_a.Master.Off)]) Try.ty23 rfl rfl (q17.cells (n := 1) rfl) rfl (sd rfl (yl_fieldAddr Try.fd27_1 rfl rfl ?_)))))))))))
  refine sd rfl (yl_loadN (cs := [.int .i64 (p_b.Master.Off)]) Try.ty23 rfl rfl (hB15.cells (n := 1) rfl) rfl (sd rfl (yl_call Try.en52 rfl (opvs_cons rfl (opvs_cons rfl opvs_nil)) (Cal.mono (c_l_eqClock p_a.Master p_b.Master) ?_))))
  rintro v20 w19 ⟨rfl, hE21⟩
  have hE21z := Ex.size hE21
  refine sd rfl (yl_not rfl rfl (SeqR.done (tn (bcase (l_eqClock p_a.Master p_b.Master) (fun hb22 => ?_) (fun hb22 => ?_)))))
  ·refine CW.cond_f rfl (not_t hb22) (CW.skip (tn (CW.seq (CW.seq (CW.region (sd rfl (yl_fieldAddr Try.fd27_2 rfl rfl ?_)))))))
   have q23 := Box.ex q17 hE21
   refine sd rfl (yl_load1 Try.ty24 rfl rfl ((q23.cell 2).trans rfl) (sd rfl (yl_fieldAddr Try.fd27_2 rfl rfl ?_)))
   have q24 := Box.ex hB15 hE21
   refine sd rfl (yl_load1 Try.ty24 rfl rfl ((q24.cell 2).trans rfl) (sd rfl (yl_call Try.en53 rfl (opvs_cons rfl (opvs_cons rfl opvs_nil)) (Cal.mono (c_l_eqClockS p_a.Clocks p_b.Clocks (RdS.up (RdS.ex good_Clock (RdS.ex good_Clock (RdS.ex good_Clock h1 hE10) hE16) hE21) good_Clock) (RdS.up (RdS.ex good_Clock (RdS.ex good_Clock (RdS.ex good_Clock h3 hE10) hE16) hE21) good_Clock)) ?_))))
   rintro v32 w31 ⟨rfl, hE33⟩
   have hE33z := Ex.size hE33
   refine sd rfl (yl_not rfl rfl (SeqR.done (tn (bcase (l_eqClockS p_a.Clocks p_b.Clocks) (fun hb34 => ?_) (fun hb34 => ?_)))))
   ·refine CW.cond_f rfl (not_t hb34) (CW.skip (tn (CW.seq (CW.seq (CW.region (sd rfl (yl_fieldAddr Try.fd27_3 rfl rfl ?_)))))))
    have q35 := Box.ex q23 hE33
    refine sd rfl (yl_load1 Try.ty3 rfl rfl ((q35.cell 3).trans rfl) (sd rfl (yl_fieldAddr Try.fd27_3 rfl rfl ?_)))
    have q36 := Box.ex q24 hE33
    refine sd rfl (yl_load1 Try.ty3 rfl rfl ((q36.cell 3).trans rfl) (sd rfl (yl_neq rfl rfl rfl (SeqR.done (tn (bcase (decide (p_a.Ver = p_b.Ver)) (fun hb37 => ?_) (fun hb37 => ?_)))))))
    ·have hb37p := dec_t hb37
     refine CW.cond_f rfl (not_t hb37) (CW.skip (tn (CW.seq (CW.seq (CW.region (sd rfl (yl_fieldAddr Try.fd27_4 rfl rfl (sd rfl (yl_load1 Try.ty25 rfl rfl ((q35.cell 4).trans rfl) (sd rfl (yl_fieldAddr Try.fd27_4 rfl rfl ?_)))))))))))
     refine sd rfl (yl_load1 Try.ty25 rfl rfl ((q36.cell 4).trans rfl) (sd rfl (yl_call Try.en54 rfl (opvs_cons rfl (opvs_cons rfl opvs_nil)) (Cal.mono (c_l_eqVLeaseS p_a.Leases p_b.Leases (RdS.up (RdS.ex good_VLease (RdS.ex good_VLease (RdS.ex good_VLease (RdS.ex good_VLease h2 hE10) hE16) hE21) hE33) good_VLease) (RdS.up (RdS.ex good_VLease (RdS.ex good_VLease (RdS.ex good_VLease (RdS.ex good_VLease h4 hE10) hE16) hE21) hE33) good_VLease)) ?_))))
     rintro v47 w46 ⟨rfl, hE48⟩
     have hE48z := Ex.size hE48
     refine sd rfl (yl_not rfl rfl (SeqR.done (tn (bcase (l_eqVLeaseS p_a.Leases p_b.Leases) (fun hb49 => ?_) (fun hb49 => ?_)))))
     ·refine CW.cond_f rfl (not_t hb49) (CW.skip (tn (CW.seq (CW.region (sd rfl (yl_assign rfl rfl (SeqR.done (tn (CW.ret ?_)))))))))
      refine rr rfl (.cons rfl .nil) ?_
      have hM50 : (l_eqRenew p_a p_b) = (true) := by simp only [l_eqRenew, hb18, hb22, hb34, hb37, hb49, cond_true, cond_false, loopE_done, loopE_ret]
      rw [hM50]
      exact ⟨rfl, (Ex.trans (Ex.trans (Ex.trans (Ex.trans (Ex.trans (Ex.refl w) hE10) hE16) hE21) hE33) hE48)⟩
     ·refine CW.cond_t rfl (not_f hb49) (CW.seq (CW.region (sd rfl (yl_assign rfl rfl (SeqR.done (tn (CW.ret (tr (rr rfl (.cons rfl .nil) ?_)))))))))
      have hM56 : (l_eqRenew p_a p_b) = (false) := by simp only [l_eqRenew, hb18, hb22, hb34, hb37, hb49, cond_true, cond_false, loopE_done, loopE_ret]
      rw [hM56]
      exact ⟨rfl, (Ex.trans (Ex.trans (Ex.trans (Ex.trans (Ex.trans (Ex.refl w) hE10) hE16) hE21) hE33) hE48)⟩
    ·have hb37p := dec_f hb37
     refine CW.cond_t rfl (not_f hb37) (CW.seq (CW.region (sd rfl (yl_assign rfl rfl (SeqR.done (tn (CW.ret (tr (rr rfl (.cons rfl .nil) ?_)))))))))
     have hM62 : (l_eqRenew p_a p_b) = (false) := by simp only [l_eqRenew, hb18, hb22, hb34, hb37, cond_true, cond_false, loopE_done, loopE_ret]
     rw [hM62]
     exact ⟨rfl, (Ex.trans (Ex.trans (Ex.trans (Ex.trans (Ex.refl w) hE10) hE16) hE21) hE33)⟩
   ·refine CW.cond_t rfl (not_f hb34) (CW.seq (CW.region (sd rfl (yl_assign rfl rfl (SeqR.done (tn (CW.ret (tr (rr rfl (.cons rfl .nil) ?_)))))))))
    have hM67 : (l_eqRenew p_a p_b) = (false) := by simp only [l_eqRenew, hb18, hb22, hb34, cond_true, cond_false, loopE_done, loopE_ret]
    rw [hM67]
    exact ⟨rfl, (Ex.trans (Ex.trans (Ex.trans (Ex.trans (Ex.refl w) hE10) hE16) hE21) hE33)⟩
  ·refine CW.cond_t rfl (not_f hb22) (CW.seq (CW.region (sd rfl (yl_assign rfl rfl (SeqR.done (tn (CW.ret (tr (rr rfl (.cons rfl .nil) ?_)))))))))
   have hM72 : (l_eqRenew p_a p_b) = (false) := by simp only [l_eqRenew, hb18, hb22, cond_true, cond_false, loopE_done, loopE_ret]
   rw [hM72]
   exact ⟨rfl, (Ex.trans (Ex.trans (Ex.trans (Ex.refl w) hE10) hE16) hE21)⟩
 ·have hb18p := dec_f hb18
  refine CW.cond_t rfl (not_f hb18) (CW.seq (CW.region (sd rfl (yl_assign rfl rfl (SeqR.done (tn (CW.ret (tr (rr rfl (.cons rfl .nil) ?_)))))))))
  have hM76 : (l_eqRenew p_a p_b) = (false) := by simp only [l_eqRenew, hb18, cond_true, cond_false, loopE_done, loopE_ret]
  rw [hM76]
  exact ⟨rfl, (Ex.trans (Ex.trans (Ex.refl w) hE10) hE16)⟩
set_option maxRecDepth 100000 in
set_option maxHeartbeats 2000000 in
theorem c_l_markClockS {A1 : Option Addr} {c1 : Nat} {lo1 hi1 : Nat} {w : World} (p_a : List DClock) (p_k : Int) (h1 : OwnL w lo1 hi1 23 1 (RF e_Clock) A1 p_a.length c1 p_a) (hrn2 : (0 ≤ lo1 ∧ lo1 ≤ hi1 ∧ hi1 ≤ w.heap.size)) : Cal Try.prog 55 #[.slice A1 p_a.length c1, .int .i64 (p_k)] w fun v w' => v = .int .i64 ((l_markClockS p_a p_k).1) ∧ OwnL w' lo1 hi1 23 1 (RF e_Clock) A1 p_a.length c1 ((l_markClockS p_a p_k).2) ∧ Mut [(lo1, hi1)] w w' := by
 refine Cal.of (vs := [.slice A1 p_a.length c1, .int .i64 (p_k)]) Try.func55 rfl Try.ntmps55 rfl (CW.seq (CW.region (sd rfl (yl_assign rfl rfl (SeqR.done (tn (CW.seq (CW.seq (CW.region ?_)))))))))
 refine sd rfl (yl_assign rfl rfl (SeqR.done (tn (CW.block (CW.loop (fun m13 L14 w15 => ∃ (k3 : Nat) (x11 : Int) (x12 : List DClock), m13 = p_a.length - k3 ∧ k3 ≤ p_a.length ∧ w.heap.size ≤ w15.heap.size ∧ lkp L14 0 = some (.slice A1 p_a.length c1) ∧ lkp L14 1 = some (.int .i64 (x11)) ∧ lkp L14 5 = some (.int .i64 ((k3 : Int))) ∧ OwnL w15 lo1 hi1 23 1 (RF e_Clock) A1 p_a.length c1 x12 ∧ Mut [(lo1, hi1)] w w15 ∧ loopM (B_l_markClockS_0 p_a p_k) (p_a.length - k3) k3 (x11, x12) = loopM (B_l_markClockS_0 p_a p_k) (p_a.length - 0) 0 (p_k, p_a)) (p_a.length - 0) ?_ ?_)))))
 ·exact ⟨0, p_k, p_a, rfl, (by omega), Nat.le_refl _, rfl, rfl, rfl, h1, (Mut.refl (l := [(lo1, hi1)]) w), rfl⟩
 ·rintro m16 L17 w18 ⟨k3, x11, x12, rfl, hk19, hsz21, hl22, hl23, hl24, hf25, hf26, hI20⟩
  refine CW.sub (Sub.cons hl22 (Sub.cons hl23 (Sub.cons hl24 (Sub.nil _)))) ?_
  have hf26z := Mut.size hf26
  have hbg27 := RdS.big (OwnL.rd good_Clock hf25)
  rcases Nat.lt_or_ge k3 p_a.length with hlt29 | hlt29
  ·refine CW.seq (CW.seq (CW.region (sd rfl (yl_move rfl rfl (sd rfl (yl_move rfl rfl (sd rfl (yl_len Try.un24 rfl rfl (sd rfl (yl_lss rfl rfl rfl (SeqR.done (tn ?_))))))))))))
   refine CW.cond_t rfl (lt_t hlt29) (CW.skip (tn (CW.seq (CW.block (CW.seq (CW.region (sd rfl (yl_move rfl rfl (sd rfl (yl_move rfl rfl ?_))))))))))
   refine sd rfl (yl_move rfl rfl ?_)
   obtain ⟨eb31, eo31, ec31, eA31, eS31, ebl31, el31, eR31, eC31⟩ := RdS.atD (OwnL.rd good_Clock hf25) d_Clock (i := k3) (by first | omega | assumption)
   obtain rfl := eR31
   have eC31 : Cells w18 eb31 (eo31 + k3 * 1) [.int .i64 ((x12.getD k3 d_Clock).Off)] := eC31
   refine sd rfl (yl_indexAddrN Try.un24 Try.ty23 rfl rfl rfl eA31 (by first | omega | assumption | (simp only [IntKind.wrap_i64] at *; omega)) (sd rfl (yl_fieldAddr Try.fd23_0 rfl rfl ?_)))
   have hrg32 := OwnL.rng hf25 (i := k3) (by first | omega | assumption | (simp only [IntKind.wrap_i64] at *; omega)) eb31 (by rw [eA31]; rfl)
   refine SeqR.u rfl rfl (yl_storeF (off := eo31) (i := k3) (d := 0) (dx := d_Clock) (x' := (⟨x11⟩ : DClock)) (vs := [.int .i64 (x11)]) Try.ty3 rfl hf25 eA31 rfl rfl rfl rfl rfl (by first | omega | assumption | (simp only [IntKind.wrap_i64] at *; omega)) (Nat.le_of_ble_eq_true rfl) rfl rfl ?_)
   intro w33 hB34 hO35
   have hO35z := hO35.size
   refine SeqR.done (tn (CW.region (sd rfl (yl_move rfl rfl (sd rfl (yl_add rfl rfl rfl (sd rfl (yl_assign rfl rfl (SeqR.done (bn (tn ?_)))))))))))
   refine CW.region (sd rfl (yl_move rfl rfl (sd rfl (yl_inc rfl rfl rfl (by omega) (sd rfl (yl_assign rfl rfl (SeqR.done (tn ?_))))))))
   have hB36 : B_l_markClockS_0 p_a p_k k3 (x11, x12) = .cont (IntKind.wrap .i64 (x11 + 1), (x12.set k3 (⟨x11⟩ : DClock))) := by simp only [B_l_markClockS_0, cond_true, cond_false, loopE_done, loopE_ret]
   exact ⟨p_a.length - (k3 + 1), by omega, k3 + 1, IntKind.wrap .i64 (x11 + 1), (x12.set k3 (⟨x11⟩ : DClock)), rfl, hlt29, (by omega), rfl, rfl, rfl, hB34, (Mut.only hf26 hO35 (by simp only [InR, or_false]; omega)), (loopM.cont hlt29 hB36).symm.trans hI20⟩
  ·refine CW.seq (CW.seq (CW.region (sd rfl (yl_move rfl rfl (sd rfl (yl_move rfl rfl (sd rfl (yl_len Try.un24 rfl rfl (sd rfl (yl_lss rfl rfl rfl (SeqR.done (tn ?_))))))))))))
   refine CW.cond_f rfl (lt_f hlt29) (CW.exit (tx (tx ?_)))
   have hL38 : loopM (B_l_markClockS_0 p_a p_k) (p_a.length - 0) 0 (p_k, p_a) = .done (x11, x12) := hI20.symm.trans (loopM.stop hlt29)
   refine bx (tn (CW.seq (CW.region (sd rfl (yl_move rfl rfl (sd rfl (yl_assign rfl rfl (SeqR.done (tn (CW.ret ?_))))))))))
   refine rr rfl (.cons rfl .nil) ?_
   have hM39 : (l_markClockS p_a p_k) = ((x11, x12)) := by simp only [l_markClockS, hL38, cond_true, cond_false, loopE_done, loopE_ret]
   rw [hM39]
   exact ⟨rfl, hf25, hf26⟩
set_option maxRecDepth 100000 in
set_option maxHeartbeats 2000000 in
theorem c_l_markVLeaseS {A1 : Option Addr} {c1 : Nat} {lo1 hi1 : Nat} {w : World} (p_a : List DVLease) (p_k : Int) (h1 : OwnL w lo1 hi1 162 2 (RF e_VLease) A1 p_a.length c1 p_a) (hrn2 : (0 ≤ lo1 ∧ lo1 ≤ hi1 ∧ hi1 ≤ w.heap.size)) : Cal Try.prog 56 #[.slice A1 p_a.length c1, .int .i64 (p_k)] w fun v w' => v = .int .i64 ((l_markVLeaseS p_a p_k).1) ∧ OwnL w' lo1 hi1 162 2 (RF e_VLease) A1 p_a.length c1 ((l_markVLeaseS p_a p_k).2) ∧ Mut [(lo1, hi1)] w w' := by
 refine Cal.of (vs := [.slice A1 p_a.length c1, .int .i64 (p_k)]) Try.func56 rfl Try.ntmps56 rfl (CW.seq (CW.region (sd rfl (yl_assign rfl rfl (SeqR.done (tn (CW.seq (CW.seq (CW.region ?_)))))))))
 refine sd rfl (yl_assign rfl rfl (SeqR.done (tn (CW.block (CW.loop (fun m19 L20 w21 => ∃ (k3 : Nat) (x17 : Int) (x18 : List DVLease), m19 = p_a.length - k3 ∧ k3 ≤ p_a.length ∧ w.heap.size ≤ w21.heap.size ∧ lkp L20 0 = some (.slice A1 p_a.length c1) ∧ lkp L20 1 = some (.int .i64 (x17)) ∧ lkp L20 5 = some (.int .i64 ((k3 : Int))) ∧ OwnL w21 lo1 hi1 162 2 (RF e_VLease) A1 p_a.length c1 x18 ∧ Mut [(lo1, hi1)] w w21 ∧ loopM (B_l_markVLeaseS_0 p_a p_k) (p_a.length - k3) k3 (x17, x18) = loopM (B_l_markVLeaseS_0 p_a p_k) (p_a.length - 0) 0 (p_k, p_a)) (p_a.length - 0) ?_ ?_)))))
 ·exact ⟨0, p_k, p_a, rfl, (by omega), Nat.le_refl _, rfl, rfl, rfl, h1, (Mut.refl (l := [(lo1, hi1)]) w), rfl⟩
 ·rintro m22 L23 w24 ⟨k3, x17, x18, rfl, hk25, hsz27, hl28, hl29, hl30, hf31, hf32, hI26⟩
  refine CW.sub (Sub.cons hl28 (Sub.cons hl29 (Sub.cons hl30 (Sub.nil _)))) ?_
  have hf32z := Mut.size hf32
  have hbg33 := RdS.big (OwnL.rd good_VLease hf31)
  rcases Nat.lt_or_ge k3 p_a.length with hlt35 | hlt35
  ·refine CW.seq (CW.seq (CW.region (sd rfl (yl_move rfl rfl (sd rfl (yl_move rfl rfl (sd rfl (yl_len Try.un25 rfl rfl (sd rfl (yl_lss rfl rfl rfl (SeqR.done (tn ?_))))))))))))
   refine CW.cond_t rfl (lt_t hlt35) (CW.skip (tn (CW.seq (CW.block (CW.seq (CW.region (sd rfl (yl_move rfl rfl (sd rfl (yl_move rfl rfl ?_))))))))))
   refine sd rfl (yl_move rfl rfl ?_)
   obtain ⟨eb37, eo37, ec37, eA37, eS37, ebl37, el37, eR37, eC37⟩ := RdS.atD (OwnL.rd good_VLease hf31) d_VLease (i := k3) (by first | omega | assumption)
   obtain rfl := eR37
   have eC37 : Cells w24 eb37 (eo37 + k3 * 2) [.int .i64 ((x18.getD k3 d_VLease).Ver), .int .i64 ((x18.getD k3 d_VLease).Until)] := eC37
   refine sd rfl (yl_indexAddrN Try.un25 Try.ty162 rfl rfl rfl eA37 (by first | omega | assumption | (simp only [IntKind.wrap_i64] at *; omega)) (sd rfl (yl_fieldAddr Try.fd162_0 rfl rfl ?_)))
   have hrg38 := OwnL.rng hf31 (i := k3) (by first | omega | assumption | (simp only [IntKind.wrap_i64] at *; omega)) eb37 (by rw [eA37]; rfl)
   refine SeqR.u rfl rfl (yl_storeF (off := eo37) (i := k3) (d := 0) (dx := d_VLease) (x' := (⟨x17, (x18.getD k3 d_VLease).Until⟩ : DVLease)) (vs := [.int .i64 (x17)]) Try.ty3 rfl hf31 eA37 rfl rfl rfl rfl rfl (by first | omega | assumption | (simp only [IntKind.wrap_i64] at *; omega)) (Nat.le_of_ble_eq_true rfl) rfl rfl ?_)
   intro w39 hB40 hO41
   have hO41z := hO41.size
   refine SeqR.done (tn (CW.seq (CW.region (sd rfl (yl_move rfl rfl (sd rfl (yl_add rfl rfl rfl (sd rfl (yl_assign rfl rfl (SeqR.done (tn ?_)))))))))))
   refine CW.seq (CW.region (sd rfl (yl_move rfl rfl (sd rfl (yl_move rfl rfl (sd rfl (yl_move rfl rfl ?_)))))))
   obtain ⟨eb43, eo43, ec43, eA43, eS43, ebl43, el43, eR43, eC43⟩ := RdS.atD (OwnL.rd good_VLease hB40) d_VLease (i := k3) (by first | omega | assumption)
   obtain rfl := eR43
   have eC43 : Cells w39 eb43 (eo43 + k3 * 2) [.int .i64 (((x18.set k3 (⟨x17, (x18.getD k3 d_VLease).Until⟩ : DVLease)).getD k3 d_VLease).Ver), .int .i64 (((x18.set k3 (⟨x17, (x18.getD k3 d_VLease).Until⟩ : DVLease)).getD k3 d_VLease).Until)] := eC43
   refine sd rfl (yl_indexAddrN Try.un25 Try.ty162 rfl rfl rfl eA43 (by first | omega | assumption | (simp only [IntKind.wrap_i64] at *; omega)) (sd rfl (yl_fieldAddr Try.fd162_1 rfl rfl ?_)))
   have hrg44 := OwnL.rng hB40 (i := k3) (by first | omega | assumption | (simp only [IntKind.wrap_i64] at *; omega)) eb43 (by rw [eA43]; rfl)
   refine SeqR.u rfl rfl (yl_storeF (off := eo43) (i := k3) (d := 1) (dx := d_VLease) (x' := (⟨((x18.set k3 (⟨x17, (x18.getD k3 d_VLease).Until⟩ : DVLease)).getD k3 d_VLease).Ver, IntKind.wrap .i64 (x17 + 1)⟩ : DVLease)) (vs := [.int .i64 (IntKind.wrap .i64 (x17 + 1))]) Try.ty3 rfl hB40 eA43 rfl rfl rfl rfl rfl (by first | omega | assumption | (simp only [IntKind.wrap_i64] at *; omega)) (Nat.le_of_ble_eq_true rfl) rfl rfl ?_)
   intro w45 hB46 hO47
   have hO47z := hO47.size
   refine SeqR.done (tn (CW.region (sd rfl (yl_move rfl rfl (sd rfl (yl_add rfl rfl rfl (sd rfl (yl_assign rfl rfl (SeqR.done (bn (tn ?_)))))))))))
   refine CW.region (sd rfl (yl_move rfl rfl (sd rfl (yl_inc rfl rfl rfl (by omega) (sd rfl (yl_assign rfl rfl (SeqR.done (tn ?_))))))))
   have hB48 : B_l_markVLeaseS_0 p_a p_k k3 (x17, x18) = .cont (IntKind.wrap .i64 ((IntKind.wrap .i64 (x17 + 1)) + 1), ((x18.set k3 (⟨x17, (x18.getD k3 d_VLease).Until⟩ : DVLease)).set k3 (⟨((x18.set k3 (⟨x17, (x18.getD k3 d_VLease).Until⟩ : DVLease)).getD k3 d_VLease).Ver, IntKind.wrap .i64 (x17 + 1)⟩ : DVLease))) := by simp only [B_l_markVLeaseS_0, cond_true, cond_false, loopE_done, loopE_ret]
   exact ⟨p_a.length - (k3 + 1), by omega, k3 + 1, IntKind.wrap .i64 ((IntKind.wrap .i64 (x17 + 1)) + 1), ((x18.set k3 (⟨x17, (x18.getD k3 d_VLease).Until⟩ : DVLease)).set k3 (⟨((x18.set k3 (⟨x17, (x18.getD k3 d_VLease).Until⟩ : DVLease)).getD k3 d_VLease).Ver, IntKind.wrap .i64 (x17 + 1)⟩ : DVLease)), rfl, hlt35, (by omega), rfl, rfl, rfl, hB46, (Mut.only (Mut.only hf32 hO41 (by simp only [InR, or_false]; omega)) hO47 (by simp only [InR, or_false]; omega)), (loopM.cont hlt35 hB48).symm.trans hI26⟩
  ·refine CW.seq (CW.seq (CW.region (sd rfl (yl_move rfl rfl (sd rfl (yl_move rfl rfl (sd rfl (yl_len Try.un25 rfl rfl (sd rfl (yl_lss rfl rfl rfl (SeqR.done (tn ?_))))))))))))
   refine CW.cond_f rfl (lt_f hlt35) (CW.exit (tx (tx ?_)))
   have hL51 : loopM (B_l_markVLeaseS_0 p_a p_k) (p_a.length - 0) 0 (p_k, p_a) = .done (x17, x18) := hI26.symm.trans (loopM.stop hlt35)
   refine bx (tn (CW.seq (CW.region (sd rfl (yl_move rfl rfl (sd rfl (yl_assign rfl rfl (SeqR.done (tn (CW.ret ?_))))))))))
   refine rr rfl (.cons rfl .nil) ?_
   have hM52 : (l_markVLeaseS p_a p_k) = ((x17, x18)) := by simp only [l_markVLeaseS, hL51, cond_true, cond_false, loopE_done, loopE_ret]
   rw [hM52]
   exact ⟨rfl, hf31, hf32⟩
set_option maxRecDepth 100000 in
set_option maxHeartbeats 2000000 in
theorem c_l_markRenew {A1 : Option Addr} {c1 : Nat} {lo1 hi1 : Nat} {A2 : Option Addr} {c2 : Nat} {lo2 hi2 : Nat} {w : World} (p_a : DRenew) (p_k : Int) (h1 : OwnL w lo1 hi1 23 1 (RF e_Clock) A1 p_a.Clocks.length c1 p_a.Clocks) (h2 : OwnL w lo2 hi2 162 2 (RF e_VLease) A2 p_a.Leases.length c2 p_a.Leases) (hrn3 : (0 ≤ lo1 ∧ lo1 ≤ hi1 ∧ hi1 ≤ w.heap.size)) (hrn4 : (0 ≤ lo2 ∧ lo2 ≤ hi2 ∧ hi2 ≤ w.heap.size)) (hrn5 : (hi1 ≤ lo2 ∨ hi2 ≤ lo1)) : Cal Try.prog 13 #[.agg #[.int .i64 (p_a.Now), .int .i64 (p_a.Master.Off), .slice A1 p_a.Clocks.length c1, .int .i64 (p_a.Ver), .slice A2 p_a.Leases.length c2], .int .i64 (p_k)] w fun v w' => v = .int .i64 ((l_markRenew p_a p_k).1) ∧ OwnL w' lo1 hi1 23 1 (RF e_Clock) A1 p_a.Clocks.length c1 ((l_markRenew p_a p_k).2.Clocks) ∧ OwnL w' lo2 hi2 162 2 (RF e_VLease) A2 p_a.Leases.length c2 ((l_markRenew p_a p_k).2.Leases) ∧ Mut [(lo1, hi1), (lo2, hi2)] w w' := by
 refine Cal.of (vs := [.agg #[.int .i64 (p_a.Now), .int .i64 (p_a.Master.Off), .slice A1 p_a.Clocks.length c1, .int .i64 (p_a.Ver), .slice A2 p_a.Leases.length c2], .int .i64 (p_k)]) Try.func13 rfl Try.ntmps13 rfl (CW.seq (CW.region (sd rfl (yl_box (cs := [.int .i64 (p_a.Now), .int .i64 (p_a.Master.Off), .slice A1 p_a.Clocks.length c1, .int .i64 (p_a.Ver), .slice A2 p_a.Leases.length c2]) rfl rfl rfl ?_))))
 intro b6 w7 hs8 hz9 hB10 hE11
 refine sd rfl (yl_assign rfl rfl (SeqR.done (tn (CW.seq (CW.region (sd rfl (yl_fieldAddr Try.fd27_2 rfl rfl (sd rfl (yl_load1 Try.ty24 rfl rfl ((hB10.cell 2).trans rfl) (sd rfl (yl_move rfl rfl (sd rfl (yl_call Try.en55 rfl (opvs_cons rfl (opvs_cons rfl opvs_nil)) (Cal.mono (c_l_markClockS p_a.Clocks p_k (OwnL.ex good_Clock h1 hE11) (by omega)) ?_))))))))))))))
 rintro v14 w13 ⟨rfl, h16, hm15⟩
 have hm15z := Mut.size hm15
 refine sd rfl (yl_assign rfl rfl (SeqR.done (tn (CW.seq (CW.region (sd rfl (yl_fieldAddr Try.fd27_4 rfl rfl (sd rfl (yl_load1 Try.ty25 rfl rfl (((Box.mut hB10 hm15 (fun k hk => by simp only [InR, or_false] at hk; omega)).cell 4).trans rfl) (sd rfl (yl_move rfl rfl (sd rfl (yl_call Try.en56 rfl (opvs_cons rfl (opvs_cons rfl opvs_nil)) (Cal.mono (c_l_markVLeaseS p_a.Leases ((l_markClockS p_a.Clocks p_k).1) (OwnL.mut good_VLease (OwnL.ex good_VLease h2 hE11) hm15 (fun k hk => by simp only [InR, or_false] at hk; omega)) (by omega)) ?_))))))))))))))
 rintro v21 w20 ⟨rfl, h23, hm22⟩
 have hm22z := Mut.size hm22
 refine sd rfl (yl_assign rfl rfl (SeqR.done (tn (CW.seq (CW.region (sd rfl (yl_move rfl rfl (sd rfl (yl_assign rfl rfl (SeqR.done (tn ?_)))))))))))
 refine CW.ret (rr rfl (.cons rfl .nil) ?_)
 have hM24 : (l_markRenew p_a p_k) = (((l_markVLeaseS p_a.Leases ((l_markClockS p_a.Clocks p_k).1)).1, (⟨p_a.Now, p_a.Master, (l_markClockS p_a.Clocks p_k).2, p_a.Ver, (l_markVLeaseS p_a.Leases ((l_markClockS p_a.Clocks p_k).1)).2⟩ : DRenew))) := by simp only [l_markRenew, cond_true, cond_false, loopE_done, loopE_ret]
 rw [hM24]
 exact ⟨rfl, (OwnL.mut good_Clock h16 hm22 (fun k hk => by simp only [InR, or_false] at hk; omega)), h23, (Mut.mut (Mut.mut (Mut.ex (Mut.refl (l := [(lo1, hi1), (lo2, hi2)]) w) hE11) hm15 (fun k hk => by simp only [InR, or_false] at hk ⊢; omega)) hm22 (fun k hk => by simp only [InR, or_false] at hk ⊢; omega))⟩
set_option maxRecDepth 100000 in
set_option maxHeartbeats 2000000 in
theorem c_l_heldClockS {A1 : Option Addr} {c1 : Nat} {w : World} (p_a : List DClock) (p_k : Int) (h1 : RdS w (Iv 0 w.heap.size) (RF e_Clock) 1 A1 p_a.length c1 p_a) : Cal Try.prog 57 #[.slice A1 p_a.length c1, .int .i64 (p_k)] w fun v w' => v = .int .i64 ((l_heldClockS p_a p_k)) ∧ Ex w w' := by
 refine Cal.of (vs := [.slice A1 p_a.length c1, .int .i64 (p_k)]) Try.func57 rfl Try.ntmps57 rfl (CW.seq (CW.region (sd rfl (yl_assign rfl rfl (SeqR.done (tn (CW.seq (CW.seq (CW.region ?_)))))))))
 refine sd rfl (yl_assign rfl rfl (SeqR.done (tn (CW.block (CW.loop (fun m4 L5 w6 => ∃ (k2 : Nat) (x3 : Int), m4 = p_a.length - k2 ∧ k2 ≤ p_a.length ∧ w.heap.size ≤ w6.heap.size ∧ lkp L5 0 = some (.slice A1 p_a.length c1) ∧ lkp L5 1 = some (.int .i64 (x3)) ∧ lkp L5 5 = some (.int .i64 ((k2 : Int))) ∧ RdS w6 (Iv 0 w.heap.size) (RF e_Clock) 1 A1 p_a.length c1 p_a ∧ Ex w w6 ∧ loopM (B_l_heldClockS_0 p_a p_k) (p_a.length - k2) k2 (x3) = loopM (B_l_heldClockS_0 p_a p_k) (p_a.length - 0) 0 (p_k)) (p_a.length - 0) ?_ ?_)))))
 ·exact ⟨0, p_k, rfl, (by omega), Nat.le_refl _, rfl, rfl, rfl, h1, (Ex.refl w), rfl⟩
 ·rintro m7 L8 w9 ⟨k2, x3, rfl, hk10, hsz12, hl13, hl14, hl15, hf16, hf17, hI11⟩
  refine CW.sub (Sub.cons hl13 (Sub.cons hl14 (Sub.cons hl15 (Sub.nil _)))) ?_
  have hf17z := Ex.size hf17
  have hbg18 := RdS.big hf16
  rcases Nat.lt_or_ge k2 p_a.length with hlt19 | hlt19
  ·refine CW.seq (CW.seq (CW.region (sd rfl (yl_move rfl rfl (sd rfl (yl_move rfl rfl (sd rfl (yl_len Try.un24 rfl rfl (sd rfl (yl_lss rfl rfl rfl (SeqR.done (tn ?_))))))))))))
   refine CW.cond_t rfl (lt_t hlt19) (CW.skip (tn (CW.seq (CW.block (CW.seq (CW.seq (CW.region (sd rfl (yl_move rfl rfl ?_)))))))))
   refine sd rfl (yl_move rfl rfl ?_)
   obtain ⟨eb20, eo20, ec20, eA20, eS20, ebl20, el20, eR20, eC20⟩ := RdS.atD hf16 d_Clock (i := k2) (by first | omega | assumption)
   obtain rfl := eR20
   have eC20 : Cells w9 eb20 (eo20 + k2 * 1) [.int .i64 ((p_a.getD k2 d_Clock).Off)] := eC20
   refine sd rfl (yl_indexAddrN Try.un24 Try.ty23 rfl rfl rfl eA20 (by first | omega | assumption | (simp only [IntKind.wrap_i64] at *; omega)) (sd rfl (yl_fieldAddr Try.fd23_0 rfl rfl (sd rfl (yl_load1 Try.ty3 rfl rfl (eC20 0 _ rfl) (sd rfl (yl_move rfl rfl (sd rfl (yl_neq rfl rfl rfl (SeqR.done (tn (bcase (decide (((p_a.getD k2 d_Clock).Off) = x3)) (fun hb21 => ?_) (fun hb21 => ?_)))))))))))))
   ·have hb21p := dec_t hb21
    refine CW.cond_f rfl (not_t hb21) (CW.skip (tn (CW.region (sd rfl (yl_move rfl rfl (sd rfl (yl_add rfl rfl rfl (sd rfl (yl_assign rfl rfl (SeqR.done (bn ?_)))))))))))
    refine tn (CW.region (sd rfl (yl_move rfl rfl (sd rfl (yl_inc rfl rfl rfl (by omega) (sd rfl (yl_assign rfl rfl (SeqR.done (tn ?_)))))))))
    have hB22 : B_l_heldClockS_0 p_a p_k k2 (x3) = .cont (IntKind.wrap .i64 (x3 + 1)) := by simp only [B_l_heldClockS_0, hb21, cond_true, cond_false, loopE_done, loopE_ret]
    exact ⟨p_a.length - (k2 + 1), by omega, k2 + 1, IntKind.wrap .i64 (x3 + 1), rfl, hlt19, (by omega), rfl, rfl, rfl, hf16, hf17, (loopM.cont hlt19 hB22).symm.trans hI11⟩
   ·have hb21p := dec_f hb21
    refine CW.cond_t rfl (not_f hb21) (CW.seq (CW.region (sd rfl (yl_assign rfl rfl (SeqR.done (tn (CW.ret (tr (br ?_)))))))))
    refine tr (tr ?_)
    have hB24 : B_l_heldClockS_0 p_a p_k k2 (x3) = .ret (-1) := by simp only [B_l_heldClockS_0, hb21, cond_true, cond_false, loopE_done, loopE_ret]
    have hL23 : loopM (B_l_heldClockS_0 p_a p_k) (p_a.length - 0) 0 (p_k) = .ret (-1) := hI11.symm.trans (loopM.ret hlt19 hB24)
    refine br (tr (rr rfl (.cons rfl .nil) ?_))
    have hM25 : (l_heldClockS p_a p_k) = (-1) := by simp only [l_heldClockS, hb21, hL23, cond_true, cond_false, loopE_done, loopE_ret]
    rw [hM25]
    exact ⟨rfl, hf17⟩
  ·refine CW.seq (CW.seq (CW.region (sd rfl (yl_move rfl rfl (sd rfl (yl_move rfl rfl (sd rfl (yl_len Try.un24 rfl rfl (sd rfl (yl_lss rfl rfl rfl (SeqR.done (tn ?_))))))))))))
   refine CW.cond_f rfl (lt_f hlt19) (CW.exit (tx (tx ?_)))
   have hL26 : loopM (B_l_heldClockS_0 p_a p_k) (p_a.length - 0) 0 (p_k) = .done (x3) := hI11.symm.trans (loopM.stop hlt19)
   refine bx (tn (CW.seq (CW.region (sd rfl (yl_move rfl rfl (sd rfl (yl_assign rfl rfl (SeqR.done (tn (CW.ret ?_))))))))))
   refine rr rfl (.cons rfl .nil) ?_
   have hM27 : (l_heldClockS p_a p_k) = (x3) := by simp only [l_heldClockS, hL26, cond_true, cond_false, loopE_done, loopE_ret]
   rw [hM27]
   exact ⟨rfl, hf17⟩
set_option maxRecDepth 100000 in
set_option maxHeartbeats 2000000 in
theorem c_l_heldVLeaseS {A1 : Option Addr} {c1 : Nat} {w : World} (p_a : List DVLease) (p_k : Int) (h1 : RdS w (Iv 0 w.heap.size) (RF e_VLease) 2 A1 p_a.length c1 p_a) : Cal Try.prog 58 #[.slice A1 p_a.length c1, .int .i64 (p_k)] w fun v w' => v = .int .i64 ((l_heldVLeaseS p_a p_k)) ∧ Ex w w' := by
 refine Cal.of (vs := [.slice A1 p_a.length c1, .int .i64 (p_k)]) Try.func58 rfl Try.ntmps58 rfl (CW.seq (CW.region (sd rfl (yl_assign rfl rfl (SeqR.done (tn (CW.seq (CW.seq (CW.region ?_)))))))))
 refine sd rfl (yl_assign rfl rfl (SeqR.done (tn (CW.block (CW.loop (fun m4 L5 w6 => ∃ (k2 : Nat) (x3 : Int), m4 = p_a.length - k2 ∧ k2 ≤ p_a.length ∧ w.heap.size ≤ w6.heap.size ∧ lkp L5 0 = some (.slice A1 p_a.length c1) ∧ lkp L5 1 = some (.int .i64 (x3)) ∧ lkp L5 5 = some (.int .i64 ((k2 : Int))) ∧ RdS w6 (Iv 0 w.heap.size) (RF e_VLease) 2 A1 p_a.length c1 p_a ∧ Ex w w6 ∧ loopM (B_l_heldVLeaseS_0 p_a p_k) (p_a.length - k2) k2 (x3) = loopM (B_l_heldVLeaseS_0 p_a p_k) (p_a.length - 0) 0 (p_k)) (p_a.length - 0) ?_ ?_)))))
 ·exact ⟨0, p_k, rfl, (by omega), Nat.le_refl _, rfl, rfl, rfl, h1, (Ex.refl w), rfl⟩
 ·rintro m7 L8 w9 ⟨k2, x3, rfl, hk10, hsz12, hl13, hl14, hl15, hf16, hf17, hI11⟩
  refine CW.sub (Sub.cons hl13 (Sub.cons hl14 (Sub.cons hl15 (Sub.nil _)))) ?_
  have hf17z := Ex.size hf17
  have hbg18 := RdS.big hf16
  rcases Nat.lt_or_ge k2 p_a.length with hlt19 | hlt19
  ·refine CW.seq (CW.seq (CW.region (sd rfl (yl_move rfl rfl (sd rfl (yl_move rfl rfl (sd rfl (yl_len Try.un25 rfl rfl (sd rfl (yl_lss rfl rfl rfl (SeqR.done (tn ?_))))))))))))
   refine CW.cond_t rfl (lt_t hlt19) (CW.skip (tn (CW.seq (CW.block (CW.seq (CW.seq (CW.region (sd rfl (yl_move rfl rfl ?_)))))))))
   refine sd rfl (yl_move rfl rfl ?_)
   obtain ⟨eb20, eo20, ec20, eA20, eS20, ebl20, el20, eR20, eC20⟩ := RdS.atD hf16 d_VLease (i := k2) (by first | omega | assumption)
   obtain rfl := eR20
   have eC20 : Cells w9 eb20 (eo20 + k2 * 2) [.int .i64 ((p_a.getD k2 d_VLease).Ver), .int .i64 ((p_a.getD k2 d_VLease).Until)] := eC20
   refine sd rfl (yl_indexAddrN Try.un25 Try.ty162 rfl rfl rfl eA20 (by first | omega | assumption | (simp only [IntKind.wrap_i64] at *; omega)) (sd rfl (yl_fieldAddr Try.fd162_0 rfl rfl (sd rfl (yl_load1 Try.ty3 rfl rfl (eC20 0 _ rfl) (sd rfl (yl_move rfl rfl (sd rfl (yl_neq rfl rfl rfl (SeqR.done (tn (bcase (decide (((p_a.getD k2 d_VLease).Ver) = x3)) (fun hb21 => ?_) (fun hb21 => ?_)))))))))))))
   ·have hb21p := dec_t hb21
    refine CW.cond_f rfl (not_t hb21) (CW.skip (tn (CW.seq (CW.region (sd rfl (yl_move rfl rfl (sd rfl (yl_add rfl rfl rfl (sd rfl (yl_assign rfl rfl (SeqR.done ?_)))))))))))
    refine tn (CW.seq (CW.seq (CW.region (sd rfl (yl_move rfl rfl (sd rfl (yl_move rfl rfl (sd rfl (yl_indexAddrN Try.un25 Try.ty162 rfl rfl rfl eA20 (by first | omega | assumption | (simp only [IntKind.wrap_i64] at *; omega)) (sd rfl (yl_fieldAddr Try.fd162_1 rfl rfl (sd rfl (yl_load1 Try.ty3 rfl rfl (eC20 1 _ rfl) ?_)))))))))))))
    refine sd rfl (yl_move rfl rfl (sd rfl (yl_neq rfl rfl rfl (SeqR.done (tn (bcase (decide (((p_a.getD k2 d_VLease).Until) = (IntKind.wrap .i64 (x3 + 1)))) (fun hb22 => ?_) (fun hb22 => ?_)))))))
    ·have hb22p := dec_t hb22
     refine CW.cond_f rfl (not_t hb22) (CW.skip (tn (CW.region (sd rfl (yl_move rfl rfl (sd rfl (yl_add rfl rfl rfl (sd rfl (yl_assign rfl rfl (SeqR.done (bn ?_)))))))))))
     refine tn (CW.region (sd rfl (yl_move rfl rfl (sd rfl (yl_inc rfl rfl rfl (by omega) (sd rfl (yl_assign rfl rfl (SeqR.done (tn ?_)))))))))
     have hB23 : B_l_heldVLeaseS_0 p_a p_k k2 (x3) = .cont (IntKind.wrap .i64 ((IntKind.wrap .i64 (x3 + 1)) + 1)) := by simp only [B_l_heldVLeaseS_0, hb21, hb22, cond_true, cond_false, loopE_done, loopE_ret]
     exact ⟨p_a.length - (k2 + 1), by omega, k2 + 1, IntKind.wrap .i64 ((IntKind.wrap .i64 (x3 + 1)) + 1), rfl, hlt19, (by omega), rfl, rfl, rfl, hf16, hf17, (loopM.cont hlt19 hB23).symm.trans hI11⟩
    ·have hb22p := dec_f hb22
     refine CW.cond_t rfl (not_f hb22) (CW.seq (CW.region (sd rfl (yl_assign rfl rfl (SeqR.done (tn (CW.ret (tr (br ?_)))))))))
     refine tr (tr ?_)
     have hB25 : B_l_heldVLeaseS_0 p_a p_k k2 (x3) = .ret (-1) := by simp only [B_l_heldVLeaseS_0, hb21, hb22, cond_true, cond_false, loopE_done, loopE_ret]
     have hL24 : loopM (B_l_heldVLeaseS_0 p_a p_k) (p_a.length - 0) 0 (p_k) = .ret (-1) := hI11.symm.trans (loopM.ret hlt19 hB25)
     refine br (tr (rr rfl (.cons rfl .nil) ?_))
     have hM26 : (l_heldVLeaseS p_a p_k) = (-1) := by simp only [l_heldVLeaseS, hb21, hb22, hL24, cond_true, cond_false, loopE_done, loopE_ret]
     rw [hM26]
     exact ⟨rfl, hf17⟩
   ·have hb21p := dec_f hb21
    refine CW.cond_t rfl (not_f hb21) (CW.seq (CW.region (sd rfl (yl_assign rfl rfl (SeqR.done (tn (CW.ret (tr (br ?_)))))))))
    refine tr (tr ?_)
    have hB28 : B_l_heldVLeaseS_0 p_a p_k k2 (x3) = .ret (-1) := by simp only [B_l_heldVLeaseS_0, hb21, cond_true, cond_false, loopE_done, loopE_ret]
    have hL27 : loopM (B_l_heldVLeaseS_0 p_a p_k) (p_a.length - 0) 0 (p_k) = .ret (-1) := hI11.symm.trans (loopM.ret hlt19 hB28)
    refine br (tr (rr rfl (.cons rfl .nil) ?_))
    have hM29 : (l_heldVLeaseS p_a p_k) = (-1) := by simp only [l_heldVLeaseS, hb21, hL27, cond_true, cond_false, loopE_done, loopE_ret]
    rw [hM29]
    exact ⟨rfl, hf17⟩
  ·refine CW.seq (CW.seq (CW.region (sd rfl (yl_move rfl rfl (sd rfl (yl_move rfl rfl (sd rfl (yl_len Try.un25 rfl rfl (sd rfl (yl_lss rfl rfl rfl (SeqR.done (tn ?_))))))))))))
   refine CW.cond_f rfl (lt_f hlt19) (CW.exit (tx (tx ?_)))
   have hL30 : loopM (B_l_heldVLeaseS_0 p_a p_k) (p_a.length - 0) 0 (p_k) = .done (x3) := hI11.symm.trans (loopM.stop hlt19)
   refine bx (tn (CW.seq (CW.region (sd rfl (yl_move rfl rfl (sd rfl (yl_assign rfl rfl (SeqR.done (tn (CW.ret ?_))))))))))
   refine rr rfl (.cons rfl .nil) ?_
   have hM31 : (l_heldVLeaseS p_a p_k) = (x3) := by simp only [l_heldVLeaseS, hL30, cond_true, cond_false, loopE_done, loopE_ret]
   rw [hM31]
   exact ⟨rfl, hf17⟩
set_option maxRecDepth 100000 in
set_option maxHeartbeats 2000000 in
theorem c_l_heldRenew {A1 : Option Addr} {c1 : Nat} {A2 : Option Addr} {c2 : Nat} {w : World} (p_a : DRenew) (p_k : Int) (h1 : RdS w (Iv 0 w.heap.size) (RF e_Clock) 1 A1 p_a.Clocks.length c1 p_a.Clocks) (h2 : RdS w (Iv 0 w.heap.size) (RF e_VLease) 2 A2 p_a.Leases.length c2 p_a.Leases) : Cal Try.prog 14 #[.agg #[.int .i64 (p_a.Now), .int .i64 (p_a.Master.Off), .slice A1 p_a.Clocks.length c1, .int .i64 (p_a.Ver), .slice A2 p_a.Leases.length c2], .int .i64 (p_k)] w fun v w' => v = .int .i64 ((l_heldRenew p_a p_k)) ∧ Ex w w' := by
 refine Cal.of (vs := [.agg #[.int .i64 (p_a.Now), .int .i64 (p_a.Master.Off), .slice A1 p_a.Clocks.length c1, .int .i64 (p_a.Ver), .slice A2 p_a.Leases.length c2], .int .i64 (p_k)]) Try.func14 rfl Try.ntmps14 rfl (CW.seq (CW.region (sd rfl (yl_box (cs := [.int .i64 (p_a.Now), .int .i64 (p_a.Master.Off), .slice A1 p_a.Clocks.length c1, .int .i64 (p_a.Ver), .slice A2 p_a.Leases.length c2]) rfl rfl rfl ?_))))
 intro b3 w4 hs5 hz6 hB7 hE8
 refine sd rfl (yl_assign rfl rfl (SeqR.done (tn (CW.seq (CW.region (sd rfl (yl_fieldAddr Try.fd27_2 rfl rfl (sd rfl (yl_load1 Try.ty24 rfl rfl ((hB7.cell 2).trans rfl) (sd rfl (yl_move rfl rfl (sd rfl (yl_call Try.en57 rfl (opvs_cons rfl (opvs_cons rfl opvs_nil)) (Cal.mono (c_l_heldClockS p_a.Clocks p_k (RdS.up (RdS.ex good_Clock h1 hE8) good_Clock)) ?_))))))))))))))
 rintro v11 w10 ⟨rfl, hE12⟩
 have hE12z := Ex.size hE12
 refine sd rfl (yl_assign rfl rfl (SeqR.done (tn (CW.seq (CW.seq (CW.region (sd rfl (yl_move rfl rfl (sd rfl (yl_lss rfl rfl rfl (SeqR.done ?_)))))))))))
 refine tn (bcase (decide ((l_heldClockS p_a.Clocks p_k) < 0)) (fun hb13 => ?_) (fun hb13 => ?_))
 ·have hb13p := dec_t hb13
  refine CW.cond_t rfl hb13 (CW.seq (CW.region (sd rfl (yl_assign rfl rfl (SeqR.done (tn (CW.ret (tr (rr rfl (.cons rfl .nil) ?_)))))))))
  have hM14 : (l_heldRenew p_a p_k) = (-1) := by simp only [l_heldRenew, hb13, cond_true, cond_false, loopE_done, loopE_ret]
  rw [hM14]
  exact ⟨rfl, (Ex.trans (Ex.trans (Ex.refl w) hE8) hE12)⟩
 ·have hb13p := dec_f hb13
  refine CW.cond_f rfl hb13 (CW.skip (tn (CW.seq (CW.region (sd rfl (yl_fieldAddr Try.fd27_4 rfl rfl (sd rfl (yl_load1 Try.ty25 rfl rfl (((Box.ex hB7 hE12).cell 4).trans rfl) (sd rfl (yl_move rfl rfl (sd rfl (yl_call Try.en58 rfl (opvs_cons rfl (opvs_cons rfl opvs_nil)) (Cal.mono (c_l_heldVLeaseS p_a.Leases (l_heldClockS p_a.Clocks p_k) (RdS.up (RdS.ex good_VLease (RdS.ex good_VLease h2 hE8) hE12) good_VLease)) ?_)))))))))))))
  rintro v21 w20 ⟨rfl, hE22⟩
  have hE22z := Ex.size hE22
  refine sd rfl (yl_assign rfl rfl (SeqR.done (tn (CW.seq (CW.seq (CW.region (sd rfl (yl_move rfl rfl (sd rfl (yl_lss rfl rfl rfl (SeqR.done ?_)))))))))))
  refine tn (bcase (decide ((l_heldVLeaseS p_a.Leases (l_heldClockS p_a.Clocks p_k)) < 0)) (fun hb23 => ?_) (fun hb23 => ?_))
  ·have hb23p := dec_t hb23
   refine CW.cond_t rfl hb23 (CW.seq (CW.region (sd rfl (yl_assign rfl rfl (SeqR.done (tn (CW.ret (tr (rr rfl (.cons rfl .nil) ?_)))))))))
   have hM24 : (l_heldRenew p_a p_k) = (-1) := by simp only [l_heldRenew, hb13, hb23, cond_true, cond_false, loopE_done, loopE_ret]
   rw [hM24]
   exact ⟨rfl, (Ex.trans (Ex.trans (Ex.trans (Ex.refl w) hE8) hE12) hE22)⟩
  ·have hb23p := dec_f hb23
   refine CW.cond_f rfl hb23 (CW.skip (tn (CW.seq (CW.region (sd rfl (yl_move rfl rfl (sd rfl (yl_assign rfl rfl (SeqR.done (tn ?_))))))))))
   refine CW.ret (rr rfl (.cons rfl .nil) ?_)
   have hM28 : (l_heldRenew p_a p_k) = ((l_heldVLeaseS p_a.Leases (l_heldClockS p_a.Clocks p_k))) := by simp only [l_heldRenew, hb13, hb23, cond_true, cond_false, loopE_done, loopE_ret]
   rw [hM28]
   exact ⟨rfl, (Ex.trans (Ex.trans (Ex.trans (Ex.refl w) hE8) hE12) hE22)⟩
set_option maxRecDepth 100000 in
set_option maxHeartbeats 2000000 in
theorem c_l_FnExactNewRenew {w : World} (p_aServers : Int) (pre0 : wfI p_aServers) : Cal Try.prog 3 #[.int .i64 (p_aServers)] w fun v w' => v = .bool ((l_FnExactNewRenew p_aServers)) ∧ Ex w w' := by
 refine Cal.of (vs := [.int .i64 (p_aServers)]) Try.func3 rfl Try.ntmps3 rfl (CW.seq (CW.region (sd rfl (yl_assign rfl rfl (SeqR.done (tn (CW.seq (CW.region (sd rfl (yl_move rfl rfl ?_))))))))))
 refine sd rfl (yl_call Try.en10 rfl (opvs_cons rfl opvs_nil) (Cal.mono (c_s_NewRenew p_aServers) ?_))
 rintro v5 w1 ⟨A2, c2, lo2, hi2, A3, c3, lo3, hi3, rfl, h2, h3, ho4, hrn7, hrn8, hrn9, hE6⟩
 have hE6z := Ex.size hE6
 refine sd rfl (yl_move rfl rfl (sd rfl (yl_extract rfl rfl rfl (sd rfl (yl_extract rfl rfl rfl (sd rfl (yl_alloc Try.ty27 (cs := [.int .i64 (0), .int .i64 (0), .slice none 0 0, .int .i64 (0), .slice none 0 0]) rfl rfl ?_)))))))
 intro b10 w11 hs12 hz13 hB14 hE15
 refine SeqR.u rfl rfl (yl_store (vs := [.int .i64 ((s_NewRenew p_aServers).1.Now), .int .i64 ((s_NewRenew p_aServers).1.Master.Off), .slice A2 (((s_NewRenew p_aServers).1.Clocks).length) c2, .int .i64 ((s_NewRenew p_aServers).1.Ver), .slice A3 (((s_NewRenew p_aServers).1.Leases).length) c3]) Try.ty27 rfl rfl rfl rfl rfl rfl hB14 (Nat.le_of_ble_eq_true rfl) ?_)
 intro w16 hB17 hO18
 have hB17 : Box w16 b10 27 [.int .i64 ((s_NewRenew p_aServers).1.Now), .int .i64 ((s_NewRenew p_aServers).1.Master.Off), .slice A2 (((s_NewRenew p_aServers).1.Clocks).length) c2, .int .i64 ((s_NewRenew p_aServers).1.Ver), .slice A3 (((s_NewRenew p_aServers).1.Leases).length) c3] := hB17
 have hO18z := hO18.size
 refine sd rfl (yl_assign rfl rfl (SeqR.done (tn (CW.seq (CW.region (sd rfl (yl_move rfl rfl (sd rfl (yl_call Try.en11 rfl (opvs_cons rfl opvs_nil) (Cal.mono (c_i_NewRenew p_aServers) ?_))))))))))
 rintro v23 w19 ⟨A20, c20, lo20, hi20, A21, c21, lo21, hi21, rfl, h20, h21, ho22, hrn25, hrn26, hrn27, hE24⟩
 have hE24z := Ex.size hE24
 refine sd rfl (yl_move rfl rfl (sd rfl (yl_extract rfl rfl rfl (sd rfl (yl_extract rfl rfl rfl (sd rfl (yl_alloc Try.ty27 (cs := [.int .i64 (0), .int .i64 (0), .slice none 0 0, .int .i64 (0), .slice none 0 0]) rfl rfl ?_)))))))
 intro b28 w29 hs30 hz31 hB32 hE33
 refine SeqR.u rfl rfl (yl_store (vs := [.int .i64 ((i_NewRenew p_aServers).1.Now), .int .i64 ((i_NewRenew p_aServers).1.Master.Off), .slice A20 (((i_NewRenew p_aServers).1.Clocks).length) c20, .int .i64 ((i_NewRenew p_aServers).1.Ver), .slice A21 (((i_NewRenew p_aServers).1.Leases).length) c21]) Try.ty27 rfl rfl rfl rfl rfl rfl hB32 (Nat.le_of_ble_eq_true rfl) ?_)
 intro w34 hB35 hO36
 have hB35 : Box w34 b28 27 [.int .i64 ((i_NewRenew p_aServers).1.Now), .int .i64 ((i_NewRenew p_aServers).1.Master.Off), .slice A20 (((i_NewRenew p_aServers).1.Clocks).length) c20, .int .i64 ((i_NewRenew p_aServers).1.Ver), .slice A21 (((i_NewRenew p_aServers).1.Leases).length) c21] := hB35
 have hO36z := hO36.size
 refine sd rfl (yl_assign rfl rfl (SeqR.done (tn (CW.seq (CW.seq (CW.region (sd rfl (yl_loadN (cs := [.int .i64 ((i_NewRenew p_aServers).1.Now), .int .i64 ((i_NewRenew p_aServers).1.Master.Off), .slice A20 (((i_NewRenew p_aServers).1.Clocks).length) c20, .int .i64 ((i_NewRenew p_aServers).1.Ver), .slice A21 (((i_NewRenew p_aServers).1.Leases).length) c21]) Try.ty27 rfl rfl (hB35.cells (n := 5) rfl) rfl ?_))))))))
 have q39 := Box.only (Box.ex (Box.ex hB17 hE24) hE33) hO36 (by omega)
 refine sd rfl (yl_loadN (cs := [.int .i64 ((s_NewRenew p_aServers).1.Now), .int .i64 ((s_NewRenew p_aServers).1.Master.Off), .slice A2 (((s_NewRenew p_aServers).1.Clocks).length) c2, .int .i64 ((s_NewRenew p_aServers).1.Ver), .slice A3 (((s_NewRenew p_aServers).1.Leases).length) c3]) Try.ty27 rfl rfl (q39.cells (n := 5) rfl) rfl ?_)
 have q42 := OwnL.only good_Clock (OwnL.ex good_Clock h20 hE33) hO36 (by omega)
 have q45 := OwnL.only good_VLease (OwnL.ex good_VLease h21 hE33) hO36 (by omega)
 have q51 := OwnL.only good_Clock (OwnL.ex good_Clock (OwnL.ex good_Clock (OwnL.only good_Clock (OwnL.ex good_Clock h2 hE15) hO18 (by omega)) hE24) hE33) hO36 (by omega)
 have q57 := OwnL.only good_VLease (OwnL.ex good_VLease (OwnL.ex good_VLease (OwnL.only good_VLease (OwnL.ex good_VLease h3 hE15) hO18 (by omega)) hE24) hE33) hO36 (by omega)
 refine sd rfl (yl_call Try.en12 rfl (opvs_cons rfl (opvs_cons rfl opvs_nil)) (Cal.mono (c_l_eqRenew ((i_NewRenew p_aServers).1) ((s_NewRenew p_aServers).1) (RdS.up (OwnL.rd good_Clock q42) good_Clock) (RdS.up (OwnL.rd good_VLease q45) good_VLease) (RdS.up (OwnL.rd good_Clock q51) good_Clock) (RdS.up (OwnL.rd good_VLease q57) good_VLease)) ?_))
 rintro v59 w58 ⟨rfl, hE60⟩
 have hE60z := Ex.size hE60
 refine sd rfl (yl_not rfl rfl (sd rfl (yl_move rfl rfl (bcase (l_eqRenew ((i_NewRenew p_aServers).1) ((s_NewRenew p_aServers).1)) (fun hb61 => ?_) (fun hb61 => ?_)))))
 ·refine sy rfl rfl (not_t hb61) (yl_move rfl rfl (sy rfl rfl (not_t hb61) (yl_move rfl rfl (sy rfl rfl (not_t hb61) (yl_bneq Try.un4 rfl rfl rfl (sd rfl (yl_pick_f rfl rfl (not_t hb61) rfl (SeqR.done (tn (bcase (((i_NewRenew p_aServers).2) == ((s_NewRenew p_aServers).2)) (fun hb62 => ?_) (fun hb62 => ?_)))))))))))
  ·refine CW.cond_f rfl (not_t hb62) (CW.skip (tn (CW.seq (CW.region (sd rfl (yl_assign rfl rfl (SeqR.done (tn (CW.seq ?_)))))))))
   refine CW.region ?_
   have q63 := Box.ex hB35 hE60
   refine sd rfl (yl_loadN (cs := [.int .i64 ((i_NewRenew p_aServers).1.Now), .int .i64 ((i_NewRenew p_aServers).1.Master.Off), .slice A20 (((i_NewRenew p_aServers).1.Clocks).length) c20, .int .i64 ((i_NewRenew p_aServers).1.Ver), .slice A21 (((i_NewRenew p_aServers).1.Leases).length) c21]) Try.ty27 rfl rfl (q63.cells (n := 5) rfl) rfl (sd rfl (yl_move rfl rfl (sd rfl (yl_call Try.en13 rfl (opvs_cons rfl (opvs_cons rfl opvs_nil)) (Cal.mono (c_l_markRenew ((i_NewRenew p_aServers).1) 1 (OwnL.ex good_Clock q42 hE60) (OwnL.ex good_VLease q45 hE60) (by omega) (by omega) (by omega)) ?_))))))
   rintro v67 w66 ⟨rfl, h69, h70, hm68⟩
   have hm68z := Mut.size hm68
   refine sd rfl (yl_assign rfl rfl (SeqR.done (tn (CW.seq (CW.region (sd rfl (yl_assign rfl rfl (SeqR.done (tn (CW.seq ?_))))))))))
   refine CW.region ?_
   have q71 := Box.mut q63 hm68 (fun k hk => by simp only [InR, or_false] at hk; omega)
   refine sd rfl (yl_loadN (cs := [.int .i64 ((i_NewRenew p_aServers).1.Now), .int .i64 ((i_NewRenew p_aServers).1.Master.Off), .slice A20 (((i_NewRenew p_aServers).1.Clocks).length) c20, .int .i64 ((i_NewRenew p_aServers).1.Ver), .slice A21 (((i_NewRenew p_aServers).1.Leases).length) c21]) Try.ty27 rfl rfl (q71.cells (n := 5) rfl) rfl (sd rfl (yl_move rfl rfl ?_)))
   have hle72 := OwnL.len h69
   have hle74 := OwnL.len h70
   refine sd rfl (yl_call Try.en14 rfl (opvs_cons rfl (opvs_cons rfl opvs_nil)) (Cal.mono (Cal.args (by rw [← hle72, ← hle74]) (c_l_heldRenew (⟨(i_NewRenew p_aServers).1.Now, (i_NewRenew p_aServers).1.Master, (l_markRenew ((i_NewRenew p_aServers).1) 1).2.Clocks, (i_NewRenew p_aServers).1.Ver, (l_markRenew ((i_NewRenew p_aServers).1) 1).2.Leases⟩ : DRenew) 1 (RdS.fix (RdS.up (OwnL.rd good_Clock h69) good_Clock)) (RdS.fix (RdS.up (OwnL.rd good_VLease h70) good_VLease)))) ?_))
   rintro v77 w76 ⟨rfl, hE78⟩
   have hE78z := Ex.size hE78
   refine sd rfl (yl_assign rfl rfl (SeqR.done (tn (CW.seq (CW.seq (CW.region (sd rfl (yl_move rfl rfl (sd rfl (yl_lss rfl rfl rfl (SeqR.done ?_)))))))))))
   refine tn (bcase (decide ((l_heldRenew (⟨(i_NewRenew p_aServers).1.Now, (i_NewRenew p_aServers).1.Master, (l_markRenew ((i_NewRenew p_aServers).1) 1).2.Clocks, (i_NewRenew p_aServers).1.Ver, (l_markRenew ((i_NewRenew p_aServers).1) 1).2.Leases⟩ : DRenew) 1) < 0)) (fun hb79 => ?_) (fun hb79 => ?_))
   ·have hb79p := dec_t hb79
    refine CW.cond_t rfl hb79 (CW.seq (CW.region (sd rfl (yl_assign rfl rfl (SeqR.done (tn (CW.ret (tr (rr rfl (.cons rfl .nil) ?_)))))))))
    have hM80 : (l_FnExactNewRenew p_aServers) = (false) := by simp only [l_FnExactNewRenew, hb61, hb62, hb79, cond_true, cond_false, loopE_done, loopE_ret]
    rw [hM80]
    exact ⟨rfl, (Ex.trans (Ex.mut (Ex.trans (Below.only (Ex.trans (Ex.trans (Below.only (Ex.trans (Ex.trans (Ex.refl w) hE6) hE15) hO18 (by omega)) hE24) hE33) hO36 (by omega)) hE60) hm68 (fun k hk => by simp only [InR, or_false] at hk; omega)) hE78)⟩
   ·have hb79p := dec_f hb79
    refine CW.cond_f rfl hb79 (CW.skip (tn (CW.seq (CW.seq (CW.region (sd rfl (yl_move rfl rfl (sd rfl (yl_move rfl rfl (sd rfl (yl_neq rfl rfl rfl ?_)))))))))))
    refine SeqR.done (tn (bcase (decide ((l_heldRenew (⟨(i_NewRenew p_aServers).1.Now, (i_NewRenew p_aServers).1.Master, (l_markRenew ((i_NewRenew p_aServers).1) 1).2.Clocks, (i_NewRenew p_aServers).1.Ver, (l_markRenew ((i_NewRenew p_aServers).1) 1).2.Leases⟩ : DRenew) 1) = ((l_markRenew ((i_NewRenew p_aServers).1) 1).1))) (fun hb90 => ?_) (fun hb90 => ?_)))
    ·have hb90p := dec_t hb90
     refine CW.cond_f rfl (not_t hb90) (CW.skip (tn (CW.seq (CW.region (sd rfl (yl_move rfl rfl (sd rfl (yl_call Try.en11 rfl (opvs_cons rfl opvs_nil) (Cal.mono (c_i_NewRenew p_aServers) ?_)))))))))
     rintro v95 w91 ⟨A92, c92, lo92, hi92, A93, c93, lo93, hi93, rfl, h92, h93, ho94, hrn97, hrn98, hrn99, hE96⟩
     have hE96z := Ex.size hE96
     refine sd rfl (yl_move rfl rfl (sd rfl (yl_extract rfl rfl rfl (sd rfl (yl_extract rfl rfl rfl (sd rfl (yl_alloc Try.ty27 (cs := [.int .i64 (0), .int .i64 (0), .slice none 0 0, .int .i64 (0), .slice none 0 0]) rfl rfl ?_)))))))
     intro b100 w101 hs102 hz103 hB104 hE105
     refine SeqR.u rfl rfl (yl_store (vs := [.int .i64 ((i_NewRenew p_aServers).1.Now), .int .i64 ((i_NewRenew p_aServers).1.Master.Off), .slice A92 (((i_NewRenew p_aServers).1.Clocks).length) c92, .int .i64 ((i_NewRenew p_aServers).1.Ver), .slice A93 (((i_NewRenew p_aServers).1.Leases).length) c93]) Try.ty27 rfl rfl rfl rfl rfl rfl hB104 (Nat.le_of_ble_eq_true rfl) ?_)
     intro w106 hB107 hO108
     have hB107 : Box w106 b100 27 [.int .i64 ((i_NewRenew p_aServers).1.Now), .int .i64 ((i_NewRenew p_aServers).1.Master.Off), .slice A92 (((i_NewRenew p_aServers).1.Clocks).length) c92, .int .i64 ((i_NewRenew p_aServers).1.Ver), .slice A93 (((i_NewRenew p_aServers).1.Leases).length) c93] := hB107
     have hO108z := hO108.size
     refine sd rfl (yl_assign rfl rfl (SeqR.done (tn (CW.seq (CW.seq (CW.region (sd rfl (yl_loadN (cs := [.int .i64 ((i_NewRenew p_aServers).1.Now), .int .i64 ((i_NewRenew p_aServers).1.Master.Off), .slice A92 (((i_NewRenew p_aServers).1.Clocks).length) c92, .int .i64 ((i_NewRenew p_aServers).1.Ver), .slice A93 (((i_NewRenew p_aServers).1.Leases).length) c93]) Try.ty27 rfl rfl (hB107.cells (n := 5) rfl) rfl (sd rfl (yl_loadN (cs := [.int .i64 ((s_NewRenew p_aServers).1.Now), .int .i64 ((s_NewRenew p_aServers).1.Master.Off), .slice A2 (((s_NewRenew p_aServers).1.Clocks).length) c2, .int .i64 ((s_NewRenew p_aServers).1.Ver), .slice A3 (((s_NewRenew p_aServers).1.Leases).length) c3]) Try.ty27 rfl rfl ((Box.only (Box.ex (Box.ex (Box.ex (Box.mut (Box.ex q39 hE60) hm68 (fun k hk => by simp only [InR, or_false] at hk; omega)) hE78) hE96) hE105) hO108 (by omega)).cells (n := 5) rfl) rfl (sd rfl (yl_call Try.en12 rfl (opvs_cons rfl (opvs_cons rfl opvs_nil)) (Cal.mono (c_l_eqRenew ((i_NewRenew p_aServers).1) ((s_NewRenew p_aServers).1) (RdS.up (OwnL.rd good_Clock (OwnL.only good_Clock (OwnL.ex good_Clock h92 hE105) hO108 (by omega))) good_Clock) (RdS.up (OwnL.rd good_VLease (OwnL.only good_VLease (OwnL.ex good_VLease h93 hE105) hO108 (by omega))) good_VLease) (RdS.up (OwnL.rd good_Clock (OwnL.only good_Clock (OwnL.ex good_Clock (OwnL.ex good_Clock (OwnL.ex good_Clock (OwnL.mut good_Clock (OwnL.ex good_Clock q51 hE60) hm68 (fun k hk => by simp only [InR, or_false] at hk; omega)) hE78) hE96) hE105) hO108 (by omega))) good_Clock) (RdS.up (OwnL.rd good_VLease (OwnL.only good_VLease (OwnL.ex good_VLease (OwnL.ex good_VLease (OwnL.ex good_VLease (OwnL.mut good_VLease (OwnL.ex good_VLease q57 hE60) hm68 (fun k hk => by simp only [InR, or_false] at hk; omega)) hE78) hE96) hE105) hO108 (by omega))) good_VLease)) ?_)))))))))))))
     rintro v136 w135 ⟨rfl, hE137⟩
     have hE137z := Ex.size hE137
     refine sd rfl (yl_not rfl rfl (sd rfl (yl_move rfl rfl (sy rfl rfl (not_t hb61) (yl_move rfl rfl (sy rfl rfl (not_t hb61) (yl_move rfl rfl (sy rfl rfl (not_t hb61) (yl_bneq Try.un4 rfl rfl rfl (sd rfl (yl_pick_f rfl rfl (not_t hb61) rfl (SeqR.done (tn (CW.cond_f rfl (not_t hb62) ?_))))))))))))))
     refine CW.skip (tn (CW.seq (CW.region (sd rfl (yl_assign rfl rfl (SeqR.done (tn (CW.seq (CW.region ?_)))))))))
     refine sd rfl (yl_loadN (cs := [.int .i64 ((i_NewRenew p_aServers).1.Now), .int .i64 ((i_NewRenew p_aServers).1.Master.Off), .slice A20 (((i_NewRenew p_aServers).1.Clocks).length) c20, .int .i64 ((i_NewRenew p_aServers).1.Ver), .slice A21 (((i_NewRenew p_aServers).1.Leases).length) c21]) Try.ty27 rfl rfl ((Box.ex (Box.only (Box.ex (Box.ex (Box.ex q71 hE78) hE96) hE105) hO108 (by omega)) hE137).cells (n := 5) rfl) rfl (sd rfl (yl_move rfl rfl ?_)))
     have q148 := OwnL.ex good_Clock (OwnL.only good_Clock (OwnL.ex good_Clock (OwnL.ex good_Clock (OwnL.ex good_Clock h69 hE78) hE96) hE105) hO108 (by omega)) hE137
     have hle143 := OwnL.len q148
     have q155 := OwnL.ex good_VLease (OwnL.only good_VLease (OwnL.ex good_VLease (OwnL.ex good_VLease (OwnL.ex good_VLease h70 hE78) hE96) hE105) hO108 (by omega)) hE137
     have hle150 := OwnL.len q155
     refine sd rfl (yl_call Try.en14 rfl (opvs_cons rfl (opvs_cons rfl opvs_nil)) (Cal.mono (Cal.args (by rw [← hle143, ← hle150]) (c_l_heldRenew (⟨(i_NewRenew p_aServers).1.Now, (i_NewRenew p_aServers).1.Master, (l_markRenew ((i_NewRenew p_aServers).1) 1).2.Clocks, (i_NewRenew p_aServers).1.Ver, (l_markRenew ((i_NewRenew p_aServers).1) 1).2.Leases⟩ : DRenew) 1 (RdS.fix (RdS.up (OwnL.rd good_Clock q148) good_Clock)) (RdS.fix (RdS.up (OwnL.rd good_VLease q155) good_VLease)))) ?_))
     rintro v158 w157 ⟨rfl, hE159⟩
     have hE159z := Ex.size hE159
     refine sd rfl (yl_assign rfl rfl (SeqR.done (tn (CW.seq (CW.seq (CW.region (sd rfl (yl_move rfl rfl (sd rfl (yl_lss rfl rfl rfl (SeqR.done ?_)))))))))))
     refine tn (CW.cond_f rfl hb79 (CW.skip (tn (CW.seq (CW.seq (CW.region (sd rfl (yl_move rfl rfl (sd rfl (yl_move rfl rfl ?_))))))))))
     refine sd rfl (yl_neq rfl rfl rfl (SeqR.done (tn (CW.cond_f rfl (not_t hb90) (CW.skip (tn (CW.seq (CW.region (sd rfl (yl_assign rfl rfl ?_))))))))))
     refine SeqR.done (tn (CW.ret (rr rfl (.cons rfl .nil) ?_)))
     have hM160 : (l_FnExactNewRenew p_aServers) = (true) := by simp only [l_FnExactNewRenew, hb61, hb62, hb79, hb90, cond_true, cond_false, loopE_done, loopE_ret]
     rw [hM160]
     exact ⟨rfl, (Ex.trans (Ex.trans (Below.only (Ex.trans (Ex.trans (Ex.trans (Ex.mut (Ex.trans (Below.only (Ex.trans (Ex.trans (Below.only (Ex.trans (Ex.trans (Ex.refl w) hE6) hE15) hO18 (by omega)) hE24) hE33) hO36 (by omega)) hE60) hm68 (fun k hk => by simp only [InR, or_false] at hk; omega)) hE78) hE96) hE105) hO108 (by omega)) hE137) hE159)⟩
    ·have hb90p := dec_f hb90
     refine CW.cond_t rfl (not_f hb90) (CW.seq (CW.region (sd rfl (yl_assign rfl rfl (SeqR.done (tn (CW.ret (tr (rr rfl (.cons rfl .nil) ?_)))))))))
     have hM175 : (l_FnExactNewRenew p_aServers) = (false) := by simp only [l_FnExactNewRenew, hb61, hb62, hb79, hb90, cond_true, cond_false, loopE_done, loopE_ret]
     rw [hM175]
     exact ⟨rfl, (Ex.trans (Ex.mut (Ex.trans (Below.only (Ex.trans (Ex.trans (Below.only (Ex.trans (Ex.trans (Ex.refl w) hE6) hE15) hO18 (by omega)) hE24) hE33) hO36 (by omega)) hE60) hm68 (fun k hk => by simp only [InR, or_false] at hk; omega)) hE78)⟩
  ·refine CW.cond_t rfl (not_f hb62) (CW.seq (CW.region (sd rfl (yl_assign rfl rfl (SeqR.done (tn (CW.ret (tr (rr rfl (.cons rfl .nil) ?_)))))))))
   have hM185 : (l_FnExactNewRenew p_aServers) = (false) := by simp only [l_FnExactNewRenew, hb61, hb62, cond_true, cond_false, loopE_done, loopE_ret]
   rw [hM185]
   exact ⟨rfl, (Ex.trans (Below.only (Ex.trans (Ex.trans (Below.only (Ex.trans (Ex.trans (Ex.refl w) hE6) hE15) hO18 (by omega)) hE24) hE33) hO36 (by omega)) hE60)⟩
 ·refine sz rfl rfl (not_f hb61) (sz rfl rfl (not_f hb61) (sz rfl rfl (not_f hb61) (sd rfl (yl_pick_t rfl rfl (not_f hb61) rfl (SeqR.done (tn (CW.cond_t rfl rfl (CW.seq (CW.region ?_)))))))))
  refine sd rfl (yl_assign rfl rfl (SeqR.done (tn (CW.ret (tr (rr rfl (.cons rfl .nil) ?_))))))
  have hM193 : (l_FnExactNewRenew p_aServers) = (false) := by simp only [l_FnExactNewRenew, hb61, cond_true, cond_false, loopE_done, loopE_ret]
  rw [hM193]
  exact ⟨rfl, (Ex.trans (Below.only (Ex.trans (Ex.trans (Below.only (Ex.trans (Ex.trans (Ex.refl w) hE6) hE15) hO18 (by omega)) hE24) hE33) hO36 (by omega)) hE60)⟩
end Go.Proofs.Ytfmepgbpbbneaaa
