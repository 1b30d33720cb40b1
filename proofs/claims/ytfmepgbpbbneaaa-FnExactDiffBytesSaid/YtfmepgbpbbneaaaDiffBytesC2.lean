/- Diff Bytes: what each call returns, part 2. -/
import Derived.Test.YtfmepgbpbbneaaaDiffBytesC1
set_option linter.unusedVariables false
set_option linter.unusedSimpArgs false
namespace Go.Proofs.Ytfmepgbpbbneaaa
open Go.RowKit Go.X
set_option maxRecDepth 100000 in
set_option maxHeartbeats 2000000 in
theorem c_i_GoodDiff {A1 : Option Addr} {c1 : Nat} {w : World} (p_d : DDiff) (h1 : RdS w (Iv 0 w.heap.size) (RF e_FeedItem) 5 A1 p_d.List.length c1 p_d.List) (o2 : ok_Diff p_d) : Cal Try.prog 66 #[.agg #[.int .i64 (p_d.From), .int .i64 (p_d.To), .slice A1 p_d.List.length c1]] w fun v w' => v = .bool ((i_GoodDiff p_d)) ∧ Ex w w' := by
 have hol3 := o2.1
 refine Cal.of (vs := [.agg #[.int .i64 (p_d.From), .int .i64 (p_d.To), .slice A1 p_d.List.length c1]]) Try.func66 rfl Try.ntmps66 rfl (CW.seq (CW.region (sd rfl (yl_box (cs := [.int .i64 (p_d.From), .int .i64 (p_d.To), .slice A1 p_d.List.length c1]) rfl rfl rfl ?_))))
 intro b4 w5 hs6 hz7 hB8 hE9
 refine sd rfl (yl_assign rfl rfl (SeqR.done (tn (CW.seq (CW.region (sd rfl (yl_fieldAddr Try.fd41_0 rfl rfl (sd rfl (yl_load1 Try.ty3 rfl rfl ((hB8.cell 0).trans rfl) (sd rfl (yl_call Try.en121 rfl (opvs_cons rfl opvs_nil) (Cal.mono (c_i_isTrue p_d.From) ?_))))))))))))
 rintro v11 w10 ⟨rfl, hE12⟩
 have hE12z := Ex.size hE12
 refine sd rfl (yl_move rfl rfl (bcase (i_isTrue p_d.From) (fun hb13 => ?_) (fun hb13 => ?_)))
 ·refine sy rfl rfl hb13 (yl_fieldAddr Try.fd41_1 rfl rfl ?_)
  have q14 := Box.ex hB8 hE12
  refine sy rfl rfl hb13 (yl_load1 Try.ty3 rfl rfl ((q14.cell 1).trans rfl) (sy rfl rfl hb13 (yl_call Try.en121 rfl (opvs_cons rfl opvs_nil) (Cal.mono (c_i_isTrue p_d.To) ?_))))
  rintro v16 w15 ⟨rfl, hE17⟩
  have hE17z := Ex.size hE17
  refine sd rfl (yl_pick_t rfl rfl hb13 rfl (sd rfl (yl_move rfl rfl (bcase (i_isTrue p_d.To) (fun hb18 => ?_) (fun hb18 => ?_)))))
  ·refine sy rfl rfl hb18 (yl_fieldAddr Try.fd41_0 rfl rfl ?_)
   have q19 := Box.ex q14 hE17
   refine sy rfl rfl hb18 (yl_load1 Try.ty3 rfl rfl ((q19.cell 0).trans rfl) (sy rfl rfl hb18 (yl_fieldAddr Try.fd41_1 rfl rfl (sy rfl rfl hb18 (yl_load1 Try.ty3 rfl rfl ((q19.cell 1).trans rfl) (sy rfl rfl hb18 (yl_leq rfl rfl rfl (sd rfl (yl_pick_t rfl rfl hb18 rfl (sd rfl (yl_move rfl rfl (bcase (decide (p_d.From ≤ p_d.To)) (fun hb20 => ?_) (fun hb20 => ?_)))))))))))))
   ·have hb20p := dec_t hb20
    refine sy rfl rfl hb20 (yl_fieldAddr Try.fd41_2 rfl rfl (sy rfl rfl hb20 (yl_load1 Try.ty39 rfl rfl ((q19.cell 2).trans rfl) (sy rfl rfl hb20 (yl_len Try.un39 rfl rfl (sy rfl rfl hb20 (yl_leq rfl rfl rfl (sd rfl (yl_pick_t rfl rfl hb20 rfl (sd rfl (yl_move rfl rfl (bcase (decide ((p_d.List.length : Int) ≤ 60)) (fun hb21 => ?_) (fun hb21 => ?_)))))))))))))
    ·have hb21p := dec_t hb21
     refine sy rfl rfl hb21 (yl_fieldAddr Try.fd41_2 rfl rfl (sy rfl rfl hb21 (yl_load1 Try.ty39 rfl rfl ((q19.cell 2).trans rfl) ?_)))
     have q24 := RdS.ex good_FeedItem (RdS.ex good_FeedItem (RdS.ex good_FeedItem h1 hE9) hE12) hE17
     refine sy rfl rfl hb21 (yl_call Try.en122 rfl (opvs_cons rfl opvs_nil) (Cal.mono (c_i_GoodFeed p_d.List (RdS.up q24 good_FeedItem) o2) ?_))
     rintro v26 w25 ⟨rfl, hE27⟩
     have hE27z := Ex.size hE27
     refine sd rfl (yl_pick_t rfl rfl hb21 rfl (sd rfl (yl_move rfl rfl (bcase (i_GoodFeed p_d.List) (fun hb28 => ?_) (fun hb28 => ?_)))))
     ·refine sy rfl rfl hb28 (yl_fieldAddr Try.fd41_2 rfl rfl ?_)
      have q29 := Box.ex q19 hE27
      refine sy rfl rfl hb28 (yl_load1 Try.ty39 rfl rfl ((q29.cell 2).trans rfl) (sy rfl rfl hb28 (yl_makeFunc rfl (opvs_cons rfl opvs_nil) ?_)))
      have q30 := RdS.ex good_FeedItem q24 hE27
      refine sy rfl rfl hb28 (yl_call Try.en123 rfl (opvs_cons rfl (opvs_cons rfl opvs_nil)) (Cal.mono (c_g_slices_ContainsFunc_FeedItem p_d.List (fun y0 => i_GoodDiff_c1 y0 p_d) (RdS.up q30 good_FeedItem) Try.en124 (fun _ y0 => fun hE hm0 ov0 => c_i_GoodDiff_c1 y0 p_d (RdS.up (RdS.ex good_FeedItem q30 hE) good_FeedItem) (Box.ex q29 hE) ov0 o2) o2) ?_))
      rintro v32 w31 ⟨rfl, hE33⟩
      have hE33z := Ex.size hE33
      refine sy rfl rfl hb28 (yl_not rfl rfl (sd rfl (yl_pick_t rfl rfl hb28 rfl (sd rfl (yl_assign rfl rfl (SeqR.done (tn (CW.ret (rr rfl (.cons rfl .nil) ?_)))))))))
      have hM34 : (i_GoodDiff p_d) = (!(g_slices_ContainsFunc_FeedItem p_d.List (fun y0 => i_GoodDiff_c1 y0 p_d))) := by simp only [i_GoodDiff, hb13, hb18, hb20, hb21, hb28, cond_true, cond_false, loopE_done, loopE_ret]
      rw [hM34]
      exact ⟨rfl, (Ex.trans (Ex.trans (Ex.trans (Ex.trans (Ex.trans (Ex.refl w) hE9) hE12) hE17) hE27) hE33)⟩
     ·refine sz rfl rfl hb28 (sz rfl rfl hb28 (sz rfl rfl hb28 (sz rfl rfl hb28 (sz rfl rfl hb28 (sd rfl (yl_pick_f rfl rfl hb28 rfl (sd rfl (yl_assign rfl rfl (SeqR.done (tn ?_))))))))))
      refine CW.ret (rr rfl (.cons rfl .nil) ?_)
      have hM40 : (i_GoodDiff p_d) = (false) := by simp only [i_GoodDiff, hb13, hb18, hb20, hb21, hb28, cond_true, cond_false, loopE_done, loopE_ret]
      rw [hM40]
      exact ⟨rfl, (Ex.trans (Ex.trans (Ex.trans (Ex.trans (Ex.refl w) hE9) hE12) hE17) hE27)⟩
    ·have hb21p := dec_f hb21
     refine sz rfl rfl hb21 (sz rfl rfl hb21 (sz rfl rfl hb21 (sd rfl (yl_pick_f rfl rfl hb21 rfl (sd rfl (yl_move rfl rfl (sz rfl rfl rfl (sz rfl rfl rfl (sz rfl rfl rfl (sz rfl rfl rfl ?_))))))))))
     refine sz rfl rfl rfl (sd rfl (yl_pick_f rfl rfl rfl rfl (sd rfl (yl_assign rfl rfl (SeqR.done (tn (CW.ret (rr rfl (.cons rfl .nil) ?_))))))))
     have hM45 : (i_GoodDiff p_d) = (false) := by simp only [i_GoodDiff, hb13, hb18, hb20, hb21, cond_true, cond_false, loopE_done, loopE_ret]
     rw [hM45]
     exact ⟨rfl, (Ex.trans (Ex.trans (Ex.trans (Ex.refl w) hE9) hE12) hE17)⟩
   ·have hb20p := dec_f hb20
    refine sz rfl rfl hb20 (sz rfl rfl hb20 (sz rfl rfl hb20 (sz rfl rfl hb20 (sd rfl (yl_pick_f rfl rfl hb20 rfl (sd rfl (yl_move rfl rfl (sz rfl rfl rfl (sz rfl rfl rfl (sz rfl rfl rfl ?_))))))))))
    refine sd rfl (yl_pick_f rfl rfl rfl rfl (sd rfl (yl_move rfl rfl (sz rfl rfl rfl (sz rfl rfl rfl (sz rfl rfl rfl (sz rfl rfl rfl (sz rfl rfl rfl (sd rfl (yl_pick_f rfl rfl rfl rfl (sd rfl (yl_assign rfl rfl ?_))))))))))))
    refine SeqR.done (tn (CW.ret (rr rfl (.cons rfl .nil) ?_)))
    have hM49 : (i_GoodDiff p_d) = (false) := by simp only [i_GoodDiff, hb13, hb18, hb20, cond_true, cond_false, loopE_done, loopE_ret]
    rw [hM49]
    exact ⟨rfl, (Ex.trans (Ex.trans (Ex.trans (Ex.refl w) hE9) hE12) hE17)⟩
  ·refine sz rfl rfl hb18 (sz rfl rfl hb18 (sz rfl rfl hb18 (sz rfl rfl hb18 (sz rfl rfl hb18 (sd rfl (yl_pick_f rfl rfl hb18 rfl (sd rfl (yl_move rfl rfl (sz rfl rfl rfl (sz rfl rfl rfl ?_))))))))))
   refine sz rfl rfl rfl (sz rfl rfl rfl (sd rfl (yl_pick_f rfl rfl rfl rfl (sd rfl (yl_move rfl rfl (sz rfl rfl rfl (sz rfl rfl rfl (sz rfl rfl rfl (sd rfl (yl_pick_f rfl rfl rfl rfl (sd rfl (yl_move rfl rfl ?_))))))))))))
   refine sz rfl rfl rfl (sz rfl rfl rfl (sz rfl rfl rfl (sz rfl rfl rfl (sz rfl rfl rfl (sd rfl (yl_pick_f rfl rfl rfl rfl (sd rfl (yl_assign rfl rfl (SeqR.done (tn ?_))))))))))
   refine CW.ret (rr rfl (.cons rfl .nil) ?_)
   have hM53 : (i_GoodDiff p_d) = (false) := by simp only [i_GoodDiff, hb13, hb18, cond_true, cond_false, loopE_done, loopE_ret]
   rw [hM53]
   exact ⟨rfl, (Ex.trans (Ex.trans (Ex.trans (Ex.refl w) hE9) hE12) hE17)⟩
 ·refine sz rfl rfl hb13 (sz rfl rfl hb13 (sz rfl rfl hb13 (sd rfl (yl_pick_f rfl rfl hb13 rfl (sd rfl (yl_move rfl rfl (sz rfl rfl rfl (sz rfl rfl rfl (sz rfl rfl rfl (sz rfl rfl rfl ?_))))))))))
  refine sz rfl rfl rfl (sd rfl (yl_pick_f rfl rfl rfl rfl (sd rfl (yl_move rfl rfl (sz rfl rfl rfl (sz rfl rfl rfl (sz rfl rfl rfl (sz rfl rfl rfl (sd rfl (yl_pick_f rfl rfl rfl rfl (sd rfl (yl_move rfl rfl ?_))))))))))))
  refine sz rfl rfl rfl (sz rfl rfl rfl (sz rfl rfl rfl (sd rfl (yl_pick_f rfl rfl rfl rfl (sd rfl (yl_move rfl rfl (sz rfl rfl rfl (sz rfl rfl rfl (sz rfl rfl rfl (sz rfl rfl rfl ?_))))))))))
  refine sz rfl rfl rfl (sd rfl (yl_pick_f rfl rfl rfl rfl (sd rfl (yl_assign rfl rfl (SeqR.done (tn (CW.ret (rr rfl (.cons rfl .nil) ?_))))))))
  have hM57 : (i_GoodDiff p_d) = (false) := by simp only [i_GoodDiff, hb13, cond_true, cond_false, loopE_done, loopE_ret]
  rw [hM57]
  exact ⟨rfl, (Ex.trans (Ex.trans (Ex.refl w) hE9) hE12)⟩
set_option maxRecDepth 100000 in
set_option maxHeartbeats 2000000 in
theorem c_i_numBytes {w : World} (p_n : Int) (pre0 : (0 ≤ p_n ∧ p_n ≤ 1073741824)) : Cal Try.prog 125 #[.int .i64 (p_n)] w fun v w' => v = .string (bs ((i_numBytes p_n))) ∧ Ex w w' := by
 refine Cal.of (vs := [.int .i64 (p_n)]) Try.func125 rfl Try.ntmps125 rfl (CW.seq (CW.region (sd rfl (yl_assign rfl rfl (SeqR.done (tn (CW.seq (CW.region (sd rfl (yl_buildSlice (cs := []) Try.un166 Try.ty5 (by decide) rfl opvs_nil (by kernel_rfl) ?_))))))))))
 intro b1 w2 hs3 hz4 hB5 hE6
 have hO7 : OwnL w2 b1 (b1 + 1) 5 1 (RF e_U8) (some ⟨b1, 0, none⟩) 0 0 ([] : List Int) := OwnL.of_box (S := fun _ => False) hB5 (Nat.le_refl _) (Nat.lt_succ_self _) EncL.nil (Nat.le_of_ble_eq_true rfl) (fun h => h) (fun _ h => False.elim h)
 refine sd rfl (yl_assign rfl rfl (SeqR.done (tn (CW.seq (CW.block (CW.loop (fun m32 L33 w34 => ∃ (x27 : Int) (x28 : List Int) (A29 : Option Addr) (c30 : Nat) (u31 : Nat), ((x27).toNat) < m32 ∧ w2.heap.size ≤ w34.heap.size ∧ lkp L33 0 = some (.int .i64 (x27)) ∧ lkp L33 3 = some (.slice A29 x28.length c30) ∧ OwnL w34 b1 u31 5 1 (RF e_U8) A29 x28.length c30 x28 ∧ Ex w w34 ∧ (b1 ≤ u31 ∧ u31 ≤ w34.heap.size) ∧ x28.length + 1 * ((x27).toNat) ≤ 0 + 1 * ((p_n).toNat) ∧ 0 ≤ x27 ∧ x27 ≤ 1073741824 ∧ loopW (B_i_numBytes_0 p_n) m32 (x27, x28) = loopW (B_i_numBytes_0 p_n) (((p_n).toNat) + 1) (p_n, ([] : List Int))) (((p_n).toNat) + 1) ?_ ?_))))))
 ·exact ⟨p_n, ([] : List Int), (some ⟨b1, 0, none⟩), 0, (b1 + 1), Nat.lt_succ_self _, Nat.le_refl _, rfl, rfl, hO7, (Ex.trans (Ex.refl w) hE6), (by omega), (by first | (simp; done) | (first | omega | (simp only [List.length_append, List.length_cons, List.length_nil, List.length_set, toS_length]; omega))), (by first | omega | assumption | (simp only [IntKind.wrap_i64] at *; omega)), (by first | omega | assumption | (simp only [IntKind.wrap_i64] at *; omega)), rfl⟩
 ·rintro m36 L37 w38 ⟨x27, x28, A29, c30, u31, hk39, hsz41, hl42, hl43, hf44, hf45, hu46, hln47, hv48, hv49, hI40⟩
  refine CW.sub (Sub.cons hl42 (Sub.cons hl43 (Sub.nil _))) ?_
  have hf45z := Ex.size hf45
  refine CW.seq (CW.seq (CW.region (sd rfl (yl_move rfl rfl (sd rfl (yl_geq rfl rfl rfl (SeqR.done (tn (bcase (decide (128 ≤ x27)) (fun hb50 => ?_) (fun hb50 => ?_))))))))))
  ·have hb50p := dec_t hb50
   refine CW.cond_t rfl hb50 (CW.skip (tn (CW.block (CW.seq (CW.region (sd rfl (yl_move rfl rfl (sd rfl (yl_move rfl rfl (sd rfl (yl_rem rfl rfl rfl (by decide) ?_)))))))))))
   refine sd rfl (yl_conv Try.un3 Try.un5 rfl rfl (sd rfl (yl_add rfl rfl rfl (sd rfl (yl_buildSlice (cs := [.int .u8 (IntKind.wrap .u8 ((IntKind.wrap .u8 (Int.tmod x27 128)) + 128))]) Try.un166 Try.ty5 (by decide) rfl (opvs_cons rfl opvs_nil) (by kernel_rfl) ?_)))))
   intro b51 w52 hs53 hz54 hB55 hE56
   have hO57 : OwnL w52 b51 (b51 + 1) 5 1 (RF e_U8) (some ⟨b51, 0, none⟩) 1 1 ([IntKind.wrap .u8 ((IntKind.wrap .u8 (Int.tmod x27 128)) + 128)] : List Int) := OwnL.of_box (S := fun _ => False) hB55 (Nat.le_refl _) (Nat.lt_succ_self _) (EncL.cons (c := [.int .u8 (IntKind.wrap .u8 ((IntKind.wrap .u8 (Int.tmod x27 128)) + 128))]) rfl rfl EncL.nil) (Nat.le_of_ble_eq_true rfl) (fun h => h) (fun _ h => False.elim h)
   refine sd rfl (yl_appendL (S := (fun _ => False)) (lo := b1) (hi := u31) (xs := x28) (ys := ([IntKind.wrap .u8 ((IntKind.wrap .u8 (Int.tmod x27 128)) + 128)] : List Int)) good_U8 Try.un166 Try.ty5 rfl (Nat.le_of_ble_eq_true rfl) rfl rfl rfl (OwnL.ex good_U8 hf44 hE56) (EncL.cons (c := [.int .u8 (IntKind.wrap .u8 ((IntKind.wrap .u8 (Int.tmod x27 128)) + 128))]) rfl rfl EncL.nil) (Or.inr ⟨_, _, rfl, rfl, hB55.cells (o := 0) (n := 1) rfl⟩) rfl (by first | omega | (simp only [List.length_append, List.length_cons, List.length_nil, List.length_take, List.length_drop, List.length_replicate, List.length_set, toS_length]; omega)) (by first | omega | (simp only [List.length_append, List.length_cons, List.length_nil, List.length_take, List.length_drop, List.length_replicate, List.length_set, toS_length]; omega)) (by omega) (by omega) (fun _ h _ => False.elim h) (by omega) ?_)
   intro A59 c60 w61 row62 hO63 hG64 hrg65
   have hG64z := hG64.size
   refine sd rfl (yl_assign rfl rfl (SeqR.done (tn (CW.region (sd rfl (yl_move rfl rfl (sd rfl (yl_quo rfl rfl rfl (by decide) (sd rfl (yl_assign rfl rfl (SeqR.done (bn ?_))))))))))))
   refine tn ?_
   have hB66 : B_i_numBytes_0 p_n (x27, x28) = .cont (IntKind.wrap .i64 (Int.tdiv x27 128), (x28 ++ ([IntKind.wrap .u8 ((IntKind.wrap .u8 (Int.tmod x27 128)) + 128)] : List Int))) := by simp only [B_i_numBytes_0, hb50, cond_true, cond_false, loopE_done, loopE_ret]
   have hmu69 : ((IntKind.wrap .i64 (Int.tdiv x27 128)).toNat) < ((x27).toNat) := by (have hq := wtd (n := x27) (c := 128) (by decide) (by omega) (by omega); omega)
   exact ⟨m36 - 1, by omega, IntKind.wrap .i64 (Int.tdiv x27 128), (x28 ++ ([IntKind.wrap .u8 ((IntKind.wrap .u8 (Int.tmod x27 128)) + 128)] : List Int)), A59, c60, w61.heap.size, (by omega), (by omega), rfl, rfl, hO63, (Below.grown (Ex.trans hf45 hE56) hG64 (by omega) (fun k hk => by have := hrg65 k hk; omega)), (by omega), (by first | omega | (simp only [List.length_append, List.length_cons, List.length_nil, List.length_set, toS_length]; omega)), (by (have hq := wtd (n := x27) (c := 128) (by decide) (by omega) (by omega); omega)), (by (have hq := wtd (n := x27) (c := 128) (by decide) (by omega) (by omega); omega)), (loopW.cont hk39 hB66).symm.trans hI40⟩
  ·have hb50p := dec_f hb50
   refine CW.cond_f rfl hb50 (CW.exit (tx (tx ?_)))
   have hB71 : B_i_numBytes_0 p_n (x27, x28) = .brk (x27, x28) := by simp only [B_i_numBytes_0, hb50, cond_true, cond_false, loopE_done, loopE_ret]
   have hL70 : loopW (B_i_numBytes_0 p_n) (((p_n).toNat) + 1) (p_n, ([] : List Int)) = .done (x27, x28) := hI40.symm.trans (loopW.brk hk39 hB71)
   refine bx (tn (CW.seq (CW.region (sd rfl (yl_move rfl rfl (sd rfl (yl_move rfl rfl (sd rfl (yl_conv Try.un3 Try.un5 rfl rfl (sd rfl (yl_buildSlice (cs := [.int .u8 (IntKind.wrap .u8 x27)]) Try.un166 Try.ty5 (by decide) rfl (opvs_cons rfl opvs_nil) (by kernel_rfl) ?_)))))))))))
   intro b72 w73 hs74 hz75 hB76 hE77
   have hO78 : OwnL w73 b72 (b72 + 1) 5 1 (RF e_U8) (some ⟨b72, 0, none⟩) 1 1 ([IntKind.wrap .u8 x27] : List Int) := OwnL.of_box (S := fun _ => False) hB76 (Nat.le_refl _) (Nat.lt_succ_self _) (EncL.cons (c := [.int .u8 (IntKind.wrap .u8 x27)]) rfl rfl EncL.nil) (Nat.le_of_ble_eq_true rfl) (fun h => h) (fun _ h => False.elim h)
   refine sd rfl (yl_appendL (S := (fun _ => False)) (lo := b1) (hi := u31) (xs := x28) (ys := ([IntKind.wrap .u8 x27] : List Int)) good_U8 Try.un166 Try.ty5 rfl (Nat.le_of_ble_eq_true rfl) rfl rfl rfl (OwnL.ex good_U8 hf44 hE77) (EncL.cons (c := [.int .u8 (IntKind.wrap .u8 x27)]) rfl rfl EncL.nil) (Or.inr ⟨_, _, rfl, rfl, hB76.cells (o := 0) (n := 1) rfl⟩) rfl (by first | omega | (simp only [List.length_append, List.length_cons, List.length_nil, List.length_take, List.length_drop, List.length_replicate, List.length_set, toS_length]; omega)) (by first | omega | (simp only [List.length_append, List.length_cons, List.length_nil, List.length_take, List.length_drop, List.length_replicate, List.length_set, toS_length]; omega)) (by omega) (by omega) (fun _ h _ => False.elim h) (by omega) ?_)
   intro A80 c81 w82 row83 hO84 hG85 hrg86
   have hG85z := hG85.size
   refine sd rfl (yl_toS Try.un166 Try.un5 Try.un9 rfl rfl (OwnL.rd good_U8 hO84) (sd rfl (yl_assign rfl rfl (SeqR.done (tn (CW.ret (rr rfl (.cons rfl .nil) ?_)))))))
   have hM88 : (i_numBytes p_n) = (toS (x28 ++ ([IntKind.wrap .u8 x27] : List Int))) := by simp only [i_numBytes, hb50, hL70, cond_true, cond_false, loopE_done, loopE_ret]
   rw [hM88]
   exact ⟨rfl, (Below.grown (Ex.trans hf45 hE77) hG85 (by omega) (fun k hk => by have := hrg86 k hk; omega))⟩
set_option maxRecDepth 100000 in
set_option maxHeartbeats 2000000 in
theorem c_i_textBytes {w : World} (p_s : Str) (o1 : okS p_s) : Cal Try.prog 126 #[.string (bs (p_s))] w fun v w' => v = .string (bs ((i_textBytes p_s))) ∧ Ex w w' := by
 have hol2 : p_s.length ≤ 1073741824 := o1
 refine Cal.of (vs := [.string (bs (p_s))]) Try.func126 rfl Try.ntmps126 rfl (CW.seq (CW.region (sd rfl (yl_assign rfl rfl (SeqR.done (tn (CW.seq (CW.region (sd rfl (yl_move rfl rfl ?_))))))))))
 refine sd rfl (yl_slen Try.un9 (a := p_s) rfl rfl (sd rfl (yl_call Try.en125 rfl (opvs_cons rfl opvs_nil) (Cal.mono (c_i_numBytes (p_s.length : Int) (by first | omega | assumption | (simp only [IntKind.wrap_i64] at *; omega))) ?_))))
 rintro v4 w3 ⟨rfl, hE5⟩
 have hE5z := Ex.size hE5
 have hrf6 := rf_numBytes (p_s.length : Int) (by first | omega | assumption | (simp only [IntKind.wrap_i64] at *; omega))
 refine sd rfl (yl_move rfl rfl ?_)
 have hol7 : p_s.length ≤ 1073741824 := o1
 refine sd rfl (yl_sadd (a := (i_numBytes (p_s.length : Int))) (b := p_s) rfl rfl rfl (by first | omega | (simp only [List.length_append, List.length_cons, List.length_nil, List.length_take, List.length_drop, toS_length]; omega)) (sd rfl (yl_assign rfl rfl (SeqR.done (tn (CW.ret (rr rfl (.cons rfl .nil) ?_)))))))
 have hM8 : (i_textBytes p_s) = ((i_numBytes (p_s.length : Int)) ++ p_s) := by simp only [i_textBytes, cond_true, cond_false, loopE_done, loopE_ret]
 rw [hM8]
 exact ⟨rfl, (Ex.trans (Ex.refl w) hE5)⟩
set_option maxRecDepth 100000 in
set_option maxHeartbeats 2000000 in
theorem c_i_flagByte {w : World} (p_is : Bool) : Cal Try.prog 127 #[.bool (p_is)] w fun v w' => v = .string (bs ((i_flagByte p_is))) ∧ okS (i_flagByte p_is) ∧ Ex w w' := by
 refine Cal.of (vs := [.bool (p_is)]) Try.func127 rfl Try.ntmps127 rfl (CW.seq (CW.region (sd rfl (yl_assign rfl rfl (SeqR.done (tn (CW.seq (CW.seq (CW.region ?_)))))))))
 refine sd rfl (yl_move rfl rfl (SeqR.done (tn (bcase (p_is) (fun hb1 => ?_) (fun hb1 => ?_)))))
 ·refine CW.cond_t rfl hb1 (CW.seq (CW.region (sd rfl (yl_assign rfl rfl (SeqR.done (tn (CW.ret (tr (rr rfl (.cons rfl .nil) ?_)))))))))
  have hM2 : (i_flagByte p_is) = (([1] : Str)) := by simp only [i_flagByte, hb1, cond_true, cond_false, loopE_done, loopE_ret]
  rw [hM2]
  exact ⟨rfl, (okS.lit rfl), (Ex.refl w)⟩
 ·refine CW.cond_f rfl hb1 (CW.skip (tn (CW.seq (CW.region (sd rfl (yl_assign rfl rfl (SeqR.done (tn (CW.ret ?_)))))))))
  refine rr rfl (.cons rfl .nil) ?_
  have hM3 : (i_flagByte p_is) = (([0] : Str)) := by simp only [i_flagByte, hb1, cond_true, cond_false, loopE_done, loopE_ret]
  rw [hM3]
  exact ⟨rfl, (okS.lit rfl), (Ex.refl w)⟩
set_option maxRecDepth 100000 in
set_option maxHeartbeats 2000000 in
theorem c_i_sumOf {w : World} (p_b : Str) (o1 : okS p_b) : Cal Try.prog 176 #[.string (bs (p_b))] w fun v w' => v = .int .i64 ((i_sumOf p_b)) ∧ Ex w w' := by
 have hol2 : p_b.length ≤ 1073741824 := o1
 refine Cal.of (vs := [.string (bs (p_b))]) Try.func176 rfl Try.ntmps176 rfl (CW.seq (CW.region (sd rfl (yl_assign rfl rfl (SeqR.done (tn (CW.seq (CW.region (sd rfl (yl_assign rfl rfl ?_))))))))))
 refine SeqR.done (tn (CW.seq (CW.seq (CW.region (sd rfl (yl_move rfl rfl (sd rfl (yl_slen Try.un9 (a := p_b) rfl rfl (sd rfl (yl_move rfl rfl (SeqR.done ?_)))))))))))
 refine tn (CW.block (CW.loop (fun m5 L6 w7 => ∃ (k3 : Nat) (x4 : Int), m5 = p_b.length - k3 ∧ k3 ≤ p_b.length ∧ w.heap.size ≤ w7.heap.size ∧ lkp L6 0 = some (.string (bs (p_b))) ∧ lkp L6 3 = some (.int .i64 (x4)) ∧ lkp L6 6 = some (.int .i64 ((p_b.length : Int))) ∧ lkp L6 7 = some (.int .i64 ((k3 : Int))) ∧ Ex w w7 ∧ loopM (B_i_sumOf_0 p_b) (p_b.length - k3) k3 (x4) = loopM (B_i_sumOf_0 p_b) (p_b.length - 0) 0 (7)) (p_b.length - 0) ?_ ?_))
 ·exact ⟨0, 7, rfl, (by omega), Nat.le_refl _, rfl, rfl, rfl, rfl, (Ex.refl w), rfl⟩
 ·rintro m8 L9 w10 ⟨k3, x4, rfl, hk11, hsz13, hl14, hl15, hl16, hl17, hf18, hI12⟩
  refine CW.sub (Sub.cons hl14 (Sub.cons hl15 (Sub.cons hl16 (Sub.cons hl17 (Sub.nil _))))) ?_
  have hf18z := Ex.size hf18
  have hbg19 : p_b.length ≤ 1073741824 := o1
  rcases Nat.lt_or_ge k3 p_b.length with hlt20 | hlt20
  ·refine CW.seq (CW.region (sd rfl (yl_lss rfl rfl rfl (SeqR.done (tn (CW.seq (CW.cond_t rfl (lt_t hlt20) (CW.skip (tn ?_)))))))))
   refine CW.seq (CW.block (CW.seq (CW.region (sd rfl (yl_move rfl rfl (sd rfl (yl_assign rfl rfl (SeqR.done (tn (CW.region ?_))))))))))
   refine sd rfl (yl_move rfl rfl (sd rfl (yl_mul rfl rfl rfl (sd rfl (yl_move rfl rfl (sd rfl (yl_move rfl rfl (sd rfl (yl_sindexN Try.un9 (a := p_b) rfl rfl rfl (by first | omega | assumption | (simp only [IntKind.wrap_i64] at *; omega)) (sd rfl (yl_conv Try.un5 Try.un3 rfl rfl (sd rfl (yl_add rfl rfl rfl (sd rfl (yl_add rfl rfl rfl (sd rfl (yl_rem rfl rfl rfl (by decide) ?_)))))))))))))))))
   refine sd rfl (yl_assign rfl rfl (SeqR.done (bn (tn (CW.region (sd rfl (yl_inc rfl rfl rfl (by omega) (sd rfl (yl_move rfl rfl (SeqR.done (tn ?_)))))))))))
   have hB21 : B_i_sumOf_0 p_b k3 (x4) = .cont (Int.tmod (IntKind.wrap .i64 ((IntKind.wrap .i64 ((IntKind.wrap .i64 (31 * x4)) + (IntKind.wrap .i64 ((p_b.getD k3 0).toNat : Int)))) + 1)) 16000057) := by simp only [B_i_sumOf_0, cond_true, cond_false, loopE_done, loopE_ret]
   exact ⟨p_b.length - (k3 + 1), by omega, k3 + 1, Int.tmod (IntKind.wrap .i64 ((IntKind.wrap .i64 ((IntKind.wrap .i64 (31 * x4)) + (IntKind.wrap .i64 ((p_b.getD k3 0).toNat : Int)))) + 1)) 16000057, rfl, hlt20, (by omega), rfl, rfl, rfl, rfl, hf18, (loopM.cont hlt20 hB21).symm.trans hI12⟩
  ·refine CW.seq (CW.region (sd rfl (yl_lss rfl rfl rfl (SeqR.done (tn (CW.seq (CW.cond_f rfl (lt_f hlt20) (CW.exit (tx ?_)))))))))
   refine tx ?_
   have hL22 : loopM (B_i_sumOf_0 p_b) (p_b.length - 0) 0 (7) = .done (x4) := hI12.symm.trans (loopM.stop hlt20)
   refine bx (tn (CW.seq (CW.region (sd rfl (yl_move rfl rfl (sd rfl (yl_assign rfl rfl (SeqR.done (tn (CW.ret ?_))))))))))
   refine rr rfl (.cons rfl .nil) ?_
   have hM23 : (i_sumOf p_b) = (x4) := by simp only [i_sumOf, hL22, cond_true, cond_false, loopE_done, loopE_ret]
   rw [hM23]
   exact ⟨rfl, hf18⟩
set_option maxRecDepth 100000 in
set_option maxHeartbeats 2000000 in
theorem c_i_seal {w : World} (p_b : Str) (o1 : okS p_b) : Cal Try.prog 128 #[.string (bs (p_b))] w fun v w' => v = .string (bs ((i_seal p_b))) ∧ Ex w w' := by
 have hol2 : p_b.length ≤ 1073741824 := o1
 refine Cal.of (vs := [.string (bs (p_b))]) Try.func128 rfl Try.ntmps128 rfl (CW.seq (CW.region (sd rfl (yl_assign rfl rfl (SeqR.done (tn (CW.seq (CW.region (sd rfl (yl_move rfl rfl ?_))))))))))
 refine sd rfl (yl_call Try.en176 rfl (opvs_cons rfl opvs_nil) (Cal.mono (c_i_sumOf p_b o1) ?_))
 rintro v4 w3 ⟨rfl, hE5⟩
 have hE5z := Ex.size hE5
 refine sd rfl (yl_assign rfl rfl (SeqR.done (tn (CW.seq (CW.region (sd rfl (yl_move rfl rfl (sd rfl (yl_move rfl rfl (sd rfl (yl_shr (q := 65536) rfl rfl rfl (by decide) (by decide) (by decide) (sd rfl (yl_conv Try.un3 Try.un5 rfl rfl ?_)))))))))))))
 refine sd rfl (yl_move rfl rfl (sd rfl (yl_shr (q := 256) rfl rfl rfl (by decide) (by decide) (by decide) (sd rfl (yl_conv Try.un3 Try.un5 rfl rfl (sd rfl (yl_move rfl rfl (sd rfl (yl_conv Try.un3 Try.un5 rfl rfl (sd rfl (yl_buildSlice (cs := [.int .u8 (IntKind.wrap .u8 (Int.fdiv (i_sumOf p_b) 65536)), .int .u8 (IntKind.wrap .u8 (Int.fdiv (i_sumOf p_b) 256)), .int .u8 (IntKind.wrap .u8 (i_sumOf p_b))]) Try.un166 Try.ty5 (by decide) rfl (opvs_cons rfl (opvs_cons rfl (opvs_cons rfl opvs_nil))) (by kernel_rfl) ?_)))))))))))
 intro b6 w7 hs8 hz9 hB10 hE11
 have hO12 : OwnL w7 b6 (b6 + 1) 5 1 (RF e_U8) (some ⟨b6, 0, none⟩) 3 3 ([IntKind.wrap .u8 (Int.fdiv (i_sumOf p_b) 65536), IntKind.wrap .u8 (Int.fdiv (i_sumOf p_b) 256), IntKind.wrap .u8 (i_sumOf p_b)] : List Int) := OwnL.of_box (S := fun _ => False) hB10 (Nat.le_refl _) (Nat.lt_succ_self _) (EncL.cons (c := [.int .u8 (IntKind.wrap .u8 (Int.fdiv (i_sumOf p_b) 65536))]) rfl rfl (EncL.cons (c := [.int .u8 (IntKind.wrap .u8 (Int.fdiv (i_sumOf p_b) 256))]) rfl rfl (EncL.cons (c := [.int .u8 (IntKind.wrap .u8 (i_sumOf p_b))]) rfl rfl EncL.nil))) (Nat.le_of_ble_eq_true rfl) (fun h => h) (fun _ h => False.elim h)
 refine sd rfl (yl_toS Try.un166 Try.un5 Try.un9 rfl rfl (OwnL.rd good_U8 hO12) ?_)
 have hol14 : p_b.length ≤ 1073741824 := o1
 have hol15 : (toS ([IntKind.wrap .u8 (Int.fdiv (i_sumOf p_b) 65536), IntKind.wrap .u8 (Int.fdiv (i_sumOf p_b) 256), IntKind.wrap .u8 (i_sumOf p_b)] : List Int)).length ≤ 1073741824 := (okS_toS (Nat.le_of_ble_eq_true rfl))
 refine sd rfl (yl_sadd (a := p_b) (b := (toS ([IntKind.wrap .u8 (Int.fdiv (i_sumOf p_b) 65536), IntKind.wrap .u8 (Int.fdiv (i_sumOf p_b) 256), IntKind.wrap .u8 (i_sumOf p_b)] : List Int))) rfl rfl rfl (by first | omega | (simp only [List.length_append, List.length_cons, List.length_nil, List.length_take, List.length_drop, toS_length]; omega)) (sd rfl (yl_assign rfl rfl (SeqR.done (tn (CW.ret (rr rfl (.cons rfl .nil) ?_)))))))
 have hM16 : (i_seal p_b) = (p_b ++ (toS ([IntKind.wrap .u8 (Int.fdiv (i_sumOf p_b) 65536), IntKind.wrap .u8 (Int.fdiv (i_sumOf p_b) 256), IntKind.wrap .u8 (i_sumOf p_b)] : List Int))) := by simp only [i_seal, cond_true, cond_false, loopE_done, loopE_ret]
 rw [hM16]
 exact ⟨rfl, (Ex.trans (Ex.trans (Ex.refl w) hE5) hE11)⟩
set_option maxRecDepth 100000 in
set_option maxHeartbeats 2000000 in
theorem c_i_diffBytes {A1 : Option Addr} {c1 : Nat} {w : World} (p_d : DDiff) (h1 : RdS w (Iv 0 w.heap.size) (RF e_FeedItem) 5 A1 p_d.List.length c1 p_d.List) (o2 : ok_Diff p_d) (pre0 : i_GoodDiff p_d = true) : Cal Try.prog 67 #[.agg #[.int .i64 (p_d.From), .int .i64 (p_d.To), .slice A1 p_d.List.length c1]] w fun v w' => v = .string (bs ((i_diffBytes p_d))) ∧ Ex w w' := by
 have hol3 := o2.1
 obtain ⟨hcp1, hcp2⟩ := f_i_GoodDiff pre0
 refine Cal.of (vs := [.agg #[.int .i64 (p_d.From), .int .i64 (p_d.To), .slice A1 p_d.List.length c1]]) Try.func67 rfl Try.ntmps67 rfl (CW.seq (CW.region (sd rfl (yl_box (cs := [.int .i64 (p_d.From), .int .i64 (p_d.To), .slice A1 p_d.List.length c1]) rfl rfl rfl ?_))))
 intro b4 w5 hs6 hz7 hB8 hE9
 refine sd rfl (yl_assign rfl rfl (SeqR.done (tn (CW.seq ?_))))
 have hrf13 := rf_numBytes p_d.From (by first | omega | assumption | (simp only [IntKind.wrap_i64] at *; omega))
 have hrf14 := rf_numBytes p_d.To (by first | omega | assumption | (simp only [IntKind.wrap_i64] at *; omega))
 have hrf15 := rf_numBytes (p_d.List.length : Int) (by first | omega | assumption | (simp only [IntKind.wrap_i64] at *; omega))
 refine CW.drawsI 13 (vgetI [DetI (.pointer (some ⟨b4, 0 + 0, none⟩)), DetI (.int .i64 (p_d.From)), DetI (.string (bs ((i_numBytes p_d.From)))), DetI (.pointer (some ⟨b4, 0 + 1, none⟩)), DetI (.int .i64 (p_d.To)), DetI (.string (bs ((i_numBytes p_d.To)))), DetI (.string (bs ((i_numBytes p_d.From) ++ (i_numBytes p_d.To)))), DetI (.pointer (some ⟨b4, 0 + 2, none⟩)), DetI (.slice A1 p_d.List.length c1), DetI (.int .i64 ((p_d.List.length : Int))), DetI (.string (bs ((i_numBytes (p_d.List.length : Int))))), DetI (.string (bs (((i_numBytes p_d.From) ++ (i_numBytes p_d.To)) ++ (i_numBytes (p_d.List.length : Int))))), DetI (.string (bs (((i_numBytes p_d.From) ++ (i_numBytes p_d.To)) ++ (i_numBytes (p_d.List.length : Int)))))]) Try.follows rfl rfl rfl rfl rfl rfl (vgetI_stable ⟨StableI.det _, StableI.det _, StableI.det _, StableI.det _, StableI.det _, StableI.det _, StableI.det _, StableI.det _, StableI.det _, StableI.det _, StableI.det _, StableI.det _, StableI.det _, trivial⟩) ⟨?_, ?_, ?_, ?_, ?_, ?_, ?_, ?_, ?_, ?_, ?_, ?_, ?_, trivial⟩ ?_
 ·exact fun _ _ h => os rfl ((yl_fieldAddr Try.fd41_0 rfl (h.old 1 _ rfl rfl) kI))
 ·exact fun _ _ h => os rfl ((yl_load1 Try.ty3 rfl (h.dt 0 6 rfl rfl rfl) (((Box.ex hB8 h.ex).cell 0).trans rfl) kI))
 ·intro L27 w28 hi29
  have hE30 := hi29.ex
  have hE30z := Ex.size hE30
  refine OpR.op' rfl (yl_call Try.en125 rfl (opvs_cons (hi29.dt 1 7 rfl rfl rfl) opvs_nil) (Cal.mono (c_i_numBytes p_d.From (by first | omega | assumption | (simp only [IntKind.wrap_i64] at *; omega))) ?_))
  rintro v33 w32 ⟨rfl, hE34⟩
  exact ⟨rfl, hE34⟩
 ·exact fun _ _ h => os rfl ((yl_fieldAddr Try.fd41_1 rfl (h.old 1 _ rfl rfl) kI))
 ·exact fun _ _ h => os rfl ((yl_load1 Try.ty3 rfl (h.dt 3 9 rfl rfl rfl) (((Box.ex hB8 h.ex).cell 1).trans rfl) kI))
 ·intro L46 w47 hi48
  have hE49 := hi48.ex
  have hE49z := Ex.size hE49
  refine OpR.op' rfl (yl_call Try.en125 rfl (opvs_cons (hi48.dt 4 10 rfl rfl rfl) opvs_nil) (Cal.mono (c_i_numBytes p_d.To (by first | omega | assumption | (simp only [IntKind.wrap_i64] at *; omega))) ?_))
  rintro v52 w51 ⟨rfl, hE53⟩
  exact ⟨rfl, hE53⟩
 ·intro L54 w55 hi56
  have hE57 := hi56.ex
  have hE57z := Ex.size hE57
  exact os rfl ((yl_sadd (a := (i_numBytes p_d.From)) (b := (i_numBytes p_d.To)) rfl (hi56.dt 2 8 rfl rfl rfl) (hi56.dt 5 11 rfl rfl rfl) (by first | omega | (simp only [List.length_append, List.length_cons, List.length_nil, List.length_take, List.length_drop, toS_length]; omega)) kI))
 ·exact fun _ _ h => os rfl ((yl_fieldAddr Try.fd41_2 rfl (h.old 1 _ rfl rfl) kI))
 ·exact fun _ _ h => os rfl ((yl_load1 Try.ty39 rfl (h.dt 7 13 rfl rfl rfl) (((Box.ex hB8 h.ex).cell 2).trans rfl) kI))
 ·exact fun _ _ h => os rfl ((yl_len Try.un39 rfl (h.dt 8 14 rfl rfl rfl) kI))
 ·intro L76 w77 hi78
  have hE79 := hi78.ex
  have hE79z := Ex.size hE79
  refine OpR.op' rfl (yl_call Try.en125 rfl (opvs_cons (hi78.dt 9 15 rfl rfl rfl) opvs_nil) (Cal.mono (c_i_numBytes (p_d.List.length : Int) (by first | omega | assumption | (simp only [IntKind.wrap_i64] at *; omega))) ?_))
  rintro v82 w81 ⟨rfl, hE83⟩
  exact ⟨rfl, hE83⟩
 ·intro L84 w85 hi86
  have hE87 := hi86.ex
  have hE87z := Ex.size hE87
  exact os rfl ((yl_sadd (a := ((i_numBytes p_d.From) ++ (i_numBytes p_d.To))) (b := (i_numBytes (p_d.List.length : Int))) rfl (hi86.dt 6 12 rfl rfl rfl) (hi86.dt 10 16 rfl rfl rfl) (by first | omega | (simp only [List.length_append, List.length_cons, List.length_nil, List.length_take, List.length_drop, toS_length]; omega)) kI))
 ·exact fun _ _ h => os rfl ((yl_assign rfl (h.dt 11 17 rfl rfl rfl) kI))
 ·intro fl98 fh99 L95 w96 hp97
  have hE100 := hp97.ex
  have hE100z := Ex.size hE100
  refine SeqR.done (tn (CW.sub (Sub.cons (d := 1) (hp97.old 1 _ rfl rfl) (Sub.cons (d := 3) (hp97.nt 12 3 rfl rfl rfl) (Sub.nil _))) (CW.seq (CW.seq (CW.region (sd rfl (yl_fieldAddr Try.fd41_2 rfl rfl (sd rfl (yl_load1 Try.ty39 rfl rfl (((Box.ex hB8 hE100).cell 2).trans rfl) (sd rfl (yl_len Try.un39 rfl rfl ?_)))))))))))
  refine sd rfl (yl_move rfl rfl (SeqR.done (tn (CW.block (CW.loop (fun m140 L141 w142 => ∃ (k104 : Nat) (x139 : Str), m140 = p_d.List.length - k104 ∧ k104 ≤ p_d.List.length ∧ w96.heap.size ≤ w142.heap.size ∧ lkp L141 3 = some (.string (bs (x139))) ∧ lkp L141 19 = some (.slice A1 p_d.List.length c1) ∧ lkp L141 20 = some (.int .i64 ((p_d.List.length : Int))) ∧ lkp L141 21 = some (.int .i64 ((k104 : Int))) ∧ RdS w142 (Iv 0 w.heap.size) (RF e_FeedItem) 5 A1 p_d.List.length c1 p_d.List ∧ Ex w w142 ∧ x139.length ≤ (i_numBytes p_d.From).length + (i_numBytes p_d.To).length + (i_numBytes (p_d.List.length : Int)).length + 52 * (k104 - 0) ∧ loopM (B_i_diffBytes_0 p_d) (p_d.List.length - k104) k104 (x139) = loopM (B_i_diffBytes_0 p_d) (p_d.List.length - 0) 0 (((i_numBytes p_d.From) ++ (i_numBytes p_d.To)) ++ (i_numBytes (p_d.List.length : Int)))) (p_d.List.length - 0) ?_ ?_)))))
  ·exact ⟨0, ((i_numBytes p_d.From) ++ (i_numBytes p_d.To)) ++ (i_numBytes (p_d.List.length : Int)), rfl, (by omega), Nat.le_refl _, rfl, rfl, rfl, rfl, (RdS.ex good_FeedItem (RdS.ex good_FeedItem h1 hE9) hE100), (Ex.trans (Ex.trans (Ex.refl w) hE9) hE100), (by first | (simp; done) | (first | omega | (simp only [List.length_append, List.length_cons, List.length_nil, List.length_set, toS_length]; omega))), rfl⟩
  ·rintro m147 L148 w149 ⟨k104, x139, rfl, hk150, hsz152, hl153, hl154, hl155, hl156, hf157, hf158, hln159, hI151⟩
   refine CW.sub (Sub.cons hl153 (Sub.cons hl154 (Sub.cons hl155 (Sub.cons hl156 (Sub.nil _))))) ?_
   have hf158z := Ex.size hf158
   have hbg160 := RdS.big hf157
   rcases Nat.lt_or_ge k104 p_d.List.length with hlt161 | hlt161
   ·have hcp3 := hcp2 k104 hlt161
    refine CW.seq (CW.region (sd rfl (yl_lss rfl rfl rfl (SeqR.done (tn (CW.seq (CW.cond_t rfl (lt_t hlt161) (CW.skip (tn ?_)))))))))
    refine CW.seq (CW.block (CW.seq (CW.region ?_)))
    obtain ⟨eb162, eo162, ec162, eA162, eS162, ebl162, el162, eR162, eC162⟩ := RdS.atD hf157 d_FeedItem (i := k104) (by first | omega | assumption)
    obtain rfl := eR162
    have eC162 : Cells w149 eb162 (eo162 + k104 * 5) [.int .i64 ((p_d.List.getD k104 d_FeedItem).Time), .int .i64 ((p_d.List.getD k104 d_FeedItem).Group), .string (bs ((p_d.List.getD k104 d_FeedItem).Key)), .string (bs ((p_d.List.getD k104 d_FeedItem).Val)), .bool ((p_d.List.getD k104 d_FeedItem).Gone)] := eC162
    refine sd rfl (yl_indexAddrN Try.un39 Try.ty116 rfl rfl rfl eA162 (by first | omega | assumption | (simp only [IntKind.wrap_i64] at *; omega)) (sd rfl (yl_loadN (cs := [.int .i64 ((p_d.List.getD k104 d_FeedItem).Time), .int .i64 ((p_d.List.getD k104 d_FeedItem).Group), .string (bs ((p_d.List.getD k104 d_FeedItem).Key)), .string (bs ((p_d.List.getD k104 d_FeedItem).Val)), .bool ((p_d.List.getD k104 d_FeedItem).Gone)]) Try.ty116 rfl rfl eC162 rfl (sd rfl (yl_alloc Try.ty116 (cs := [.int .i64 (0), .int .i64 (0), .string (bs (([] : Str))), .string (bs (([] : Str))), .bool (false)]) rfl rfl ?_)))))
    intro b163 w164 hs165 hz166 hB167 hE168
    refine SeqR.u rfl rfl (yl_store (vs := [.int .i64 ((p_d.List.getD k104 d_FeedItem).Time), .int .i64 ((p_d.List.getD k104 d_FeedItem).Group), .string (bs ((p_d.List.getD k104 d_FeedItem).Key)), .string (bs ((p_d.List.getD k104 d_FeedItem).Val)), .bool ((p_d.List.getD k104 d_FeedItem).Gone)]) Try.ty116 rfl rfl rfl rfl rfl rfl hB167 (Nat.le_of_ble_eq_true rfl) ?_)
    intro w169 hB170 hO171
    have hB170 : Box w169 b163 116 [.int .i64 ((p_d.List.getD k104 d_FeedItem).Time), .int .i64 ((p_d.List.getD k104 d_FeedItem).Group), .string (bs ((p_d.List.getD k104 d_FeedItem).Key)), .string (bs ((p_d.List.getD k104 d_FeedItem).Val)), .bool ((p_d.List.getD k104 d_FeedItem).Gone)] := hB170
    have hO171z := hO171.size
    refine SeqR.done (tn ?_)
    have hrf177 := rf_numBytes ((p_d.List.getD k104 d_FeedItem).Time) (by first | omega | assumption | (simp only [IntKind.wrap_i64] at *; omega))
    have hrf178 := rf_textBytes ((p_d.List.getD k104 d_FeedItem).Key) (by omega)
    have hrf179 := rf_flagByte ((p_d.List.getD k104 d_FeedItem).Gone)
    have hrf180 := rf_textBytes ((p_d.List.getD k104 d_FeedItem).Val) (by omega)
    refine CW.drawsI 18 (vgetI [DetI (.string (bs (x139))), DetI (.pointer (some ⟨b163, 0 + 0, none⟩)), DetI (.int .i64 ((p_d.List.getD k104 d_FeedItem).Time)), DetI (.string (bs ((i_numBytes ((p_d.List.getD k104 d_FeedItem).Time))))), DetI (.pointer (some ⟨b163, 0 + 2, none⟩)), DetI (.string (bs ((p_d.List.getD k104 d_FeedItem).Key))), DetI (.string (bs ((i_textBytes ((p_d.List.getD k104 d_FeedItem).Key))))), DetI (.string (bs ((i_numBytes ((p_d.List.getD k104 d_FeedItem).Time)) ++ (i_textBytes ((p_d.List.getD k104 d_FeedItem).Key))))), DetI (.pointer (some ⟨b163, 0 + 4, none⟩)), DetI (.bool ((p_d.List.getD k104 d_FeedItem).Gone)), fun lo hi v wq => v = .string (bs ((i_flagByte ((p_d.List.getD k104 d_FeedItem).Gone)))) ∧ okS (i_flagByte ((p_d.List.getD k104 d_FeedItem).Gone)), DetI (.string (bs (((i_numBytes ((p_d.List.getD k104 d_FeedItem).Time)) ++ (i_textBytes ((p_d.List.getD k104 d_FeedItem).Key))) ++ (i_flagByte ((p_d.List.getD k104 d_FeedItem).Gone))))), DetI (.pointer (some ⟨b163, 0 + 3, none⟩)), DetI (.string (bs ((p_d.List.getD k104 d_FeedItem).Val))), DetI (.string (bs ((i_textBytes ((p_d.List.getD k104 d_FeedItem).Val))))), DetI (.string (bs ((((i_numBytes ((p_d.List.getD k104 d_FeedItem).Time)) ++ (i_textBytes ((p_d.List.getD k104 d_FeedItem).Key))) ++ (i_flagByte ((p_d.List.getD k104 d_FeedItem).Gone))) ++ (i_textBytes ((p_d.List.getD k104 d_FeedItem).Val))))), DetI (.string (bs (x139 ++ ((((i_numBytes ((p_d.List.getD k104 d_FeedItem).Time)) ++ (i_textBytes ((p_d.List.getD k104 d_FeedItem).Key))) ++ (i_flagByte ((p_d.List.getD k104 d_FeedItem).Gone))) ++ (i_textBytes ((p_d.List.getD k104 d_FeedItem).Val)))))), DetI (.string (bs (x139 ++ ((((i_numBytes ((p_d.List.getD k104 d_FeedItem).Time)) ++ (i_textBytes ((p_d.List.getD k104 d_FeedItem).Key))) ++ (i_flagByte ((p_d.List.getD k104 d_FeedItem).Gone))) ++ (i_textBytes ((p_d.List.getD k104 d_FeedItem).Val))))))]) Try.follows rfl rfl rfl rfl rfl rfl (vgetI_stable ⟨StableI.det _, StableI.det _, StableI.det _, StableI.det _, StableI.det _, StableI.det _, StableI.det _, StableI.det _, StableI.det _, StableI.det _, (fun _ _ _ _ _ ⟨hv, ho175⟩ e => ⟨hv, ho175⟩), StableI.det _, StableI.det _, StableI.det _, StableI.det _, StableI.det _, StableI.det _, StableI.det _, trivial⟩) ⟨?_, ?_, ?_, ?_, ?_, ?_, ?_, ?_, ?_, ?_, ?_, ?_, ?_, ?_, ?_, ?_, ?_, ?_, trivial⟩ ?_
    ·exact fun _ _ h => os rfl ((yl_move rfl (h.old 3 _ rfl rfl) kI))
    ·exact fun _ _ h => os rfl ((yl_fieldAddr Try.fd116_0 rfl (h.old 5 _ rfl rfl) kI))
    ·exact fun _ _ h => os rfl ((yl_load1 Try.ty3 rfl (h.dt 1 26 rfl rfl rfl) (((Box.ex hB170 h.ex).cell 0).trans rfl) kI))
    ·intro L197 w198 hi199
     have hE200 := hi199.ex
     have hE200z := Ex.size hE200
     refine OpR.op' rfl (yl_call Try.en125 rfl (opvs_cons (hi199.dt 2 27 rfl rfl rfl) opvs_nil) (Cal.mono (c_i_numBytes ((p_d.List.getD k104 d_FeedItem).Time) (by first | omega | assumption | (simp only [IntKind.wrap_i64] at *; omega))) ?_))
     rintro v203 w202 ⟨rfl, hE204⟩
     exact ⟨rfl, hE204⟩
    ·exact fun _ _ h => os rfl ((yl_fieldAddr Try.fd116_2 rfl (h.old 5 _ rfl rfl) kI))
    ·exact fun _ _ h => os rfl ((yl_load1 Try.ty9 rfl (h.dt 4 29 rfl rfl rfl) (((Box.ex hB170 h.ex).cell 2).trans rfl) kI))
    ·intro L216 w217 hi218
     refine OpR.op' rfl (yl_call Try.en126 rfl (opvs_cons (hi218.dt 5 30 rfl rfl rfl) opvs_nil) (Cal.mono (c_i_textBytes ((p_d.List.getD k104 d_FeedItem).Key) ((okL.getD o2 ok_d_FeedItem _).1)) ?_))
     rintro v222 w221 ⟨rfl, hE223⟩
     exact ⟨rfl, hE223⟩
    ·intro L224 w225 hi226
     have hE227 := hi226.ex
     have hE227z := Ex.size hE227
     exact os rfl ((yl_sadd (a := (i_numBytes ((p_d.List.getD k104 d_FeedItem).Time))) (b := (i_textBytes ((p_d.List.getD k104 d_FeedItem).Key))) rfl (hi226.dt 3 28 rfl rfl rfl) (hi226.dt 6 31 rfl rfl rfl) (by first | omega | (simp only [List.length_append, List.length_cons, List.length_nil, List.length_take, List.length_drop, toS_length]; omega)) kI))
    ·exact fun _ _ h => os rfl ((yl_fieldAddr Try.fd116_4 rfl (h.old 5 _ rfl rfl) kI))
    ·exact fun _ _ h => os rfl ((yl_load1 Try.ty4 rfl (h.dt 8 33 rfl rfl rfl) (((Box.ex hB170 h.ex).cell 4).trans rfl) kI))
    ·intro L241 w242 hi243
     refine OpR.op' rfl (yl_call Try.en127 rfl (opvs_cons (hi243.dt 9 34 rfl rfl rfl) opvs_nil) (Cal.mono (c_i_flagByte ((p_d.List.getD k104 d_FeedItem).Gone)) ?_))
     rintro v248 w246 ⟨rfl, ho247, hE249⟩
     exact ⟨⟨rfl, ho247⟩, hE249⟩
    ·intro L250 w251 hi252
     have hE253 := hi252.ex
     have hE253z := Ex.size hE253
     obtain ⟨lo256, hh257, _, hx255, hr258, hr259, hr260, rfl, h261⟩ := hi252.dep 10 35 rfl rfl
     have hol262 : (i_flagByte ((p_d.List.getD k104 d_FeedItem).Gone)).length ≤ 1073741824 := h261
     exact os rfl ((yl_sadd (a := ((i_numBytes ((p_d.List.getD k104 d_FeedItem).Time)) ++ (i_textBytes ((p_d.List.getD k104 d_FeedItem).Key)))) (b := (i_flagByte ((p_d.List.getD k104 d_FeedItem).Gone))) rfl (hi252.dt 7 32 rfl rfl rfl) hx255 (by first | omega | (simp only [List.length_append, List.length_cons, List.length_nil, List.length_take, List.length_drop, toS_length]; omega)) kI))
    ·exact fun _ _ h => os rfl ((yl_fieldAddr Try.fd116_3 rfl (h.old 5 _ rfl rfl) kI))
    ·exact fun _ _ h => os rfl ((yl_load1 Try.ty9 rfl (h.dt 12 37 rfl rfl rfl) (((Box.ex hB170 h.ex).cell 3).trans rfl) kI))
    ·intro L274 w275 hi276
     refine OpR.op' rfl (yl_call Try.en126 rfl (opvs_cons (hi276.dt 13 38 rfl rfl rfl) opvs_nil) (Cal.mono (c_i_textBytes ((p_d.List.getD k104 d_FeedItem).Val) ((okL.getD o2 ok_d_FeedItem _).2)) ?_))
     rintro v280 w279 ⟨rfl, hE281⟩
     exact ⟨rfl, hE281⟩
    ·intro L282 w283 hi284
     have hE285 := hi284.ex
     have hE285z := Ex.size hE285
     exact os rfl ((yl_sadd (a := (((i_numBytes ((p_d.List.getD k104 d_FeedItem).Time)) ++ (i_textBytes ((p_d.List.getD k104 d_FeedItem).Key))) ++ (i_flagByte ((p_d.List.getD k104 d_FeedItem).Gone)))) (b := (i_textBytes ((p_d.List.getD k104 d_FeedItem).Val))) rfl (hi284.dt 11 36 rfl rfl rfl) (hi284.dt 14 39 rfl rfl rfl) (by first | omega | (simp only [List.length_append, List.length_cons, List.length_nil, List.length_take, List.length_drop, toS_length]; omega)) kI))
    ·intro L288 w289 hi290
     have hE291 := hi290.ex
     have hE291z := Ex.size hE291
     exact os rfl ((yl_sadd (a := x139) (b := ((((i_numBytes ((p_d.List.getD k104 d_FeedItem).Time)) ++ (i_textBytes ((p_d.List.getD k104 d_FeedItem).Key))) ++ (i_flagByte ((p_d.List.getD k104 d_FeedItem).Gone))) ++ (i_textBytes ((p_d.List.getD k104 d_FeedItem).Val)))) rfl (hi290.dt 0 25 rfl rfl rfl) (hi290.dt 15 40 rfl rfl rfl) (by first | omega | (simp only [List.length_append, List.length_cons, List.length_nil, List.length_take, List.length_drop, toS_length]; omega)) kI))
    ·exact fun _ _ h => os rfl ((yl_assign rfl (h.dt 16 41 rfl rfl rfl) kI))
    ·intro fl302 fh303 L299 w300 hp301
     have hE304 := hp301.ex
     have hE304z := Ex.size hE304
     refine SeqR.done (bn (tn (CW.sub (Sub.cons (d := 3) (hp301.nt 17 3 rfl rfl rfl) (Sub.cons (d := 19) (hp301.old 19 _ rfl rfl) (Sub.cons (d := 20) (hp301.old 20 _ rfl rfl) (Sub.cons (d := 21) (hp301.old 21 _ rfl rfl) (Sub.nil _))))) (CW.region (sd rfl (yl_inc rfl rfl rfl (by omega) (sd rfl (yl_move rfl rfl (SeqR.done (tn ?_))))))))))
     have hB309 : B_i_diffBytes_0 p_d k104 (x139) = .cont (x139 ++ ((((i_numBytes ((p_d.List.getD k104 d_FeedItem).Time)) ++ (i_textBytes ((p_d.List.getD k104 d_FeedItem).Key))) ++ (i_flagByte ((p_d.List.getD k104 d_FeedItem).Gone))) ++ (i_textBytes ((p_d.List.getD k104 d_FeedItem).Val)))) := by simp only [B_i_diffBytes_0, cond_true, cond_false, loopE_done, loopE_ret]
     exact ⟨p_d.List.length - (k104 + 1), by omega, k104 + 1, x139 ++ ((((i_numBytes ((p_d.List.getD k104 d_FeedItem).Time)) ++ (i_textBytes ((p_d.List.getD k104 d_FeedItem).Key))) ++ (i_flagByte ((p_d.List.getD k104 d_FeedItem).Gone))) ++ (i_textBytes ((p_d.List.getD k104 d_FeedItem).Val))), rfl, hlt161, (by omega), rfl, rfl, rfl, rfl, (RdS.ex good_FeedItem (RdS.only good_FeedItem (RdS.ex good_FeedItem hf157 hE168) hO171 (by simp only [Iv]; omega)) hE304), (Ex.trans (Below.only (Ex.trans hf158 hE168) hO171 (by omega)) hE304), (by first | omega | (simp only [List.length_append, List.length_cons, List.length_nil, List.length_set, toS_length]; omega)), (loopM.cont hlt161 hB309).symm.trans hI151⟩
   ·refine CW.seq (CW.region (sd rfl (yl_lss rfl rfl rfl (SeqR.done (tn (CW.seq (CW.cond_f rfl (lt_f hlt161) (CW.exit (tx ?_)))))))))
    refine tx ?_
    have hL316 : loopM (B_i_diffBytes_0 p_d) (p_d.List.length - 0) 0 (((i_numBytes p_d.From) ++ (i_numBytes p_d.To)) ++ (i_numBytes (p_d.List.length : Int))) = .done (x139) := hI151.symm.trans (loopM.stop hlt161)
    refine bx (tn (CW.seq (CW.region (sd rfl (yl_move rfl rfl (sd rfl (yl_call Try.en128 rfl (opvs_cons rfl opvs_nil) (Cal.mono (c_i_seal x139 (by unfold okS; omega)) ?_))))))))
    rintro v318 w317 ⟨rfl, hE319⟩
    have hE319z := Ex.size hE319
    have hrf320 := rf_seal x139
    refine sd rfl (yl_assign rfl rfl (SeqR.done (tn (CW.ret (rr rfl (.cons rfl .nil) ?_)))))
    have hM321 : (i_diffBytes p_d) = ((i_seal x139)) := by simp only [i_diffBytes, hL316, cond_true, cond_false, loopE_done, loopE_ret]
    rw [hM321]
    exact ⟨rfl, (Ex.trans hf158 hE319)⟩
set_option maxRecDepth 100000 in
set_option maxHeartbeats 2000000 in
theorem c_i_DiffBytes {A1 : Option Addr} {c1 : Nat} {w : World} (p_d : DDiff) (h1 : RdS w (Iv 0 w.heap.size) (RF e_FeedItem) 5 A1 p_d.List.length c1 p_d.List) (o2 : ok_Diff p_d) : Cal Try.prog 18 #[.agg #[.int .i64 (p_d.From), .int .i64 (p_d.To), .slice A1 p_d.List.length c1]] w fun v w' => v = .tuple #[.string (bs ((i_DiffBytes p_d).1)), .bool ((i_DiffBytes p_d).2)] ∧ Ex w w' := by
 have hol3 := o2.1
 refine Cal.of (vs := [.agg #[.int .i64 (p_d.From), .int .i64 (p_d.To), .slice A1 p_d.List.length c1]]) Try.func18 rfl Try.ntmps18 rfl (CW.seq (CW.region (sd rfl (yl_box (cs := [.int .i64 (p_d.From), .int .i64 (p_d.To), .slice A1 p_d.List.length c1]) rfl rfl rfl ?_))))
 intro b4 w5 hs6 hz7 hB8 hE9
 refine sd rfl (yl_assign rfl rfl (sd rfl (yl_assign rfl rfl (SeqR.done (tn (CW.seq (CW.seq (CW.region (sd rfl (yl_loadN (cs := [.int .i64 (p_d.From), .int .i64 (p_d.To), .slice A1 p_d.List.length c1]) Try.ty41 rfl rfl (hB8.cells (n := 3) rfl) rfl ?_))))))))))
 have q10 := RdS.ex good_FeedItem h1 hE9
 refine sd rfl (yl_call Try.en66 rfl (opvs_cons rfl opvs_nil) (Cal.mono (c_i_GoodDiff p_d (RdS.up q10 good_FeedItem) o2) ?_))
 rintro v12 w11 ⟨rfl, hE13⟩
 have hE13z := Ex.size hE13
 refine sd rfl (yl_not rfl rfl (SeqR.done (tn (bcase (i_GoodDiff p_d) (fun hb14 => ?_) (fun hb14 => ?_)))))
 ·refine CW.cond_f rfl (not_t hb14) (CW.skip (tn (CW.seq (CW.region (sd rfl (yl_loadN (cs := [.int .i64 (p_d.From), .int .i64 (p_d.To), .slice A1 p_d.List.length c1]) Try.ty41 rfl rfl ((Box.ex hB8 hE13).cells (n := 3) rfl) rfl (sd rfl (yl_call Try.en67 rfl (opvs_cons rfl opvs_nil) (Cal.mono (c_i_diffBytes p_d (RdS.up (RdS.ex good_FeedItem q10 hE13) good_FeedItem) o2 (by first | omega | assumption | (simp only [IntKind.wrap_i64] at *; omega))) ?_)))))))))
  rintro v18 w17 ⟨rfl, hE19⟩
  have hE19z := Ex.size hE19
  refine sd rfl (yl_assign rfl rfl (SeqR.done (tn (CW.seq (CW.seq (CW.region (sd rfl (yl_move rfl rfl (sd rfl (yl_slen Try.un9 (a := (i_diffBytes p_d)) rfl rfl (sd rfl (yl_gtr rfl rfl rfl ?_))))))))))))
  refine SeqR.done (tn (bcase (decide (6000 < ((i_diffBytes p_d).length : Int))) (fun hb20 => ?_) (fun hb20 => ?_)))
  ·have hb20p := dec_t hb20
   refine CW.cond_t rfl hb20 (CW.seq (CW.region (sd rfl (yl_assign rfl rfl (sd rfl (yl_assign rfl rfl (SeqR.done (tn (CW.ret (tr ?_))))))))))
   refine rr rfl (.cons rfl (.cons rfl .nil)) ?_
   have hM21 : (i_DiffBytes p_d) = ((([] : Str), false)) := by simp only [i_DiffBytes, hb14, hb20, cond_true, cond_false, loopE_done, loopE_ret]
   rw [hM21]
   exact ⟨rfl, (Ex.trans (Ex.trans (Ex.trans (Ex.refl w) hE9) hE13) hE19)⟩
  ·have hb20p := dec_f hb20
   refine CW.cond_f rfl hb20 (CW.skip (tn (CW.seq (CW.region (sd rfl (yl_move rfl rfl (sd rfl (yl_assign rfl rfl (sd rfl (yl_assign rfl rfl (SeqR.done ?_)))))))))))
   refine tn (CW.ret (rr rfl (.cons rfl (.cons rfl .nil)) ?_))
   have hM25 : (i_DiffBytes p_d) = (((i_diffBytes p_d), true)) := by simp only [i_DiffBytes, hb14, hb20, cond_true, cond_false, loopE_done, loopE_ret]
   rw [hM25]
   exact ⟨rfl, (Ex.trans (Ex.trans (Ex.trans (Ex.refl w) hE9) hE13) hE19)⟩
 ·refine CW.cond_t rfl (not_f hb14) (CW.seq (CW.region (sd rfl (yl_assign rfl rfl (sd rfl (yl_assign rfl rfl (SeqR.done (tn (CW.ret (tr ?_))))))))))
  refine rr rfl (.cons rfl (.cons rfl .nil)) ?_
  have hM29 : (i_DiffBytes p_d) = ((([] : Str), false)) := by simp only [i_DiffBytes, hb14, cond_true, cond_false, loopE_done, loopE_ret]
  rw [hM29]
  exact ⟨rfl, (Ex.trans (Ex.trans (Ex.refl w) hE9) hE13)⟩
set_option maxRecDepth 100000 in
set_option maxHeartbeats 2000000 in
theorem c_l_eqFeedItem {w : World} (p_a : DFeedItem) (p_b : DFeedItem) : Cal Try.prog 129 #[.agg #[.int .i64 (p_a.Time), .int .i64 (p_a.Group), .string (bs (p_a.Key)), .string (bs (p_a.Val)), .bool (p_a.Gone)], .agg #[.int .i64 (p_b.Time), .int .i64 (p_b.Group), .string (bs (p_b.Key)), .string (bs (p_b.Val)), .bool (p_b.Gone)]] w fun v w' => v = .bool ((l_eqFeedItem p_a p_b)) ∧ Ex w w' := by
 refine Cal.of (vs := [.agg #[.int .i64 (p_a.Time), .int .i64 (p_a.Group), .string (bs (p_a.Key)), .string (bs (p_a.Val)), .bool (p_a.Gone)], .agg #[.int .i64 (p_b.Time), .int .i64 (p_b.Group), .string (bs (p_b.Key)), .string (bs (p_b.Val)), .bool (p_b.Gone)]]) Try.func129 rfl Try.ntmps129 rfl (CW.seq (CW.region (sd rfl (yl_box (cs := [.int .i64 (p_a.Time), .int .i64 (p_a.Group), .string (bs (p_a.Key)), .string (bs (p_a.Val)), .bool (p_a.Gone)]) rfl rfl rfl ?_))))
 intro b1 w2 hs3 hz4 hB5 hE6
 refine sd rfl (yl_box (cs := [.int .i64 (p_b.Time), .int .i64 (p_b.Group), .string (bs (p_b.Key)), .string (bs (p_b.Val)), .bool (p_b.Gone)]) rfl rfl rfl ?_)
 intro b7 w8 hs9 hz10 hB11 hE12
 refine sd rfl (yl_assign rfl rfl (SeqR.done (tn (CW.seq (CW.seq (CW.region (sd rfl (yl_fieldAddr Try.fd116_0 rfl rfl ?_))))))))
 have q13 := Box.ex hB5 hE12
 refine sd rfl (yl_load1 Try.ty3 rfl rfl ((q13.cell 0).trans rfl) (sd rfl (yl_fieldAddr Try.fd116_0 rfl rfl (sd rfl (yl_load1 Try.ty3 rfl rfl ((hB11.cell 0).trans rfl) (sd rfl (yl_neq rfl rfl rfl (SeqR.done (tn (bcase (decide (p_a.Time = p_b.Time)) (fun hb14 => ?_) (fun hb14 => ?_)))))))))))
 ·have hb14p := dec_t hb14
  refine CW.cond_f rfl (not_t hb14) (CW.skip (tn (CW.seq (CW.seq (CW.region (sd rfl (yl_fieldAddr Try.fd116_1 rfl rfl (sd rfl (yl_load1 Try.ty3 rfl rfl ((q13.cell 1).trans rfl) (sd rfl (yl_fieldAddr Try.fd116_1 rfl rfl ?_)))))))))))
  refine sd rfl (yl_load1 Try.ty3 rfl rfl ((hB11.cell 1).trans rfl) (sd rfl (yl_neq rfl rfl rfl (SeqR.done (tn (bcase (decide (p_a.Group = p_b.Group)) (fun hb15 => ?_) (fun hb15 => ?_)))))))
  ·have hb15p := dec_t hb15
   refine CW.cond_f rfl (not_t hb15) (CW.skip (tn (CW.seq (CW.seq (CW.region (sd rfl (yl_fieldAddr Try.fd116_2 rfl rfl (sd rfl (yl_load1 Try.ty9 rfl rfl ((q13.cell 2).trans rfl) (sd rfl (yl_fieldAddr Try.fd116_2 rfl rfl ?_)))))))))))
   refine sd rfl (yl_load1 Try.ty9 rfl rfl ((hB11.cell 2).trans rfl) (sd rfl (yl_sneq (a := p_a.Key) (b := p_b.Key) rfl rfl rfl (SeqR.done (tn (bcase (p_a.Key == p_b.Key) (fun hb16 => ?_) (fun hb16 => ?_)))))))
   ·refine CW.cond_f rfl (not_t hb16) (CW.skip (tn (CW.seq (CW.seq (CW.region (sd rfl (yl_fieldAddr Try.fd116_3 rfl rfl (sd rfl (yl_load1 Try.ty9 rfl rfl ((q13.cell 3).trans rfl) (sd rfl (yl_fieldAddr Try.fd116_3 rfl rfl ?_)))))))))))
    refine sd rfl (yl_load1 Try.ty9 rfl rfl ((hB11.cell 3).trans rfl) (sd rfl (yl_sneq (a := p_a.Val) (b := p_b.Val) rfl rfl rfl (SeqR.done (tn (bcase (p_a.Val == p_b.Val) (fun hb17 => ?_) (fun hb17 => ?_)))))))
    ·refine CW.cond_f rfl (not_t hb17) (CW.skip (tn (CW.seq (CW.seq (CW.region (sd rfl (yl_fieldAddr Try.fd116_4 rfl rfl (sd rfl (yl_load1 Try.ty4 rfl rfl ((q13.cell 4).trans rfl) (sd rfl (yl_fieldAddr Try.fd116_4 rfl rfl ?_)))))))))))
     refine sd rfl (yl_load1 Try.ty4 rfl rfl ((hB11.cell 4).trans rfl) (sd rfl (yl_bneq Try.un4 rfl rfl rfl (SeqR.done (tn (bcase (p_a.Gone == p_b.Gone) (fun hb18 => ?_) (fun hb18 => ?_)))))))
     ·refine CW.cond_f rfl (not_t hb18) (CW.skip (tn (CW.seq (CW.region (sd rfl (yl_assign rfl rfl (SeqR.done (tn (CW.ret ?_)))))))))
      refine rr rfl (.cons rfl .nil) ?_
      have hM19 : (l_eqFeedItem p_a p_b) = (true) := by simp only [l_eqFeedItem, hb14, hb15, hb16, hb17, hb18, cond_true, cond_false, loopE_done, loopE_ret]
      rw [hM19]
      exact ⟨rfl, (Ex.trans (Ex.trans (Ex.refl w) hE6) hE12)⟩
     ·refine CW.cond_t rfl (not_f hb18) (CW.seq (CW.region (sd rfl (yl_assign rfl rfl (SeqR.done (tn (CW.ret (tr (rr rfl (.cons rfl .nil) ?_)))))))))
      have hM22 : (l_eqFeedItem p_a p_b) = (false) := by simp only [l_eqFeedItem, hb14, hb15, hb16, hb17, hb18, cond_true, cond_false, loopE_done, loopE_ret]
      rw [hM22]
      exact ⟨rfl, (Ex.trans (Ex.trans (Ex.refl w) hE6) hE12)⟩
    ·refine CW.cond_t rfl (not_f hb17) (CW.seq (CW.region (sd rfl (yl_assign rfl rfl (SeqR.done (tn (CW.ret (tr (rr rfl (.cons rfl .nil) ?_)))))))))
     have hM25 : (l_eqFeedItem p_a p_b) = (false) := by simp only [l_eqFeedItem, hb14, hb15, hb16, hb17, cond_true, cond_false, loopE_done, loopE_ret]
     rw [hM25]
     exact ⟨rfl, (Ex.trans (Ex.trans (Ex.refl w) hE6) hE12)⟩
   ·refine CW.cond_t rfl (not_f hb16) (CW.seq (CW.region (sd rfl (yl_assign rfl rfl (SeqR.done (tn (CW.ret (tr (rr rfl (.cons rfl .nil) ?_)))))))))
    have hM28 : (l_eqFeedItem p_a p_b) = (false) := by simp only [l_eqFeedItem, hb14, hb15, hb16, cond_true, cond_false, loopE_done, loopE_ret]
    rw [hM28]
    exact ⟨rfl, (Ex.trans (Ex.trans (Ex.refl w) hE6) hE12)⟩
  ·have hb15p := dec_f hb15
   refine CW.cond_t rfl (not_f hb15) (CW.seq (CW.region (sd rfl (yl_assign rfl rfl (SeqR.done (tn (CW.ret (tr (rr rfl (.cons rfl .nil) ?_)))))))))
   have hM31 : (l_eqFeedItem p_a p_b) = (false) := by simp only [l_eqFeedItem, hb14, hb15, cond_true, cond_false, loopE_done, loopE_ret]
   rw [hM31]
   exact ⟨rfl, (Ex.trans (Ex.trans (Ex.refl w) hE6) hE12)⟩
 ·have hb14p := dec_f hb14
  refine CW.cond_t rfl (not_f hb14) (CW.seq (CW.region (sd rfl (yl_assign rfl rfl (SeqR.done (tn (CW.ret (tr (rr rfl (.cons rfl .nil) ?_)))))))))
  have hM34 : (l_eqFeedItem p_a p_b) = (false) := by simp only [l_eqFeedItem, hb14, cond_true, cond_false, loopE_done, loopE_ret]
  rw [hM34]
  exact ⟨rfl, (Ex.trans (Ex.trans (Ex.refl w) hE6) hE12)⟩
set_option maxRecDepth 100000 in
set_option maxHeartbeats 2000000 in
theorem c_l_eqFeedItemS {A1 : Option Addr} {c1 : Nat} {A2 : Option Addr} {c2 : Nat} {w : World} (p_a : List DFeedItem) (p_b : List DFeedItem) (h1 : RdS w (Iv 0 w.heap.size) (RF e_FeedItem) 5 A1 p_a.length c1 p_a) (h2 : RdS w (Iv 0 w.heap.size) (RF e_FeedItem) 5 A2 p_b.length c2 p_b) : Cal Try.prog 68 #[.slice A1 p_a.length c1, .slice A2 p_b.length c2] w fun v w' => v = .bool ((l_eqFeedItemS p_a p_b)) ∧ Ex w w' := by
 refine Cal.of (vs := [.slice A1 p_a.length c1, .slice A2 p_b.length c2]) Try.func68 rfl Try.ntmps68 rfl (CW.seq (CW.region (sd rfl (yl_assign rfl rfl (SeqR.done (tn (CW.seq (CW.seq (CW.region ?_)))))))))
 refine sd rfl (yl_move rfl rfl (sd rfl (yl_len Try.un39 rfl rfl (sd rfl (yl_move rfl rfl (sd rfl (yl_len Try.un39 rfl rfl (sd rfl (yl_neq rfl rfl rfl (SeqR.done (tn (bcase (decide ((p_a.length : Int) = (p_b.length : Int))) (fun hb3 => ?_) (fun hb3 => ?_)))))))))))))
 ·have hb3p := dec_t hb3
  refine CW.cond_f rfl (not_t hb3) (CW.skip (tn (CW.seq (CW.seq (CW.region (sd rfl (yl_assign rfl rfl (SeqR.done (tn ?_)))))))))
  refine CW.block (CW.loop (fun m5 L6 w7 => ∃ (k4 : Nat), m5 = p_a.length - k4 ∧ k4 ≤ p_a.length ∧ w.heap.size ≤ w7.heap.size ∧ lkp L6 0 = some (.slice A1 p_a.length c1) ∧ lkp L6 1 = some (.slice A2 p_b.length c2) ∧ lkp L6 5 = some (.int .i64 ((k4 : Int))) ∧ RdS w7 (Iv 0 w.heap.size) (RF e_FeedItem) 5 A1 p_a.length c1 p_a ∧ RdS w7 (Iv 0 w.heap.size) (RF e_FeedItem) 5 A2 p_b.length c2 p_b ∧ Ex w w7 ∧ loopM (B_l_eqFeedItemS_0 p_a p_b) (p_a.length - k4) k4 () = loopM (B_l_eqFeedItemS_0 p_a p_b) (p_a.length - 0) 0 ()) (p_a.length - 0) ?_ ?_)
  ·exact ⟨0, rfl, (by omega), Nat.le_refl _, rfl, rfl, rfl, h1, h2, (Ex.refl w), rfl⟩
  ·rintro m8 L9 w10 ⟨k4, rfl, hk11, hsz13, hl14, hl15, hl16, hf17, hf18, hf19, hI12⟩
   refine CW.sub (Sub.cons hl14 (Sub.cons hl15 (Sub.cons hl16 (Sub.nil _)))) ?_
   have hf19z := Ex.size hf19
   have hbg20 := RdS.big hf17
   rcases Nat.lt_or_ge k4 p_a.length with hlt21 | hlt21
   ·refine CW.seq (CW.seq (CW.region (sd rfl (yl_move rfl rfl (sd rfl (yl_move rfl rfl (sd rfl (yl_len Try.un39 rfl rfl (sd rfl (yl_lss rfl rfl rfl (SeqR.done (tn ?_))))))))))))
    refine CW.cond_t rfl (lt_t hlt21) (CW.skip (tn (CW.seq (CW.block (CW.seq ?_)))))
    obtain ⟨eb22, eo22, ec22, eA22, eS22, ebl22, el22, eR22, eC22⟩ := RdS.atD hf17 d_FeedItem (i := k4) (by first | omega | assumption)
    obtain rfl := eR22
    have eC22 : Cells w10 eb22 (eo22 + k4 * 5) [.int .i64 ((p_a.getD k4 d_FeedItem).Time), .int .i64 ((p_a.getD k4 d_FeedItem).Group), .string (bs ((p_a.getD k4 d_FeedItem).Key)), .string (bs ((p_a.getD k4 d_FeedItem).Val)), .bool ((p_a.getD k4 d_FeedItem).Gone)] := eC22
    obtain ⟨eb23, eo23, ec23, eA23, eS23, ebl23, el23, eR23, eC23⟩ := RdS.atD hf18 d_FeedItem (i := k4) (by first | omega | assumption)
    obtain rfl := eR23
    have eC23 : Cells w10 eb23 (eo23 + k4 * 5) [.int .i64 ((p_b.getD k4 d_FeedItem).Time), .int .i64 ((p_b.getD k4 d_FeedItem).Group), .string (bs ((p_b.getD k4 d_FeedItem).Key)), .string (bs ((p_b.getD k4 d_FeedItem).Val)), .bool ((p_b.getD k4 d_FeedItem).Gone)] := eC23
    refine CW.drawsI 10 (vgetI [DetI (.slice A1 p_a.length c1), DetI (.int .i64 ((k4 : Int))), DetI (.pointer (some ⟨eb22, eo22 + k4 * 5, none⟩)), DetI (.agg #[.int .i64 ((p_a.getD k4 d_FeedItem).Time), .int .i64 ((p_a.getD k4 d_FeedItem).Group), .string (bs ((p_a.getD k4 d_FeedItem).Key)), .string (bs ((p_a.getD k4 d_FeedItem).Val)), .bool ((p_a.getD k4 d_FeedItem).Gone)]), DetI (.slice A2 p_b.length c2), DetI (.int .i64 ((k4 : Int))), DetI (.pointer (some ⟨eb23, eo23 + k4 * 5, none⟩)), DetI (.agg #[.int .i64 ((p_b.getD k4 d_FeedItem).Time), .int .i64 ((p_b.getD k4 d_FeedItem).Group), .string (bs ((p_b.getD k4 d_FeedItem).Key)), .string (bs ((p_b.getD k4 d_FeedItem).Val)), .bool ((p_b.getD k4 d_FeedItem).Gone)]), DetI (.bool ((l_eqFeedItem (p_a.getD k4 d_FeedItem) (p_b.getD k4 d_FeedItem)))), DetI (.bool (!(l_eqFeedItem (p_a.getD k4 d_FeedItem) (p_b.getD k4 d_FeedItem))))]) Try.follows rfl rfl rfl rfl rfl rfl (vgetI_stable ⟨StableI.det _, StableI.det _, StableI.det _, StableI.det _, StableI.det _, StableI.det _, StableI.det _, StableI.det _, StableI.det _, StableI.det _, trivial⟩) ⟨?_, ?_, ?_, ?_, ?_, ?_, ?_, ?_, ?_, ?_, trivial⟩ ?_
    ·exact fun _ _ h => os rfl ((yl_move rfl (h.old 0 _ rfl rfl) kI))
    ·exact fun _ _ h => os rfl ((yl_move rfl (h.old 5 _ rfl rfl) kI))
    ·intro L35 w36 hi37
     have hE38 := hi37.ex
     have hE38z := Ex.size hE38
     exact os rfl ((yl_indexAddrN Try.un39 Try.ty116 rfl (hi37.dt 0 17 rfl rfl rfl) (hi37.dt 1 18 rfl rfl rfl) eA22 (by first | omega | assumption | (simp only [IntKind.wrap_i64] at *; omega)) kI))
    ·exact fun _ _ h => os rfl ((yl_loadN (cs := [.int .i64 ((p_a.getD k4 d_FeedItem).Time), .int .i64 ((p_a.getD k4 d_FeedItem).Group), .string (bs ((p_a.getD k4 d_FeedItem).Key)), .string (bs ((p_a.getD k4 d_FeedItem).Val)), .bool ((p_a.getD k4 d_FeedItem).Gone)]) Try.ty116 rfl (h.dt 2 19 rfl rfl rfl) (Cells.ex eC22 h.ex) rfl kI))
    ·exact fun _ _ h => os rfl ((yl_move rfl (h.old 1 _ rfl rfl) kI))
    ·exact fun _ _ h => os rfl ((yl_move rfl (h.old 5 _ rfl rfl) kI))
    ·intro L57 w58 hi59
     have hE60 := hi59.ex
     have hE60z := Ex.size hE60
     exact os rfl ((yl_indexAddrN Try.un39 Try.ty116 rfl (hi59.dt 4 21 rfl rfl rfl) (hi59.dt 5 22 rfl rfl rfl) eA23 (by first | omega | assumption | (simp only [IntKind.wrap_i64] at *; omega)) kI))
    ·exact fun _ _ h => os rfl ((yl_loadN (cs := [.int .i64 ((p_b.getD k4 d_FeedItem).Time), .int .i64 ((p_b.getD k4 d_FeedItem).Group), .string (bs ((p_b.getD k4 d_FeedItem).Key)), .string (bs ((p_b.getD k4 d_FeedItem).Val)), .bool ((p_b.getD k4 d_FeedItem).Gone)]) Try.ty116 rfl (h.dt 6 23 rfl rfl rfl) (Cells.ex eC23 h.ex) rfl kI))
    ·intro L69 w70 hi71
     refine OpR.op' rfl (yl_call Try.en129 rfl (opvs_cons (hi71.dt 3 20 rfl rfl rfl) (opvs_cons (hi71.dt 7 24 rfl rfl rfl) opvs_nil)) (Cal.mono (c_l_eqFeedItem (p_a.getD k4 d_FeedItem) (p_b.getD k4 d_FeedItem)) ?_))
     rintro v76 w75 ⟨rfl, hE77⟩
     exact ⟨rfl, hE77⟩
    ·exact fun _ _ h => os rfl ((yl_not rfl (h.dt 8 25 rfl rfl rfl) kI))
    ·intro fl86 fh87 L83 w84 hp85
     have hE88 := hp85.ex
     have hE88z := Ex.size hE88
     refine SeqR.done (tn (CW.sub (Sub.cons (d := 0) (hp85.old 0 _ rfl rfl) (Sub.cons (d := 1) (hp85.old 1 _ rfl rfl) (Sub.cons (d := 5) (hp85.old 5 _ rfl rfl) (Sub.cons (d := 26) (hp85.nt 9 26 rfl rfl rfl) (Sub.nil _))))) (bcase (l_eqFeedItem (p_a.getD k4 d_FeedItem) (p_b.getD k4 d_FeedItem)) (fun hb93 => ?_) (fun hb93 => ?_))))
     ·refine CW.cond_f rfl (not_t hb93) (CW.skip (bn (tn (CW.region (sd rfl (yl_move rfl rfl (sd rfl (yl_inc rfl rfl rfl (by omega) (sd rfl (yl_assign rfl rfl (SeqR.done ?_)))))))))))
      refine tn ?_
      have hB94 : B_l_eqFeedItemS_0 p_a p_b k4 () = .cont () := by simp only [B_l_eqFeedItemS_0, hb3, hb93, cond_true, cond_false, loopE_done, loopE_ret]
      exact ⟨p_a.length - (k4 + 1), by omega, k4 + 1, rfl, hlt21, (by omega), rfl, rfl, rfl, (RdS.ex good_FeedItem hf17 hE88), (RdS.ex good_FeedItem hf18 hE88), (Ex.trans hf19 hE88), (loopM.cont hlt21 hB94).symm.trans hI12⟩
     ·refine CW.cond_t rfl (not_f hb93) (CW.seq (CW.region (sd rfl (yl_assign rfl rfl (SeqR.done (tn (CW.ret (br (tr ?_)))))))))
      refine tr ?_
      have hB99 : B_l_eqFeedItemS_0 p_a p_b k4 () = .ret false := by simp only [B_l_eqFeedItemS_0, hb3, hb93, cond_true, cond_false, loopE_done, loopE_ret]
      have hL98 : loopM (B_l_eqFeedItemS_0 p_a p_b) (p_a.length - 0) 0 () = .ret false := hI12.symm.trans (loopM.ret hlt21 hB99)
      refine br (tr (rr rfl (.cons rfl .nil) ?_))
      have hM100 : (l_eqFeedItemS p_a p_b) = (false) := by simp only [l_eqFeedItemS, hb3, hb93, hL98, cond_true, cond_false, loopE_done, loopE_ret]
      rw [hM100]
      exact ⟨rfl, (Ex.trans hf19 hE88)⟩
   ·refine CW.seq (CW.seq (CW.region (sd rfl (yl_move rfl rfl (sd rfl (yl_move rfl rfl (sd rfl (yl_len Try.un39 rfl rfl (sd rfl (yl_lss rfl rfl rfl (SeqR.done (tn ?_))))))))))))
    refine CW.cond_f rfl (lt_f hlt21) (CW.exit (tx (tx ?_)))
    have hL102 : loopM (B_l_eqFeedItemS_0 p_a p_b) (p_a.length - 0) 0 () = .done () := hI12.symm.trans (loopM.stop hlt21)
    refine bx (tn (CW.seq (CW.region (sd rfl (yl_assign rfl rfl (SeqR.done (tn (CW.ret (rr rfl (.cons rfl .nil) ?_)))))))))
    have hM103 : (l_eqFeedItemS p_a p_b) = (true) := by simp only [l_eqFeedItemS, hb3, hL102, cond_true, cond_false, loopE_done, loopE_ret]
    rw [hM103]
    exact ⟨rfl, hf19⟩
 ·have hb3p := dec_f hb3
  refine CW.cond_t rfl (not_f hb3) (CW.seq (CW.region (sd rfl (yl_assign rfl rfl (SeqR.done (tn (CW.ret (tr (rr rfl (.cons rfl .nil) ?_)))))))))
  have hM104 : (l_eqFeedItemS p_a p_b) = (false) := by simp only [l_eqFeedItemS, hb3, cond_true, cond_false, loopE_done, loopE_ret]
  rw [hM104]
  exact ⟨rfl, (Ex.refl w)⟩
set_option maxRecDepth 100000 in
set_option maxHeartbeats 2000000 in
theorem c_l_eqDiff {A1 : Option Addr} {c1 : Nat} {A2 : Option Addr} {c2 : Nat} {w : World} (p_a : DDiff) (p_b : DDiff) (h1 : RdS w (Iv 0 w.heap.size) (RF e_FeedItem) 5 A1 p_a.List.length c1 p_a.List) (h2 : RdS w (Iv 0 w.heap.size) (RF e_FeedItem) 5 A2 p_b.List.length c2 p_b.List) : Cal Try.prog 19 #[.agg #[.int .i64 (p_a.From), .int .i64 (p_a.To), .slice A1 p_a.List.length c1], .agg #[.int .i64 (p_b.From), .int .i64 (p_b.To), .slice A2 p_b.List.length c2]] w fun v w' => v = .bool ((l_eqDiff p_a p_b)) ∧ Ex w w' := by
 refine Cal.of (vs := [.agg #[.int .i64 (p_a.From), .int .i64 (p_a.To), .slice A1 p_a.List.length c1], .agg #[.int .i64 (p_b.From), .int .i64 (p_b.To), .slice A2 p_b.List.length c2]]) Try.func19 rfl Try.ntmps19 rfl (CW.seq (CW.region (sd rfl (yl_box (cs := [.int .i64 (p_a.From), .int .i64 (p_a.To), .slice A1 p_a.List.length c1]) rfl rfl rfl ?_))))
 intro b3 w4 hs5 hz6 hB7 hE8
 refine sd rfl (yl_box (cs := [.int .i64 (p_b.From), .int .i64 (p_b.To), .slice A2 p_b.List.length c2]) rfl rfl rfl ?_)
 intro b9 w10 hs11 hz12 hB13 hE14
 refine sd rfl (yl_assign rfl rfl (SeqR.done (tn (CW.seq (CW.seq (CW.region (sd rfl (yl_fieldAddr Try.fd41_0 rfl rfl ?_))))))))
 have q15 := Box.ex hB7 hE14
 refine sd rfl (yl_load1 Try.ty3 rfl rfl ((q15.cell 0).trans rfl) (sd rfl (yl_fieldAddr Try.fd41_0 rfl rfl (sd rfl (yl_load1 Try.ty3 rfl rfl ((hB13.cell 0).trans rfl) (sd rfl (yl_neq rfl rfl rfl (SeqR.done (tn (bcase (decide (p_a.From = p_b.From)) (fun hb16 => ?_) (fun hb16 => ?_)))))))))))
 ·have hb16p := dec_t hb16
  refine CW.cond_f rfl (not_t hb16) (CW.skip (tn (CW.seq (CW.seq (CW.region (sd rfl (yl_fieldAddr Try.fd41_1 rfl rfl (sd rfl (yl_load1 Try.ty3 rfl rfl ((q15.cell 1).trans rfl) (sd rfl (yl_fieldAddr Try.fd41_1 rfl rfl ?_)))))))))))
  refine sd rfl (yl_load1 Try.ty3 rfl rfl ((hB13.cell 1).trans rfl) (sd rfl (yl_neq rfl rfl rfl (SeqR.done (tn (bcase (decide (p_a.To = p_b.To)) (fun hb17 => ?_) (fun hb17 => ?_)))))))
  ·have hb17p := dec_t hb17
   refine CW.cond_f rfl (not_t hb17) (CW.skip (tn (CW.seq (CW.seq (CW.region (sd rfl (yl_fieldAddr Try.fd41_2 rfl rfl (sd rfl (yl_load1 Try.ty39 rfl rfl ((q15.cell 2).trans rfl) (sd rfl (yl_fieldAddr Try.fd41_2 rfl rfl ?_)))))))))))
   refine sd rfl (yl_load1 Try.ty39 rfl rfl ((hB13.cell 2).trans rfl) (sd rfl (yl_call Try.en68 rfl (opvs_cons rfl (opvs_cons rfl opvs_nil)) (Cal.mono (c_l_eqFeedItemS p_a.List p_b.List (RdS.up (RdS.ex good_FeedItem (RdS.ex good_FeedItem h1 hE8) hE14) good_FeedItem) (RdS.up (RdS.ex good_FeedItem (RdS.ex good_FeedItem h2 hE8) hE14) good_FeedItem)) ?_))))
   rintro v23 w22 ⟨rfl, hE24⟩
   have hE24z := Ex.size hE24
   refine sd rfl (yl_not rfl rfl (SeqR.done (tn (bcase (l_eqFeedItemS p_a.List p_b.List) (fun hb25 => ?_) (fun hb25 => ?_)))))
   ·refine CW.cond_f rfl (not_t hb25) (CW.skip (tn (CW.seq (CW.region (sd rfl (yl_assign rfl rfl (SeqR.done (tn (CW.ret ?_)))))))))
    refine rr rfl (.cons rfl .nil) ?_
    have hM26 : (l_eqDiff p_a p_b) = (true) := by simp only [l_eqDiff, hb16, hb17, hb25, cond_true, cond_false, loopE_done, loopE_ret]
    rw [hM26]
    exact ⟨rfl, (Ex.trans (Ex.trans (Ex.trans (Ex.refl w) hE8) hE14) hE24)⟩
   ·refine CW.cond_t rfl (not_f hb25) (CW.seq (CW.region (sd rfl (yl_assign rfl rfl (SeqR.done (tn (CW.ret (tr (rr rfl (.cons rfl .nil) ?_)))))))))
    have hM30 : (l_eqDiff p_a p_b) = (false) := by simp only [l_eqDiff, hb16, hb17, hb25, cond_true, cond_false, loopE_done, loopE_ret]
    rw [hM30]
    exact ⟨rfl, (Ex.trans (Ex.trans (Ex.trans (Ex.refl w) hE8) hE14) hE24)⟩
  ·have hb17p := dec_f hb17
   refine CW.cond_t rfl (not_f hb17) (CW.seq (CW.region (sd rfl (yl_assign rfl rfl (SeqR.done (tn (CW.ret (tr (rr rfl (.cons rfl .nil) ?_)))))))))
   have hM34 : (l_eqDiff p_a p_b) = (false) := by simp only [l_eqDiff, hb16, hb17, cond_true, cond_false, loopE_done, loopE_ret]
   rw [hM34]
   exact ⟨rfl, (Ex.trans (Ex.trans (Ex.refl w) hE8) hE14)⟩
 ·have hb16p := dec_f hb16
  refine CW.cond_t rfl (not_f hb16) (CW.seq (CW.region (sd rfl (yl_assign rfl rfl (SeqR.done (tn (CW.ret (tr (rr rfl (.cons rfl .nil) ?_)))))))))
  have hM37 : (l_eqDiff p_a p_b) = (false) := by simp only [l_eqDiff, hb16, cond_true, cond_false, loopE_done, loopE_ret]
  rw [hM37]
  exact ⟨rfl, (Ex.trans (Ex.trans (Ex.refl w) hE8) hE14)⟩
set_option maxRecDepth 100000 in
set_option maxHeartbeats 2000000 in
theorem c_l_FnExactDiffBytes {A1 : Option Addr} {c1 : Nat} {w : World} (p_aD : DDiff) (h1 : RdS w (Iv 0 w.heap.size) (RF e_FeedItem) 5 A1 p_aD.List.length c1 p_aD.List) (pre0 : wf_Diff p_aD) : Cal Try.prog 4 #[.agg #[.int .i64 (p_aD.From), .int .i64 (p_aD.To), .slice A1 p_aD.List.length c1]] w fun v w' => v = .bool ((l_FnExactDiffBytes p_aD)) ∧ Ex w w' := by
 refine Cal.of (vs := [.agg #[.int .i64 (p_aD.From), .int .i64 (p_aD.To), .slice A1 p_aD.List.length c1]]) Try.func4 rfl Try.ntmps4 rfl (CW.seq (CW.region (sd rfl (yl_box (cs := [.int .i64 (p_aD.From), .int .i64 (p_aD.To), .slice A1 p_aD.List.length c1]) rfl rfl rfl ?_))))
 intro b2 w3 hs4 hz5 hB6 hE7
 refine sd rfl (yl_assign rfl rfl (SeqR.done (tn (CW.seq (CW.region (sd rfl (yl_assign rfl rfl (SeqR.done (tn (CW.seq ?_))))))))))
 refine CW.region (sd rfl (yl_loadN (cs := [.int .i64 (p_aD.From), .int .i64 (p_aD.To), .slice A1 p_aD.List.length c1]) Try.ty35 rfl rfl (hB6.cells (n := 3) rfl) rfl (sd rfl (yl_move rfl rfl ?_))))
 have q8 := RdS.ex good_FeedItem h1 hE7
 refine sd rfl (yl_call Try.en15 rfl (opvs_cons rfl (opvs_cons rfl opvs_nil)) (Cal.mono (c_l_szDiff p_aD 1048576 (RdS.up q8 good_FeedItem)) ?_))
 rintro v10 w9 ⟨rfl, hE11⟩
 have hE11z := Ex.size hE11
 refine sd rfl (yl_assign rfl rfl (SeqR.done (tn (CW.seq (CW.seq (CW.region (sd rfl (yl_move rfl rfl (sd rfl (yl_lss rfl rfl rfl (SeqR.done ?_)))))))))))
 refine tn (bcase (decide ((l_szDiff p_aD 1048576) < 0)) (fun hb12 => ?_) (fun hb12 => ?_))
 ·have hb12p := dec_t hb12
  refine CW.cond_t rfl hb12 (CW.seq (CW.region (sd rfl (yl_assign rfl rfl (SeqR.done (tn (CW.ret (tr (rr rfl (.cons rfl .nil) ?_)))))))))
  have hM13 : (l_FnExactDiffBytes p_aD) = (true) := by simp only [l_FnExactDiffBytes, hb12, cond_true, cond_false, loopE_done, loopE_ret]
  rw [hM13]
  exact ⟨rfl, (Ex.trans (Ex.trans (Ex.refl w) hE7) hE11)⟩
 ·have hb12p := dec_f hb12
  refine CW.cond_f rfl hb12 (CW.skip (tn (CW.seq (CW.region ?_))))
  have q16 := Box.ex hB6 hE11
  refine sd rfl (yl_loadN (cs := [.int .i64 (p_aD.From), .int .i64 (p_aD.To), .slice A1 p_aD.List.length c1]) Try.ty35 rfl rfl (q16.cells (n := 3) rfl) rfl ?_)
  have q17 := RdS.ex good_FeedItem q8 hE11
  refine sd rfl (yl_call Try.en17 rfl (opvs_cons rfl opvs_nil) (Cal.mono (c_l_toDiff p_aD (RdS.up q17 good_FeedItem) ((szok_Diff pre0 (by decide) (dec_f hb12)).1)) ?_))
  rintro v20 w18 ⟨A19, c19, lo19, hi19, rfl, h19, hrn22, hE21⟩
  have hE21z := Ex.size hE21
  refine sd rfl (yl_call Try.en16 rfl (opvs_cons rfl opvs_nil) (Cal.mono (c_s_DiffBytes p_aD (RdS.up (OwnL.rd good_FeedItem h19) good_FeedItem) ((szok_Diff pre0 (by decide) (dec_f hb12)).1)) ?_))
  rintro v25 w24 ⟨rfl, hE26⟩
  have hE26z := Ex.size hE26
  refine sd rfl (yl_move rfl rfl (sd rfl (yl_extract rfl rfl rfl (sd rfl (yl_extract rfl rfl rfl (sd rfl (yl_assign rfl rfl (sd rfl (yl_assign rfl rfl (SeqR.done (tn (CW.seq (CW.region ?_)))))))))))))
  have q28 := Box.ex (Box.ex q16 hE21) hE26
  refine sd rfl (yl_loadN (cs := [.int .i64 (p_aD.From), .int .i64 (p_aD.To), .slice A1 p_aD.List.length c1]) Try.ty35 rfl rfl (q28.cells (n := 3) rfl) rfl ?_)
  have q30 := RdS.ex good_FeedItem (RdS.ex good_FeedItem q17 hE21) hE26
  refine sd rfl (yl_call Try.en17 rfl (opvs_cons rfl opvs_nil) (Cal.mono (c_l_toDiff p_aD (RdS.up q30 good_FeedItem) ((szok_Diff pre0 (by decide) (dec_f hb12)).1)) ?_))
  rintro v33 w31 ⟨A32, c32, lo32, hi32, rfl, h32, hrn35, hE34⟩
  have hE34z := Ex.size hE34
  refine sd rfl (yl_alloc Try.ty41 (cs := [.int .i64 (0), .int .i64 (0), .slice none 0 0]) rfl rfl ?_)
  intro b36 w37 hs38 hz39 hB40 hE41
  refine SeqR.u rfl rfl (yl_store (vs := [.int .i64 (p_aD.From), .int .i64 (p_aD.To), .slice A32 p_aD.List.length c32]) Try.ty41 rfl rfl rfl rfl rfl rfl hB40 (Nat.le_of_ble_eq_true rfl) ?_)
  intro w42 hB43 hO44
  have hB43 : Box w42 b36 41 [.int .i64 (p_aD.From), .int .i64 (p_aD.To), .slice A32 p_aD.List.length c32] := hB43
  have hO44z := hO44.size
  refine SeqR.done (tn (CW.seq (CW.region (sd rfl (yl_loadN (cs := [.int .i64 (p_aD.From), .int .i64 (p_aD.To), .slice A32 p_aD.List.length c32]) Try.ty41 rfl rfl (hB43.cells (n := 3) rfl) rfl ?_)))))
  have q47 := OwnL.only good_FeedItem (OwnL.ex good_FeedItem h32 hE41) hO44 (by omega)
  refine sd rfl (yl_call Try.en18 rfl (opvs_cons rfl opvs_nil) (Cal.mono (c_i_DiffBytes p_aD (RdS.up (OwnL.rd good_FeedItem q47) good_FeedItem) ((szok_Diff pre0 (by decide) (dec_f hb12)).1)) ?_))
  rintro v49 w48 ⟨rfl, hE50⟩
  have hE50z := Ex.size hE50
  refine sd rfl (yl_move rfl rfl (sd rfl (yl_extract rfl rfl rfl (sd rfl (yl_extract rfl rfl rfl (sd rfl (yl_assign rfl rfl (sd rfl (yl_assign rfl rfl (SeqR.done (tn (CW.seq (CW.seq ?_)))))))))))))
  refine CW.region (sd rfl (yl_move rfl rfl (sd rfl (yl_move rfl rfl (sd rfl (yl_sneq (a := ((i_DiffBytes p_aD).1)) (b := ((s_DiffBytes p_aD).1)) rfl rfl rfl (sd rfl (yl_move rfl rfl (bcase (((i_DiffBytes p_aD).1) == ((s_DiffBytes p_aD).1)) (fun hb51 => ?_) (fun hb51 => ?_))))))))))
  ·refine sy rfl rfl (not_t hb51) (yl_move rfl rfl (sy rfl rfl (not_t hb51) (yl_move rfl rfl (sy rfl rfl (not_t hb51) (yl_bneq Try.un4 rfl rfl rfl (sd rfl (yl_pick_f rfl rfl (not_t hb51) rfl (SeqR.done (tn (bcase (((i_DiffBytes p_aD).2) == ((s_DiffBytes p_aD).2)) (fun hb52 => ?_) (fun hb52 => ?_)))))))))))
   ·refine CW.cond_f rfl (not_t hb52) (CW.skip (tn (CW.seq (CW.seq (CW.drawsI 5 (vgetI [DetI (.agg #[.int .i64 (p_aD.From), .int .i64 (p_aD.To), .slice A32 p_aD.List.length c32]), DetI (.agg #[.int .i64 (p_aD.From), .int .i64 (p_aD.To), .slice A1 p_aD.List.length c1]), fun lo hi v wq => ∃ A63 c63 lo63 hi63, v = .agg #[.int .i64 (p_aD.From), .int .i64 (p_aD.To), .slice A63 p_aD.List.length c63] ∧ OwnL wq lo63 hi63 116 5 (RF e_FeedItem) A63 p_aD.List.length c63 p_aD.List ∧ (lo ≤ lo63 ∧ lo63 ≤ hi63 ∧ hi63 ≤ hi), DetI (.bool ((l_eqDiff p_aD p_aD))), DetI (.bool (!(l_eqDiff p_aD p_aD)))]) Try.follows rfl rfl rfl rfl rfl rfl (vgetI_stable ⟨StableI.det _, StableI.det _, (fun _ _ _ _ _ ⟨A63, c63, lo63, hi63, hv, h63, hr0⟩ e => ⟨A63, c63, lo63, hi63, hv, OwnL.ex good_FeedItem h63 e, hr0⟩), StableI.det _, StableI.det _, trivial⟩) ⟨?_, ?_, ?_, ?_, ?_, trivial⟩ ?_)))))
    ·exact fun _ _ h => os rfl ((yl_loadN (cs := [.int .i64 (p_aD.From), .int .i64 (p_aD.To), .slice A32 p_aD.List.length c32]) Try.ty41 rfl (h.old 6 _ rfl rfl) ((Box.ex (Box.ex hB43 hE50) h.ex).cells (n := 3) rfl) rfl kI))
    ·intro L73 w74 hi75
     have hE76 := hi75.ex
     have hE76z := Ex.size hE76
     exact os rfl ((yl_loadN (cs := [.int .i64 (p_aD.From), .int .i64 (p_aD.To), .slice A1 p_aD.List.length c1]) Try.ty35 rfl (hi75.old 1 _ rfl rfl) ((Box.ex (Box.ex (Box.only (Box.ex (Box.ex q28 hE34) hE41) hO44 (by omega)) hE50) hE76).cells (n := 3) rfl) rfl kI))
    ·intro L79 w80 hi81
     have hE82 := hi81.ex
     have hE82z := Ex.size hE82
     refine OpR.op' rfl (yl_call Try.en17 rfl (opvs_cons (hi81.dt 1 36 rfl rfl rfl) opvs_nil) (Cal.mono (c_l_toDiff p_aD (RdS.up (RdS.ex good_FeedItem (RdS.ex good_FeedItem (RdS.only good_FeedItem (RdS.ex good_FeedItem (RdS.ex good_FeedItem q30 hE34) hE41) hO44 (by simp only [Iv]; omega)) hE50) hE82) good_FeedItem) ((szok_Diff pre0 (by decide) (dec_f hb12)).1)) ?_))
     rintro v87 w85 ⟨A86, c86, lo86, hi86, rfl, h86, hrn89, hE88⟩
     exact ⟨⟨A86, c86, lo86, hi86, rfl, h86, hrn89⟩, hE88⟩
    ·intro L90 w91 hi92
     have hE93 := hi92.ex
     obtain ⟨lo96, hh97, _, hx95, hr98, hr99, hr100, A63_101, c63_102, lo63_103, hi63_104, rfl, h105, hrn106⟩ := hi92.dep 2 37 rfl rfl
     refine OpR.op' rfl (yl_call Try.en19 rfl (opvs_cons (hi92.dt 0 35 rfl rfl rfl) (opvs_cons hx95 opvs_nil)) (Cal.mono (c_l_eqDiff p_aD p_aD (RdS.up (OwnL.rd good_FeedItem (OwnL.ex good_FeedItem (OwnL.ex good_FeedItem q47 hE50) hE93)) good_FeedItem) (RdS.up (OwnL.rd good_FeedItem h105) good_FeedItem)) ?_))
     rintro v111 w110 ⟨rfl, hE112⟩
     exact ⟨rfl, hE112⟩
    ·exact fun _ _ h => os rfl ((yl_not rfl (h.dt 3 38 rfl rfl rfl) kI))
    ·intro fl121 fh122 L118 w119 hp120
     have hE123 := hp120.ex
     have hE123z := Ex.size hE123
     have hr125 := hp120.rng 2 rfl
     obtain ⟨_, hx124, A63_126, c63_127, lo63_128, hi63_129, rfl, h130, hrn131⟩ := hp120.new 2 37 rfl rfl
     refine SeqR.done (tn (CW.sub (Sub.cons (d := 39) (hp120.nt 4 39 rfl rfl rfl) (Sub.nil _)) (bcase (l_eqDiff p_aD p_aD) (fun hb133 => ?_) (fun hb133 => ?_))))
     ·refine CW.cond_f rfl (not_t hb133) (CW.skip (tn (CW.seq (CW.region (sd rfl (yl_assign rfl rfl (SeqR.done (tn (CW.ret ?_)))))))))
      refine rr rfl (.cons rfl .nil) ?_
      have hM134 : (l_FnExactDiffBytes p_aD) = (true) := by simp only [l_FnExactDiffBytes, hb12, hb51, hb52, hb133, cond_true, cond_false, loopE_done, loopE_ret]
      rw [hM134]
      exact ⟨rfl, (Ex.trans (Ex.trans (Below.only (Ex.trans (Ex.trans (Ex.trans (Ex.trans (Ex.trans (Ex.trans (Ex.refl w) hE7) hE11) hE21) hE26) hE34) hE41) hO44 (by omega)) hE50) hE123)⟩
     ·refine CW.cond_t rfl (not_f hb133) (CW.seq (CW.region (sd rfl (yl_assign rfl rfl (SeqR.done (tn (CW.ret (tr (rr rfl (.cons rfl .nil) ?_)))))))))
      have hM144 : (l_FnExactDiffBytes p_aD) = (false) := by simp only [l_FnExactDiffBytes, hb12, hb51, hb52, hb133, cond_true, cond_false, loopE_done, loopE_ret]
      rw [hM144]
      exact ⟨rfl, (Ex.trans (Ex.trans (Below.only (Ex.trans (Ex.trans (Ex.trans (Ex.trans (Ex.trans (Ex.trans (Ex.refl w) hE7) hE11) hE21) hE26) hE34) hE41) hO44 (by omega)) hE50) hE123)⟩
   ·refine CW.cond_t rfl (not_f hb52) (CW.seq (CW.region (sd rfl (yl_assign rfl rfl (SeqR.done (tn (CW.ret (tr (rr rfl (.cons rfl .nil) ?_)))))))))
    have hM154 : (l_FnExactDiffBytes p_aD) = (false) := by simp only [l_FnExactDiffBytes, hb12, hb51, hb52, cond_true, cond_false, loopE_done, loopE_ret]
    rw [hM154]
    exact ⟨rfl, (Ex.trans (Below.only (Ex.trans (Ex.trans (Ex.trans (Ex.trans (Ex.trans (Ex.trans (Ex.refl w) hE7) hE11) hE21) hE26) hE34) hE41) hO44 (by omega)) hE50)⟩
  ·refine sz rfl rfl (not_f hb51) (sz rfl rfl (not_f hb51) (sz rfl rfl (not_f hb51) (sd rfl (yl_pick_t rfl rfl (not_f hb51) rfl (SeqR.done (tn (CW.cond_t rfl rfl (CW.seq (CW.region ?_)))))))))
   refine sd rfl (yl_assign rfl rfl (SeqR.done (tn (CW.ret (tr (rr rfl (.cons rfl .nil) ?_))))))
   have hM163 : (l_FnExactDiffBytes p_aD) = (false) := by simp only [l_FnExactDiffBytes, hb12, hb51, cond_true, cond_false, loopE_done, loopE_ret]
   rw [hM163]
   exact ⟨rfl, (Ex.trans (Below.only (Ex.trans (Ex.trans (Ex.trans (Ex.trans (Ex.trans (Ex.trans (Ex.refl w) hE7) hE11) hE21) hE26) hE34) hE41) hO44 (by omega)) hE50)⟩
end Go.Proofs.Ytfmepgbpbbneaaa
