/- Read Diff: what each call returns, part 1. -/
import Derived.Test.YtbamdefifgkbgaaReadDiffL
import Derived.Test.YtbamdefifgkbgaaReadDiffF
set_option maxRecDepth 100000
set_option maxHeartbeats 2000000
open Go.Proofs.Try Go.Proofs.Ytbamdefifgkbgaa.Try
set_option linter.unusedVariables false
set_option linter.unusedSimpArgs false
namespace Go.Proofs.Ytbamdefifgkbgaa
open Go.RowKit Go.X
theorem c_s_l1Three {w : World} (p_n : Int) : Cal Try.prog 78 #[.int .i64 (p_n)] w fun v w' => v = .string (bs ((s_l1Three p_n))) ∧ okS (s_l1Three p_n) ∧ Ex w w' := by
 refine Cal.of func78 rfl ntmps78 rfl (CW.seq (CW.region (sd rfl (yl_assign rfl rfl (dn (CW.seq (CW.region (sd rfl (yl_move rfl rfl ?_)))))))))
 refine sd rfl (yl_quo rfl rfl rfl (by decide) (sd rfl (yl_conv un3 un5 rfl rfl (sd rfl (yl_move rfl rfl (sd rfl (yl_quo rfl rfl rfl (by decide) (sd rfl (yl_rem rfl rfl rfl (by decide) (sd rfl (yl_conv un3 un5 rfl rfl (sd rfl (yl_move rfl rfl (sd rfl (yl_rem rfl rfl rfl (by decide) (sd rfl (yl_conv un3 un5 rfl rfl ?_)))))))))))))))))
 refine sd rfl (yl_buildSlice (cs := [.int .u8 (IntKind.wrap .u8 (IntKind.wrap .i64 (Int.tdiv p_n 65536))), .int .u8 (IntKind.wrap .u8 (Int.tmod (IntKind.wrap .i64 (Int.tdiv p_n 256)) 256)), .int .u8 (IntKind.wrap .u8 (Int.tmod p_n 256))]) un101 ty5 (by decide) rfl (oc rfl (oc rfl (oc rfl oz))) (by kernel_rfl) ?_)
 intro b1 w2 hs3 hz4 hB5 hE6
 have hO7 : OwnL w2 b1 (b1 + 1) 5 1 (RF e_U8) (some ⟨b1, 0, none⟩) 3 3 ([IntKind.wrap .u8 (IntKind.wrap .i64 (Int.tdiv p_n 65536)), IntKind.wrap .u8 (Int.tmod (IntKind.wrap .i64 (Int.tdiv p_n 256)) 256), IntKind.wrap .u8 (Int.tmod p_n 256)] : List Int) := OwnL.of_box (S := fun _ => False) hB5 (Nat.le_refl _) (Nat.lt_succ_self _) (EncL.cons (c := [.int .u8 (IntKind.wrap .u8 (IntKind.wrap .i64 (Int.tdiv p_n 65536)))]) rfl rfl (EncL.cons (c := [.int .u8 (IntKind.wrap .u8 (Int.tmod (IntKind.wrap .i64 (Int.tdiv p_n 256)) 256))]) rfl rfl (EncL.cons (c := [.int .u8 (IntKind.wrap .u8 (Int.tmod p_n 256))]) rfl rfl EncL.nil))) (Nat.le_of_ble_eq_true rfl) (fun h => h) (fun _ h => False.elim h)
 refine sd rfl (yl_toS un101 un5 un9 rfl rfl (OwnL.rd good_U8 hO7) (sd rfl (yl_assign rfl rfl (dn (CW.ret (rr rfl (.cons rfl .nil) ?_))))))
 have hM9 : (s_l1Three p_n) = (toS ([IntKind.wrap .u8 (IntKind.wrap .i64 (Int.tdiv p_n 65536)), IntKind.wrap .u8 (Int.tmod (IntKind.wrap .i64 (Int.tdiv p_n 256)) 256), IntKind.wrap .u8 (Int.tmod p_n 256)] : List Int)) := by simp only [s_l1Three, cL]
 rw [hM9]
 exact ⟨rfl, (okS_toS (Nat.le_of_ble_eq_true rfl)), (Ex.trans (Ex.refl w) hE6)⟩
theorem c_s_l1Sum {w : World} (p_b : Str) (o1 : okS p_b) : Cal Try.prog 79 #[.string (bs (p_b))] w fun v w' => v = .int .i64 ((s_l1Sum p_b)) ∧ Ex w w' := by
 have hol2 : p_b.length ≤ 1073741824 := o1
 refine Cal.of func79 rfl ntmps79 rfl (CW.seq (CW.region (sd rfl (yl_assign rfl rfl (dn (CW.seq (CW.region (sd rfl (yl_assign rfl rfl ?_)))))))))
 refine dn (CW.seq (CW.seq (CW.region (sd rfl (yl_assign rfl rfl (dn (CW.block ?_)))))))
 refine CW.loop (fun m5 L6 w7 => ∃ (k3 : Nat) (x4 : Int), m5 = p_b.length - k3 ∧ k3 ≤ p_b.length ∧ w.heap.size ≤ w7.heap.size ∧ lkp L6 0 = some (.string (bs (p_b))) ∧ lkp L6 3 = some (.int .i64 (x4)) ∧ lkp L6 4 = some (.int .i64 ((k3 : Int))) ∧ Ex w w7 ∧ loopM (B_s_l1Sum_0 p_b) (p_b.length - k3) k3 (x4) = loopM (B_s_l1Sum_0 p_b) (p_b.length - 0) 0 (7)) (p_b.length - 0) ?_ ?_
 ·exact ⟨0, 7, rfl, (by omega), Nat.le_refl _, rfl, rfl, rfl, (Ex.refl w), rfl⟩
 ·rintro m8 L9 w10 ⟨k3, x4, rfl, hk11, hsz13, hl14, hl15, hl16, hf17, hI12⟩
  refine CW.sub (Sub.cons hl14 (Sub.cons hl15 (Sub.cons hl16 (Sub.nil _)))) ?_
  have hf17z := Ex.size hf17
  have hbg18 : p_b.length ≤ 1073741824 := o1
  rcases Nat.lt_or_ge k3 p_b.length with hlt19 | hlt19
  ·refine CW.seq (CW.seq (CW.region (sd rfl (yl_move rfl rfl (sd rfl (yl_move rfl rfl (sd rfl (yl_slen un9 (a := p_b) rfl rfl (sd rfl (yl_lss rfl rfl rfl (dn ?_)))))))))))
   refine CW.cond_t rfl (lt_t hlt19) (CW.skip (tn (CW.seq (CW.block (CW.region (sd rfl (yl_move rfl rfl (sd rfl (yl_mul rfl rfl rfl (sd rfl (yl_move rfl rfl ?_)))))))))))
   refine sd rfl (yl_move rfl rfl (sd rfl (yl_sindexN un9 (a := p_b) rfl rfl rfl (by first | omega | assumption | (simp only [wI] at *; omega)) (sd rfl (yl_conv un5 un3 rfl rfl (sd rfl (yl_add rfl rfl rfl (sd rfl (yl_add rfl rfl rfl (sd rfl (yl_rem rfl rfl rfl (by decide) (sd rfl (yl_assign rfl rfl (SeqR.done (bn ?_)))))))))))))))
   refine tn (CW.region (sd rfl (yl_move rfl rfl (sd rfl (yl_inc rfl rfl rfl (by omega) (sd rfl (yl_assign rfl rfl (dn ?_))))))))
   have hB20 : B_s_l1Sum_0 p_b k3 (x4) = .cont (Int.tmod (IntKind.wrap .i64 ((IntKind.wrap .i64 ((IntKind.wrap .i64 (31 * x4)) + (IntKind.wrap .i64 ((p_b.getD k3 0).toNat : Int)))) + 1)) 16000057) := by simp only [B_s_l1Sum_0, cL]
   exact ⟨p_b.length - (k3 + 1), by omega, k3 + 1, Int.tmod (IntKind.wrap .i64 ((IntKind.wrap .i64 ((IntKind.wrap .i64 (31 * x4)) + (IntKind.wrap .i64 ((p_b.getD k3 0).toNat : Int)))) + 1)) 16000057, rfl, hlt19, (by omega), rfl, rfl, rfl, hf17, (loopM.cont hlt19 hB20).symm.trans hI12⟩
  ·refine CW.seq (CW.seq (CW.region (sd rfl (yl_move rfl rfl (sd rfl (yl_move rfl rfl (sd rfl (yl_slen un9 (a := p_b) rfl rfl (sd rfl (yl_lss rfl rfl rfl (dn ?_)))))))))))
   refine CW.cond_f rfl (lt_f hlt19) (CW.exit (tx (tx ?_)))
   have hL21 : loopM (B_s_l1Sum_0 p_b) (p_b.length - 0) 0 (7) = .done (x4) := hI12.symm.trans (loopM.stop hlt19)
   refine bx (tn (CW.seq (CW.region (sd rfl (yl_move rfl rfl (sd rfl (yl_assign rfl rfl (dn (CW.ret ?_)))))))))
   refine rr rfl (.cons rfl .nil) ?_
   have hM22 : (s_l1Sum p_b) = (x4) := by simp only [s_l1Sum, hL21, cL]
   rw [hM22]
   exact ⟨rfl, hf17⟩
theorem c_s_l1Seal {w : World} (p_b : Str) (o1 : okS p_b) : Cal Try.prog 51 #[.string (bs (p_b))] w fun v w' => v = .string (bs ((s_l1Seal p_b))) ∧ Ex w w' := by
 have hol2 : p_b.length ≤ 1073741824 := o1
 refine Cal.of func51 rfl ntmps51 rfl (CW.seq (CW.region (sd rfl (yl_assign rfl rfl (dn (CW.seq (CW.region (sd rfl (yl_move rfl rfl ?_)))))))))
 refine sd rfl (yl_move rfl rfl (sd rfl (yl_call en79 rfl (oc rfl oz) (Cal.mono (c_s_l1Sum p_b o1) ?_))))
 rintro v4 w3 ⟨rfl, hE5⟩
 have hE5z := Ex.size hE5
 refine sd rfl (yl_call en78 rfl (oc rfl oz) (Cal.mono (c_s_l1Three (s_l1Sum p_b)) ?_))
 rintro v8 w6 ⟨rfl, ho7, hE9⟩
 have hE9z := Ex.size hE9
 have hol10 : p_b.length ≤ 1073741824 := o1
 have hol11 : (s_l1Three (s_l1Sum p_b)).length ≤ 1073741824 := ho7
 refine sd rfl (yl_sadd (a := p_b) (b := (s_l1Three (s_l1Sum p_b))) rfl rfl rfl (by first | omega | (simp only [List.length_append, List.length_cons, List.length_nil, List.length_take, List.length_drop, toS_length]; omega)) (sd rfl (yl_assign rfl rfl (dn (CW.ret (rr rfl (.cons rfl .nil) ?_))))))
 have hM12 : (s_l1Seal p_b) = (p_b ++ (s_l1Three (s_l1Sum p_b))) := by simp only [s_l1Seal, cL]
 rw [hM12]
 exact ⟨rfl, (Ex.trans (Ex.trans (Ex.refl w) hE5) hE9)⟩
theorem c_s_OpenSeal {w : World} (p_b : Str) (o1 : okS p_b) : Cal Try.prog 22 #[.string (bs (p_b))] w fun v w' => v = .tuple #[.string (bs ((s_OpenSeal p_b).1)), .bool ((s_OpenSeal p_b).2)] ∧ okS ((s_OpenSeal p_b).1) ∧ Ex w w' := by
 have hol2 : p_b.length ≤ 1073741824 := o1
 refine Cal.of func22 rfl ntmps22 rfl (CW.seq (CW.region (sd rfl (yl_assign rfl rfl (sd rfl (yl_assign rfl rfl (dn (CW.seq (CW.region ?_)))))))))
 refine sd rfl (yl_move rfl rfl (sd rfl (yl_slen un9 (a := p_b) rfl rfl (sd rfl (yl_sub rfl rfl rfl (sd rfl (yl_assign rfl rfl (dn (CW.seq (CW.seq (CW.region ?_)))))))))))
 refine sd rfl (yl_move rfl rfl (sd rfl (yl_lss rfl rfl rfl (sd rfl (yl_move rfl rfl (bcase (decide ((IntKind.wrap .i64 ((p_b.length : Int) - 3)) < 0)) (fun hb3 => ?_) (fun hb3 => ?_)))))))
 ·have hb3p := dec_t hb3
  refine sz rfl rfl hb3 (sz rfl rfl hb3 (sz rfl rfl hb3 (sd rfl (yl_pick_t rfl rfl hb3 rfl (sd rfl (yl_move rfl rfl (sz rfl rfl rfl (sz rfl rfl rfl (sz rfl rfl rfl (sz rfl rfl rfl ?_))))))))))
  refine sz rfl rfl rfl (sz rfl rfl rfl (sd rfl (yl_pick_t rfl rfl rfl rfl (dn (CW.cond_t rfl rfl (CW.seq (CW.region (sd rfl (yl_assign rfl rfl ?_)))))))))
  refine sd rfl (yl_assign rfl rfl (dn (CW.ret (tr (rr rfl (.cons rfl (.cons rfl .nil)) ?_)))))
  have hM4 : (s_OpenSeal p_b) = ((([] : Str), false)) := by simp only [s_OpenSeal, hb3, cL]
  rw [hM4]
  exact ⟨rfl, (okS.lit rfl), (Ex.refl w)⟩
 ·have hb3p := dec_f hb3
  refine sy rfl rfl hb3 (yl_move rfl rfl (sy rfl rfl hb3 (yl_slen un9 (a := p_b) rfl rfl (sy rfl rfl hb3 (yl_gtr rfl rfl rfl (sd rfl (yl_pick_f rfl rfl hb3 rfl (sd rfl (yl_move rfl rfl (bcase (decide (6000 < (p_b.length : Int))) (fun hb5 => ?_) (fun hb5 => ?_)))))))))))
  ·have hb5p := dec_t hb5
   refine sz rfl rfl hb5 (sz rfl rfl hb5 (sz rfl rfl hb5 (sz rfl rfl hb5 (sz rfl rfl hb5 (sz rfl rfl hb5 (sd rfl (yl_pick_t rfl rfl hb5 rfl (dn ?_))))))))
   refine CW.cond_t rfl rfl (CW.seq (CW.region (sd rfl (yl_assign rfl rfl (sd rfl (yl_assign rfl rfl (dn (CW.ret (tr ?_)))))))))
   refine rr rfl (.cons rfl (.cons rfl .nil)) ?_
   have hM6 : (s_OpenSeal p_b) = ((([] : Str), false)) := by simp only [s_OpenSeal, hb3, hb5, cL]
   rw [hM6]
   exact ⟨rfl, (okS.lit rfl), (Ex.refl w)⟩
  ·have hb5p := dec_f hb5
   refine sy rfl rfl hb5 (yl_move rfl rfl (sy rfl rfl hb5 (yl_move rfl rfl (sy rfl rfl hb5 (yl_sslice_hi un9 (a := p_b) (h := (IntKind.wrap .i64 ((p_b.length : Int) - 3)).toNat) rfl rfl (toNat_op rfl (by first | omega | assumption | (simp only [wI] at *; omega))) (by first | omega | assumption | (simp only [wI] at *; omega)) (sy rfl rfl hb5 (yl_call en51 rfl (oc rfl oz) (Cal.mono (c_s_l1Seal (p_b.take ((IntKind.wrap .i64 ((p_b.length : Int) - 3)).toNat)) (okS.take o1 _)) ?_))))))))
   rintro v8 w7 ⟨rfl, hE9⟩
   have hE9z := Ex.size hE9
   have hrf10 := rf_l1Seal (p_b.take ((IntKind.wrap .i64 ((p_b.length : Int) - 3)).toNat))
   refine sy rfl rfl hb5 (yl_move rfl rfl (sy rfl rfl hb5 (yl_sneq (a := (s_l1Seal (p_b.take ((IntKind.wrap .i64 ((p_b.length : Int) - 3)).toNat)))) (b := p_b) rfl rfl rfl (sd rfl (yl_pick_f rfl rfl hb5 rfl (dn (bcase ((s_l1Seal (p_b.take ((IntKind.wrap .i64 ((p_b.length : Int) - 3)).toNat))) == p_b) (fun hb11 => ?_) (fun hb11 => ?_))))))))
   ·refine CW.cond_f rfl (not_t hb11) (CW.skip (tn (CW.seq (CW.region (sd rfl (yl_move rfl rfl (sd rfl (yl_move rfl rfl (sd rfl (yl_sslice_hi un9 (a := p_b) (h := (IntKind.wrap .i64 ((p_b.length : Int) - 3)).toNat) rfl rfl (toNat_op rfl (by first | omega | assumption | (simp only [wI] at *; omega))) (by first | omega | assumption | (simp only [wI] at *; omega)) (sd rfl (yl_assign rfl rfl ?_))))))))))))
    refine sd rfl (yl_assign rfl rfl (dn (CW.ret (rr rfl (.cons rfl (.cons rfl .nil)) ?_))))
    have hM12 : (s_OpenSeal p_b) = (((p_b.take ((IntKind.wrap .i64 ((p_b.length : Int) - 3)).toNat)), true)) := by simp only [s_OpenSeal, hb3, hb5, hb11, cL]
    rw [hM12]
    exact ⟨rfl, (okS.take o1 _), (Ex.trans (Ex.refl w) hE9)⟩
   ·refine CW.cond_t rfl (not_f hb11) (CW.seq (CW.region (sd rfl (yl_assign rfl rfl (sd rfl (yl_assign rfl rfl (dn (CW.ret (tr ?_)))))))))
    refine rr rfl (.cons rfl (.cons rfl .nil)) ?_
    have hM14 : (s_OpenSeal p_b) = ((([] : Str), false)) := by simp only [s_OpenSeal, hb3, hb5, hb11, cL]
    rw [hM14]
    exact ⟨rfl, (okS.lit rfl), (Ex.trans (Ex.refl w) hE9)⟩
theorem c_s_l1R_one {b1 : Nat} {w : World} (p_r_b : Str) (p_r : Int × Bool) (h2 : Box w b1 49 [.string (bs (p_r_b)), .int .i64 (p_r.1), .bool (p_r.2)]) (o3 : okS p_r_b) (pre0 : (0 ≤ p_r.1 ∧ p_r.1 ≤ (p_r_b.length : Int))) : Cal Try.prog 34 #[.pointer (some ⟨b1, 0, none⟩)] w fun v w' => v = .int .i64 ((s_l1R_one p_r_b p_r).1) ∧ Box w' b1 49 [.string (bs (p_r_b)), .int .i64 (((s_l1R_one p_r_b p_r).2).1), .bool (((s_l1R_one p_r_b p_r).2).2)] ∧ Chg (InR [(b1, b1 + 1)]) w w' := by
 have hol4 : p_r_b.length ≤ 1073741824 := o3
 have hbx5 := Box.lt h2
 refine Cal.of func34 rfl ntmps34 rfl (CW.seq (CW.region (sd rfl (yl_assign rfl rfl (dn (CW.seq (CW.seq (bcase (p_r.2) (fun hb6 => ?_) (fun hb6 => ?_)))))))))
 ·refine CW.drawsI 16 (vgetI ([.pointer (some ⟨b1, 0, none⟩), .pointer (some ⟨b1, 0, none⟩), .pointer (some ⟨b1, 0 + 2, none⟩), .bool (p_r.2), .bool (p_r.2), undef, undef, undef, undef, undef, undef, undef, undef, undef, undef, .bool (true)].map DetI)) Try.follows rfl rfl rfl rfl rfl rfl (vgetI_stable (stD _)) ⟨?_, ?_, ?_, ?_, ?_, ?_, ?_, ?_, ?_, ?_, ?_, ?_, ?_, ?_, ?_, ?_, trivial⟩ ?_
  ·exact oI rfl fun h => yl_move rfl (h.old 0 _ rfl rfl) kI
  ·exact oI rfl fun h => yl_nil rfl (h.dt 0 3 rfl rfl rfl) kI
  ·exact oI rfl fun h => yl_fieldAddr fd49_2 rfl (h.dt 1 4 rfl rfl rfl) kI
  ·exact oI rfl fun h => yl_load1 ty4 rfl (h.dt 2 5 rfl rfl rfl) (((Box.ex h2 h.ex).cell 2).trans rfl) kI
  ·exact oI rfl fun h => yl_move rfl (h.dt 3 6 rfl rfl rfl) kI
  ·exact oS rfl rfl rfl rfl rfl hb6
  ·exact oS rfl rfl rfl rfl rfl hb6
  ·exact oS rfl rfl rfl rfl rfl hb6
  ·exact oS rfl rfl rfl rfl rfl hb6
  ·exact oS rfl rfl rfl rfl rfl hb6
  ·exact oS rfl rfl rfl rfl rfl hb6
  ·exact oS rfl rfl rfl rfl rfl hb6
  ·exact oS rfl rfl rfl rfl rfl hb6
  ·exact oS rfl rfl rfl rfl rfl hb6
  ·exact oS rfl rfl rfl rfl rfl hb6
  ·exact oI rfl fun h => yl_pick_t rfl (h.dt 4 7 rfl rfl rfl) hb6 rfl kI
  ·intro fl92 fh93 L89 w90 hp91
   have hE94 := hp91.ex
   have hE94z := Ex.size hE94
   refine dn (CW.sub (Sub.cons (d := 0) (hp91.old 0 _ rfl rfl) (Sub.cons (d := 18) (hp91.nt 15 18 rfl rfl rfl) (Sub.nil _))) (CW.cond_t rfl rfl (CW.seq (CW.region (sd rfl (yl_move rfl rfl (sd rfl (yl_nil rfl rfl (sd rfl (yl_fieldAddr fd49_2 rfl rfl ?_))))))))))
   refine SeqR.u rfl rfl (yl_store (vs := [.bool (true)]) ty4 rfl rfl rfl rfl rfl rfl (Box.ex h2 hE94) (Nat.le_of_ble_eq_true rfl) ?_)
   intro w98 hB99 hO100
   have hB99 : Box w98 b1 49 [.string (bs (p_r_b)), .int .i64 (p_r.1), .bool (true)] := hB99
   have hO100z := hO100.size
   refine dn (CW.seq (CW.region (sd rfl (yl_assign rfl rfl (dn (CW.ret (tr ?_)))))))
   refine rr rfl (.cons rfl .nil) ?_
   have hM101 : (s_l1R_one p_r_b p_r) = ((0, (p_r.1, true))) := by first | (simp only [s_l1R_one, hb6, cL]; done) | (simp only [s_l1R_one, hb6, cond_true, cond_false, loopE_done, loopE_ret, pairE]; done) | exact (show (s_l1R_one p_r_b p_r) = ((0, (p_r.1, true))) from by simp only [s_l1R_one, hb6, cond_true, cond_false, loopE_done, loopE_ret, pairE])
   rw [hM101]
   exact ⟨rfl, hB99, (Chg.tonly (Chg.tex (Chg.refl (InR [(b1, b1 + 1)]) w) hE94) hO100 (by simp only [InR, or_false]; omega))⟩
 ·refine CW.drawsI 16 (vgetI ([.pointer (some ⟨b1, 0, none⟩), .pointer (some ⟨b1, 0, none⟩), .pointer (some ⟨b1, 0 + 2, none⟩), .bool (p_r.2), .bool (p_r.2), .pointer (some ⟨b1, 0, none⟩), .pointer (some ⟨b1, 0, none⟩), .pointer (some ⟨b1, 0 + 1, none⟩), .int .i64 (p_r.1), .pointer (some ⟨b1, 0, none⟩), .pointer (some ⟨b1, 0, none⟩), .pointer (some ⟨b1, 0 + 0, none⟩), .string (bs (p_r_b)), .int .i64 ((p_r_b.length : Int)), .bool (decide ((p_r_b.length : Int) ≤ p_r.1)), .bool (decide ((p_r_b.length : Int) ≤ p_r.1))].map DetI)) Try.follows rfl rfl rfl rfl rfl rfl (vgetI_stable (stD _)) ⟨?_, ?_, ?_, ?_, ?_, ?_, ?_, ?_, ?_, ?_, ?_, ?_, ?_, ?_, ?_, ?_, trivial⟩ ?_
  ·exact oI rfl fun h => yl_move rfl (h.old 0 _ rfl rfl) kI
  ·exact oI rfl fun h => yl_nil rfl (h.dt 0 3 rfl rfl rfl) kI
  ·exact oI rfl fun h => yl_fieldAddr fd49_2 rfl (h.dt 1 4 rfl rfl rfl) kI
  ·exact oI rfl fun h => yl_load1 ty4 rfl (h.dt 2 5 rfl rfl rfl) (((Box.ex h2 h.ex).cell 2).trans rfl) kI
  ·exact oI rfl fun h => yl_move rfl (h.dt 3 6 rfl rfl rfl) kI
  ·exact oW rfl rfl rfl rfl hb6 fun h => yl_move rfl (h.old 0 _ rfl rfl) kI
  ·exact oW rfl rfl rfl rfl hb6 fun h => yl_nil rfl (h.dt 5 8 rfl rfl rfl) kI
  ·exact oW rfl rfl rfl rfl hb6 fun h => yl_fieldAddr fd49_1 rfl (h.dt 6 9 rfl rfl rfl) kI
  ·exact oW rfl rfl rfl rfl hb6 fun h => yl_load1 ty3 rfl (h.dt 7 10 rfl rfl rfl) (((Box.ex h2 h.ex).cell 1).trans rfl) kI
  ·exact oW rfl rfl rfl rfl hb6 fun h => yl_move rfl (h.old 0 _ rfl rfl) kI
  ·exact oW rfl rfl rfl rfl hb6 fun h => yl_nil rfl (h.dt 9 12 rfl rfl rfl) kI
  ·exact oW rfl rfl rfl rfl hb6 fun h => yl_fieldAddr fd49_0 rfl (h.dt 10 13 rfl rfl rfl) kI
  ·exact oW rfl rfl rfl rfl hb6 fun h => yl_load1 ty9 rfl (h.dt 11 14 rfl rfl rfl) (((Box.ex h2 h.ex).cell 0).trans rfl) kI
  ·exact oW rfl rfl rfl rfl hb6 fun h => yl_slen un9 (a := p_r_b) rfl (h.dt 12 15 rfl rfl rfl) kI
  ·exact oW rfl rfl rfl rfl hb6 fun h => yl_geq rfl (h.dt 8 11 rfl rfl rfl) (h.dt 13 16 rfl rfl rfl) kI
  ·exact oI rfl fun h => yl_pick_f rfl (h.dt 4 7 rfl rfl rfl) hb6 (h.dt 14 17 rfl rfl rfl) kI
  ·intro fl202 fh203 L199 w200 hp201
   have hE204 := hp201.ex
   have hE204z := Ex.size hE204
   refine dn (CW.sub (Sub.cons (d := 0) (hp201.old 0 _ rfl rfl) (Sub.cons (d := 18) (hp201.nt 15 18 rfl rfl rfl) (Sub.nil _))) (bcase (decide ((p_r_b.length : Int) ≤ p_r.1)) (fun hb207 => ?_) (fun hb207 => ?_)))
   ·have hb207p := dec_t hb207
    refine CW.cond_t rfl hb207 (CW.seq (CW.region (sd rfl (yl_move rfl rfl (sd rfl (yl_nil rfl rfl (sd rfl (yl_fieldAddr fd49_2 rfl rfl (SeqR.u rfl rfl (yl_store (vs := [.bool (true)]) ty4 rfl rfl rfl rfl rfl rfl (Box.ex h2 hE204) (Nat.le_of_ble_eq_true rfl) ?_))))))))))
    intro w209 hB210 hO211
    have hB210 : Box w209 b1 49 [.string (bs (p_r_b)), .int .i64 (p_r.1), .bool (true)] := hB210
    have hO211z := hO211.size
    refine dn (CW.seq (CW.region (sd rfl (yl_assign rfl rfl (dn (CW.ret (tr ?_)))))))
    refine rr rfl (.cons rfl .nil) ?_
    have hM212 : (s_l1R_one p_r_b p_r) = ((0, (p_r.1, true))) := by first | (simp only [s_l1R_one, hb6, hb207, cL]; done) | (simp only [s_l1R_one, hb6, hb207, cond_true, cond_false, loopE_done, loopE_ret, pairE]; done) | exact (show (s_l1R_one p_r_b p_r) = ((0, (p_r.1, true))) from by simp only [s_l1R_one, hb6, hb207, cond_true, cond_false, loopE_done, loopE_ret, pairE])
    rw [hM212]
    exact ⟨rfl, hB210, (Chg.tonly (Chg.tex (Chg.refl (InR [(b1, b1 + 1)]) w) hE204) hO211 (by simp only [InR, or_false]; omega))⟩
   ·have hb207p := dec_f hb207
    refine CW.cond_f rfl hb207 (CW.skip (tn (CW.seq (CW.region (sd rfl (yl_move rfl rfl (sd rfl (yl_nil rfl rfl (sd rfl (yl_fieldAddr fd49_1 rfl rfl ?_))))))))))
    have q215 := Box.ex h2 hE204
    refine sd rfl (yl_load1 ty3 rfl rfl ((q215.cell 1).trans rfl) (sd rfl (yl_add rfl rfl rfl (sd rfl (yl_nil rfl rfl (sd rfl (yl_fieldAddr fd49_1 rfl rfl (SeqR.u rfl rfl (yl_store (vs := [.int .i64 (IntKind.wrap .i64 (p_r.1 + 1))]) ty3 rfl rfl rfl rfl rfl rfl q215 (Nat.le_of_ble_eq_true rfl) ?_)))))))))
    intro w216 hB217 hO218
    have hB217 : Box w216 b1 49 [.string (bs (p_r_b)), .int .i64 (IntKind.wrap .i64 (p_r.1 + 1)), .bool (p_r.2)] := hB217
    have hO218z := hO218.size
    refine dn (CW.seq (CW.drawsI 9 (vgetI ([.pointer (some ⟨b1, 0, none⟩), .pointer (some ⟨b1, 0, none⟩), .pointer (some ⟨b1, 0 + 0, none⟩), .string (bs (p_r_b)), .pointer (some ⟨b1, 0, none⟩), .pointer (some ⟨b1, 0, none⟩), .pointer (some ⟨b1, 0 + 1, none⟩), .int .i64 (IntKind.wrap .i64 (p_r.1 + 1)), .int .i64 (IntKind.wrap .i64 ((IntKind.wrap .i64 (p_r.1 + 1)) - 1))].map DetI)) Try.follows rfl rfl rfl rfl rfl rfl (vgetI_stable (stD _)) ⟨?_, ?_, ?_, ?_, ?_, ?_, ?_, ?_, ?_, trivial⟩ ?_))
    ·exact oI rfl fun h => yl_move rfl (h.old 0 _ rfl rfl) kI
    ·exact oI rfl fun h => yl_nil rfl (h.dt 0 29 rfl rfl rfl) kI
    ·exact oI rfl fun h => yl_fieldAddr fd49_0 rfl (h.dt 1 30 rfl rfl rfl) kI
    ·exact oI rfl fun h => yl_load1 ty9 rfl (h.dt 2 31 rfl rfl rfl) (((Box.ex hB217 h.ex).cell 0).trans rfl) kI
    ·exact oI rfl fun h => yl_move rfl (h.old 0 _ rfl rfl) kI
    ·exact oI rfl fun h => yl_nil rfl (h.dt 4 33 rfl rfl rfl) kI
    ·exact oI rfl fun h => yl_fieldAddr fd49_1 rfl (h.dt 5 34 rfl rfl rfl) kI
    ·exact oI rfl fun h => yl_load1 ty3 rfl (h.dt 6 35 rfl rfl rfl) (((Box.ex hB217 h.ex).cell 1).trans rfl) kI
    ·exact oI rfl fun h => yl_sub rfl (h.dt 7 36 rfl rfl rfl) rfl kI
    ·intro fl269 fh270 L266 w267 hp268
     have hE271 := hp268.ex
     have hE271z := Ex.size hE271
     refine sd rfl (yl_sindex un9 (a := p_r_b) rfl (hp268.nt 3 32 rfl rfl rfl) (hp268.nt 8 37 rfl rfl rfl) (by first | omega | assumption | (simp only [wI] at *; omega)) (by first | omega | assumption | (simp only [wI] at *; omega)) (sd rfl (yl_conv un5 un3 rfl rfl (sd rfl (yl_assign rfl rfl (dn (CW.sub (Sub.cons (d := 2) rfl (Sub.nil _)) (CW.ret (rr rfl (.cons rfl .nil) ?_)))))))))
     have hM274 : (s_l1R_one p_r_b p_r) = ((IntKind.wrap .i64 ((p_r_b.getD (IntKind.wrap .i64 ((IntKind.wrap .i64 (p_r.1 + 1)) - 1)).toNat 0).toNat : Int), (IntKind.wrap .i64 (p_r.1 + 1), p_r.2))) := by first | (simp only [s_l1R_one, hb6, hb207, cL]; done) | (simp only [s_l1R_one, hb6, hb207, cond_true, cond_false, loopE_done, loopE_ret, pairE]; done) | exact (show (s_l1R_one p_r_b p_r) = ((IntKind.wrap .i64 ((p_r_b.getD (IntKind.wrap .i64 ((IntKind.wrap .i64 (p_r.1 + 1)) - 1)).toNat 0).toNat : Int), (IntKind.wrap .i64 (p_r.1 + 1), p_r.2))) from by simp only [s_l1R_one, hb6, hb207, cond_true, cond_false, loopE_done, loopE_ret, pairE])
     rw [hM274]
     exact ⟨rfl, (Box.ex hB217 hE271), (Chg.tex (Chg.tonly (Chg.tex (Chg.refl (InR [(b1, b1 + 1)]) w) hE204) hO218 (by simp only [InR, or_false]; omega)) hE271)⟩
theorem c_s_l1NumB {w : World} (p_n : Int) (pre0 : (0 ≤ p_n ∧ p_n ≤ 1073741824)) : Cal Try.prog 52 #[.int .i64 (p_n)] w fun v w' => v = .string (bs ((s_l1NumB p_n))) ∧ Ex w w' := by
 refine Cal.of func52 rfl ntmps52 rfl (CW.seq (CW.region (sd rfl (yl_assign rfl rfl (dn (CW.seq (CW.region (sd rfl (yl_assign rfl rfl ?_)))))))))
 refine dn (CW.seq (CW.block (CW.loop (fun m25 L26 w27 => ∃ (x20 : Int) (x21 : List Int) (A22 : Option Addr) (c23 : Nat) (u24 : Nat), ((x20).toNat) < m25 ∧ w.heap.size ≤ w27.heap.size ∧ lkp L26 0 = some (.int .i64 (x20)) ∧ lkp L26 3 = some (.slice A22 x21.length c23) ∧ OwnL w27 w.heap.size u24 5 1 (RF e_U8) A22 x21.length c23 x21 ∧ Ex w w27 ∧ (w.heap.size ≤ u24 ∧ u24 ≤ w27.heap.size) ∧ x21.length + 1 * ((x20).toNat) ≤ 0 + 1 * ((p_n).toNat) ∧ 0 ≤ x20 ∧ x20 ≤ 1073741824 ∧ loopW (B_s_l1NumB_0 p_n) m25 (x20, x21) = loopW (B_s_l1NumB_0 p_n) (((p_n).toNat) + 1) (p_n, ([] : List Int))) (((p_n).toNat) + 1) ?_ ?_)))
 ·exact ⟨p_n, ([] : List Int), none, 0, w.heap.size, Nat.lt_succ_self _, Nat.le_refl _, rfl, rfl, (OwnL.nil w w.heap.size w.heap.size 5 1 (RF e_U8)), (Ex.refl w), (by omega), (by first | (simp; done) | (first | omega | (simp only [List.length_append, List.length_cons, List.length_nil, List.length_set, toS_length]; omega))), (by first | omega | assumption | (simp only [wI] at *; omega)), (by first | omega | assumption | (simp only [wI] at *; omega)), rfl⟩
 ·rintro m28 L29 w30 ⟨x20, x21, A22, c23, u24, hk31, hsz33, hl34, hl35, hf36, hf37, hu38, hln39, hv40, hv41, hI32⟩
  refine CW.sub (Sub.cons hl34 (Sub.cons hl35 (Sub.nil _))) ?_
  have hf37z := Ex.size hf37
  refine CW.seq (CW.seq (CW.region (sd rfl (yl_move rfl rfl (sd rfl (yl_geq rfl rfl rfl (dn (bcase (decide (128 ≤ x20)) (fun hb42 => ?_) (fun hb42 => ?_)))))))))
  ·have hb42p := dec_t hb42
   refine CW.cond_t rfl hb42 (CW.skip (tn (CW.seq (CW.block (CW.region (sd rfl (yl_move rfl rfl (sd rfl (yl_move rfl rfl (sd rfl (yl_rem rfl rfl rfl (by decide) ?_)))))))))))
   refine sd rfl (yl_add rfl rfl rfl (sd rfl (yl_conv un3 un5 rfl rfl (sd rfl (yl_buildSlice (cs := [.int .u8 (IntKind.wrap .u8 (IntKind.wrap .i64 ((Int.tmod x20 128) + 128)))]) un101 ty5 (by decide) rfl (oc rfl oz) (by kernel_rfl) ?_)))))
   intro b43 w44 hs45 hz46 hB47 hE48
   have hO49 : OwnL w44 b43 (b43 + 1) 5 1 (RF e_U8) (some ⟨b43, 0, none⟩) 1 1 ([IntKind.wrap .u8 (IntKind.wrap .i64 ((Int.tmod x20 128) + 128))] : List Int) := OwnL.of_box (S := fun _ => False) hB47 (Nat.le_refl _) (Nat.lt_succ_self _) (EncL.cons (c := [.int .u8 (IntKind.wrap .u8 (IntKind.wrap .i64 ((Int.tmod x20 128) + 128)))]) rfl rfl EncL.nil) (Nat.le_of_ble_eq_true rfl) (fun h => h) (fun _ h => False.elim h)
   refine sd rfl (yl_appendL (S := (fun _ => False)) (lo := w.heap.size) (hi := u24) (xs := x21) (ys := ([IntKind.wrap .u8 (IntKind.wrap .i64 ((Int.tmod x20 128) + 128))] : List Int)) good_U8 un101 ty5 rfl (Nat.le_of_ble_eq_true rfl) rfl rfl rfl (OwnL.ex good_U8 hf36 hE48) (EncL.cons (c := [.int .u8 (IntKind.wrap .u8 (IntKind.wrap .i64 ((Int.tmod x20 128) + 128)))]) rfl rfl EncL.nil) (Or.inr ⟨_, _, rfl, rfl, hB47.cells (o := 0) (n := 1) rfl⟩) rfl (by first | omega | (simp only [List.length_append, List.length_cons, List.length_nil, List.length_take, List.length_drop, List.length_replicate, List.length_set, toS_length]; omega)) (by first | omega | (simp only [List.length_append, List.length_cons, List.length_nil, List.length_take, List.length_drop, List.length_replicate, List.length_set, toS_length]; omega)) (by omega) (by omega) (fun _ h _ => False.elim h) (by omega) ?_)
   intro A51 c52 w53 row54 hO55 hG56 hrg57
   have hG56z := hG56.size
   refine sd rfl (yl_assign rfl rfl (SeqR.done (bn (tn (CW.region (sd rfl (yl_move rfl rfl (sd rfl (yl_quo rfl rfl rfl (by decide) (sd rfl (yl_assign rfl rfl (SeqR.done ?_))))))))))))
   refine tn ?_
   have hB58 : B_s_l1NumB_0 p_n (x20, x21) = .cont (IntKind.wrap .i64 (Int.tdiv x20 128), (x21 ++ ([IntKind.wrap .u8 (IntKind.wrap .i64 ((Int.tmod x20 128) + 128))] : List Int))) := by simp only [B_s_l1NumB_0, hb42, cL]
   have hmu61 : ((IntKind.wrap .i64 (Int.tdiv x20 128)).toNat) < ((x20).toNat) := by (have hq := wtd (n := x20) (c := 128) (by decide) (by omega) (by omega); omega)
   exact ⟨m28 - 1, by omega, IntKind.wrap .i64 (Int.tdiv x20 128), (x21 ++ ([IntKind.wrap .u8 (IntKind.wrap .i64 ((Int.tmod x20 128) + 128))] : List Int)), A51, c52, w53.heap.size, (by omega), (by omega), rfl, rfl, hO55, (Below.grown (Ex.trans hf37 hE48) hG56 (by omega) (fun k hk => by have := hrg57 k hk; omega)), (by omega), (by first | omega | (simp only [List.length_append, List.length_cons, List.length_nil, List.length_set, toS_length]; omega)), (by (have hq := wtd (n := x20) (c := 128) (by decide) (by omega) (by omega); omega)), (by (have hq := wtd (n := x20) (c := 128) (by decide) (by omega) (by omega); omega)), (loopW.cont hk31 hB58).symm.trans hI32⟩
  ·have hb42p := dec_f hb42
   refine CW.cond_f rfl hb42 (CW.exit (tx (tx ?_)))
   have hB63 : B_s_l1NumB_0 p_n (x20, x21) = .brk (x20, x21) := by simp only [B_s_l1NumB_0, hb42, cL]
   have hL62 : loopW (B_s_l1NumB_0 p_n) (((p_n).toNat) + 1) (p_n, ([] : List Int)) = .done (x20, x21) := hI32.symm.trans (loopW.brk hk31 hB63)
   refine bx (tn (CW.seq (CW.region (sd rfl (yl_move rfl rfl (sd rfl (yl_move rfl rfl (sd rfl (yl_conv un3 un5 rfl rfl (sd rfl (yl_buildSlice (cs := [.int .u8 (IntKind.wrap .u8 x20)]) un101 ty5 (by decide) rfl (oc rfl oz) (by kernel_rfl) ?_)))))))))))
   intro b64 w65 hs66 hz67 hB68 hE69
   have hO70 : OwnL w65 b64 (b64 + 1) 5 1 (RF e_U8) (some ⟨b64, 0, none⟩) 1 1 ([IntKind.wrap .u8 x20] : List Int) := OwnL.of_box (S := fun _ => False) hB68 (Nat.le_refl _) (Nat.lt_succ_self _) (EncL.cons (c := [.int .u8 (IntKind.wrap .u8 x20)]) rfl rfl EncL.nil) (Nat.le_of_ble_eq_true rfl) (fun h => h) (fun _ h => False.elim h)
   refine sd rfl (yl_appendL (S := (fun _ => False)) (lo := w.heap.size) (hi := u24) (xs := x21) (ys := ([IntKind.wrap .u8 x20] : List Int)) good_U8 un101 ty5 rfl (Nat.le_of_ble_eq_true rfl) rfl rfl rfl (OwnL.ex good_U8 hf36 hE69) (EncL.cons (c := [.int .u8 (IntKind.wrap .u8 x20)]) rfl rfl EncL.nil) (Or.inr ⟨_, _, rfl, rfl, hB68.cells (o := 0) (n := 1) rfl⟩) rfl (by first | omega | (simp only [List.length_append, List.length_cons, List.length_nil, List.length_take, List.length_drop, List.length_replicate, List.length_set, toS_length]; omega)) (by first | omega | (simp only [List.length_append, List.length_cons, List.length_nil, List.length_take, List.length_drop, List.length_replicate, List.length_set, toS_length]; omega)) (by omega) (by omega) (fun _ h _ => False.elim h) (by omega) ?_)
   intro A72 c73 w74 row75 hO76 hG77 hrg78
   have hG77z := hG77.size
   refine sd rfl (yl_toS un101 un5 un9 rfl rfl (OwnL.rd good_U8 hO76) (sd rfl (yl_assign rfl rfl (dn (CW.ret (rr rfl (.cons rfl .nil) ?_))))))
   have hM80 : (s_l1NumB p_n) = (toS (x21 ++ ([IntKind.wrap .u8 x20] : List Int))) := by simp only [s_l1NumB, hb42, hL62, cL]
   rw [hM80]
   exact ⟨rfl, (Below.grown (Ex.trans hf37 hE69) hG77 (by omega) (fun k hk => by have := hrg78 k hk; omega))⟩
theorem c_s_l1R_num {b1 : Nat} {w : World} (p_r_b : Str) (p_r : Int × Bool) (h2 : Box w b1 49 [.string (bs (p_r_b)), .int .i64 (p_r.1), .bool (p_r.2)]) (o3 : okS p_r_b) (pre0 : (0 ≤ p_r.1 ∧ p_r.1 ≤ (p_r_b.length : Int))) : Cal Try.prog 23 #[.pointer (some ⟨b1, 0, none⟩)] w fun v w' => v = .int .i64 ((s_l1R_num p_r_b p_r).1) ∧ Box w' b1 49 [.string (bs (p_r_b)), .int .i64 (((s_l1R_num p_r_b p_r).2).1), .bool (((s_l1R_num p_r_b p_r).2).2)] ∧ Chg (InR [(b1, b1 + 1)]) w w' := by
 have hol4 : p_r_b.length ≤ 1073741824 := o3
 have hbx5 := Box.lt h2
 refine Cal.of func23 rfl ntmps23 rfl (CW.seq (CW.region (sd rfl (yl_assign rfl rfl (dn (CW.seq (CW.region (sd rfl (yl_move rfl rfl ?_)))))))))
 refine sd rfl (yl_nil rfl rfl (sd rfl (yl_fieldAddr fd49_1 rfl rfl (sd rfl (yl_load1 ty3 rfl rfl ((h2.cell 1).trans rfl) (sd rfl (yl_assign rfl rfl (dn (CW.seq (CW.region (sd rfl (yl_assign rfl rfl ?_))))))))))))
 refine sd rfl (yl_assign rfl rfl (dn (CW.seq (CW.seq (CW.region (sd rfl (yl_assign rfl rfl (dn ?_))))))))
 refine CW.block (CW.loop (fun m20 L21 w22 => ∃ (k6 : Nat) (x16 : Int) (x17 : Int) (x18 : Int) (x19 : Bool), m20 = 5 - k6 ∧ k6 ≤ 5 ∧ w.heap.size ≤ w22.heap.size ∧ lkp L21 0 = some (.pointer (some ⟨b1, 0, none⟩)) ∧ lkp L21 3 = some (.int .i64 (p_r.1)) ∧ lkp L21 4 = some (.int .i64 (x16)) ∧ lkp L21 5 = some (.int .i64 (x17)) ∧ lkp L21 6 = some (.int .i64 ((k6 : Int))) ∧ Box w22 b1 49 [.string (bs (p_r_b)), .int .i64 (x18), .bool (x19)] ∧ Chg (InR [(b1, b1 + 1)]) w w22 ∧ (p_r.1 ≤ x18 ∧ x18 ≤ (p_r_b.length : Int)) ∧ (0 ≤ x16 ∧ x16 ≤ 34091302912 * (k6 : Int)) ∧ (((k6 : Int) = 0 ∧ x17 = 1) ∨ ((k6 : Int) = 1 ∧ x17 = 128) ∨ ((k6 : Int) = 2 ∧ x17 = 16384) ∨ ((k6 : Int) = 3 ∧ x17 = 2097152) ∨ ((k6 : Int) = 4 ∧ x17 = 268435456) ∨ ((k6 : Int) = 5 ∧ x17 = 34359738368)) ∧ loopM (B_s_l1R_num_0 p_r_b p_r) (5 - k6) k6 (x16, x17, x18, x19) = loopM (B_s_l1R_num_0 p_r_b p_r) (5 - 0) 0 (0, 1, p_r.1, p_r.2)) (5 - 0) ?_ ?_)
 ·exact ⟨0, 0, 1, p_r.1, p_r.2, rfl, (by omega), Nat.le_refl _, rfl, rfl, rfl, rfl, rfl, h2, (Chg.refl (InR [(b1, b1 + 1)]) w), (by first | omega | assumption | (simp only [wI] at *; omega)), (by first | omega | assumption | (simp only [wI] at *; omega)), (by first | omega | assumption | (simp only [wI] at *; omega)), rfl⟩
 ·rintro m23 L24 w25 ⟨k6, x16, x17, x18, x19, rfl, hk26, hsz28, hl29, hl30, hl31, hl32, hl33, hf34, hf35, hv36, hv37, hv38, hI27⟩
  refine CW.sub (Sub.cons hl29 (Sub.cons hl30 (Sub.cons hl31 (Sub.cons hl32 (Sub.cons hl33 (Sub.nil _)))))) ?_
  have hf34z := Box.lt hf34
  have hf35z := Chg.size hf35
  rcases Nat.lt_or_ge k6 5 with hlt39 | hlt39
  ·have hdm := digit_mul2 o3 (x18, x19) (f := x17) (by omega) (by omega) (by omega)
   have hdr : IntKind.wrap .i64 (x16 + (IntKind.wrap .i64 ((Int.tmod ((s_l1R_one p_r_b (x18, x19)).1) 128) * x17))) = x16 + (IntKind.wrap .i64 ((Int.tmod ((s_l1R_one p_r_b (x18, x19)).1) 128) * x17)) := wrap_in (by omega)
   have hdt : IntKind.wrap .i64 (x17 * 128) = x17 * 128 := wrap_in (by omega)
   refine CW.seq (CW.seq (CW.region (sd rfl (yl_move rfl rfl (sd rfl (yl_lss rfl rfl rfl (dn (CW.cond_t rfl (lt_t hlt39) (CW.skip ?_)))))))))
   refine tn (CW.seq (CW.block (CW.seq (CW.region (sd rfl (yl_move rfl rfl (sd rfl (yl_call en34 rfl (oc rfl oz) (Cal.mono (c_s_l1R_one p_r_b (x18, x19) hf34 o3 (by first | omega | assumption | (simp only [wI] at *; omega))) ?_)))))))))
   rintro v41 w40 ⟨rfl, hB43, hc42⟩
   have hc42z := Chg.size hc42
   have hB43z := Box.lt hB43
   have hrf44 := rf_one o3 (x18, x19)  (by first | omega | assumption | (simp only [wI] at *; omega))
   refine sd rfl (yl_assign rfl rfl (dn (CW.seq (CW.region (sd rfl (yl_move rfl rfl (sd rfl (yl_move rfl rfl (sd rfl (yl_rem rfl rfl rfl (by decide) (sd rfl (yl_move rfl rfl ?_))))))))))))
   refine sd rfl (yl_mul rfl rfl rfl (sd rfl (yl_add rfl rfl rfl (sd rfl (yl_assign rfl rfl (dn (CW.seq (CW.region (sd rfl (yl_move rfl rfl (sd rfl (yl_mul rfl rfl rfl ?_))))))))))))
   refine sd rfl (yl_assign rfl rfl (dn (CW.seq (CW.region (sd rfl (yl_move rfl rfl (sd rfl (yl_lss rfl rfl rfl (dn ?_)))))))))
   refine bcase (decide (((s_l1R_one p_r_b (x18, x19)).1) < 128)) (fun hb45 => ?_) (fun hb45 => ?_)
   ·have hb45p := dec_t hb45
    refine CW.cond_t rfl hb45 (CW.exit (by' rfl (tx (tx ?_))))
    have hB47 : B_s_l1R_num_0 p_r_b p_r k6 (x16, x17, x18, x19) = .brk (IntKind.wrap .i64 (x16 + (IntKind.wrap .i64 ((Int.tmod ((s_l1R_one p_r_b (x18, x19)).1) 128) * x17))), IntKind.wrap .i64 (x17 * 128), ((s_l1R_one p_r_b (x18, x19)).2).1, ((s_l1R_one p_r_b (x18, x19)).2).2) := by simp only [B_s_l1R_num_0, hb45, cL]
    have hL46 : loopM (B_s_l1R_num_0 p_r_b p_r) (5 - 0) 0 (0, 1, p_r.1, p_r.2) = .done (IntKind.wrap .i64 (x16 + (IntKind.wrap .i64 ((Int.tmod ((s_l1R_one p_r_b (x18, x19)).1) 128) * x17))), IntKind.wrap .i64 (x17 * 128), ((s_l1R_one p_r_b (x18, x19)).2).1, ((s_l1R_one p_r_b (x18, x19)).2).2) := hI27.symm.trans (loopM.brk hlt39 hB47)
    refine bx (tn (CW.seq (CW.seq (bcase (((s_l1R_one p_r_b (x18, x19)).2).2) (fun hb48 => ?_) (fun hb48 => ?_)))))
    ·refine CW.drawsI 23 (vgetI ([.pointer (some ⟨b1, 0, none⟩), .pointer (some ⟨b1, 0, none⟩), .pointer (some ⟨b1, 0 + 2, none⟩), .bool (((s_l1R_one p_r_b (x18, x19)).2).2), .bool (((s_l1R_one p_r_b (x18, x19)).2).2), undef, undef, .bool (true), .bool (true), undef, undef, undef, undef, undef, undef, undef, undef, undef, undef, undef, undef, undef, .bool (true)].map DetI)) Try.follows rfl rfl rfl rfl rfl rfl (vgetI_stable (stD _)) ⟨?_, ?_, ?_, ?_, ?_, ?_, ?_, ?_, ?_, ?_, ?_, ?_, ?_, ?_, ?_, ?_, ?_, ?_, ?_, ?_, ?_, ?_, ?_, trivial⟩ ?_
     ·exact oI rfl fun h => yl_move rfl (h.old 0 _ rfl rfl) kI
     ·exact oI rfl fun h => yl_nil rfl (h.dt 0 28 rfl rfl rfl) kI
     ·exact oI rfl fun h => yl_fieldAddr fd49_2 rfl (h.dt 1 29 rfl rfl rfl) kI
     ·exact oI rfl fun h => yl_load1 ty4 rfl (h.dt 2 30 rfl rfl rfl) (((Box.ex hB43 h.ex).cell 2).trans rfl) kI
     ·exact oI rfl fun h => yl_move rfl (h.dt 3 31 rfl rfl rfl) kI
     ·exact oS rfl rfl rfl rfl rfl hb48
     ·exact oS rfl rfl rfl rfl rfl hb48
     ·exact oI rfl fun h => yl_pick_t rfl (h.dt 4 32 rfl rfl rfl) hb48 rfl kI
     ·exact oI rfl fun h => yl_move rfl (h.dt 7 35 rfl rfl rfl) kI
     ·exact oS rfl rfl rfl rfl rfl rfl
     ·exact oS rfl rfl rfl rfl rfl rfl
     ·exact oS rfl rfl rfl rfl rfl rfl
     ·exact oS rfl rfl rfl rfl rfl rfl
     ·exact oS rfl rfl rfl rfl rfl rfl
     ·exact oS rfl rfl rfl rfl rfl rfl
     ·exact oS rfl rfl rfl rfl rfl rfl
     ·exact oS rfl rfl rfl rfl rfl rfl
     ·exact oS rfl rfl rfl rfl rfl rfl
     ·exact oS rfl rfl rfl rfl rfl rfl
     ·exact oS rfl rfl rfl rfl rfl rfl
     ·exact oS rfl rfl rfl rfl rfl rfl
     ·exact oS rfl rfl rfl rfl rfl rfl
     ·exact oI rfl fun h => yl_pick_t rfl (h.dt 8 36 rfl rfl rfl) rfl rfl kI
     ·intro fl170 fh171 L167 w168 hp169
      have hE172 := hp169.ex
      have hE172z := Ex.size hE172
      refine dn (CW.sub (Sub.cons (d := 0) (hp169.old 0 _ rfl rfl) (Sub.cons (d := 4) (hp169.old 4 _ rfl rfl) (Sub.cons (d := 50) (hp169.nt 22 50 rfl rfl rfl) (Sub.nil _)))) (CW.cond_t rfl rfl (CW.seq (CW.region (sd rfl (yl_move rfl rfl (sd rfl (yl_nil rfl rfl (sd rfl (yl_fieldAddr fd49_2 rfl rfl ?_))))))))))
      refine SeqR.u rfl rfl (yl_store (vs := [.bool (true)]) ty4 rfl rfl rfl rfl rfl rfl (Box.ex hB43 hE172) (Nat.le_of_ble_eq_true rfl) ?_)
      intro w177 hB178 hO179
      have hB178 : Box w177 b1 49 [.string (bs (p_r_b)), .int .i64 (((s_l1R_one p_r_b (x18, x19)).2).1), .bool (true)] := hB178
      have hO179z := hO179.size
      refine dn (CW.seq (CW.region (sd rfl (yl_assign rfl rfl (dn (CW.ret (tr ?_)))))))
      refine rr rfl (.cons rfl .nil) ?_
      have hM180 : (s_l1R_num p_r_b p_r) = ((0, (((s_l1R_one p_r_b (x18, x19)).2).1, true))) := by first | (simp only [s_l1R_num, hb48, hL46, cond_true, cond_false, loopE_done, loopE_ret, pairE]; done) | (simp only [s_l1R_num, hb45, hb48, hL46, cL]; done) | (simp only [s_l1R_num, hb45, hb48, hL46, cond_true, cond_false, loopE_done, loopE_ret, pairE]; done) | exact (show (s_l1R_num p_r_b p_r) = ((0, (((s_l1R_one p_r_b (x18, x19)).2).1, true))) from by simp only [s_l1R_num, hb45, hb48, hL46, cond_true, cond_false, loopE_done, loopE_ret, pairE])
      rw [hM180]
      exact ⟨rfl, hB178, (Chg.tonly (Chg.tex (Chg.tchg hf35 hc42 (fun k hk => by simp only [InR, or_false] at hk ⊢; omega)) hE172) hO179 (by simp only [InR, or_false]; omega))⟩
    ·refine bcase (decide (1000000000 < (IntKind.wrap .i64 (x16 + (IntKind.wrap .i64 ((Int.tmod ((s_l1R_one p_r_b (x18, x19)).1) 128) * x17)))))) (fun hb184 => ?_) (fun hb184 => ?_)
     ·have hb184p := dec_t hb184
      refine CW.drawsI 23 (vgetI ([.pointer (some ⟨b1, 0, none⟩), .pointer (some ⟨b1, 0, none⟩), .pointer (some ⟨b1, 0 + 2, none⟩), .bool (((s_l1R_one p_r_b (x18, x19)).2).2), .bool (((s_l1R_one p_r_b (x18, x19)).2).2), .int .i64 (IntKind.wrap .i64 (x16 + (IntKind.wrap .i64 ((Int.tmod ((s_l1R_one p_r_b (x18, x19)).1) 128) * x17)))), .bool (decide (1000000000 < (IntKind.wrap .i64 (x16 + (IntKind.wrap .i64 ((Int.tmod ((s_l1R_one p_r_b (x18, x19)).1) 128) * x17)))))), .bool (decide (1000000000 < (IntKind.wrap .i64 (x16 + (IntKind.wrap .i64 ((Int.tmod ((s_l1R_one p_r_b (x18, x19)).1) 128) * x17)))))), .bool (decide (1000000000 < (IntKind.wrap .i64 (x16 + (IntKind.wrap .i64 ((Int.tmod ((s_l1R_one p_r_b (x18, x19)).1) 128) * x17)))))), undef, undef, undef, undef, undef, undef, undef, undef, undef, undef, undef, undef, undef, .bool (true)].map DetI)) Try.follows rfl rfl rfl rfl rfl rfl (vgetI_stable (stD _)) ⟨?_, ?_, ?_, ?_, ?_, ?_, ?_, ?_, ?_, ?_, ?_, ?_, ?_, ?_, ?_, ?_, ?_, ?_, ?_, ?_, ?_, ?_, ?_, trivial⟩ ?_
      ·exact oI rfl fun h => yl_move rfl (h.old 0 _ rfl rfl) kI
      ·exact oI rfl fun h => yl_nil rfl (h.dt 0 28 rfl rfl rfl) kI
      ·exact oI rfl fun h => yl_fieldAddr fd49_2 rfl (h.dt 1 29 rfl rfl rfl) kI
      ·exact oI rfl fun h => yl_load1 ty4 rfl (h.dt 2 30 rfl rfl rfl) (((Box.ex hB43 h.ex).cell 2).trans rfl) kI
      ·exact oI rfl fun h => yl_move rfl (h.dt 3 31 rfl rfl rfl) kI
      ·exact oW rfl rfl rfl rfl hb48 fun h => yl_move rfl (h.old 4 _ rfl rfl) kI
      ·exact oW rfl rfl rfl rfl hb48 fun h => yl_gtr rfl (h.dt 5 33 rfl rfl rfl) rfl kI
      ·exact oI rfl fun h => yl_pick_f rfl (h.dt 4 32 rfl rfl rfl) hb48 (h.dt 6 34 rfl rfl rfl) kI
      ·exact oI rfl fun h => yl_move rfl (h.dt 7 35 rfl rfl rfl) kI
      ·exact oS rfl rfl rfl rfl rfl hb184
      ·exact oS rfl rfl rfl rfl rfl hb184
      ·exact oS rfl rfl rfl rfl rfl hb184
      ·exact oS rfl rfl rfl rfl rfl hb184
      ·exact oS rfl rfl rfl rfl rfl hb184
      ·exact oS rfl rfl rfl rfl rfl hb184
      ·exact oS rfl rfl rfl rfl rfl hb184
      ·exact oS rfl rfl rfl rfl rfl hb184
      ·exact oS rfl rfl rfl rfl rfl hb184
      ·exact oS rfl rfl rfl rfl rfl hb184
      ·exact oS rfl rfl rfl rfl rfl hb184
      ·exact oS rfl rfl rfl rfl rfl hb184
      ·exact oS rfl rfl rfl rfl rfl hb184
      ·exact oI rfl fun h => yl_pick_t rfl (h.dt 8 36 rfl rfl rfl) hb184 rfl kI
      ·intro fl308 fh309 L305 w306 hp307
       have hE310 := hp307.ex
       have hE310z := Ex.size hE310
       refine dn (CW.sub (Sub.cons (d := 0) (hp307.old 0 _ rfl rfl) (Sub.cons (d := 4) (hp307.old 4 _ rfl rfl) (Sub.cons (d := 50) (hp307.nt 22 50 rfl rfl rfl) (Sub.nil _)))) (CW.cond_t rfl rfl (CW.seq (CW.region (sd rfl (yl_move rfl rfl (sd rfl (yl_nil rfl rfl (sd rfl (yl_fieldAddr fd49_2 rfl rfl ?_))))))))))
       refine SeqR.u rfl rfl (yl_store (vs := [.bool (true)]) ty4 rfl rfl rfl rfl rfl rfl (Box.ex hB43 hE310) (Nat.le_of_ble_eq_true rfl) ?_)
       intro w315 hB316 hO317
       have hB316 : Box w315 b1 49 [.string (bs (p_r_b)), .int .i64 (((s_l1R_one p_r_b (x18, x19)).2).1), .bool (true)] := hB316
       have hO317z := hO317.size
       refine dn (CW.seq (CW.region (sd rfl (yl_assign rfl rfl (dn (CW.ret (tr ?_)))))))
       refine rr rfl (.cons rfl .nil) ?_
       have hM318 : (s_l1R_num p_r_b p_r) = ((0, (((s_l1R_one p_r_b (x18, x19)).2).1, true))) := by first | (simp only [s_l1R_num, hb48, hb184, hL46, cond_true, cond_false, loopE_done, loopE_ret, pairE]; done) | (simp only [s_l1R_num, hb45, hb48, hb184, hL46, cL]; done) | (simp only [s_l1R_num, hb45, hb48, hb184, hL46, cond_true, cond_false, loopE_done, loopE_ret, pairE]; done) | exact (show (s_l1R_num p_r_b p_r) = ((0, (((s_l1R_one p_r_b (x18, x19)).2).1, true))) from by simp only [s_l1R_num, hb45, hb48, hb184, hL46, cond_true, cond_false, loopE_done, loopE_ret, pairE])
       rw [hM318]
       exact ⟨rfl, hB316, (Chg.tonly (Chg.tex (Chg.tchg hf35 hc42 (fun k hk => by simp only [InR, or_false] at hk ⊢; omega)) hE310) hO317 (by simp only [InR, or_false]; omega))⟩
     ·have hb184p := dec_f hb184
      have hrf323 := rf_l1NumB (IntKind.wrap .i64 (x16 + (IntKind.wrap .i64 ((Int.tmod ((s_l1R_one p_r_b (x18, x19)).1) 128) * x17)))) (by first | omega | assumption | (simp only [wI] at *; omega))
      refine CW.drawsI 23 (vgetI ([.pointer (some ⟨b1, 0, none⟩), .pointer (some ⟨b1, 0, none⟩), .pointer (some ⟨b1, 0 + 2, none⟩), .bool (((s_l1R_one p_r_b (x18, x19)).2).2), .bool (((s_l1R_one p_r_b (x18, x19)).2).2), .int .i64 (IntKind.wrap .i64 (x16 + (IntKind.wrap .i64 ((Int.tmod ((s_l1R_one p_r_b (x18, x19)).1) 128) * x17)))), .bool (decide (1000000000 < (IntKind.wrap .i64 (x16 + (IntKind.wrap .i64 ((Int.tmod ((s_l1R_one p_r_b (x18, x19)).1) 128) * x17)))))), .bool (decide (1000000000 < (IntKind.wrap .i64 (x16 + (IntKind.wrap .i64 ((Int.tmod ((s_l1R_one p_r_b (x18, x19)).1) 128) * x17)))))), .bool (decide (1000000000 < (IntKind.wrap .i64 (x16 + (IntKind.wrap .i64 ((Int.tmod ((s_l1R_one p_r_b (x18, x19)).1) 128) * x17)))))), .int .i64 (IntKind.wrap .i64 (x16 + (IntKind.wrap .i64 ((Int.tmod ((s_l1R_one p_r_b (x18, x19)).1) 128) * x17)))), .string (bs ((s_l1NumB (IntKind.wrap .i64 (x16 + (IntKind.wrap .i64 ((Int.tmod ((s_l1R_one p_r_b (x18, x19)).1) 128) * x17))))))), .pointer (some ⟨b1, 0, none⟩), .pointer (some ⟨b1, 0, none⟩), .pointer (some ⟨b1, 0 + 0, none⟩), .string (bs (p_r_b)), .int .i64 (p_r.1), .pointer (some ⟨b1, 0, none⟩), .pointer (some ⟨b1, 0, none⟩), .pointer (some ⟨b1, 0 + 1, none⟩), .int .i64 (((s_l1R_one p_r_b (x18, x19)).2).1), .string (bs (((p_r_b.take ((((s_l1R_one p_r_b (x18, x19)).2).1).toNat)).drop ((p_r.1).toNat)))), .bool (!((s_l1NumB (IntKind.wrap .i64 (x16 + (IntKind.wrap .i64 ((Int.tmod ((s_l1R_one p_r_b (x18, x19)).1) 128) * x17))))) == ((p_r_b.take ((((s_l1R_one p_r_b (x18, x19)).2).1).toNat)).drop ((p_r.1).toNat)))), .bool (!((s_l1NumB (IntKind.wrap .i64 (x16 + (IntKind.wrap .i64 ((Int.tmod ((s_l1R_one p_r_b (x18, x19)).1) 128) * x17))))) == ((p_r_b.take ((((s_l1R_one p_r_b (x18, x19)).2).1).toNat)).drop ((p_r.1).toNat))))].map DetI)) Try.follows rfl rfl rfl rfl rfl rfl (vgetI_stable (stD _)) ⟨?_, ?_, ?_, ?_, ?_, ?_, ?_, ?_, ?_, ?_, ?_, ?_, ?_, ?_, ?_, ?_, ?_, ?_, ?_, ?_, ?_, ?_, ?_, trivial⟩ ?_
      ·exact oI rfl fun h => yl_move rfl (h.old 0 _ rfl rfl) kI
      ·exact oI rfl fun h => yl_nil rfl (h.dt 0 28 rfl rfl rfl) kI
      ·exact oI rfl fun h => yl_fieldAddr fd49_2 rfl (h.dt 1 29 rfl rfl rfl) kI
      ·exact oI rfl fun h => yl_load1 ty4 rfl (h.dt 2 30 rfl rfl rfl) (((Box.ex hB43 h.ex).cell 2).trans rfl) kI
      ·exact oI rfl fun h => yl_move rfl (h.dt 3 31 rfl rfl rfl) kI
      ·exact oW rfl rfl rfl rfl hb48 fun h => yl_move rfl (h.old 4 _ rfl rfl) kI
      ·exact oW rfl rfl rfl rfl hb48 fun h => yl_gtr rfl (h.dt 5 33 rfl rfl rfl) rfl kI
      ·exact oI rfl fun h => yl_pick_f rfl (h.dt 4 32 rfl rfl rfl) hb48 (h.dt 6 34 rfl rfl rfl) kI
      ·exact oI rfl fun h => yl_move rfl (h.dt 7 35 rfl rfl rfl) kI
      ·exact oW rfl rfl rfl rfl hb184 fun h => yl_move rfl (h.old 4 _ rfl rfl) kI
      ·intro L379 w380 hi381
       have hE382 := hi381.ex
       have hE382z := Ex.size hE382
       exact OpR.want rfl rfl (hi381.dt 8 36 rfl rfl rfl) hb184 (yl_call en52 rfl (oc (hi381.dt 9 37 rfl rfl rfl) oz) (Cal.mono (c_s_l1NumB (IntKind.wrap .i64 (x16 + (IntKind.wrap .i64 ((Int.tmod ((s_l1R_one p_r_b (x18, x19)).1) 128) * x17)))) (by first | omega | assumption | (simp only [wI] at *; omega))) fun _ _ h => h))
      ·exact oW rfl rfl rfl rfl hb184 fun h => yl_move rfl (h.old 0 _ rfl rfl) kI
      ·exact oW rfl rfl rfl rfl hb184 fun h => yl_nil rfl (h.dt 11 39 rfl rfl rfl) kI
      ·exact oW rfl rfl rfl rfl hb184 fun h => yl_fieldAddr fd49_0 rfl (h.dt 12 40 rfl rfl rfl) kI
      ·exact oW rfl rfl rfl rfl hb184 fun h => yl_load1 ty9 rfl (h.dt 13 41 rfl rfl rfl) (((Box.ex hB43 h.ex).cell 0).trans rfl) kI
      ·exact oW rfl rfl rfl rfl hb184 fun h => yl_move rfl (h.old 3 _ rfl rfl) kI
      ·exact oW rfl rfl rfl rfl hb184 fun h => yl_move rfl (h.old 0 _ rfl rfl) kI
      ·exact oW rfl rfl rfl rfl hb184 fun h => yl_nil rfl (h.dt 16 44 rfl rfl rfl) kI
      ·exact oW rfl rfl rfl rfl hb184 fun h => yl_fieldAddr fd49_1 rfl (h.dt 17 45 rfl rfl rfl) kI
      ·exact oW rfl rfl rfl rfl hb184 fun h => yl_load1 ty3 rfl (h.dt 18 46 rfl rfl rfl) (((Box.ex hB43 h.ex).cell 1).trans rfl) kI
      ·intro L444 w445 hi446
       have hE447 := hi446.ex
       have hE447z := Ex.size hE447
       exact OpR.want rfl rfl (hi446.dt 8 36 rfl rfl rfl) hb184 (Yl.sameI (yl_sslice_lh un9 (a := p_r_b) (l := (p_r.1).toNat) (h := (((s_l1R_one p_r_b (x18, x19)).2).1).toNat) rfl (hi446.dt 14 42 rfl rfl rfl) (toNat_op (hi446.dt 15 43 rfl rfl rfl) (by first | omega | assumption | (simp only [wI] at *; omega))) (toNat_op (hi446.dt 19 47 rfl rfl rfl) (by first | omega | assumption | (simp only [wI] at *; omega))) (by first | omega | assumption | (simp only [wI] at *; omega)) (by first | omega | assumption | (simp only [wI] at *; omega)) kI))
      ·exact oW rfl rfl rfl rfl hb184 fun h => yl_sneq (a := (s_l1NumB (IntKind.wrap .i64 (x16 + (IntKind.wrap .i64 ((Int.tmod ((s_l1R_one p_r_b (x18, x19)).1) 128) * x17)))))) (b := ((p_r_b.take ((((s_l1R_one p_r_b (x18, x19)).2).1).toNat)).drop ((p_r.1).toNat))) rfl (h.dt 10 38 rfl rfl rfl) (h.dt 20 48 rfl rfl rfl) kI
      ·exact oI rfl fun h => yl_pick_f rfl (h.dt 8 36 rfl rfl rfl) hb184 (h.dt 21 49 rfl rfl rfl) kI
      ·intro fl468 fh469 L465 w466 hp467
       have hE470 := hp467.ex
       have hE470z := Ex.size hE470
       refine dn (CW.sub (Sub.cons (d := 0) (hp467.old 0 _ rfl rfl) (Sub.cons (d := 4) (hp467.old 4 _ rfl rfl) (Sub.cons (d := 50) (hp467.nt 22 50 rfl rfl rfl) (Sub.nil _)))) (bcase ((s_l1NumB (IntKind.wrap .i64 (x16 + (IntKind.wrap .i64 ((Int.tmod ((s_l1R_one p_r_b (x18, x19)).1) 128) * x17))))) == ((p_r_b.take ((((s_l1R_one p_r_b (x18, x19)).2).1).toNat)).drop ((p_r.1).toNat))) (fun hb474 => ?_) (fun hb474 => ?_)))
       ·refine CW.cond_f rfl (not_t hb474) (CW.skip (tn (CW.seq (CW.region (sd rfl (yl_move rfl rfl (sd rfl (yl_assign rfl rfl (dn ?_)))))))))
        refine CW.ret (rr rfl (.cons rfl .nil) ?_)
        have hM475 : (s_l1R_num p_r_b p_r) = ((IntKind.wrap .i64 (x16 + (IntKind.wrap .i64 ((Int.tmod ((s_l1R_one p_r_b (x18, x19)).1) 128) * x17))), (((s_l1R_one p_r_b (x18, x19)).2).1, ((s_l1R_one p_r_b (x18, x19)).2).2))) := by first | (simp only [s_l1R_num, hb48, hb184, hb474, hL46, cond_true, cond_false, loopE_done, loopE_ret, pairE]; done) | (simp only [s_l1R_num, hb45, hb48, hb184, hb474, hL46, cL]; done) | (simp only [s_l1R_num, hb45, hb48, hb184, hb474, hL46, cond_true, cond_false, loopE_done, loopE_ret, pairE]; done) | exact (show (s_l1R_num p_r_b p_r) = ((IntKind.wrap .i64 (x16 + (IntKind.wrap .i64 ((Int.tmod ((s_l1R_one p_r_b (x18, x19)).1) 128) * x17))), ((s_l1R_one p_r_b (x18, x19)).2))) from by simp only [s_l1R_num, hb45, hb48, hb184, hb474, hL46, cond_true, cond_false, loopE_done, loopE_ret, pairE])
        rw [hM475]
        exact ⟨rfl, (Box.ex hB43 hE470), (Chg.tex (Chg.tchg hf35 hc42 (fun k hk => by simp only [InR, or_false] at hk ⊢; omega)) hE470)⟩
       ·refine CW.cond_t rfl (not_f hb474) (CW.seq (CW.region (sd rfl (yl_move rfl rfl (sd rfl (yl_nil rfl rfl (sd rfl (yl_fieldAddr fd49_2 rfl rfl (SeqR.u rfl rfl (yl_store (vs := [.bool (true)]) ty4 rfl rfl rfl rfl rfl rfl (Box.ex hB43 hE470) (Nat.le_of_ble_eq_true rfl) ?_))))))))))
        intro w480 hB481 hO482
        have hB481 : Box w480 b1 49 [.string (bs (p_r_b)), .int .i64 (((s_l1R_one p_r_b (x18, x19)).2).1), .bool (true)] := hB481
        have hO482z := hO482.size
        refine dn (CW.seq (CW.region (sd rfl (yl_assign rfl rfl (dn (CW.ret (tr ?_)))))))
        refine rr rfl (.cons rfl .nil) ?_
        have hM483 : (s_l1R_num p_r_b p_r) = ((0, (((s_l1R_one p_r_b (x18, x19)).2).1, true))) := by first | (simp only [s_l1R_num, hb48, hb184, hb474, hL46, cond_true, cond_false, loopE_done, loopE_ret, pairE]; done) | (simp only [s_l1R_num, hb45, hb48, hb184, hb474, hL46, cL]; done) | (simp only [s_l1R_num, hb45, hb48, hb184, hb474, hL46, cond_true, cond_false, loopE_done, loopE_ret, pairE]; done) | exact (show (s_l1R_num p_r_b p_r) = ((0, (((s_l1R_one p_r_b (x18, x19)).2).1, true))) from by simp only [s_l1R_num, hb45, hb48, hb184, hb474, hL46, cond_true, cond_false, loopE_done, loopE_ret, pairE])
        rw [hM483]
        exact ⟨rfl, hB481, (Chg.tonly (Chg.tex (Chg.tchg hf35 hc42 (fun k hk => by simp only [InR, or_false] at hk ⊢; omega)) hE470) hO482 (by simp only [InR, or_false]; omega))⟩
   ·have hb45p := dec_f hb45
    refine CW.cond_f rfl hb45 (CW.skip (bn (tn (CW.region (sd rfl (yl_move rfl rfl (sd rfl (yl_inc rfl rfl rfl (by omega) (sd rfl (yl_assign rfl rfl (SeqR.done ?_)))))))))))
    refine tn ?_
    have hB487 : B_s_l1R_num_0 p_r_b p_r k6 (x16, x17, x18, x19) = .cont (IntKind.wrap .i64 (x16 + (IntKind.wrap .i64 ((Int.tmod ((s_l1R_one p_r_b (x18, x19)).1) 128) * x17))), IntKind.wrap .i64 (x17 * 128), ((s_l1R_one p_r_b (x18, x19)).2).1, ((s_l1R_one p_r_b (x18, x19)).2).2) := by simp only [B_s_l1R_num_0, hb45, cL]
    exact ⟨5 - (k6 + 1), by omega, k6 + 1, IntKind.wrap .i64 (x16 + (IntKind.wrap .i64 ((Int.tmod ((s_l1R_one p_r_b (x18, x19)).1) 128) * x17))), IntKind.wrap .i64 (x17 * 128), ((s_l1R_one p_r_b (x18, x19)).2).1, ((s_l1R_one p_r_b (x18, x19)).2).2, rfl, hlt39, (by omega), rfl, rfl, rfl, rfl, rfl, hB43, (Chg.tchg hf35 hc42 (fun k hk => by simp only [InR, or_false] at hk ⊢; omega)), (by first | omega | assumption | (simp only [wI] at *; omega)), (by first | omega | assumption | (simp only [wI] at *; omega)), (by first | omega | assumption | (simp only [wI] at *; omega)), (loopM.cont hlt39 hB487).symm.trans hI27⟩
  ·refine CW.seq (CW.seq (CW.region (sd rfl (yl_move rfl rfl (sd rfl (yl_lss rfl rfl rfl (dn (CW.cond_f rfl (lt_f hlt39) (CW.exit ?_)))))))))
   refine tx (tx ?_)
   have hL489 : loopM (B_s_l1R_num_0 p_r_b p_r) (5 - 0) 0 (0, 1, p_r.1, p_r.2) = .done (x16, x17, x18, x19) := hI27.symm.trans (loopM.stop hlt39)
   refine bx (tn (CW.seq (CW.seq (bcase (x19) (fun hb490 => ?_) (fun hb490 => ?_)))))
   ·refine CW.drawsI 23 (vgetI ([.pointer (some ⟨b1, 0, none⟩), .pointer (some ⟨b1, 0, none⟩), .pointer (some ⟨b1, 0 + 2, none⟩), .bool (x19), .bool (x19), undef, undef, .bool (true), .bool (true), undef, undef, undef, undef, undef, undef, undef, undef, undef, undef, undef, undef, undef, .bool (true)].map DetI)) Try.follows rfl rfl rfl rfl rfl rfl (vgetI_stable (stD _)) ⟨?_, ?_, ?_, ?_, ?_, ?_, ?_, ?_, ?_, ?_, ?_, ?_, ?_, ?_, ?_, ?_, ?_, ?_, ?_, ?_, ?_, ?_, ?_, trivial⟩ ?_
    ·exact oI rfl fun h => yl_move rfl (h.old 0 _ rfl rfl) kI
    ·exact oI rfl fun h => yl_nil rfl (h.dt 0 28 rfl rfl rfl) kI
    ·exact oI rfl fun h => yl_fieldAddr fd49_2 rfl (h.dt 1 29 rfl rfl rfl) kI
    ·exact oI rfl fun h => yl_load1 ty4 rfl (h.dt 2 30 rfl rfl rfl) (((Box.ex hf34 h.ex).cell 2).trans rfl) kI
    ·exact oI rfl fun h => yl_move rfl (h.dt 3 31 rfl rfl rfl) kI
    ·exact oS rfl rfl rfl rfl rfl hb490
    ·exact oS rfl rfl rfl rfl rfl hb490
    ·exact oI rfl fun h => yl_pick_t rfl (h.dt 4 32 rfl rfl rfl) hb490 rfl kI
    ·exact oI rfl fun h => yl_move rfl (h.dt 7 35 rfl rfl rfl) kI
    ·exact oS rfl rfl rfl rfl rfl rfl
    ·exact oS rfl rfl rfl rfl rfl rfl
    ·exact oS rfl rfl rfl rfl rfl rfl
    ·exact oS rfl rfl rfl rfl rfl rfl
    ·exact oS rfl rfl rfl rfl rfl rfl
    ·exact oS rfl rfl rfl rfl rfl rfl
    ·exact oS rfl rfl rfl rfl rfl rfl
    ·exact oS rfl rfl rfl rfl rfl rfl
    ·exact oS rfl rfl rfl rfl rfl rfl
    ·exact oS rfl rfl rfl rfl rfl rfl
    ·exact oS rfl rfl rfl rfl rfl rfl
    ·exact oS rfl rfl rfl rfl rfl rfl
    ·exact oS rfl rfl rfl rfl rfl rfl
    ·exact oI rfl fun h => yl_pick_t rfl (h.dt 8 36 rfl rfl rfl) rfl rfl kI
    ·intro fl612 fh613 L609 w610 hp611
     have hE614 := hp611.ex
     have hE614z := Ex.size hE614
     refine dn (CW.sub (Sub.cons (d := 0) (hp611.old 0 _ rfl rfl) (Sub.cons (d := 4) (hp611.old 4 _ rfl rfl) (Sub.cons (d := 50) (hp611.nt 22 50 rfl rfl rfl) (Sub.nil _)))) (CW.cond_t rfl rfl (CW.seq (CW.region (sd rfl (yl_move rfl rfl (sd rfl (yl_nil rfl rfl (sd rfl (yl_fieldAddr fd49_2 rfl rfl ?_))))))))))
     refine SeqR.u rfl rfl (yl_store (vs := [.bool (true)]) ty4 rfl rfl rfl rfl rfl rfl (Box.ex hf34 hE614) (Nat.le_of_ble_eq_true rfl) ?_)
     intro w619 hB620 hO621
     have hB620 : Box w619 b1 49 [.string (bs (p_r_b)), .int .i64 (x18), .bool (true)] := hB620
     have hO621z := hO621.size
     refine dn (CW.seq (CW.region (sd rfl (yl_assign rfl rfl (dn (CW.ret (tr ?_)))))))
     refine rr rfl (.cons rfl .nil) ?_
     have hM622 : (s_l1R_num p_r_b p_r) = ((0, (x18, true))) := by first | (simp only [s_l1R_num, hb490, hL489, cL]; done) | (simp only [s_l1R_num, hb490, hL489, cond_true, cond_false, loopE_done, loopE_ret, pairE]; done) | exact (show (s_l1R_num p_r_b p_r) = ((0, (x18, true))) from by simp only [s_l1R_num, hb490, hL489, cond_true, cond_false, loopE_done, loopE_ret, pairE])
     rw [hM622]
     exact ⟨rfl, hB620, (Chg.tonly (Chg.tex hf35 hE614) hO621 (by simp only [InR, or_false]; omega))⟩
   ·refine bcase (decide (1000000000 < x16)) (fun hb625 => ?_) (fun hb625 => ?_)
    ·have hb625p := dec_t hb625
     refine CW.drawsI 23 (vgetI ([.pointer (some ⟨b1, 0, none⟩), .pointer (some ⟨b1, 0, none⟩), .pointer (some ⟨b1, 0 + 2, none⟩), .bool (x19), .bool (x19), .int .i64 (x16), .bool (decide (1000000000 < x16)), .bool (decide (1000000000 < x16)), .bool (decide (1000000000 < x16)), undef, undef, undef, undef, undef, undef, undef, undef, undef, undef, undef, undef, undef, .bool (true)].map DetI)) Try.follows rfl rfl rfl rfl rfl rfl (vgetI_stable (stD _)) ⟨?_, ?_, ?_, ?_, ?_, ?_, ?_, ?_, ?_, ?_, ?_, ?_, ?_, ?_, ?_, ?_, ?_, ?_, ?_, ?_, ?_, ?_, ?_, trivial⟩ ?_
     ·exact oI rfl fun h => yl_move rfl (h.old 0 _ rfl rfl) kI
     ·exact oI rfl fun h => yl_nil rfl (h.dt 0 28 rfl rfl rfl) kI
     ·exact oI rfl fun h => yl_fieldAddr fd49_2 rfl (h.dt 1 29 rfl rfl rfl) kI
     ·exact oI rfl fun h => yl_load1 ty4 rfl (h.dt 2 30 rfl rfl rfl) (((Box.ex hf34 h.ex).cell 2).trans rfl) kI
     ·exact oI rfl fun h => yl_move rfl (h.dt 3 31 rfl rfl rfl) kI
     ·exact oW rfl rfl rfl rfl hb490 fun h => yl_move rfl (h.old 4 _ rfl rfl) kI
     ·exact oW rfl rfl rfl rfl hb490 fun h => yl_gtr rfl (h.dt 5 33 rfl rfl rfl) rfl kI
     ·exact oI rfl fun h => yl_pick_f rfl (h.dt 4 32 rfl rfl rfl) hb490 (h.dt 6 34 rfl rfl rfl) kI
     ·exact oI rfl fun h => yl_move rfl (h.dt 7 35 rfl rfl rfl) kI
     ·exact oS rfl rfl rfl rfl rfl hb625
     ·exact oS rfl rfl rfl rfl rfl hb625
     ·exact oS rfl rfl rfl rfl rfl hb625
     ·exact oS rfl rfl rfl rfl rfl hb625
     ·exact oS rfl rfl rfl rfl rfl hb625
     ·exact oS rfl rfl rfl rfl rfl hb625
     ·exact oS rfl rfl rfl rfl rfl hb625
     ·exact oS rfl rfl rfl rfl rfl hb625
     ·exact oS rfl rfl rfl rfl rfl hb625
     ·exact oS rfl rfl rfl rfl rfl hb625
     ·exact oS rfl rfl rfl rfl rfl hb625
     ·exact oS rfl rfl rfl rfl rfl hb625
     ·exact oS rfl rfl rfl rfl rfl hb625
     ·exact oI rfl fun h => yl_pick_t rfl (h.dt 8 36 rfl rfl rfl) hb625 rfl kI
     ·intro fl749 fh750 L746 w747 hp748
      have hE751 := hp748.ex
      have hE751z := Ex.size hE751
      refine dn (CW.sub (Sub.cons (d := 0) (hp748.old 0 _ rfl rfl) (Sub.cons (d := 4) (hp748.old 4 _ rfl rfl) (Sub.cons (d := 50) (hp748.nt 22 50 rfl rfl rfl) (Sub.nil _)))) (CW.cond_t rfl rfl (CW.seq (CW.region (sd rfl (yl_move rfl rfl (sd rfl (yl_nil rfl rfl (sd rfl (yl_fieldAddr fd49_2 rfl rfl ?_))))))))))
      refine SeqR.u rfl rfl (yl_store (vs := [.bool (true)]) ty4 rfl rfl rfl rfl rfl rfl (Box.ex hf34 hE751) (Nat.le_of_ble_eq_true rfl) ?_)
      intro w756 hB757 hO758
      have hB757 : Box w756 b1 49 [.string (bs (p_r_b)), .int .i64 (x18), .bool (true)] := hB757
      have hO758z := hO758.size
      refine dn (CW.seq (CW.region (sd rfl (yl_assign rfl rfl (dn (CW.ret (tr ?_)))))))
      refine rr rfl (.cons rfl .nil) ?_
      have hM759 : (s_l1R_num p_r_b p_r) = ((0, (x18, true))) := by first | (simp only [s_l1R_num, hb490, hb625, hL489, cL]; done) | (simp only [s_l1R_num, hb490, hb625, hL489, cond_true, cond_false, loopE_done, loopE_ret, pairE]; done) | exact (show (s_l1R_num p_r_b p_r) = ((0, (x18, true))) from by simp only [s_l1R_num, hb490, hb625, hL489, cond_true, cond_false, loopE_done, loopE_ret, pairE])
      rw [hM759]
      exact ⟨rfl, hB757, (Chg.tonly (Chg.tex hf35 hE751) hO758 (by simp only [InR, or_false]; omega))⟩
    ·have hb625p := dec_f hb625
     have hrf763 := rf_l1NumB x16 (by first | omega | assumption | (simp only [wI] at *; omega))
     refine CW.drawsI 23 (vgetI ([.pointer (some ⟨b1, 0, none⟩), .pointer (some ⟨b1, 0, none⟩), .pointer (some ⟨b1, 0 + 2, none⟩), .bool (x19), .bool (x19), .int .i64 (x16), .bool (decide (1000000000 < x16)), .bool (decide (1000000000 < x16)), .bool (decide (1000000000 < x16)), .int .i64 (x16), .string (bs ((s_l1NumB x16))), .pointer (some ⟨b1, 0, none⟩), .pointer (some ⟨b1, 0, none⟩), .pointer (some ⟨b1, 0 + 0, none⟩), .string (bs (p_r_b)), .int .i64 (p_r.1), .pointer (some ⟨b1, 0, none⟩), .pointer (some ⟨b1, 0, none⟩), .pointer (some ⟨b1, 0 + 1, none⟩), .int .i64 (x18), .string (bs (((p_r_b.take ((x18).toNat)).drop ((p_r.1).toNat)))), .bool (!((s_l1NumB x16) == ((p_r_b.take ((x18).toNat)).drop ((p_r.1).toNat)))), .bool (!((s_l1NumB x16) == ((p_r_b.take ((x18).toNat)).drop ((p_r.1).toNat))))].map DetI)) Try.follows rfl rfl rfl rfl rfl rfl (vgetI_stable (stD _)) ⟨?_, ?_, ?_, ?_, ?_, ?_, ?_, ?_, ?_, ?_, ?_, ?_, ?_, ?_, ?_, ?_, ?_, ?_, ?_, ?_, ?_, ?_, ?_, trivial⟩ ?_
     ·exact oI rfl fun h => yl_move rfl (h.old 0 _ rfl rfl) kI
     ·exact oI rfl fun h => yl_nil rfl (h.dt 0 28 rfl rfl rfl) kI
     ·exact oI rfl fun h => yl_fieldAddr fd49_2 rfl (h.dt 1 29 rfl rfl rfl) kI
     ·exact oI rfl fun h => yl_load1 ty4 rfl (h.dt 2 30 rfl rfl rfl) (((Box.ex hf34 h.ex).cell 2).trans rfl) kI
     ·exact oI rfl fun h => yl_move rfl (h.dt 3 31 rfl rfl rfl) kI
     ·exact oW rfl rfl rfl rfl hb490 fun h => yl_move rfl (h.old 4 _ rfl rfl) kI
     ·exact oW rfl rfl rfl rfl hb490 fun h => yl_gtr rfl (h.dt 5 33 rfl rfl rfl) rfl kI
     ·exact oI rfl fun h => yl_pick_f rfl (h.dt 4 32 rfl rfl rfl) hb490 (h.dt 6 34 rfl rfl rfl) kI
     ·exact oI rfl fun h => yl_move rfl (h.dt 7 35 rfl rfl rfl) kI
     ·exact oW rfl rfl rfl rfl hb625 fun h => yl_move rfl (h.old 4 _ rfl rfl) kI
     ·intro L819 w820 hi821
      have hE822 := hi821.ex
      have hE822z := Ex.size hE822
      exact OpR.want rfl rfl (hi821.dt 8 36 rfl rfl rfl) hb625 (yl_call en52 rfl (oc (hi821.dt 9 37 rfl rfl rfl) oz) (Cal.mono (c_s_l1NumB x16 (by first | omega | assumption | (simp only [wI] at *; omega))) fun _ _ h => h))
     ·exact oW rfl rfl rfl rfl hb625 fun h => yl_move rfl (h.old 0 _ rfl rfl) kI
     ·exact oW rfl rfl rfl rfl hb625 fun h => yl_nil rfl (h.dt 11 39 rfl rfl rfl) kI
     ·exact oW rfl rfl rfl rfl hb625 fun h => yl_fieldAddr fd49_0 rfl (h.dt 12 40 rfl rfl rfl) kI
     ·exact oW rfl rfl rfl rfl hb625 fun h => yl_load1 ty9 rfl (h.dt 13 41 rfl rfl rfl) (((Box.ex hf34 h.ex).cell 0).trans rfl) kI
     ·exact oW rfl rfl rfl rfl hb625 fun h => yl_move rfl (h.old 3 _ rfl rfl) kI
     ·exact oW rfl rfl rfl rfl hb625 fun h => yl_move rfl (h.old 0 _ rfl rfl) kI
     ·exact oW rfl rfl rfl rfl hb625 fun h => yl_nil rfl (h.dt 16 44 rfl rfl rfl) kI
     ·exact oW rfl rfl rfl rfl hb625 fun h => yl_fieldAddr fd49_1 rfl (h.dt 17 45 rfl rfl rfl) kI
     ·exact oW rfl rfl rfl rfl hb625 fun h => yl_load1 ty3 rfl (h.dt 18 46 rfl rfl rfl) (((Box.ex hf34 h.ex).cell 1).trans rfl) kI
     ·intro L884 w885 hi886
      have hE887 := hi886.ex
      have hE887z := Ex.size hE887
      exact OpR.want rfl rfl (hi886.dt 8 36 rfl rfl rfl) hb625 (Yl.sameI (yl_sslice_lh un9 (a := p_r_b) (l := (p_r.1).toNat) (h := (x18).toNat) rfl (hi886.dt 14 42 rfl rfl rfl) (toNat_op (hi886.dt 15 43 rfl rfl rfl) (by first | omega | assumption | (simp only [wI] at *; omega))) (toNat_op (hi886.dt 19 47 rfl rfl rfl) (by first | omega | assumption | (simp only [wI] at *; omega))) (by first | omega | assumption | (simp only [wI] at *; omega)) (by first | omega | assumption | (simp only [wI] at *; omega)) kI))
     ·exact oW rfl rfl rfl rfl hb625 fun h => yl_sneq (a := (s_l1NumB x16)) (b := ((p_r_b.take ((x18).toNat)).drop ((p_r.1).toNat))) rfl (h.dt 10 38 rfl rfl rfl) (h.dt 20 48 rfl rfl rfl) kI
     ·exact oI rfl fun h => yl_pick_f rfl (h.dt 8 36 rfl rfl rfl) hb625 (h.dt 21 49 rfl rfl rfl) kI
     ·intro fl908 fh909 L905 w906 hp907
      have hE910 := hp907.ex
      have hE910z := Ex.size hE910
      refine dn (CW.sub (Sub.cons (d := 0) (hp907.old 0 _ rfl rfl) (Sub.cons (d := 4) (hp907.old 4 _ rfl rfl) (Sub.cons (d := 50) (hp907.nt 22 50 rfl rfl rfl) (Sub.nil _)))) (bcase ((s_l1NumB x16) == ((p_r_b.take ((x18).toNat)).drop ((p_r.1).toNat))) (fun hb914 => ?_) (fun hb914 => ?_)))
      ·refine CW.cond_f rfl (not_t hb914) (CW.skip (tn (CW.seq (CW.region (sd rfl (yl_move rfl rfl (sd rfl (yl_assign rfl rfl (dn ?_)))))))))
       refine CW.ret (rr rfl (.cons rfl .nil) ?_)
       have hM915 : (s_l1R_num p_r_b p_r) = ((x16, (x18, x19))) := by first | (simp only [s_l1R_num, hb490, hb625, hb914, hL489, cL]; done) | (simp only [s_l1R_num, hb490, hb625, hb914, hL489, cond_true, cond_false, loopE_done, loopE_ret, pairE]; done) | exact (show (s_l1R_num p_r_b p_r) = ((x16, (x18, x19))) from by simp only [s_l1R_num, hb490, hb625, hb914, hL489, cond_true, cond_false, loopE_done, loopE_ret, pairE])
       rw [hM915]
       exact ⟨rfl, (Box.ex hf34 hE910), (Chg.tex hf35 hE910)⟩
      ·refine CW.cond_t rfl (not_f hb914) (CW.seq (CW.region (sd rfl (yl_move rfl rfl (sd rfl (yl_nil rfl rfl (sd rfl (yl_fieldAddr fd49_2 rfl rfl (SeqR.u rfl rfl (yl_store (vs := [.bool (true)]) ty4 rfl rfl rfl rfl rfl rfl (Box.ex hf34 hE910) (Nat.le_of_ble_eq_true rfl) ?_))))))))))
       intro w919 hB920 hO921
       have hB920 : Box w919 b1 49 [.string (bs (p_r_b)), .int .i64 (x18), .bool (true)] := hB920
       have hO921z := hO921.size
       refine dn (CW.seq (CW.region (sd rfl (yl_assign rfl rfl (dn (CW.ret (tr ?_)))))))
       refine rr rfl (.cons rfl .nil) ?_
       have hM922 : (s_l1R_num p_r_b p_r) = ((0, (x18, true))) := by first | (simp only [s_l1R_num, hb490, hb625, hb914, hL489, cL]; done) | (simp only [s_l1R_num, hb490, hb625, hb914, hL489, cond_true, cond_false, loopE_done, loopE_ret, pairE]; done) | exact (show (s_l1R_num p_r_b p_r) = ((0, (x18, true))) from by simp only [s_l1R_num, hb490, hb625, hb914, hL489, cond_true, cond_false, loopE_done, loopE_ret, pairE])
       rw [hM922]
       exact ⟨rfl, hB920, (Chg.tonly (Chg.tex hf35 hE910) hO921 (by simp only [InR, or_false]; omega))⟩
theorem c_s_l1R_text {b1 : Nat} {w : World} (p_r_b : Str) (p_r : Int × Bool) (h2 : Box w b1 49 [.string (bs (p_r_b)), .int .i64 (p_r.1), .bool (p_r.2)]) (o3 : okS p_r_b) (pre0 : (0 ≤ p_r.1 ∧ p_r.1 ≤ (p_r_b.length : Int))) : Cal Try.prog 24 #[.pointer (some ⟨b1, 0, none⟩)] w fun v w' => v = .string (bs ((s_l1R_text p_r_b p_r).1)) ∧ okS ((s_l1R_text p_r_b p_r).1) ∧ Box w' b1 49 [.string (bs (p_r_b)), .int .i64 (((s_l1R_text p_r_b p_r).2).1), .bool (((s_l1R_text p_r_b p_r).2).2)] ∧ Chg (InR [(b1, b1 + 1)]) w w' := by
 have hol4 : p_r_b.length ≤ 1073741824 := o3
 have hbx5 := Box.lt h2
 refine Cal.of func24 rfl ntmps24 rfl (CW.seq (CW.region (sd rfl (yl_assign rfl rfl (dn (CW.seq (CW.region (sd rfl (yl_move rfl rfl ?_)))))))))
 refine sd rfl (yl_call en23 rfl (oc rfl oz) (Cal.mono (c_s_l1R_num p_r_b p_r h2 o3 (by first | omega | assumption | (simp only [wI] at *; omega))) ?_))
 rintro v7 w6 ⟨rfl, hB9, hc8⟩
 have hc8z := Chg.size hc8
 have hB9z := Box.lt hB9
 have hrf10 := rf_rnum o3 p_r  (by first | omega | assumption | (simp only [wI] at *; omega))
 refine sd rfl (yl_assign rfl rfl (dn (CW.seq (CW.seq (bcase (((s_l1R_num p_r_b p_r).2).2) (fun hb11 => ?_) (fun hb11 => ?_))))))
 ·refine CW.drawsI 22 (vgetI ([.pointer (some ⟨b1, 0, none⟩), .pointer (some ⟨b1, 0, none⟩), .pointer (some ⟨b1, 0 + 2, none⟩), .bool (((s_l1R_num p_r_b p_r).2).2), .bool (((s_l1R_num p_r_b p_r).2).2), undef, undef, .bool (true), .bool (true), undef, undef, undef, undef, undef, undef, undef, undef, undef, undef, undef, undef, .bool (true)].map DetI)) Try.follows rfl rfl rfl rfl rfl rfl (vgetI_stable (stD _)) ⟨?_, ?_, ?_, ?_, ?_, ?_, ?_, ?_, ?_, ?_, ?_, ?_, ?_, ?_, ?_, ?_, ?_, ?_, ?_, ?_, ?_, ?_, trivial⟩ ?_
  ·exact oI rfl fun h => yl_move rfl (h.old 0 _ rfl rfl) kI
  ·exact oI rfl fun h => yl_nil rfl (h.dt 0 6 rfl rfl rfl) kI
  ·exact oI rfl fun h => yl_fieldAddr fd49_2 rfl (h.dt 1 7 rfl rfl rfl) kI
  ·exact oI rfl fun h => yl_load1 ty4 rfl (h.dt 2 8 rfl rfl rfl) (((Box.ex hB9 h.ex).cell 2).trans rfl) kI
  ·exact oI rfl fun h => yl_move rfl (h.dt 3 9 rfl rfl rfl) kI
  ·exact oS rfl rfl rfl rfl rfl hb11
  ·exact oS rfl rfl rfl rfl rfl hb11
  ·exact oI rfl fun h => yl_pick_t rfl (h.dt 4 10 rfl rfl rfl) hb11 rfl kI
  ·exact oI rfl fun h => yl_move rfl (h.dt 7 13 rfl rfl rfl) kI
  ·exact oS rfl rfl rfl rfl rfl rfl
  ·exact oS rfl rfl rfl rfl rfl rfl
  ·exact oS rfl rfl rfl rfl rfl rfl
  ·exact oS rfl rfl rfl rfl rfl rfl
  ·exact oS rfl rfl rfl rfl rfl rfl
  ·exact oS rfl rfl rfl rfl rfl rfl
  ·exact oS rfl rfl rfl rfl rfl rfl
  ·exact oS rfl rfl rfl rfl rfl rfl
  ·exact oS rfl rfl rfl rfl rfl rfl
  ·exact oS rfl rfl rfl rfl rfl rfl
  ·exact oS rfl rfl rfl rfl rfl rfl
  ·exact oS rfl rfl rfl rfl rfl rfl
  ·exact oI rfl fun h => yl_pick_t rfl (h.dt 8 14 rfl rfl rfl) rfl rfl kI
  ·intro fl128 fh129 L125 w126 hp127
   have hE130 := hp127.ex
   have hE130z := Ex.size hE130
   refine dn (CW.sub (Sub.cons (d := 0) (hp127.old 0 _ rfl rfl) (Sub.cons (d := 3) (hp127.old 3 _ rfl rfl) (Sub.cons (d := 27) (hp127.nt 21 27 rfl rfl rfl) (Sub.nil _)))) (CW.cond_t rfl rfl (CW.seq (CW.region (sd rfl (yl_move rfl rfl (sd rfl (yl_nil rfl rfl (sd rfl (yl_fieldAddr fd49_2 rfl rfl ?_))))))))))
   refine SeqR.u rfl rfl (yl_store (vs := [.bool (true)]) ty4 rfl rfl rfl rfl rfl rfl (Box.ex hB9 hE130) (Nat.le_of_ble_eq_true rfl) ?_)
   intro w135 hB136 hO137
   have hB136 : Box w135 b1 49 [.string (bs (p_r_b)), .int .i64 (((s_l1R_num p_r_b p_r).2).1), .bool (true)] := hB136
   have hO137z := hO137.size
   refine dn (CW.seq (CW.region (sd rfl (yl_assign rfl rfl (dn (CW.ret (tr ?_)))))))
   refine rr rfl (.cons rfl .nil) ?_
   have hM138 : (s_l1R_text p_r_b p_r) = ((([] : Str), (((s_l1R_num p_r_b p_r).2).1, true))) := by first | (simp only [s_l1R_text, hb11, cL]; done) | (simp only [s_l1R_text, hb11, cond_true, cond_false, loopE_done, loopE_ret, pairE]; done) | exact (show (s_l1R_text p_r_b p_r) = ((([] : Str), (((s_l1R_num p_r_b p_r).2).1, true))) from by simp only [s_l1R_text, hb11, cond_true, cond_false, loopE_done, loopE_ret, pairE])
   rw [hM138]
   exact ⟨rfl, (okS.lit rfl), hB136, (Chg.tonly (Chg.tex (Chg.tchg (Chg.refl (InR [(b1, b1 + 1)]) w) hc8 (fun k hk => by simp only [InR, or_false] at hk ⊢; omega)) hE130) hO137 (by simp only [InR, or_false]; omega))⟩
 ·refine bcase (decide (60 < ((s_l1R_num p_r_b p_r).1))) (fun hb142 => ?_) (fun hb142 => ?_)
  ·have hb142p := dec_t hb142
   refine CW.drawsI 22 (vgetI ([.pointer (some ⟨b1, 0, none⟩), .pointer (some ⟨b1, 0, none⟩), .pointer (some ⟨b1, 0 + 2, none⟩), .bool (((s_l1R_num p_r_b p_r).2).2), .bool (((s_l1R_num p_r_b p_r).2).2), .int .i64 ((s_l1R_num p_r_b p_r).1), .bool (decide (60 < ((s_l1R_num p_r_b p_r).1))), .bool (decide (60 < ((s_l1R_num p_r_b p_r).1))), .bool (decide (60 < ((s_l1R_num p_r_b p_r).1))), undef, undef, undef, undef, undef, undef, undef, undef, undef, undef, undef, undef, .bool (true)].map DetI)) Try.follows rfl rfl rfl rfl rfl rfl (vgetI_stable (stD _)) ⟨?_, ?_, ?_, ?_, ?_, ?_, ?_, ?_, ?_, ?_, ?_, ?_, ?_, ?_, ?_, ?_, ?_, ?_, ?_, ?_, ?_, ?_, trivial⟩ ?_
   ·exact oI rfl fun h => yl_move rfl (h.old 0 _ rfl rfl) kI
   ·exact oI rfl fun h => yl_nil rfl (h.dt 0 6 rfl rfl rfl) kI
   ·exact oI rfl fun h => yl_fieldAddr fd49_2 rfl (h.dt 1 7 rfl rfl rfl) kI
   ·exact oI rfl fun h => yl_load1 ty4 rfl (h.dt 2 8 rfl rfl rfl) (((Box.ex hB9 h.ex).cell 2).trans rfl) kI
   ·exact oI rfl fun h => yl_move rfl (h.dt 3 9 rfl rfl rfl) kI
   ·exact oW rfl rfl rfl rfl hb11 fun h => yl_move rfl (h.old 3 _ rfl rfl) kI
   ·exact oW rfl rfl rfl rfl hb11 fun h => yl_gtr rfl (h.dt 5 11 rfl rfl rfl) rfl kI
   ·exact oI rfl fun h => yl_pick_f rfl (h.dt 4 10 rfl rfl rfl) hb11 (h.dt 6 12 rfl rfl rfl) kI
   ·exact oI rfl fun h => yl_move rfl (h.dt 7 13 rfl rfl rfl) kI
   ·exact oS rfl rfl rfl rfl rfl hb142
   ·exact oS rfl rfl rfl rfl rfl hb142
   ·exact oS rfl rfl rfl rfl rfl hb142
   ·exact oS rfl rfl rfl rfl rfl hb142
   ·exact oS rfl rfl rfl rfl rfl hb142
   ·exact oS rfl rfl rfl rfl rfl hb142
   ·exact oS rfl rfl rfl rfl rfl hb142
   ·exact oS rfl rfl rfl rfl rfl hb142
   ·exact oS rfl rfl rfl rfl rfl hb142
   ·exact oS rfl rfl rfl rfl rfl hb142
   ·exact oS rfl rfl rfl rfl rfl hb142
   ·exact oS rfl rfl rfl rfl rfl hb142
   ·exact oI rfl fun h => yl_pick_t rfl (h.dt 8 14 rfl rfl rfl) hb142 rfl kI
   ·intro fl261 fh262 L258 w259 hp260
    have hE263 := hp260.ex
    have hE263z := Ex.size hE263
    refine dn (CW.sub (Sub.cons (d := 0) (hp260.old 0 _ rfl rfl) (Sub.cons (d := 3) (hp260.old 3 _ rfl rfl) (Sub.cons (d := 27) (hp260.nt 21 27 rfl rfl rfl) (Sub.nil _)))) (CW.cond_t rfl rfl (CW.seq (CW.region (sd rfl (yl_move rfl rfl (sd rfl (yl_nil rfl rfl (sd rfl (yl_fieldAddr fd49_2 rfl rfl ?_))))))))))
    refine SeqR.u rfl rfl (yl_store (vs := [.bool (true)]) ty4 rfl rfl rfl rfl rfl rfl (Box.ex hB9 hE263) (Nat.le_of_ble_eq_true rfl) ?_)
    intro w268 hB269 hO270
    have hB269 : Box w268 b1 49 [.string (bs (p_r_b)), .int .i64 (((s_l1R_num p_r_b p_r).2).1), .bool (true)] := hB269
    have hO270z := hO270.size
    refine dn (CW.seq (CW.region (sd rfl (yl_assign rfl rfl (dn (CW.ret (tr ?_)))))))
    refine rr rfl (.cons rfl .nil) ?_
    have hM271 : (s_l1R_text p_r_b p_r) = ((([] : Str), (((s_l1R_num p_r_b p_r).2).1, true))) := by first | (simp only [s_l1R_text, hb11, hb142, cL]; done) | (simp only [s_l1R_text, hb11, hb142, cond_true, cond_false, loopE_done, loopE_ret, pairE]; done) | exact (show (s_l1R_text p_r_b p_r) = ((([] : Str), (((s_l1R_num p_r_b p_r).2).1, true))) from by simp only [s_l1R_text, hb11, hb142, cond_true, cond_false, loopE_done, loopE_ret, pairE])
    rw [hM271]
    exact ⟨rfl, (okS.lit rfl), hB269, (Chg.tonly (Chg.tex (Chg.tchg (Chg.refl (InR [(b1, b1 + 1)]) w) hc8 (fun k hk => by simp only [InR, or_false] at hk ⊢; omega)) hE263) hO270 (by simp only [InR, or_false]; omega))⟩
  ·have hb142p := dec_f hb142
   refine CW.drawsI 22 (vgetI ([.pointer (some ⟨b1, 0, none⟩), .pointer (some ⟨b1, 0, none⟩), .pointer (some ⟨b1, 0 + 2, none⟩), .bool (((s_l1R_num p_r_b p_r).2).2), .bool (((s_l1R_num p_r_b p_r).2).2), .int .i64 ((s_l1R_num p_r_b p_r).1), .bool (decide (60 < ((s_l1R_num p_r_b p_r).1))), .bool (decide (60 < ((s_l1R_num p_r_b p_r).1))), .bool (decide (60 < ((s_l1R_num p_r_b p_r).1))), .pointer (some ⟨b1, 0, none⟩), .pointer (some ⟨b1, 0, none⟩), .pointer (some ⟨b1, 0 + 1, none⟩), .int .i64 (((s_l1R_num p_r_b p_r).2).1), .int .i64 ((s_l1R_num p_r_b p_r).1), .int .i64 (IntKind.wrap .i64 ((((s_l1R_num p_r_b p_r).2).1) + ((s_l1R_num p_r_b p_r).1))), .pointer (some ⟨b1, 0, none⟩), .pointer (some ⟨b1, 0, none⟩), .pointer (some ⟨b1, 0 + 0, none⟩), .string (bs (p_r_b)), .int .i64 ((p_r_b.length : Int)), .bool (decide ((p_r_b.length : Int) < (IntKind.wrap .i64 ((((s_l1R_num p_r_b p_r).2).1) + ((s_l1R_num p_r_b p_r).1))))), .bool (decide ((p_r_b.length : Int) < (IntKind.wrap .i64 ((((s_l1R_num p_r_b p_r).2).1) + ((s_l1R_num p_r_b p_r).1)))))].map DetI)) Try.follows rfl rfl rfl rfl rfl rfl (vgetI_stable (stD _)) ⟨?_, ?_, ?_, ?_, ?_, ?_, ?_, ?_, ?_, ?_, ?_, ?_, ?_, ?_, ?_, ?_, ?_, ?_, ?_, ?_, ?_, ?_, trivial⟩ ?_
   ·exact oI rfl fun h => yl_move rfl (h.old 0 _ rfl rfl) kI
   ·exact oI rfl fun h => yl_nil rfl (h.dt 0 6 rfl rfl rfl) kI
   ·exact oI rfl fun h => yl_fieldAddr fd49_2 rfl (h.dt 1 7 rfl rfl rfl) kI
   ·exact oI rfl fun h => yl_load1 ty4 rfl (h.dt 2 8 rfl rfl rfl) (((Box.ex hB9 h.ex).cell 2).trans rfl) kI
   ·exact oI rfl fun h => yl_move rfl (h.dt 3 9 rfl rfl rfl) kI
   ·exact oW rfl rfl rfl rfl hb11 fun h => yl_move rfl (h.old 3 _ rfl rfl) kI
   ·exact oW rfl rfl rfl rfl hb11 fun h => yl_gtr rfl (h.dt 5 11 rfl rfl rfl) rfl kI
   ·exact oI rfl fun h => yl_pick_f rfl (h.dt 4 10 rfl rfl rfl) hb11 (h.dt 6 12 rfl rfl rfl) kI
   ·exact oI rfl fun h => yl_move rfl (h.dt 7 13 rfl rfl rfl) kI
   ·exact oW rfl rfl rfl rfl hb142 fun h => yl_move rfl (h.old 0 _ rfl rfl) kI
   ·exact oW rfl rfl rfl rfl hb142 fun h => yl_nil rfl (h.dt 9 15 rfl rfl rfl) kI
   ·exact oW rfl rfl rfl rfl hb142 fun h => yl_fieldAddr fd49_1 rfl (h.dt 10 16 rfl rfl rfl) kI
   ·exact oW rfl rfl rfl rfl hb142 fun h => yl_load1 ty3 rfl (h.dt 11 17 rfl rfl rfl) (((Box.ex hB9 h.ex).cell 1).trans rfl) kI
   ·exact oW rfl rfl rfl rfl hb142 fun h => yl_move rfl (h.old 3 _ rfl rfl) kI
   ·exact oW rfl rfl rfl rfl hb142 fun h => yl_add rfl (h.dt 12 18 rfl rfl rfl) (h.dt 13 19 rfl rfl rfl) kI
   ·exact oW rfl rfl rfl rfl hb142 fun h => yl_move rfl (h.old 0 _ rfl rfl) kI
   ·exact oW rfl rfl rfl rfl hb142 fun h => yl_nil rfl (h.dt 15 21 rfl rfl rfl) kI
   ·exact oW rfl rfl rfl rfl hb142 fun h => yl_fieldAddr fd49_0 rfl (h.dt 16 22 rfl rfl rfl) kI
   ·exact oW rfl rfl rfl rfl hb142 fun h => yl_load1 ty9 rfl (h.dt 17 23 rfl rfl rfl) (((Box.ex hB9 h.ex).cell 0).trans rfl) kI
   ·exact oW rfl rfl rfl rfl hb142 fun h => yl_slen un9 (a := p_r_b) rfl (h.dt 18 24 rfl rfl rfl) kI
   ·exact oW rfl rfl rfl rfl hb142 fun h => yl_gtr rfl (h.dt 14 20 rfl rfl rfl) (h.dt 19 25 rfl rfl rfl) kI
   ·exact oI rfl fun h => yl_pick_f rfl (h.dt 8 14 rfl rfl rfl) hb142 (h.dt 20 26 rfl rfl rfl) kI
   ·intro fl409 fh410 L406 w407 hp408
    have hE411 := hp408.ex
    have hE411z := Ex.size hE411
    refine dn (CW.sub (Sub.cons (d := 0) (hp408.old 0 _ rfl rfl) (Sub.cons (d := 3) (hp408.old 3 _ rfl rfl) (Sub.cons (d := 27) (hp408.nt 21 27 rfl rfl rfl) (Sub.nil _)))) (bcase (decide ((p_r_b.length : Int) < (IntKind.wrap .i64 ((((s_l1R_num p_r_b p_r).2).1) + ((s_l1R_num p_r_b p_r).1))))) (fun hb415 => ?_) (fun hb415 => ?_)))
    ·have hb415p := dec_t hb415
     refine CW.cond_t rfl hb415 (CW.seq (CW.region (sd rfl (yl_move rfl rfl (sd rfl (yl_nil rfl rfl (sd rfl (yl_fieldAddr fd49_2 rfl rfl (SeqR.u rfl rfl (yl_store (vs := [.bool (true)]) ty4 rfl rfl rfl rfl rfl rfl (Box.ex hB9 hE411) (Nat.le_of_ble_eq_true rfl) ?_))))))))))
     intro w417 hB418 hO419
     have hB418 : Box w417 b1 49 [.string (bs (p_r_b)), .int .i64 (((s_l1R_num p_r_b p_r).2).1), .bool (true)] := hB418
     have hO419z := hO419.size
     refine dn (CW.seq (CW.region (sd rfl (yl_assign rfl rfl (dn (CW.ret (tr ?_)))))))
     refine rr rfl (.cons rfl .nil) ?_
     have hM420 : (s_l1R_text p_r_b p_r) = ((([] : Str), (((s_l1R_num p_r_b p_r).2).1, true))) := by first | (simp only [s_l1R_text, hb11, hb142, hb415, cL]; done) | (simp only [s_l1R_text, hb11, hb142, hb415, cond_true, cond_false, loopE_done, loopE_ret, pairE]; done) | exact (show (s_l1R_text p_r_b p_r) = ((([] : Str), (((s_l1R_num p_r_b p_r).2).1, true))) from by simp only [s_l1R_text, hb11, hb142, hb415, cond_true, cond_false, loopE_done, loopE_ret, pairE])
     rw [hM420]
     exact ⟨rfl, (okS.lit rfl), hB418, (Chg.tonly (Chg.tex (Chg.tchg (Chg.refl (InR [(b1, b1 + 1)]) w) hc8 (fun k hk => by simp only [InR, or_false] at hk ⊢; omega)) hE411) hO419 (by simp only [InR, or_false]; omega))⟩
    ·have hb415p := dec_f hb415
     refine CW.cond_f rfl hb415 (CW.skip (tn (CW.seq (CW.region (sd rfl (yl_move rfl rfl (sd rfl (yl_nil rfl rfl (sd rfl (yl_fieldAddr fd49_1 rfl rfl ?_))))))))))
     have q424 := Box.ex hB9 hE411
     refine sd rfl (yl_load1 ty3 rfl rfl ((q424.cell 1).trans rfl) (sd rfl (yl_move rfl rfl (sd rfl (yl_add rfl rfl rfl (sd rfl (yl_nil rfl rfl (sd rfl (yl_fieldAddr fd49_1 rfl rfl (SeqR.u rfl rfl (yl_store (vs := [.int .i64 (IntKind.wrap .i64 ((((s_l1R_num p_r_b p_r).2).1) + ((s_l1R_num p_r_b p_r).1)))]) ty3 rfl rfl rfl rfl rfl rfl q424 (Nat.le_of_ble_eq_true rfl) ?_)))))))))))
     intro w425 hB426 hO427
     have hB426 : Box w425 b1 49 [.string (bs (p_r_b)), .int .i64 (IntKind.wrap .i64 ((((s_l1R_num p_r_b p_r).2).1) + ((s_l1R_num p_r_b p_r).1))), .bool (((s_l1R_num p_r_b p_r).2).2)] := hB426
     have hO427z := hO427.size
     refine dn (CW.seq (CW.drawsI 14 (vgetI ([.pointer (some ⟨b1, 0, none⟩), .pointer (some ⟨b1, 0, none⟩), .pointer (some ⟨b1, 0 + 0, none⟩), .string (bs (p_r_b)), .pointer (some ⟨b1, 0, none⟩), .pointer (some ⟨b1, 0, none⟩), .pointer (some ⟨b1, 0 + 1, none⟩), .int .i64 (IntKind.wrap .i64 ((((s_l1R_num p_r_b p_r).2).1) + ((s_l1R_num p_r_b p_r).1))), .int .i64 ((s_l1R_num p_r_b p_r).1), .int .i64 (IntKind.wrap .i64 ((IntKind.wrap .i64 ((((s_l1R_num p_r_b p_r).2).1) + ((s_l1R_num p_r_b p_r).1))) - ((s_l1R_num p_r_b p_r).1))), .pointer (some ⟨b1, 0, none⟩), .pointer (some ⟨b1, 0, none⟩), .pointer (some ⟨b1, 0 + 1, none⟩), .int .i64 (IntKind.wrap .i64 ((((s_l1R_num p_r_b p_r).2).1) + ((s_l1R_num p_r_b p_r).1)))].map DetI)) Try.follows rfl rfl rfl rfl rfl rfl (vgetI_stable (stD _)) ⟨?_, ?_, ?_, ?_, ?_, ?_, ?_, ?_, ?_, ?_, ?_, ?_, ?_, ?_, trivial⟩ ?_))
     ·exact oI rfl fun h => yl_move rfl (h.old 0 _ rfl rfl) kI
     ·exact oI rfl fun h => yl_nil rfl (h.dt 0 39 rfl rfl rfl) kI
     ·exact oI rfl fun h => yl_fieldAddr fd49_0 rfl (h.dt 1 40 rfl rfl rfl) kI
     ·exact oI rfl fun h => yl_load1 ty9 rfl (h.dt 2 41 rfl rfl rfl) (((Box.ex hB426 h.ex).cell 0).trans rfl) kI
     ·exact oI rfl fun h => yl_move rfl (h.old 0 _ rfl rfl) kI
     ·exact oI rfl fun h => yl_nil rfl (h.dt 4 43 rfl rfl rfl) kI
     ·exact oI rfl fun h => yl_fieldAddr fd49_1 rfl (h.dt 5 44 rfl rfl rfl) kI
     ·exact oI rfl fun h => yl_load1 ty3 rfl (h.dt 6 45 rfl rfl rfl) (((Box.ex hB426 h.ex).cell 1).trans rfl) kI
     ·exact oI rfl fun h => yl_move rfl (h.old 3 _ rfl rfl) kI
     ·exact oI rfl fun h => yl_sub rfl (h.dt 7 46 rfl rfl rfl) (h.dt 8 47 rfl rfl rfl) kI
     ·exact oI rfl fun h => yl_move rfl (h.old 0 _ rfl rfl) kI
     ·exact oI rfl fun h => yl_nil rfl (h.dt 10 49 rfl rfl rfl) kI
     ·exact oI rfl fun h => yl_fieldAddr fd49_1 rfl (h.dt 11 50 rfl rfl rfl) kI
     ·exact oI rfl fun h => yl_load1 ty3 rfl (h.dt 12 51 rfl rfl rfl) (((Box.ex hB426 h.ex).cell 1).trans rfl) kI
     ·intro fl505 fh506 L502 w503 hp504
      have hE507 := hp504.ex
      have hE507z := Ex.size hE507
      refine sd rfl (yl_sslice_lh un9 (a := p_r_b) (l := (IntKind.wrap .i64 ((IntKind.wrap .i64 ((((s_l1R_num p_r_b p_r).2).1) + ((s_l1R_num p_r_b p_r).1))) - ((s_l1R_num p_r_b p_r).1))).toNat) (h := (IntKind.wrap .i64 ((((s_l1R_num p_r_b p_r).2).1) + ((s_l1R_num p_r_b p_r).1))).toNat) rfl (hp504.nt 3 42 rfl rfl rfl) (toNat_op (hp504.nt 9 48 rfl rfl rfl) (by first | omega | assumption | (simp only [wI] at *; omega))) (toNat_op (hp504.nt 13 52 rfl rfl rfl) (by first | omega | assumption | (simp only [wI] at *; omega))) (by first | omega | assumption | (simp only [wI] at *; omega)) (by first | omega | assumption | (simp only [wI] at *; omega)) (sd rfl (yl_assign rfl rfl (dn (CW.sub (Sub.cons (d := 2) rfl (Sub.nil _)) (CW.ret (rr rfl (.cons rfl .nil) ?_)))))))
      have hM511 : (s_l1R_text p_r_b p_r) = ((((p_r_b.take ((IntKind.wrap .i64 ((((s_l1R_num p_r_b p_r).2).1) + ((s_l1R_num p_r_b p_r).1))).toNat)).drop ((IntKind.wrap .i64 ((IntKind.wrap .i64 ((((s_l1R_num p_r_b p_r).2).1) + ((s_l1R_num p_r_b p_r).1))) - ((s_l1R_num p_r_b p_r).1))).toNat)), (IntKind.wrap .i64 ((((s_l1R_num p_r_b p_r).2).1) + ((s_l1R_num p_r_b p_r).1)), ((s_l1R_num p_r_b p_r).2).2))) := by first | (simp only [s_l1R_text, hb11, hb142, hb415, cL]; done) | (simp only [s_l1R_text, hb11, hb142, hb415, cond_true, cond_false, loopE_done, loopE_ret, pairE]; done) | exact (show (s_l1R_text p_r_b p_r) = ((((p_r_b.take ((IntKind.wrap .i64 ((((s_l1R_num p_r_b p_r).2).1) + ((s_l1R_num p_r_b p_r).1))).toNat)).drop ((IntKind.wrap .i64 ((IntKind.wrap .i64 ((((s_l1R_num p_r_b p_r).2).1) + ((s_l1R_num p_r_b p_r).1))) - ((s_l1R_num p_r_b p_r).1))).toNat)), (IntKind.wrap .i64 ((((s_l1R_num p_r_b p_r).2).1) + ((s_l1R_num p_r_b p_r).1)), ((s_l1R_num p_r_b p_r).2).2))) from by simp only [s_l1R_text, hb11, hb142, hb415, cond_true, cond_false, loopE_done, loopE_ret, pairE])
      rw [hM511]
      exact ⟨rfl, (okS.drop (okS.take o3 _) _), (Box.ex hB426 hE507), (Chg.tex (Chg.tonly (Chg.tex (Chg.tchg (Chg.refl (InR [(b1, b1 + 1)]) w) hc8 (fun k hk => by simp only [InR, or_false] at hk ⊢; omega)) hE411) hO427 (by simp only [InR, or_false]; omega)) hE507)⟩
theorem c_s_l1TextB {w : World} (p_s : Str) (o1 : okS p_s) : Cal Try.prog 54 #[.string (bs (p_s))] w fun v w' => v = .string (bs ((s_l1TextB p_s))) ∧ Ex w w' := by
 have hol2 : p_s.length ≤ 1073741824 := o1
 refine Cal.of func54 rfl ntmps54 rfl (CW.seq (CW.region (sd rfl (yl_assign rfl rfl (dn (CW.seq (CW.region (sd rfl (yl_move rfl rfl ?_)))))))))
 refine sd rfl (yl_slen un9 (a := p_s) rfl rfl (sd rfl (yl_call en52 rfl (oc rfl oz) (Cal.mono (c_s_l1NumB (p_s.length : Int) (by first | omega | assumption | (simp only [wI] at *; omega))) ?_))))
 rintro v4 w3 ⟨rfl, hE5⟩
 have hE5z := Ex.size hE5
 have hrf6 := rf_l1NumB (p_s.length : Int) (by first | omega | assumption | (simp only [wI] at *; omega))
 refine sd rfl (yl_move rfl rfl ?_)
 have hol7 : p_s.length ≤ 1073741824 := o1
 refine sd rfl (yl_sadd (a := (s_l1NumB (p_s.length : Int))) (b := p_s) rfl rfl rfl (by first | omega | (simp only [List.length_append, List.length_cons, List.length_nil, List.length_take, List.length_drop, toS_length]; omega)) (sd rfl (yl_assign rfl rfl (dn (CW.ret (rr rfl (.cons rfl .nil) ?_))))))
 have hM8 : (s_l1TextB p_s) = ((s_l1NumB (p_s.length : Int)) ++ p_s) := by simp only [s_l1TextB, cL]
 rw [hM8]
 exact ⟨rfl, (Ex.trans (Ex.refl w) hE5)⟩
theorem c_s_l1In {w : World} (p_n : Int) (p_lo : Int) (p_hi : Int) : Cal Try.prog 80 #[.int .i64 (p_n), .int .i64 (p_lo), .int .i64 (p_hi)] w fun v w' => v = .bool ((s_l1In p_n p_lo p_hi)) ∧ Ex w w' := by
 refine Cal.of func80 rfl ntmps80 rfl (CW.seq (CW.region (sd rfl (yl_assign rfl rfl (dn (CW.seq (CW.region (sd rfl (yl_move rfl rfl ?_)))))))))
 refine sd rfl (yl_move rfl rfl (sd rfl (yl_geq rfl rfl rfl (sd rfl (yl_move rfl rfl (bcase (decide (p_lo ≤ p_n)) (fun hb1 => ?_) (fun hb1 => ?_)))))))
 ·have hb1p := dec_t hb1
  refine sy rfl rfl hb1 (yl_move rfl rfl (sy rfl rfl hb1 (yl_move rfl rfl (sy rfl rfl hb1 (yl_leq rfl rfl rfl (sd rfl (yl_pick_t rfl rfl hb1 rfl (sd rfl (yl_assign rfl rfl (dn (CW.ret (rr rfl (.cons rfl .nil) ?_))))))))))))
  have hM2 : (s_l1In p_n p_lo p_hi) = (decide (p_n ≤ p_hi)) := by simp only [s_l1In, hb1, cL]
  rw [hM2]
  exact ⟨rfl, (Ex.refl w)⟩
 ·have hb1p := dec_f hb1
  refine sz rfl rfl hb1 (sz rfl rfl hb1 (sz rfl rfl hb1 (sd rfl (yl_pick_f rfl rfl hb1 rfl (sd rfl (yl_assign rfl rfl (dn (CW.ret (rr rfl (.cons rfl .nil) ?_)))))))))
  have hM3 : (s_l1In p_n p_lo p_hi) = (false) := by simp only [s_l1In, hb1, cL]
  rw [hM3]
  exact ⟨rfl, (Ex.refl w)⟩
theorem c_s_l3Bytes {w : World} (p_s : Str) (p_more : Str) (o1 : okS p_s) (o2 : okS p_more) : Cal Try.prog 117 #[.string (bs (p_s)), .string (bs (p_more))] w fun v w' => v = .bool ((s_l3Bytes p_s p_more)) ∧ Ex w w' := by
 have hol3 : p_s.length ≤ 1073741824 := o1
 have hol4 : p_more.length ≤ 1073741824 := o2
 refine Cal.of func117 rfl ntmps117 rfl (CW.seq (CW.region (sd rfl (yl_assign rfl rfl (dn (CW.seq (CW.seq (CW.region ?_))))))))
 refine sd rfl (yl_assign rfl rfl (dn (CW.block (CW.loop (fun m6 L7 w8 => ∃ (k5 : Nat), m6 = p_s.length - k5 ∧ k5 ≤ p_s.length ∧ w.heap.size ≤ w8.heap.size ∧ lkp L7 0 = some (.string (bs (p_s))) ∧ lkp L7 1 = some (.string (bs (p_more))) ∧ lkp L7 5 = some (.int .i64 ((k5 : Int))) ∧ Ex w w8 ∧ loopM (B_s_l3Bytes_0 p_s p_more) (p_s.length - k5) k5 () = loopM (B_s_l3Bytes_0 p_s p_more) (p_s.length - 0) 0 ()) (p_s.length - 0) ?_ ?_))))
 ·exact ⟨0, rfl, (by omega), Nat.le_refl _, rfl, rfl, rfl, (Ex.refl w), rfl⟩
 ·rintro m9 L10 w11 ⟨k5, rfl, hk12, hsz14, hl15, hl16, hl17, hf18, hI13⟩
  refine CW.sub (Sub.cons hl15 (Sub.cons hl16 (Sub.cons hl17 (Sub.nil _)))) ?_
  have hf18z := Ex.size hf18
  have hbg19 : p_s.length ≤ 1073741824 := o1
  rcases Nat.lt_or_ge k5 p_s.length with hlt20 | hlt20
  ·refine CW.seq (CW.seq (CW.region (sd rfl (yl_move rfl rfl (sd rfl (yl_move rfl rfl (sd rfl (yl_slen un9 (a := p_s) rfl rfl (sd rfl (yl_lss rfl rfl rfl (dn ?_)))))))))))
   refine CW.cond_t rfl (lt_t hlt20) (CW.skip (tn (CW.seq (CW.block (CW.seq (CW.region (sd rfl (yl_move rfl rfl (sd rfl (yl_move rfl rfl ?_))))))))))
   refine sd rfl (yl_sindexN un9 (a := p_s) rfl rfl rfl (by first | omega | assumption | (simp only [wI] at *; omega)) (sd rfl (yl_geq rfl rfl rfl (sd rfl (yl_move rfl rfl (bcase (decide (97 ≤ ((p_s.getD k5 0).toNat : Int))) (fun hb21 => ?_) (fun hb21 => ?_)))))))
   ·have hb21p := dec_t hb21
    refine sy rfl rfl hb21 (yl_move rfl rfl (sy rfl rfl hb21 (yl_move rfl rfl (sy rfl rfl hb21 (yl_sindexN un9 (a := p_s) rfl rfl rfl (by first | omega | assumption | (simp only [wI] at *; omega)) (sy rfl rfl hb21 (yl_leq rfl rfl rfl (sd rfl (yl_pick_t rfl rfl hb21 rfl (sd rfl (yl_move rfl rfl (bcase (decide (((p_s.getD k5 0).toNat : Int) ≤ 122)) (fun hb22 => ?_) (fun hb22 => ?_)))))))))))))
    ·have hb22p := dec_t hb22
     refine sz rfl rfl hb22 (sz rfl rfl hb22 (sz rfl rfl hb22 (sz rfl rfl hb22 (sz rfl rfl hb22 (sq rfl rfl (sq rfl rfl (sq rfl rfl (sq rfl rfl ?_))))))))
     refine sz rfl rfl hb22 (sd rfl (yl_pick_t rfl rfl hb22 rfl (sd rfl (yl_assign rfl rfl (dn (CW.seq (CW.seq (CW.region (sd rfl (yl_assign rfl rfl ?_))))))))))
     refine dn (CW.block (CW.loop (fun m25 L26 w27 => ∃ (k23 : Nat) (x24 : Bool), m25 = p_more.length - k23 ∧ k23 ≤ p_more.length ∧ w11.heap.size ≤ w27.heap.size ∧ lkp L26 0 = some (.string (bs (p_s))) ∧ lkp L26 1 = some (.string (bs (p_more))) ∧ lkp L26 5 = some (.int .i64 ((k5 : Int))) ∧ lkp L26 6 = some (.bool (x24)) ∧ lkp L26 7 = some (.int .i64 ((k23 : Int))) ∧ lkp L26 19 = some (.string (bs (p_s))) ∧ lkp L26 20 = some (.int .i64 ((k5 : Int))) ∧ lkp L26 21 = some (.int .u8 (((p_s.getD k5 0).toNat : Int))) ∧ lkp L26 22 = some (.bool (decide (((p_s.getD k5 0).toNat : Int) ≤ 122))) ∧ lkp L26 25 = some (undef) ∧ lkp L26 26 = some (undef) ∧ lkp L26 27 = some (undef) ∧ lkp L26 28 = some (undef) ∧ lkp L26 29 = some (undef) ∧ lkp L26 30 = some (undef) ∧ lkp L26 31 = some (undef) ∧ lkp L26 32 = some (undef) ∧ lkp L26 33 = some (undef) ∧ lkp L26 34 = some (undef) ∧ Ex w w27 ∧ loopM (B_s_l3Bytes_1 p_s p_more k5) (p_more.length - k23) k23 (x24) = loopM (B_s_l3Bytes_1 p_s p_more k5) (p_more.length - 0) 0 (true)) (p_more.length - 0) ?_ ?_))
     ·exact ⟨0, true, rfl, (by omega), Nat.le_refl _, rfl, rfl, rfl, rfl, rfl, rfl, rfl, rfl, rfl, rfl, rfl, rfl, rfl, rfl, rfl, rfl, rfl, rfl, rfl, hf18, rfl⟩
     ·rintro m28 L29 w30 ⟨k23, x24, rfl, hk31, hsz33, hl34, hl35, hl36, hl37, hl38, hl39, hl40, hl41, hl42, hl43, hl44, hl45, hl46, hl47, hl48, hl49, hl50, hl51, hl52, hf53, hI32⟩
      refine CW.sub (Sub.cons hl34 (Sub.cons hl35 (Sub.cons hl36 (Sub.cons hl37 (Sub.cons hl38 (Sub.cons hl39 (Sub.cons hl40 (Sub.cons hl41 (Sub.cons hl42 (Sub.cons hl43 (Sub.cons hl44 (Sub.cons hl45 (Sub.cons hl46 (Sub.cons hl47 (Sub.cons hl48 (Sub.cons hl49 (Sub.cons hl50 (Sub.cons hl51 (Sub.cons hl52 (Sub.nil _)))))))))))))))))))) ?_
      have hf53z := Ex.size hf53
      have hbg54 : p_more.length ≤ 1073741824 := o2
      rcases Nat.lt_or_ge k23 p_more.length with hlt55 | hlt55
      ·refine CW.seq (CW.seq (CW.region (sd rfl (yl_move rfl rfl (sd rfl (yl_move rfl rfl (sd rfl (yl_slen un9 (a := p_more) rfl rfl (sd rfl (yl_lss rfl rfl rfl (dn ?_)))))))))))
       refine CW.cond_t rfl (lt_t hlt55) (CW.skip (tn (CW.seq (CW.block (bcase (x24) (fun hb56 => ?_) (fun hb56 => ?_))))))
       ·refine CW.drawsI 11 (vgetI ([.bool (x24), .bool (x24), undef, undef, undef, undef, undef, undef, undef, .bool (true), .bool (true)].map DetI)) Try.follows rfl rfl rfl rfl rfl rfl (vgetI_stable (stD _)) ⟨?_, ?_, ?_, ?_, ?_, ?_, ?_, ?_, ?_, ?_, ?_, trivial⟩ ?_
        ·exact oI rfl fun h => yl_move rfl (h.old 6 _ rfl rfl) kI
        ·exact oI rfl fun h => yl_move rfl (h.dt 0 42 rfl rfl rfl) kI
        ·exact oS rfl rfl rfl rfl rfl hb56
        ·exact oS rfl rfl rfl rfl rfl hb56
        ·exact oS rfl rfl rfl rfl rfl hb56
        ·exact oS rfl rfl rfl rfl rfl hb56
        ·exact oS rfl rfl rfl rfl rfl hb56
        ·exact oS rfl rfl rfl rfl rfl hb56
        ·exact oS rfl rfl rfl rfl rfl hb56
        ·exact oI rfl fun h => yl_pick_t rfl (h.dt 1 43 rfl rfl rfl) hb56 rfl kI
        ·exact oI rfl fun h => yl_assign rfl (h.dt 9 51 rfl rfl rfl) kI
        ·intro fl116 fh117 L113 w114 hp115
         have hE118 := hp115.ex
         have hE118z := Ex.size hE118
         refine SeqR.done (bn (tn (CW.sub (Sub.cons (d := 0) (hp115.old 0 _ rfl rfl) (Sub.cons (d := 1) (hp115.old 1 _ rfl rfl) (Sub.cons (d := 5) (hp115.old 5 _ rfl rfl) (Sub.cons (d := 6) (hp115.nt 10 6 rfl rfl rfl) (Sub.cons (d := 7) (hp115.old 7 _ rfl rfl) (Sub.cons (d := 19) (hp115.old 19 _ rfl rfl) (Sub.cons (d := 20) (hp115.old 20 _ rfl rfl) (Sub.cons (d := 21) (hp115.old 21 _ rfl rfl) (Sub.cons (d := 22) (hp115.old 22 _ rfl rfl) (Sub.cons (d := 25) (hp115.old 25 _ rfl rfl) (Sub.cons (d := 26) (hp115.old 26 _ rfl rfl) (Sub.cons (d := 27) (hp115.old 27 _ rfl rfl) (Sub.cons (d := 28) (hp115.old 28 _ rfl rfl) (Sub.cons (d := 29) (hp115.old 29 _ rfl rfl) (Sub.cons (d := 30) (hp115.old 30 _ rfl rfl) (Sub.cons (d := 31) (hp115.old 31 _ rfl rfl) (Sub.cons (d := 32) (hp115.old 32 _ rfl rfl) (Sub.cons (d := 33) (hp115.old 33 _ rfl rfl) (Sub.cons (d := 34) (hp115.old 34 _ rfl rfl) (Sub.cons (d := 44) (hp115.nt 2 44 rfl rfl rfl) (Sub.cons (d := 45) (hp115.nt 3 45 rfl rfl rfl) (Sub.cons (d := 46) (hp115.nt 4 46 rfl rfl rfl) (Sub.cons (d := 47) (hp115.nt 5 47 rfl rfl rfl) (Sub.cons (d := 48) (hp115.nt 6 48 rfl rfl rfl) (Sub.cons (d := 49) (hp115.nt 7 49 rfl rfl rfl) (Sub.cons (d := 50) (hp115.nt 8 50 rfl rfl rfl) (Sub.nil _))))))))))))))))))))))))))) (CW.region (sd rfl (yl_move rfl rfl (sd rfl (yl_inc rfl rfl rfl (by omega) (sd rfl (yl_assign rfl rfl (SeqR.done ?_)))))))))))
         refine tn ?_
         have hB145 : B_s_l3Bytes_1 p_s p_more k5 k23 (x24) = .cont (true) := by simp only [B_s_l3Bytes_1, hb21, hb22, hb56, cL]
         exact ⟨p_more.length - (k23 + 1), by omega, k23 + 1, true, rfl, hlt55, (by omega), rfl, rfl, rfl, rfl, rfl, rfl, rfl, rfl, rfl, rfl, rfl, rfl, rfl, rfl, rfl, rfl, rfl, rfl, rfl, (Ex.trans hf53 hE118), (loopM.cont hlt55 hB145).symm.trans hI32⟩
       ·refine CW.drawsI 11 (vgetI ([.bool (x24), .bool (x24), .string (bs (p_s)), .int .i64 ((k5 : Int)), .int .u8 (((p_s.getD k5 0).toNat : Int)), .string (bs (p_more)), .int .i64 ((k23 : Int)), .int .u8 (((p_more.getD k23 0).toNat : Int)), .bool (decide (((p_s.getD k5 0).toNat : Int) = ((p_more.getD k23 0).toNat : Int))), .bool (decide (((p_s.getD k5 0).toNat : Int) = ((p_more.getD k23 0).toNat : Int))), .bool (decide (((p_s.getD k5 0).toNat : Int) = ((p_more.getD k23 0).toNat : Int)))].map DetI)) Try.follows rfl rfl rfl rfl rfl rfl (vgetI_stable (stD _)) ⟨?_, ?_, ?_, ?_, ?_, ?_, ?_, ?_, ?_, ?_, ?_, trivial⟩ ?_
        ·exact oI rfl fun h => yl_move rfl (h.old 6 _ rfl rfl) kI
        ·exact oI rfl fun h => yl_move rfl (h.dt 0 42 rfl rfl rfl) kI
        ·exact oW rfl rfl rfl rfl hb56 fun h => yl_move rfl (h.old 0 _ rfl rfl) kI
        ·exact oW rfl rfl rfl rfl hb56 fun h => yl_move rfl (h.old 5 _ rfl rfl) kI
        ·intro L169 w170 hi171
         have hE172 := hi171.ex
         have hE172z := Ex.size hE172
         exact OpR.want rfl rfl (hi171.dt 1 43 rfl rfl rfl) hb56 (Yl.sameI (yl_sindexN un9 (a := p_s) rfl (hi171.dt 2 44 rfl rfl rfl) (hi171.dt 3 45 rfl rfl rfl) (by first | omega | assumption | (simp only [wI] at *; omega)) kI))
        ·exact oW rfl rfl rfl rfl hb56 fun h => yl_move rfl (h.old 1 _ rfl rfl) kI
        ·exact oW rfl rfl rfl rfl hb56 fun h => yl_move rfl (h.old 7 _ rfl rfl) kI
        ·intro L188 w189 hi190
         have hE191 := hi190.ex
         have hE191z := Ex.size hE191
         exact OpR.want rfl rfl (hi190.dt 1 43 rfl rfl rfl) hb56 (Yl.sameI (yl_sindexN un9 (a := p_more) rfl (hi190.dt 5 47 rfl rfl rfl) (hi190.dt 6 48 rfl rfl rfl) (by first | omega | assumption | (simp only [wI] at *; omega)) kI))
        ·exact oW rfl rfl rfl rfl hb56 fun h => yl_eql rfl (h.dt 4 46 rfl rfl rfl) (h.dt 7 49 rfl rfl rfl) kI
        ·exact oI rfl fun h => yl_pick_f rfl (h.dt 1 43 rfl rfl rfl) hb56 (h.dt 8 50 rfl rfl rfl) kI
        ·exact oI rfl fun h => yl_assign rfl (h.dt 9 51 rfl rfl rfl) kI
        ·intro fl216 fh217 L213 w214 hp215
         have hE218 := hp215.ex
         have hE218z := Ex.size hE218
         refine SeqR.done (bn (tn (CW.sub (Sub.cons (d := 0) (hp215.old 0 _ rfl rfl) (Sub.cons (d := 1) (hp215.old 1 _ rfl rfl) (Sub.cons (d := 5) (hp215.old 5 _ rfl rfl) (Sub.cons (d := 6) (hp215.nt 10 6 rfl rfl rfl) (Sub.cons (d := 7) (hp215.old 7 _ rfl rfl) (Sub.cons (d := 19) (hp215.old 19 _ rfl rfl) (Sub.cons (d := 20) (hp215.old 20 _ rfl rfl) (Sub.cons (d := 21) (hp215.old 21 _ rfl rfl) (Sub.cons (d := 22) (hp215.old 22 _ rfl rfl) (Sub.cons (d := 25) (hp215.old 25 _ rfl rfl) (Sub.cons (d := 26) (hp215.old 26 _ rfl rfl) (Sub.cons (d := 27) (hp215.old 27 _ rfl rfl) (Sub.cons (d := 28) (hp215.old 28 _ rfl rfl) (Sub.cons (d := 29) (hp215.old 29 _ rfl rfl) (Sub.cons (d := 30) (hp215.old 30 _ rfl rfl) (Sub.cons (d := 31) (hp215.old 31 _ rfl rfl) (Sub.cons (d := 32) (hp215.old 32 _ rfl rfl) (Sub.cons (d := 33) (hp215.old 33 _ rfl rfl) (Sub.cons (d := 34) (hp215.old 34 _ rfl rfl) (Sub.cons (d := 44) (hp215.nt 2 44 rfl rfl rfl) (Sub.cons (d := 45) (hp215.nt 3 45 rfl rfl rfl) (Sub.cons (d := 46) (hp215.nt 4 46 rfl rfl rfl) (Sub.cons (d := 47) (hp215.nt 5 47 rfl rfl rfl) (Sub.cons (d := 48) (hp215.nt 6 48 rfl rfl rfl) (Sub.cons (d := 49) (hp215.nt 7 49 rfl rfl rfl) (Sub.cons (d := 50) (hp215.nt 8 50 rfl rfl rfl) (Sub.nil _))))))))))))))))))))))))))) (CW.region (sd rfl (yl_move rfl rfl (sd rfl (yl_inc rfl rfl rfl (by omega) (sd rfl (yl_assign rfl rfl (SeqR.done ?_)))))))))))
         refine tn ?_
         have hB245 : B_s_l3Bytes_1 p_s p_more k5 k23 (x24) = .cont (decide (((p_s.getD k5 0).toNat : Int) = ((p_more.getD k23 0).toNat : Int))) := by simp only [B_s_l3Bytes_1, hb21, hb22, hb56, cL]
         exact ⟨p_more.length - (k23 + 1), by omega, k23 + 1, decide (((p_s.getD k5 0).toNat : Int) = ((p_more.getD k23 0).toNat : Int)), rfl, hlt55, (by omega), rfl, rfl, rfl, rfl, rfl, rfl, rfl, rfl, rfl, rfl, rfl, rfl, rfl, rfl, rfl, rfl, rfl, rfl, rfl, (Ex.trans hf53 hE218), (loopM.cont hlt55 hB245).symm.trans hI32⟩
      ·refine CW.seq (CW.seq (CW.region (sd rfl (yl_move rfl rfl (sd rfl (yl_move rfl rfl (sd rfl (yl_slen un9 (a := p_more) rfl rfl (sd rfl (yl_lss rfl rfl rfl (dn ?_)))))))))))
       refine CW.cond_f rfl (lt_f hlt55) (CW.exit (tx (tx ?_)))
       have hL247 : loopM (B_s_l3Bytes_1 p_s p_more k5) (p_more.length - 0) 0 (true) = .done (x24) := hI32.symm.trans (loopM.stop hlt55)
       refine bx (tn (CW.seq (CW.region (sd rfl (yl_move rfl rfl (sd rfl (yl_not rfl rfl (dn (bcase (x24) (fun hb248 => ?_) (fun hb248 => ?_))))))))))
       ·refine CW.cond_f rfl (not_t hb248) (CW.skip (bn (tn (CW.region (sd rfl (yl_move rfl rfl (sd rfl (yl_inc rfl rfl rfl (by omega) (sd rfl (yl_assign rfl rfl (SeqR.done ?_)))))))))))
        refine tn ?_
        have hB249 : B_s_l3Bytes_0 p_s p_more k5 () = .cont () := by simp only [B_s_l3Bytes_0, hb21, hb22, hb248, hL247, cL]
        exact ⟨p_s.length - (k5 + 1), by omega, k5 + 1, rfl, hlt20, (by omega), rfl, rfl, rfl, hf53, (loopM.cont hlt20 hB249).symm.trans hI13⟩
       ·refine CW.cond_t rfl (not_f hb248) (CW.seq (CW.region (sd rfl (yl_assign rfl rfl (dn (CW.ret (br (tr ?_))))))))
        refine tr ?_
        have hB251 : B_s_l3Bytes_0 p_s p_more k5 () = .ret false := by simp only [B_s_l3Bytes_0, hb21, hb22, hb248, hL247, cL]
        have hL250 : loopM (B_s_l3Bytes_0 p_s p_more) (p_s.length - 0) 0 () = .ret false := hI13.symm.trans (loopM.ret hlt20 hB251)
        refine br (tr (rr rfl (.cons rfl .nil) ?_))
        have hM252 : (s_l3Bytes p_s p_more) = (false) := by simp only [s_l3Bytes, hb21, hb22, hb248, hL247, hL250, cL]
        rw [hM252]
        exact ⟨rfl, hf53⟩
    ·have hb22p := dec_f hb22
     refine sy rfl rfl hb22 (yl_move rfl rfl (sy rfl rfl hb22 (yl_move rfl rfl (sy rfl rfl hb22 (yl_sindexN un9 (a := p_s) rfl rfl rfl (by first | omega | assumption | (simp only [wI] at *; omega)) (sy rfl rfl hb22 (yl_geq rfl rfl rfl (sy rfl rfl hb22 (yl_move rfl rfl (bcase (decide (48 ≤ ((p_s.getD k5 0).toNat : Int))) (fun hb253 => ?_) (fun hb253 => ?_)))))))))))
     ·have hb253p := dec_t hb253
      refine sy rfl rfl hb253 (yl_move rfl rfl (sy rfl rfl hb253 (yl_move rfl rfl (sy rfl rfl hb253 (yl_sindexN un9 (a := p_s) rfl rfl rfl (by first | omega | assumption | (simp only [wI] at *; omega)) (sy rfl rfl hb253 (yl_leq rfl rfl rfl (sy rfl rfl hb22 (yl_pick_t rfl rfl hb253 rfl (sd rfl (yl_pick_f rfl rfl hb22 rfl (sd rfl (yl_assign rfl rfl (dn ?_))))))))))))))
      refine CW.seq (CW.seq (CW.region (sd rfl (yl_assign rfl rfl (dn (CW.block (CW.loop (fun m256 L257 w258 => ∃ (k254 : Nat) (x255 : Bool), m256 = p_more.length - k254 ∧ k254 ≤ p_more.length ∧ w11.heap.size ≤ w258.heap.size ∧ lkp L257 0 = some (.string (bs (p_s))) ∧ lkp L257 1 = some (.string (bs (p_more))) ∧ lkp L257 5 = some (.int .i64 ((k5 : Int))) ∧ lkp L257 6 = some (.bool (x255)) ∧ lkp L257 7 = some (.int .i64 ((k254 : Int))) ∧ lkp L257 19 = some (.string (bs (p_s))) ∧ lkp L257 20 = some (.int .i64 ((k5 : Int))) ∧ lkp L257 21 = some (.int .u8 (((p_s.getD k5 0).toNat : Int))) ∧ lkp L257 22 = some (.bool (decide (((p_s.getD k5 0).toNat : Int) ≤ 122))) ∧ lkp L257 25 = some (.string (bs (p_s))) ∧ lkp L257 26 = some (.int .i64 ((k5 : Int))) ∧ lkp L257 27 = some (.int .u8 (((p_s.getD k5 0).toNat : Int))) ∧ lkp L257 28 = some (.bool (decide (48 ≤ ((p_s.getD k5 0).toNat : Int)))) ∧ lkp L257 29 = some (.bool (decide (48 ≤ ((p_s.getD k5 0).toNat : Int)))) ∧ lkp L257 30 = some (.string (bs (p_s))) ∧ lkp L257 31 = some (.int .i64 ((k5 : Int))) ∧ lkp L257 32 = some (.int .u8 (((p_s.getD k5 0).toNat : Int))) ∧ lkp L257 33 = some (.bool (decide (((p_s.getD k5 0).toNat : Int) ≤ 57))) ∧ lkp L257 34 = some (.bool (decide (((p_s.getD k5 0).toNat : Int) ≤ 57))) ∧ Ex w w258 ∧ loopM (B_s_l3Bytes_1 p_s p_more k5) (p_more.length - k254) k254 (x255) = loopM (B_s_l3Bytes_1 p_s p_more k5) (p_more.length - 0) 0 (decide (((p_s.getD k5 0).toNat : Int) ≤ 57))) (p_more.length - 0) ?_ ?_)))))))
      ·exact ⟨0, decide (((p_s.getD k5 0).toNat : Int) ≤ 57), rfl, (by omega), Nat.le_refl _, rfl, rfl, rfl, rfl, rfl, rfl, rfl, rfl, rfl, rfl, rfl, rfl, rfl, rfl, rfl, rfl, rfl, rfl, rfl, hf18, rfl⟩
      ·rintro m259 L260 w261 ⟨k254, x255, rfl, hk262, hsz264, hl265, hl266, hl267, hl268, hl269, hl270, hl271, hl272, hl273, hl274, hl275, hl276, hl277, hl278, hl279, hl280, hl281, hl282, hl283, hf284, hI263⟩
       refine CW.sub (Sub.cons hl265 (Sub.cons hl266 (Sub.cons hl267 (Sub.cons hl268 (Sub.cons hl269 (Sub.cons hl270 (Sub.cons hl271 (Sub.cons hl272 (Sub.cons hl273 (Sub.cons hl274 (Sub.cons hl275 (Sub.cons hl276 (Sub.cons hl277 (Sub.cons hl278 (Sub.cons hl279 (Sub.cons hl280 (Sub.cons hl281 (Sub.cons hl282 (Sub.cons hl283 (Sub.nil _)))))))))))))))))))) ?_
       have hf284z := Ex.size hf284
       have hbg285 : p_more.length ≤ 1073741824 := o2
       rcases Nat.lt_or_ge k254 p_more.length with hlt286 | hlt286
       ·refine CW.seq (CW.seq (CW.region (sd rfl (yl_move rfl rfl (sd rfl (yl_move rfl rfl (sd rfl (yl_slen un9 (a := p_more) rfl rfl (sd rfl (yl_lss rfl rfl rfl (dn ?_)))))))))))
        refine CW.cond_t rfl (lt_t hlt286) (CW.skip (tn (CW.seq (CW.block (bcase (x255) (fun hb287 => ?_) (fun hb287 => ?_))))))
        ·refine CW.drawsI 11 (vgetI ([.bool (x255), .bool (x255), undef, undef, undef, undef, undef, undef, undef, .bool (true), .bool (true)].map DetI)) Try.follows rfl rfl rfl rfl rfl rfl (vgetI_stable (stD _)) ⟨?_, ?_, ?_, ?_, ?_, ?_, ?_, ?_, ?_, ?_, ?_, trivial⟩ ?_
         ·exact oI rfl fun h => yl_move rfl (h.old 6 _ rfl rfl) kI
         ·exact oI rfl fun h => yl_move rfl (h.dt 0 42 rfl rfl rfl) kI
         ·exact oS rfl rfl rfl rfl rfl hb287
         ·exact oS rfl rfl rfl rfl rfl hb287
         ·exact oS rfl rfl rfl rfl rfl hb287
         ·exact oS rfl rfl rfl rfl rfl hb287
         ·exact oS rfl rfl rfl rfl rfl hb287
         ·exact oS rfl rfl rfl rfl rfl hb287
         ·exact oS rfl rfl rfl rfl rfl hb287
         ·exact oI rfl fun h => yl_pick_t rfl (h.dt 1 43 rfl rfl rfl) hb287 rfl kI
         ·exact oI rfl fun h => yl_assign rfl (h.dt 9 51 rfl rfl rfl) kI
         ·intro fl347 fh348 L344 w345 hp346
          have hE349 := hp346.ex
          have hE349z := Ex.size hE349
          refine SeqR.done (bn (tn (CW.sub (Sub.cons (d := 0) (hp346.old 0 _ rfl rfl) (Sub.cons (d := 1) (hp346.old 1 _ rfl rfl) (Sub.cons (d := 5) (hp346.old 5 _ rfl rfl) (Sub.cons (d := 6) (hp346.nt 10 6 rfl rfl rfl) (Sub.cons (d := 7) (hp346.old 7 _ rfl rfl) (Sub.cons (d := 19) (hp346.old 19 _ rfl rfl) (Sub.cons (d := 20) (hp346.old 20 _ rfl rfl) (Sub.cons (d := 21) (hp346.old 21 _ rfl rfl) (Sub.cons (d := 22) (hp346.old 22 _ rfl rfl) (Sub.cons (d := 25) (hp346.old 25 _ rfl rfl) (Sub.cons (d := 26) (hp346.old 26 _ rfl rfl) (Sub.cons (d := 27) (hp346.old 27 _ rfl rfl) (Sub.cons (d := 28) (hp346.old 28 _ rfl rfl) (Sub.cons (d := 29) (hp346.old 29 _ rfl rfl) (Sub.cons (d := 30) (hp346.old 30 _ rfl rfl) (Sub.cons (d := 31) (hp346.old 31 _ rfl rfl) (Sub.cons (d := 32) (hp346.old 32 _ rfl rfl) (Sub.cons (d := 33) (hp346.old 33 _ rfl rfl) (Sub.cons (d := 34) (hp346.old 34 _ rfl rfl) (Sub.cons (d := 44) (hp346.nt 2 44 rfl rfl rfl) (Sub.cons (d := 45) (hp346.nt 3 45 rfl rfl rfl) (Sub.cons (d := 46) (hp346.nt 4 46 rfl rfl rfl) (Sub.cons (d := 47) (hp346.nt 5 47 rfl rfl rfl) (Sub.cons (d := 48) (hp346.nt 6 48 rfl rfl rfl) (Sub.cons (d := 49) (hp346.nt 7 49 rfl rfl rfl) (Sub.cons (d := 50) (hp346.nt 8 50 rfl rfl rfl) (Sub.nil _))))))))))))))))))))))))))) (CW.region (sd rfl (yl_move rfl rfl (sd rfl (yl_inc rfl rfl rfl (by omega) (sd rfl (yl_assign rfl rfl (SeqR.done ?_)))))))))))
          refine tn ?_
          have hB376 : B_s_l3Bytes_1 p_s p_more k5 k254 (x255) = .cont (true) := by simp only [B_s_l3Bytes_1, hb21, hb22, hb253, hb287, cL]
          exact ⟨p_more.length - (k254 + 1), by omega, k254 + 1, true, rfl, hlt286, (by omega), rfl, rfl, rfl, rfl, rfl, rfl, rfl, rfl, rfl, rfl, rfl, rfl, rfl, rfl, rfl, rfl, rfl, rfl, rfl, (Ex.trans hf284 hE349), (loopM.cont hlt286 hB376).symm.trans hI263⟩
        ·refine CW.drawsI 11 (vgetI ([.bool (x255), .bool (x255), .string (bs (p_s)), .int .i64 ((k5 : Int)), .int .u8 (((p_s.getD k5 0).toNat : Int)), .string (bs (p_more)), .int .i64 ((k254 : Int)), .int .u8 (((p_more.getD k254 0).toNat : Int)), .bool (decide (((p_s.getD k5 0).toNat : Int) = ((p_more.getD k254 0).toNat : Int))), .bool (decide (((p_s.getD k5 0).toNat : Int) = ((p_more.getD k254 0).toNat : Int))), .bool (decide (((p_s.getD k5 0).toNat : Int) = ((p_more.getD k254 0).toNat : Int)))].map DetI)) Try.follows rfl rfl rfl rfl rfl rfl (vgetI_stable (stD _)) ⟨?_, ?_, ?_, ?_, ?_, ?_, ?_, ?_, ?_, ?_, ?_, trivial⟩ ?_
         ·exact oI rfl fun h => yl_move rfl (h.old 6 _ rfl rfl) kI
         ·exact oI rfl fun h => yl_move rfl (h.dt 0 42 rfl rfl rfl) kI
         ·exact oW rfl rfl rfl rfl hb287 fun h => yl_move rfl (h.old 0 _ rfl rfl) kI
         ·exact oW rfl rfl rfl rfl hb287 fun h => yl_move rfl (h.old 5 _ rfl rfl) kI
         ·intro L400 w401 hi402
          have hE403 := hi402.ex
          have hE403z := Ex.size hE403
          exact OpR.want rfl rfl (hi402.dt 1 43 rfl rfl rfl) hb287 (Yl.sameI (yl_sindexN un9 (a := p_s) rfl (hi402.dt 2 44 rfl rfl rfl) (hi402.dt 3 45 rfl rfl rfl) (by first | omega | assumption | (simp only [wI] at *; omega)) kI))
         ·exact oW rfl rfl rfl rfl hb287 fun h => yl_move rfl (h.old 1 _ rfl rfl) kI
         ·exact oW rfl rfl rfl rfl hb287 fun h => yl_move rfl (h.old 7 _ rfl rfl) kI
         ·intro L419 w420 hi421
          have hE422 := hi421.ex
          have hE422z := Ex.size hE422
          exact OpR.want rfl rfl (hi421.dt 1 43 rfl rfl rfl) hb287 (Yl.sameI (yl_sindexN un9 (a := p_more) rfl (hi421.dt 5 47 rfl rfl rfl) (hi421.dt 6 48 rfl rfl rfl) (by first | omega | assumption | (simp only [wI] at *; omega)) kI))
         ·exact oW rfl rfl rfl rfl hb287 fun h => yl_eql rfl (h.dt 4 46 rfl rfl rfl) (h.dt 7 49 rfl rfl rfl) kI
         ·exact oI rfl fun h => yl_pick_f rfl (h.dt 1 43 rfl rfl rfl) hb287 (h.dt 8 50 rfl rfl rfl) kI
         ·exact oI rfl fun h => yl_assign rfl (h.dt 9 51 rfl rfl rfl) kI
         ·intro fl447 fh448 L444 w445 hp446
          have hE449 := hp446.ex
          have hE449z := Ex.size hE449
          refine SeqR.done (bn (tn (CW.sub (Sub.cons (d := 0) (hp446.old 0 _ rfl rfl) (Sub.cons (d := 1) (hp446.old 1 _ rfl rfl) (Sub.cons (d := 5) (hp446.old 5 _ rfl rfl) (Sub.cons (d := 6) (hp446.nt 10 6 rfl rfl rfl) (Sub.cons (d := 7) (hp446.old 7 _ rfl rfl) (Sub.cons (d := 19) (hp446.old 19 _ rfl rfl) (Sub.cons (d := 20) (hp446.old 20 _ rfl rfl) (Sub.cons (d := 21) (hp446.old 21 _ rfl rfl) (Sub.cons (d := 22) (hp446.old 22 _ rfl rfl) (Sub.cons (d := 25) (hp446.old 25 _ rfl rfl) (Sub.cons (d := 26) (hp446.old 26 _ rfl rfl) (Sub.cons (d := 27) (hp446.old 27 _ rfl rfl) (Sub.cons (d := 28) (hp446.old 28 _ rfl rfl) (Sub.cons (d := 29) (hp446.old 29 _ rfl rfl) (Sub.cons (d := 30) (hp446.old 30 _ rfl rfl) (Sub.cons (d := 31) (hp446.old 31 _ rfl rfl) (Sub.cons (d := 32) (hp446.old 32 _ rfl rfl) (Sub.cons (d := 33) (hp446.old 33 _ rfl rfl) (Sub.cons (d := 34) (hp446.old 34 _ rfl rfl) (Sub.cons (d := 44) (hp446.nt 2 44 rfl rfl rfl) (Sub.cons (d := 45) (hp446.nt 3 45 rfl rfl rfl) (Sub.cons (d := 46) (hp446.nt 4 46 rfl rfl rfl) (Sub.cons (d := 47) (hp446.nt 5 47 rfl rfl rfl) (Sub.cons (d := 48) (hp446.nt 6 48 rfl rfl rfl) (Sub.cons (d := 49) (hp446.nt 7 49 rfl rfl rfl) (Sub.cons (d := 50) (hp446.nt 8 50 rfl rfl rfl) (Sub.nil _))))))))))))))))))))))))))) (CW.region (sd rfl (yl_move rfl rfl (sd rfl (yl_inc rfl rfl rfl (by omega) (sd rfl (yl_assign rfl rfl (SeqR.done ?_)))))))))))
          refine tn ?_
          have hB476 : B_s_l3Bytes_1 p_s p_more k5 k254 (x255) = .cont (decide (((p_s.getD k5 0).toNat : Int) = ((p_more.getD k254 0).toNat : Int))) := by simp only [B_s_l3Bytes_1, hb21, hb22, hb253, hb287, cL]
          exact ⟨p_more.length - (k254 + 1), by omega, k254 + 1, decide (((p_s.getD k5 0).toNat : Int) = ((p_more.getD k254 0).toNat : Int)), rfl, hlt286, (by omega), rfl, rfl, rfl, rfl, rfl, rfl, rfl, rfl, rfl, rfl, rfl, rfl, rfl, rfl, rfl, rfl, rfl, rfl, rfl, (Ex.trans hf284 hE449), (loopM.cont hlt286 hB476).symm.trans hI263⟩
       ·refine CW.seq (CW.seq (CW.region (sd rfl (yl_move rfl rfl (sd rfl (yl_move rfl rfl (sd rfl (yl_slen un9 (a := p_more) rfl rfl (sd rfl (yl_lss rfl rfl rfl (dn ?_)))))))))))
        refine CW.cond_f rfl (lt_f hlt286) (CW.exit (tx (tx ?_)))
        have hL478 : loopM (B_s_l3Bytes_1 p_s p_more k5) (p_more.length - 0) 0 (decide (((p_s.getD k5 0).toNat : Int) ≤ 57)) = .done (x255) := hI263.symm.trans (loopM.stop hlt286)
        refine bx (tn (CW.seq (CW.region (sd rfl (yl_move rfl rfl (sd rfl (yl_not rfl rfl (dn (bcase (x255) (fun hb479 => ?_) (fun hb479 => ?_))))))))))
        ·refine CW.cond_f rfl (not_t hb479) (CW.skip (bn (tn (CW.region (sd rfl (yl_move rfl rfl (sd rfl (yl_inc rfl rfl rfl (by omega) (sd rfl (yl_assign rfl rfl (SeqR.done ?_)))))))))))
         refine tn ?_
         have hB480 : B_s_l3Bytes_0 p_s p_more k5 () = .cont () := by simp only [B_s_l3Bytes_0, hb21, hb22, hb253, hb479, hL478, cL]
         exact ⟨p_s.length - (k5 + 1), by omega, k5 + 1, rfl, hlt20, (by omega), rfl, rfl, rfl, hf284, (loopM.cont hlt20 hB480).symm.trans hI13⟩
        ·refine CW.cond_t rfl (not_f hb479) (CW.seq (CW.region (sd rfl (yl_assign rfl rfl (dn (CW.ret (br (tr ?_))))))))
         refine tr ?_
         have hB482 : B_s_l3Bytes_0 p_s p_more k5 () = .ret false := by simp only [B_s_l3Bytes_0, hb21, hb22, hb253, hb479, hL478, cL]
         have hL481 : loopM (B_s_l3Bytes_0 p_s p_more) (p_s.length - 0) 0 () = .ret false := hI13.symm.trans (loopM.ret hlt20 hB482)
         refine br (tr (rr rfl (.cons rfl .nil) ?_))
         have hM483 : (s_l3Bytes p_s p_more) = (false) := by simp only [s_l3Bytes, hb21, hb22, hb253, hb479, hL478, hL481, cL]
         rw [hM483]
         exact ⟨rfl, hf284⟩
     ·have hb253p := dec_f hb253
      refine sz rfl rfl hb253 (sz rfl rfl hb253 (sz rfl rfl hb253 (sz rfl rfl hb253 (sy rfl rfl hb22 (yl_pick_f rfl rfl hb253 rfl (sd rfl (yl_pick_f rfl rfl hb22 rfl (sd rfl (yl_assign rfl rfl (dn ?_))))))))))
      refine CW.seq (CW.seq (CW.region (sd rfl (yl_assign rfl rfl (dn (CW.block (CW.loop (fun m486 L487 w488 => ∃ (k484 : Nat) (x485 : Bool), m486 = p_more.length - k484 ∧ k484 ≤ p_more.length ∧ w11.heap.size ≤ w488.heap.size ∧ lkp L487 0 = some (.string (bs (p_s))) ∧ lkp L487 1 = some (.string (bs (p_more))) ∧ lkp L487 5 = some (.int .i64 ((k5 : Int))) ∧ lkp L487 6 = some (.bool (x485)) ∧ lkp L487 7 = some (.int .i64 ((k484 : Int))) ∧ lkp L487 19 = some (.string (bs (p_s))) ∧ lkp L487 20 = some (.int .i64 ((k5 : Int))) ∧ lkp L487 21 = some (.int .u8 (((p_s.getD k5 0).toNat : Int))) ∧ lkp L487 22 = some (.bool (decide (((p_s.getD k5 0).toNat : Int) ≤ 122))) ∧ lkp L487 25 = some (.string (bs (p_s))) ∧ lkp L487 26 = some (.int .i64 ((k5 : Int))) ∧ lkp L487 27 = some (.int .u8 (((p_s.getD k5 0).toNat : Int))) ∧ lkp L487 28 = some (.bool (decide (48 ≤ ((p_s.getD k5 0).toNat : Int)))) ∧ lkp L487 29 = some (.bool (decide (48 ≤ ((p_s.getD k5 0).toNat : Int)))) ∧ lkp L487 30 = some (undef) ∧ lkp L487 31 = some (undef) ∧ lkp L487 32 = some (undef) ∧ lkp L487 33 = some (undef) ∧ lkp L487 34 = some (.bool (false)) ∧ Ex w w488 ∧ loopM (B_s_l3Bytes_1 p_s p_more k5) (p_more.length - k484) k484 (x485) = loopM (B_s_l3Bytes_1 p_s p_more k5) (p_more.length - 0) 0 (false)) (p_more.length - 0) ?_ ?_)))))))
      ·exact ⟨0, false, rfl, (by omega), Nat.le_refl _, rfl, rfl, rfl, rfl, rfl, rfl, rfl, rfl, rfl, rfl, rfl, rfl, rfl, rfl, rfl, rfl, rfl, rfl, rfl, hf18, rfl⟩
      ·rintro m489 L490 w491 ⟨k484, x485, rfl, hk492, hsz494, hl495, hl496, hl497, hl498, hl499, hl500, hl501, hl502, hl503, hl504, hl505, hl506, hl507, hl508, hl509, hl510, hl511, hl512, hl513, hf514, hI493⟩
       refine CW.sub (Sub.cons hl495 (Sub.cons hl496 (Sub.cons hl497 (Sub.cons hl498 (Sub.cons hl499 (Sub.cons hl500 (Sub.cons hl501 (Sub.cons hl502 (Sub.cons hl503 (Sub.cons hl504 (Sub.cons hl505 (Sub.cons hl506 (Sub.cons hl507 (Sub.cons hl508 (Sub.cons hl509 (Sub.cons hl510 (Sub.cons hl511 (Sub.cons hl512 (Sub.cons hl513 (Sub.nil _)))))))))))))))))))) ?_
       have hf514z := Ex.size hf514
       have hbg515 : p_more.length ≤ 1073741824 := o2
       rcases Nat.lt_or_ge k484 p_more.length with hlt516 | hlt516
       ·refine CW.seq (CW.seq (CW.region (sd rfl (yl_move rfl rfl (sd rfl (yl_move rfl rfl (sd rfl (yl_slen un9 (a := p_more) rfl rfl (sd rfl (yl_lss rfl rfl rfl (dn ?_)))))))))))
        refine CW.cond_t rfl (lt_t hlt516) (CW.skip (tn (CW.seq (CW.block (bcase (x485) (fun hb517 => ?_) (fun hb517 => ?_))))))
        ·refine CW.drawsI 11 (vgetI ([.bool (x485), .bool (x485), undef, undef, undef, undef, undef, undef, undef, .bool (true), .bool (true)].map DetI)) Try.follows rfl rfl rfl rfl rfl rfl (vgetI_stable (stD _)) ⟨?_, ?_, ?_, ?_, ?_, ?_, ?_, ?_, ?_, ?_, ?_, trivial⟩ ?_
         ·exact oI rfl fun h => yl_move rfl (h.old 6 _ rfl rfl) kI
         ·exact oI rfl fun h => yl_move rfl (h.dt 0 42 rfl rfl rfl) kI
         ·exact oS rfl rfl rfl rfl rfl hb517
         ·exact oS rfl rfl rfl rfl rfl hb517
         ·exact oS rfl rfl rfl rfl rfl hb517
         ·exact oS rfl rfl rfl rfl rfl hb517
         ·exact oS rfl rfl rfl rfl rfl hb517
         ·exact oS rfl rfl rfl rfl rfl hb517
         ·exact oS rfl rfl rfl rfl rfl hb517
         ·exact oI rfl fun h => yl_pick_t rfl (h.dt 1 43 rfl rfl rfl) hb517 rfl kI
         ·exact oI rfl fun h => yl_assign rfl (h.dt 9 51 rfl rfl rfl) kI
         ·intro fl577 fh578 L574 w575 hp576
          have hE579 := hp576.ex
          have hE579z := Ex.size hE579
          refine SeqR.done (bn (tn (CW.sub (Sub.cons (d := 0) (hp576.old 0 _ rfl rfl) (Sub.cons (d := 1) (hp576.old 1 _ rfl rfl) (Sub.cons (d := 5) (hp576.old 5 _ rfl rfl) (Sub.cons (d := 6) (hp576.nt 10 6 rfl rfl rfl) (Sub.cons (d := 7) (hp576.old 7 _ rfl rfl) (Sub.cons (d := 19) (hp576.old 19 _ rfl rfl) (Sub.cons (d := 20) (hp576.old 20 _ rfl rfl) (Sub.cons (d := 21) (hp576.old 21 _ rfl rfl) (Sub.cons (d := 22) (hp576.old 22 _ rfl rfl) (Sub.cons (d := 25) (hp576.old 25 _ rfl rfl) (Sub.cons (d := 26) (hp576.old 26 _ rfl rfl) (Sub.cons (d := 27) (hp576.old 27 _ rfl rfl) (Sub.cons (d := 28) (hp576.old 28 _ rfl rfl) (Sub.cons (d := 29) (hp576.old 29 _ rfl rfl) (Sub.cons (d := 30) (hp576.old 30 _ rfl rfl) (Sub.cons (d := 31) (hp576.old 31 _ rfl rfl) (Sub.cons (d := 32) (hp576.old 32 _ rfl rfl) (Sub.cons (d := 33) (hp576.old 33 _ rfl rfl) (Sub.cons (d := 34) (hp576.old 34 _ rfl rfl) (Sub.cons (d := 44) (hp576.nt 2 44 rfl rfl rfl) (Sub.cons (d := 45) (hp576.nt 3 45 rfl rfl rfl) (Sub.cons (d := 46) (hp576.nt 4 46 rfl rfl rfl) (Sub.cons (d := 47) (hp576.nt 5 47 rfl rfl rfl) (Sub.cons (d := 48) (hp576.nt 6 48 rfl rfl rfl) (Sub.cons (d := 49) (hp576.nt 7 49 rfl rfl rfl) (Sub.cons (d := 50) (hp576.nt 8 50 rfl rfl rfl) (Sub.nil _))))))))))))))))))))))))))) (CW.region (sd rfl (yl_move rfl rfl (sd rfl (yl_inc rfl rfl rfl (by omega) (sd rfl (yl_assign rfl rfl (SeqR.done ?_)))))))))))
          refine tn ?_
          have hB606 : B_s_l3Bytes_1 p_s p_more k5 k484 (x485) = .cont (true) := by simp only [B_s_l3Bytes_1, hb21, hb22, hb253, hb517, cL]
          exact ⟨p_more.length - (k484 + 1), by omega, k484 + 1, true, rfl, hlt516, (by omega), rfl, rfl, rfl, rfl, rfl, rfl, rfl, rfl, rfl, rfl, rfl, rfl, rfl, rfl, rfl, rfl, rfl, rfl, rfl, (Ex.trans hf514 hE579), (loopM.cont hlt516 hB606).symm.trans hI493⟩
        ·refine CW.drawsI 11 (vgetI ([.bool (x485), .bool (x485), .string (bs (p_s)), .int .i64 ((k5 : Int)), .int .u8 (((p_s.getD k5 0).toNat : Int)), .string (bs (p_more)), .int .i64 ((k484 : Int)), .int .u8 (((p_more.getD k484 0).toNat : Int)), .bool (decide (((p_s.getD k5 0).toNat : Int) = ((p_more.getD k484 0).toNat : Int))), .bool (decide (((p_s.getD k5 0).toNat : Int) = ((p_more.getD k484 0).toNat : Int))), .bool (decide (((p_s.getD k5 0).toNat : Int) = ((p_more.getD k484 0).toNat : Int)))].map DetI)) Try.follows rfl rfl rfl rfl rfl rfl (vgetI_stable (stD _)) ⟨?_, ?_, ?_, ?_, ?_, ?_, ?_, ?_, ?_, ?_, ?_, trivial⟩ ?_
         ·exact oI rfl fun h => yl_move rfl (h.old 6 _ rfl rfl) kI
         ·exact oI rfl fun h => yl_move rfl (h.dt 0 42 rfl rfl rfl) kI
         ·exact oW rfl rfl rfl rfl hb517 fun h => yl_move rfl (h.old 0 _ rfl rfl) kI
         ·exact oW rfl rfl rfl rfl hb517 fun h => yl_move rfl (h.old 5 _ rfl rfl) kI
         ·intro L630 w631 hi632
          have hE633 := hi632.ex
          have hE633z := Ex.size hE633
          exact OpR.want rfl rfl (hi632.dt 1 43 rfl rfl rfl) hb517 (Yl.sameI (yl_sindexN un9 (a := p_s) rfl (hi632.dt 2 44 rfl rfl rfl) (hi632.dt 3 45 rfl rfl rfl) (by first | omega | assumption | (simp only [wI] at *; omega)) kI))
         ·exact oW rfl rfl rfl rfl hb517 fun h => yl_move rfl (h.old 1 _ rfl rfl) kI
         ·exact oW rfl rfl rfl rfl hb517 fun h => yl_move rfl (h.old 7 _ rfl rfl) kI
         ·intro L649 w650 hi651
          have hE652 := hi651.ex
          have hE652z := Ex.size hE652
          exact OpR.want rfl rfl (hi651.dt 1 43 rfl rfl rfl) hb517 (Yl.sameI (yl_sindexN un9 (a := p_more) rfl (hi651.dt 5 47 rfl rfl rfl) (hi651.dt 6 48 rfl rfl rfl) (by first | omega | assumption | (simp only [wI] at *; omega)) kI))
         ·exact oW rfl rfl rfl rfl hb517 fun h => yl_eql rfl (h.dt 4 46 rfl rfl rfl) (h.dt 7 49 rfl rfl rfl) kI
         ·exact oI rfl fun h => yl_pick_f rfl (h.dt 1 43 rfl rfl rfl) hb517 (h.dt 8 50 rfl rfl rfl) kI
         ·exact oI rfl fun h => yl_assign rfl (h.dt 9 51 rfl rfl rfl) kI
         ·intro fl677 fh678 L674 w675 hp676
          have hE679 := hp676.ex
          have hE679z := Ex.size hE679
          refine SeqR.done (bn (tn (CW.sub (Sub.cons (d := 0) (hp676.old 0 _ rfl rfl) (Sub.cons (d := 1) (hp676.old 1 _ rfl rfl) (Sub.cons (d := 5) (hp676.old 5 _ rfl rfl) (Sub.cons (d := 6) (hp676.nt 10 6 rfl rfl rfl) (Sub.cons (d := 7) (hp676.old 7 _ rfl rfl) (Sub.cons (d := 19) (hp676.old 19 _ rfl rfl) (Sub.cons (d := 20) (hp676.old 20 _ rfl rfl) (Sub.cons (d := 21) (hp676.old 21 _ rfl rfl) (Sub.cons (d := 22) (hp676.old 22 _ rfl rfl) (Sub.cons (d := 25) (hp676.old 25 _ rfl rfl) (Sub.cons (d := 26) (hp676.old 26 _ rfl rfl) (Sub.cons (d := 27) (hp676.old 27 _ rfl rfl) (Sub.cons (d := 28) (hp676.old 28 _ rfl rfl) (Sub.cons (d := 29) (hp676.old 29 _ rfl rfl) (Sub.cons (d := 30) (hp676.old 30 _ rfl rfl) (Sub.cons (d := 31) (hp676.old 31 _ rfl rfl) (Sub.cons (d := 32) (hp676.old 32 _ rfl rfl) (Sub.cons (d := 33) (hp676.old 33 _ rfl rfl) (Sub.cons (d := 34) (hp676.old 34 _ rfl rfl) (Sub.cons (d := 44) (hp676.nt 2 44 rfl rfl rfl) (Sub.cons (d := 45) (hp676.nt 3 45 rfl rfl rfl) (Sub.cons (d := 46) (hp676.nt 4 46 rfl rfl rfl) (Sub.cons (d := 47) (hp676.nt 5 47 rfl rfl rfl) (Sub.cons (d := 48) (hp676.nt 6 48 rfl rfl rfl) (Sub.cons (d := 49) (hp676.nt 7 49 rfl rfl rfl) (Sub.cons (d := 50) (hp676.nt 8 50 rfl rfl rfl) (Sub.nil _))))))))))))))))))))))))))) (CW.region (sd rfl (yl_move rfl rfl (sd rfl (yl_inc rfl rfl rfl (by omega) (sd rfl (yl_assign rfl rfl (SeqR.done ?_)))))))))))
          refine tn ?_
          have hB706 : B_s_l3Bytes_1 p_s p_more k5 k484 (x485) = .cont (decide (((p_s.getD k5 0).toNat : Int) = ((p_more.getD k484 0).toNat : Int))) := by simp only [B_s_l3Bytes_1, hb21, hb22, hb253, hb517, cL]
          exact ⟨p_more.length - (k484 + 1), by omega, k484 + 1, decide (((p_s.getD k5 0).toNat : Int) = ((p_more.getD k484 0).toNat : Int)), rfl, hlt516, (by omega), rfl, rfl, rfl, rfl, rfl, rfl, rfl, rfl, rfl, rfl, rfl, rfl, rfl, rfl, rfl, rfl, rfl, rfl, rfl, (Ex.trans hf514 hE679), (loopM.cont hlt516 hB706).symm.trans hI493⟩
       ·refine CW.seq (CW.seq (CW.region (sd rfl (yl_move rfl rfl (sd rfl (yl_move rfl rfl (sd rfl (yl_slen un9 (a := p_more) rfl rfl (sd rfl (yl_lss rfl rfl rfl (dn ?_)))))))))))
        refine CW.cond_f rfl (lt_f hlt516) (CW.exit (tx (tx ?_)))
        have hL708 : loopM (B_s_l3Bytes_1 p_s p_more k5) (p_more.length - 0) 0 (false) = .done (x485) := hI493.symm.trans (loopM.stop hlt516)
        refine bx (tn (CW.seq (CW.region (sd rfl (yl_move rfl rfl (sd rfl (yl_not rfl rfl (dn (bcase (x485) (fun hb709 => ?_) (fun hb709 => ?_))))))))))
        ·refine CW.cond_f rfl (not_t hb709) (CW.skip (bn (tn (CW.region (sd rfl (yl_move rfl rfl (sd rfl (yl_inc rfl rfl rfl (by omega) (sd rfl (yl_assign rfl rfl (SeqR.done ?_)))))))))))
         refine tn ?_
         have hB710 : B_s_l3Bytes_0 p_s p_more k5 () = .cont () := by simp only [B_s_l3Bytes_0, hb21, hb22, hb253, hb709, hL708, cL]
         exact ⟨p_s.length - (k5 + 1), by omega, k5 + 1, rfl, hlt20, (by omega), rfl, rfl, rfl, hf514, (loopM.cont hlt20 hB710).symm.trans hI13⟩
        ·refine CW.cond_t rfl (not_f hb709) (CW.seq (CW.region (sd rfl (yl_assign rfl rfl (dn (CW.ret (br (tr ?_))))))))
         refine tr ?_
         have hB712 : B_s_l3Bytes_0 p_s p_more k5 () = .ret false := by simp only [B_s_l3Bytes_0, hb21, hb22, hb253, hb709, hL708, cL]
         have hL711 : loopM (B_s_l3Bytes_0 p_s p_more) (p_s.length - 0) 0 () = .ret false := hI13.symm.trans (loopM.ret hlt20 hB712)
         refine br (tr (rr rfl (.cons rfl .nil) ?_))
         have hM713 : (s_l3Bytes p_s p_more) = (false) := by simp only [s_l3Bytes, hb21, hb22, hb253, hb709, hL708, hL711, cL]
         rw [hM713]
         exact ⟨rfl, hf514⟩
   ·have hb21p := dec_f hb21
    refine sz rfl rfl hb21 (sz rfl rfl hb21 (sz rfl rfl hb21 (sz rfl rfl hb21 (sd rfl (yl_pick_f rfl rfl hb21 rfl (sd rfl (yl_move rfl rfl (sy rfl rfl rfl (yl_move rfl rfl (sy rfl rfl rfl (yl_move rfl rfl (sy rfl rfl rfl (yl_sindexN un9 (a := p_s) rfl rfl rfl (by first | omega | assumption | (simp only [wI] at *; omega)) ?_)))))))))))))
    refine sy rfl rfl rfl (yl_geq rfl rfl rfl (sy rfl rfl rfl (yl_move rfl rfl (bcase (decide (48 ≤ ((p_s.getD k5 0).toNat : Int))) (fun hb714 => ?_) (fun hb714 => ?_)))))
    ·have hb714p := dec_t hb714
     refine sy rfl rfl hb714 (yl_move rfl rfl (sy rfl rfl hb714 (yl_move rfl rfl (sy rfl rfl hb714 (yl_sindexN un9 (a := p_s) rfl rfl rfl (by first | omega | assumption | (simp only [wI] at *; omega)) (sy rfl rfl hb714 (yl_leq rfl rfl rfl (sy rfl rfl rfl (yl_pick_t rfl rfl hb714 rfl (sd rfl (yl_pick_f rfl rfl rfl rfl (sd rfl (yl_assign rfl rfl (dn ?_))))))))))))))
     refine CW.seq (CW.seq (CW.region (sd rfl (yl_assign rfl rfl (dn (CW.block (CW.loop (fun m717 L718 w719 => ∃ (k715 : Nat) (x716 : Bool), m717 = p_more.length - k715 ∧ k715 ≤ p_more.length ∧ w11.heap.size ≤ w719.heap.size ∧ lkp L718 0 = some (.string (bs (p_s))) ∧ lkp L718 1 = some (.string (bs (p_more))) ∧ lkp L718 5 = some (.int .i64 ((k5 : Int))) ∧ lkp L718 6 = some (.bool (x716)) ∧ lkp L718 7 = some (.int .i64 ((k715 : Int))) ∧ lkp L718 19 = some (undef) ∧ lkp L718 20 = some (undef) ∧ lkp L718 21 = some (undef) ∧ lkp L718 22 = some (undef) ∧ lkp L718 25 = some (.string (bs (p_s))) ∧ lkp L718 26 = some (.int .i64 ((k5 : Int))) ∧ lkp L718 27 = some (.int .u8 (((p_s.getD k5 0).toNat : Int))) ∧ lkp L718 28 = some (.bool (decide (48 ≤ ((p_s.getD k5 0).toNat : Int)))) ∧ lkp L718 29 = some (.bool (decide (48 ≤ ((p_s.getD k5 0).toNat : Int)))) ∧ lkp L718 30 = some (.string (bs (p_s))) ∧ lkp L718 31 = some (.int .i64 ((k5 : Int))) ∧ lkp L718 32 = some (.int .u8 (((p_s.getD k5 0).toNat : Int))) ∧ lkp L718 33 = some (.bool (decide (((p_s.getD k5 0).toNat : Int) ≤ 57))) ∧ lkp L718 34 = some (.bool (decide (((p_s.getD k5 0).toNat : Int) ≤ 57))) ∧ Ex w w719 ∧ loopM (B_s_l3Bytes_1 p_s p_more k5) (p_more.length - k715) k715 (x716) = loopM (B_s_l3Bytes_1 p_s p_more k5) (p_more.length - 0) 0 (decide (((p_s.getD k5 0).toNat : Int) ≤ 57))) (p_more.length - 0) ?_ ?_)))))))
     ·exact ⟨0, decide (((p_s.getD k5 0).toNat : Int) ≤ 57), rfl, (by omega), Nat.le_refl _, rfl, rfl, rfl, rfl, rfl, rfl, rfl, rfl, rfl, rfl, rfl, rfl, rfl, rfl, rfl, rfl, rfl, rfl, rfl, hf18, rfl⟩
     ·rintro m720 L721 w722 ⟨k715, x716, rfl, hk723, hsz725, hl726, hl727, hl728, hl729, hl730, hl731, hl732, hl733, hl734, hl735, hl736, hl737, hl738, hl739, hl740, hl741, hl742, hl743, hl744, hf745, hI724⟩
      refine CW.sub (Sub.cons hl726 (Sub.cons hl727 (Sub.cons hl728 (Sub.cons hl729 (Sub.cons hl730 (Sub.cons hl731 (Sub.cons hl732 (Sub.cons hl733 (Sub.cons hl734 (Sub.cons hl735 (Sub.cons hl736 (Sub.cons hl737 (Sub.cons hl738 (Sub.cons hl739 (Sub.cons hl740 (Sub.cons hl741 (Sub.cons hl742 (Sub.cons hl743 (Sub.cons hl744 (Sub.nil _)))))))))))))))))))) ?_
      have hf745z := Ex.size hf745
      have hbg746 : p_more.length ≤ 1073741824 := o2
      rcases Nat.lt_or_ge k715 p_more.length with hlt747 | hlt747
      ·refine CW.seq (CW.seq (CW.region (sd rfl (yl_move rfl rfl (sd rfl (yl_move rfl rfl (sd rfl (yl_slen un9 (a := p_more) rfl rfl (sd rfl (yl_lss rfl rfl rfl (dn ?_)))))))))))
       refine CW.cond_t rfl (lt_t hlt747) (CW.skip (tn (CW.seq (CW.block (bcase (x716) (fun hb748 => ?_) (fun hb748 => ?_))))))
       ·refine CW.drawsI 11 (vgetI ([.bool (x716), .bool (x716), undef, undef, undef, undef, undef, undef, undef, .bool (true), .bool (true)].map DetI)) Try.follows rfl rfl rfl rfl rfl rfl (vgetI_stable (stD _)) ⟨?_, ?_, ?_, ?_, ?_, ?_, ?_, ?_, ?_, ?_, ?_, trivial⟩ ?_
        ·exact oI rfl fun h => yl_move rfl (h.old 6 _ rfl rfl) kI
        ·exact oI rfl fun h => yl_move rfl (h.dt 0 42 rfl rfl rfl) kI
        ·exact oS rfl rfl rfl rfl rfl hb748
        ·exact oS rfl rfl rfl rfl rfl hb748
        ·exact oS rfl rfl rfl rfl rfl hb748
        ·exact oS rfl rfl rfl rfl rfl hb748
        ·exact oS rfl rfl rfl rfl rfl hb748
        ·exact oS rfl rfl rfl rfl rfl hb748
        ·exact oS rfl rfl rfl rfl rfl hb748
        ·exact oI rfl fun h => yl_pick_t rfl (h.dt 1 43 rfl rfl rfl) hb748 rfl kI
        ·exact oI rfl fun h => yl_assign rfl (h.dt 9 51 rfl rfl rfl) kI
        ·intro fl808 fh809 L805 w806 hp807
         have hE810 := hp807.ex
         have hE810z := Ex.size hE810
         refine SeqR.done (bn (tn (CW.sub (Sub.cons (d := 0) (hp807.old 0 _ rfl rfl) (Sub.cons (d := 1) (hp807.old 1 _ rfl rfl) (Sub.cons (d := 5) (hp807.old 5 _ rfl rfl) (Sub.cons (d := 6) (hp807.nt 10 6 rfl rfl rfl) (Sub.cons (d := 7) (hp807.old 7 _ rfl rfl) (Sub.cons (d := 19) (hp807.old 19 _ rfl rfl) (Sub.cons (d := 20) (hp807.old 20 _ rfl rfl) (Sub.cons (d := 21) (hp807.old 21 _ rfl rfl) (Sub.cons (d := 22) (hp807.old 22 _ rfl rfl) (Sub.cons (d := 25) (hp807.old 25 _ rfl rfl) (Sub.cons (d := 26) (hp807.old 26 _ rfl rfl) (Sub.cons (d := 27) (hp807.old 27 _ rfl rfl) (Sub.cons (d := 28) (hp807.old 28 _ rfl rfl) (Sub.cons (d := 29) (hp807.old 29 _ rfl rfl) (Sub.cons (d := 30) (hp807.old 30 _ rfl rfl) (Sub.cons (d := 31) (hp807.old 31 _ rfl rfl) (Sub.cons (d := 32) (hp807.old 32 _ rfl rfl) (Sub.cons (d := 33) (hp807.old 33 _ rfl rfl) (Sub.cons (d := 34) (hp807.old 34 _ rfl rfl) (Sub.cons (d := 44) (hp807.nt 2 44 rfl rfl rfl) (Sub.cons (d := 45) (hp807.nt 3 45 rfl rfl rfl) (Sub.cons (d := 46) (hp807.nt 4 46 rfl rfl rfl) (Sub.cons (d := 47) (hp807.nt 5 47 rfl rfl rfl) (Sub.cons (d := 48) (hp807.nt 6 48 rfl rfl rfl) (Sub.cons (d := 49) (hp807.nt 7 49 rfl rfl rfl) (Sub.cons (d := 50) (hp807.nt 8 50 rfl rfl rfl) (Sub.nil _))))))))))))))))))))))))))) (CW.region (sd rfl (yl_move rfl rfl (sd rfl (yl_inc rfl rfl rfl (by omega) (sd rfl (yl_assign rfl rfl (SeqR.done ?_)))))))))))
         refine tn ?_
         have hB837 : B_s_l3Bytes_1 p_s p_more k5 k715 (x716) = .cont (true) := by simp only [B_s_l3Bytes_1, hb21, hb714, hb748, cL]
         exact ⟨p_more.length - (k715 + 1), by omega, k715 + 1, true, rfl, hlt747, (by omega), rfl, rfl, rfl, rfl, rfl, rfl, rfl, rfl, rfl, rfl, rfl, rfl, rfl, rfl, rfl, rfl, rfl, rfl, rfl, (Ex.trans hf745 hE810), (loopM.cont hlt747 hB837).symm.trans hI724⟩
       ·refine CW.drawsI 11 (vgetI ([.bool (x716), .bool (x716), .string (bs (p_s)), .int .i64 ((k5 : Int)), .int .u8 (((p_s.getD k5 0).toNat : Int)), .string (bs (p_more)), .int .i64 ((k715 : Int)), .int .u8 (((p_more.getD k715 0).toNat : Int)), .bool (decide (((p_s.getD k5 0).toNat : Int) = ((p_more.getD k715 0).toNat : Int))), .bool (decide (((p_s.getD k5 0).toNat : Int) = ((p_more.getD k715 0).toNat : Int))), .bool (decide (((p_s.getD k5 0).toNat : Int) = ((p_more.getD k715 0).toNat : Int)))].map DetI)) Try.follows rfl rfl rfl rfl rfl rfl (vgetI_stable (stD _)) ⟨?_, ?_, ?_, ?_, ?_, ?_, ?_, ?_, ?_, ?_, ?_, trivial⟩ ?_
        ·exact oI rfl fun h => yl_move rfl (h.old 6 _ rfl rfl) kI
        ·exact oI rfl fun h => yl_move rfl (h.dt 0 42 rfl rfl rfl) kI
        ·exact oW rfl rfl rfl rfl hb748 fun h => yl_move rfl (h.old 0 _ rfl rfl) kI
        ·exact oW rfl rfl rfl rfl hb748 fun h => yl_move rfl (h.old 5 _ rfl rfl) kI
        ·intro L861 w862 hi863
         have hE864 := hi863.ex
         have hE864z := Ex.size hE864
         exact OpR.want rfl rfl (hi863.dt 1 43 rfl rfl rfl) hb748 (Yl.sameI (yl_sindexN un9 (a := p_s) rfl (hi863.dt 2 44 rfl rfl rfl) (hi863.dt 3 45 rfl rfl rfl) (by first | omega | assumption | (simp only [wI] at *; omega)) kI))
        ·exact oW rfl rfl rfl rfl hb748 fun h => yl_move rfl (h.old 1 _ rfl rfl) kI
        ·exact oW rfl rfl rfl rfl hb748 fun h => yl_move rfl (h.old 7 _ rfl rfl) kI
        ·intro L880 w881 hi882
         have hE883 := hi882.ex
         have hE883z := Ex.size hE883
         exact OpR.want rfl rfl (hi882.dt 1 43 rfl rfl rfl) hb748 (Yl.sameI (yl_sindexN un9 (a := p_more) rfl (hi882.dt 5 47 rfl rfl rfl) (hi882.dt 6 48 rfl rfl rfl) (by first | omega | assumption | (simp only [wI] at *; omega)) kI))
        ·exact oW rfl rfl rfl rfl hb748 fun h => yl_eql rfl (h.dt 4 46 rfl rfl rfl) (h.dt 7 49 rfl rfl rfl) kI
        ·exact oI rfl fun h => yl_pick_f rfl (h.dt 1 43 rfl rfl rfl) hb748 (h.dt 8 50 rfl rfl rfl) kI
        ·exact oI rfl fun h => yl_assign rfl (h.dt 9 51 rfl rfl rfl) kI
        ·intro fl908 fh909 L905 w906 hp907
         have hE910 := hp907.ex
         have hE910z := Ex.size hE910
         refine SeqR.done (bn (tn (CW.sub (Sub.cons (d := 0) (hp907.old 0 _ rfl rfl) (Sub.cons (d := 1) (hp907.old 1 _ rfl rfl) (Sub.cons (d := 5) (hp907.old 5 _ rfl rfl) (Sub.cons (d := 6) (hp907.nt 10 6 rfl rfl rfl) (Sub.cons (d := 7) (hp907.old 7 _ rfl rfl) (Sub.cons (d := 19) (hp907.old 19 _ rfl rfl) (Sub.cons (d := 20) (hp907.old 20 _ rfl rfl) (Sub.cons (d := 21) (hp907.old 21 _ rfl rfl) (Sub.cons (d := 22) (hp907.old 22 _ rfl rfl) (Sub.cons (d := 25) (hp907.old 25 _ rfl rfl) (Sub.cons (d := 26) (hp907.old 26 _ rfl rfl) (Sub.cons (d := 27) (hp907.old 27 _ rfl rfl) (Sub.cons (d := 28) (hp907.old 28 _ rfl rfl) (Sub.cons (d := 29) (hp907.old 29 _ rfl rfl) (Sub.cons (d := 30) (hp907.old 30 _ rfl rfl) (Sub.cons (d := 31) (hp907.old 31 _ rfl rfl) (Sub.cons (d := 32) (hp907.old 32 _ rfl rfl) (Sub.cons (d := 33) (hp907.old 33 _ rfl rfl) (Sub.cons (d := 34) (hp907.old 34 _ rfl rfl) (Sub.cons (d := 44) (hp907.nt 2 44 rfl rfl rfl) (Sub.cons (d := 45) (hp907.nt 3 45 rfl rfl rfl) (Sub.cons (d := 46) (hp907.nt 4 46 rfl rfl rfl) (Sub.cons (d := 47) (hp907.nt 5 47 rfl rfl rfl) (Sub.cons (d := 48) (hp907.nt 6 48 rfl rfl rfl) (Sub.cons (d := 49) (hp907.nt 7 49 rfl rfl rfl) (Sub.cons (d := 50) (hp907.nt 8 50 rfl rfl rfl) (Sub.nil _))))))))))))))))))))))))))) (CW.region (sd rfl (yl_move rfl rfl (sd rfl (yl_inc rfl rfl rfl (by omega) (sd rfl (yl_assign rfl rfl (SeqR.done ?_)))))))))))
         refine tn ?_
         have hB937 : B_s_l3Bytes_1 p_s p_more k5 k715 (x716) = .cont (decide (((p_s.getD k5 0).toNat : Int) = ((p_more.getD k715 0).toNat : Int))) := by simp only [B_s_l3Bytes_1, hb21, hb714, hb748, cL]
         exact ⟨p_more.length - (k715 + 1), by omega, k715 + 1, decide (((p_s.getD k5 0).toNat : Int) = ((p_more.getD k715 0).toNat : Int)), rfl, hlt747, (by omega), rfl, rfl, rfl, rfl, rfl, rfl, rfl, rfl, rfl, rfl, rfl, rfl, rfl, rfl, rfl, rfl, rfl, rfl, rfl, (Ex.trans hf745 hE910), (loopM.cont hlt747 hB937).symm.trans hI724⟩
      ·refine CW.seq (CW.seq (CW.region (sd rfl (yl_move rfl rfl (sd rfl (yl_move rfl rfl (sd rfl (yl_slen un9 (a := p_more) rfl rfl (sd rfl (yl_lss rfl rfl rfl (dn ?_)))))))))))
       refine CW.cond_f rfl (lt_f hlt747) (CW.exit (tx (tx ?_)))
       have hL939 : loopM (B_s_l3Bytes_1 p_s p_more k5) (p_more.length - 0) 0 (decide (((p_s.getD k5 0).toNat : Int) ≤ 57)) = .done (x716) := hI724.symm.trans (loopM.stop hlt747)
       refine bx (tn (CW.seq (CW.region (sd rfl (yl_move rfl rfl (sd rfl (yl_not rfl rfl (dn (bcase (x716) (fun hb940 => ?_) (fun hb940 => ?_))))))))))
       ·refine CW.cond_f rfl (not_t hb940) (CW.skip (bn (tn (CW.region (sd rfl (yl_move rfl rfl (sd rfl (yl_inc rfl rfl rfl (by omega) (sd rfl (yl_assign rfl rfl (SeqR.done ?_)))))))))))
        refine tn ?_
        have hB941 : B_s_l3Bytes_0 p_s p_more k5 () = .cont () := by simp only [B_s_l3Bytes_0, hb21, hb714, hb940, hL939, cL]
        exact ⟨p_s.length - (k5 + 1), by omega, k5 + 1, rfl, hlt20, (by omega), rfl, rfl, rfl, hf745, (loopM.cont hlt20 hB941).symm.trans hI13⟩
       ·refine CW.cond_t rfl (not_f hb940) (CW.seq (CW.region (sd rfl (yl_assign rfl rfl (dn (CW.ret (br (tr ?_))))))))
        refine tr ?_
        have hB943 : B_s_l3Bytes_0 p_s p_more k5 () = .ret false := by simp only [B_s_l3Bytes_0, hb21, hb714, hb940, hL939, cL]
        have hL942 : loopM (B_s_l3Bytes_0 p_s p_more) (p_s.length - 0) 0 () = .ret false := hI13.symm.trans (loopM.ret hlt20 hB943)
        refine br (tr (rr rfl (.cons rfl .nil) ?_))
        have hM944 : (s_l3Bytes p_s p_more) = (false) := by simp only [s_l3Bytes, hb21, hb714, hb940, hL939, hL942, cL]
        rw [hM944]
        exact ⟨rfl, hf745⟩
    ·have hb714p := dec_f hb714
     refine sz rfl rfl hb714 (sz rfl rfl hb714 (sz rfl rfl hb714 (sz rfl rfl hb714 (sy rfl rfl rfl (yl_pick_f rfl rfl hb714 rfl (sd rfl (yl_pick_f rfl rfl rfl rfl (sd rfl (yl_assign rfl rfl (dn ?_))))))))))
     refine CW.seq (CW.seq (CW.region (sd rfl (yl_assign rfl rfl (dn (CW.block (CW.loop (fun m947 L948 w949 => ∃ (k945 : Nat) (x946 : Bool), m947 = p_more.length - k945 ∧ k945 ≤ p_more.length ∧ w11.heap.size ≤ w949.heap.size ∧ lkp L948 0 = some (.string (bs (p_s))) ∧ lkp L948 1 = some (.string (bs (p_more))) ∧ lkp L948 5 = some (.int .i64 ((k5 : Int))) ∧ lkp L948 6 = some (.bool (x946)) ∧ lkp L948 7 = some (.int .i64 ((k945 : Int))) ∧ lkp L948 19 = some (undef) ∧ lkp L948 20 = some (undef) ∧ lkp L948 21 = some (undef) ∧ lkp L948 22 = some (undef) ∧ lkp L948 25 = some (.string (bs (p_s))) ∧ lkp L948 26 = some (.int .i64 ((k5 : Int))) ∧ lkp L948 27 = some (.int .u8 (((p_s.getD k5 0).toNat : Int))) ∧ lkp L948 28 = some (.bool (decide (48 ≤ ((p_s.getD k5 0).toNat : Int)))) ∧ lkp L948 29 = some (.bool (decide (48 ≤ ((p_s.getD k5 0).toNat : Int)))) ∧ lkp L948 30 = some (undef) ∧ lkp L948 31 = some (undef) ∧ lkp L948 32 = some (undef) ∧ lkp L948 33 = some (undef) ∧ lkp L948 34 = some (.bool (false)) ∧ Ex w w949 ∧ loopM (B_s_l3Bytes_1 p_s p_more k5) (p_more.length - k945) k945 (x946) = loopM (B_s_l3Bytes_1 p_s p_more k5) (p_more.length - 0) 0 (false)) (p_more.length - 0) ?_ ?_)))))))
     ·exact ⟨0, false, rfl, (by omega), Nat.le_refl _, rfl, rfl, rfl, rfl, rfl, rfl, rfl, rfl, rfl, rfl, rfl, rfl, rfl, rfl, rfl, rfl, rfl, rfl, rfl, hf18, rfl⟩
     ·rintro m950 L951 w952 ⟨k945, x946, rfl, hk953, hsz955, hl956, hl957, hl958, hl959, hl960, hl961, hl962, hl963, hl964, hl965, hl966, hl967, hl968, hl969, hl970, hl971, hl972, hl973, hl974, hf975, hI954⟩
      refine CW.sub (Sub.cons hl956 (Sub.cons hl957 (Sub.cons hl958 (Sub.cons hl959 (Sub.cons hl960 (Sub.cons hl961 (Sub.cons hl962 (Sub.cons hl963 (Sub.cons hl964 (Sub.cons hl965 (Sub.cons hl966 (Sub.cons hl967 (Sub.cons hl968 (Sub.cons hl969 (Sub.cons hl970 (Sub.cons hl971 (Sub.cons hl972 (Sub.cons hl973 (Sub.cons hl974 (Sub.nil _)))))))))))))))))))) ?_
      have hf975z := Ex.size hf975
      have hbg976 : p_more.length ≤ 1073741824 := o2
      rcases Nat.lt_or_ge k945 p_more.length with hlt977 | hlt977
      ·refine CW.seq (CW.seq (CW.region (sd rfl (yl_move rfl rfl (sd rfl (yl_move rfl rfl (sd rfl (yl_slen un9 (a := p_more) rfl rfl (sd rfl (yl_lss rfl rfl rfl (dn ?_)))))))))))
       refine CW.cond_t rfl (lt_t hlt977) (CW.skip (tn (CW.seq (CW.block (bcase (x946) (fun hb978 => ?_) (fun hb978 => ?_))))))
       ·refine CW.drawsI 11 (vgetI ([.bool (x946), .bool (x946), undef, undef, undef, undef, undef, undef, undef, .bool (true), .bool (true)].map DetI)) Try.follows rfl rfl rfl rfl rfl rfl (vgetI_stable (stD _)) ⟨?_, ?_, ?_, ?_, ?_, ?_, ?_, ?_, ?_, ?_, ?_, trivial⟩ ?_
        ·exact oI rfl fun h => yl_move rfl (h.old 6 _ rfl rfl) kI
        ·exact oI rfl fun h => yl_move rfl (h.dt 0 42 rfl rfl rfl) kI
        ·exact oS rfl rfl rfl rfl rfl hb978
        ·exact oS rfl rfl rfl rfl rfl hb978
        ·exact oS rfl rfl rfl rfl rfl hb978
        ·exact oS rfl rfl rfl rfl rfl hb978
        ·exact oS rfl rfl rfl rfl rfl hb978
        ·exact oS rfl rfl rfl rfl rfl hb978
        ·exact oS rfl rfl rfl rfl rfl hb978
        ·exact oI rfl fun h => yl_pick_t rfl (h.dt 1 43 rfl rfl rfl) hb978 rfl kI
        ·exact oI rfl fun h => yl_assign rfl (h.dt 9 51 rfl rfl rfl) kI
        ·intro fl1038 fh1039 L1035 w1036 hp1037
         have hE1040 := hp1037.ex
         have hE1040z := Ex.size hE1040
         refine SeqR.done (bn (tn (CW.sub (Sub.cons (d := 0) (hp1037.old 0 _ rfl rfl) (Sub.cons (d := 1) (hp1037.old 1 _ rfl rfl) (Sub.cons (d := 5) (hp1037.old 5 _ rfl rfl) (Sub.cons (d := 6) (hp1037.nt 10 6 rfl rfl rfl) (Sub.cons (d := 7) (hp1037.old 7 _ rfl rfl) (Sub.cons (d := 19) (hp1037.old 19 _ rfl rfl) (Sub.cons (d := 20) (hp1037.old 20 _ rfl rfl) (Sub.cons (d := 21) (hp1037.old 21 _ rfl rfl) (Sub.cons (d := 22) (hp1037.old 22 _ rfl rfl) (Sub.cons (d := 25) (hp1037.old 25 _ rfl rfl) (Sub.cons (d := 26) (hp1037.old 26 _ rfl rfl) (Sub.cons (d := 27) (hp1037.old 27 _ rfl rfl) (Sub.cons (d := 28) (hp1037.old 28 _ rfl rfl) (Sub.cons (d := 29) (hp1037.old 29 _ rfl rfl) (Sub.cons (d := 30) (hp1037.old 30 _ rfl rfl) (Sub.cons (d := 31) (hp1037.old 31 _ rfl rfl) (Sub.cons (d := 32) (hp1037.old 32 _ rfl rfl) (Sub.cons (d := 33) (hp1037.old 33 _ rfl rfl) (Sub.cons (d := 34) (hp1037.old 34 _ rfl rfl) (Sub.cons (d := 44) (hp1037.nt 2 44 rfl rfl rfl) (Sub.cons (d := 45) (hp1037.nt 3 45 rfl rfl rfl) (Sub.cons (d := 46) (hp1037.nt 4 46 rfl rfl rfl) (Sub.cons (d := 47) (hp1037.nt 5 47 rfl rfl rfl) (Sub.cons (d := 48) (hp1037.nt 6 48 rfl rfl rfl) (Sub.cons (d := 49) (hp1037.nt 7 49 rfl rfl rfl) (Sub.cons (d := 50) (hp1037.nt 8 50 rfl rfl rfl) (Sub.nil _))))))))))))))))))))))))))) (CW.region (sd rfl (yl_move rfl rfl (sd rfl (yl_inc rfl rfl rfl (by omega) (sd rfl (yl_assign rfl rfl (SeqR.done ?_)))))))))))
         refine tn ?_
         have hB1067 : B_s_l3Bytes_1 p_s p_more k5 k945 (x946) = .cont (true) := by simp only [B_s_l3Bytes_1, hb21, hb714, hb978, cL]
         exact ⟨p_more.length - (k945 + 1), by omega, k945 + 1, true, rfl, hlt977, (by omega), rfl, rfl, rfl, rfl, rfl, rfl, rfl, rfl, rfl, rfl, rfl, rfl, rfl, rfl, rfl, rfl, rfl, rfl, rfl, (Ex.trans hf975 hE1040), (loopM.cont hlt977 hB1067).symm.trans hI954⟩
       ·refine CW.drawsI 11 (vgetI ([.bool (x946), .bool (x946), .string (bs (p_s)), .int .i64 ((k5 : Int)), .int .u8 (((p_s.getD k5 0).toNat : Int)), .string (bs (p_more)), .int .i64 ((k945 : Int)), .int .u8 (((p_more.getD k945 0).toNat : Int)), .bool (decide (((p_s.getD k5 0).toNat : Int) = ((p_more.getD k945 0).toNat : Int))), .bool (decide (((p_s.getD k5 0).toNat : Int) = ((p_more.getD k945 0).toNat : Int))), .bool (decide (((p_s.getD k5 0).toNat : Int) = ((p_more.getD k945 0).toNat : Int)))].map DetI)) Try.follows rfl rfl rfl rfl rfl rfl (vgetI_stable (stD _)) ⟨?_, ?_, ?_, ?_, ?_, ?_, ?_, ?_, ?_, ?_, ?_, trivial⟩ ?_
        ·exact oI rfl fun h => yl_move rfl (h.old 6 _ rfl rfl) kI
        ·exact oI rfl fun h => yl_move rfl (h.dt 0 42 rfl rfl rfl) kI
        ·exact oW rfl rfl rfl rfl hb978 fun h => yl_move rfl (h.old 0 _ rfl rfl) kI
        ·exact oW rfl rfl rfl rfl hb978 fun h => yl_move rfl (h.old 5 _ rfl rfl) kI
        ·intro L1091 w1092 hi1093
         have hE1094 := hi1093.ex
         have hE1094z := Ex.size hE1094
         exact OpR.want rfl rfl (hi1093.dt 1 43 rfl rfl rfl) hb978 (Yl.sameI (yl_sindexN un9 (a := p_s) rfl (hi1093.dt 2 44 rfl rfl rfl) (hi1093.dt 3 45 rfl rfl rfl) (by first | omega | assumption | (simp only [wI] at *; omega)) kI))
        ·exact oW rfl rfl rfl rfl hb978 fun h => yl_move rfl (h.old 1 _ rfl rfl) kI
        ·exact oW rfl rfl rfl rfl hb978 fun h => yl_move rfl (h.old 7 _ rfl rfl) kI
        ·intro L1110 w1111 hi1112
         have hE1113 := hi1112.ex
         have hE1113z := Ex.size hE1113
         exact OpR.want rfl rfl (hi1112.dt 1 43 rfl rfl rfl) hb978 (Yl.sameI (yl_sindexN un9 (a := p_more) rfl (hi1112.dt 5 47 rfl rfl rfl) (hi1112.dt 6 48 rfl rfl rfl) (by first | omega | assumption | (simp only [wI] at *; omega)) kI))
        ·exact oW rfl rfl rfl rfl hb978 fun h => yl_eql rfl (h.dt 4 46 rfl rfl rfl) (h.dt 7 49 rfl rfl rfl) kI
        ·exact oI rfl fun h => yl_pick_f rfl (h.dt 1 43 rfl rfl rfl) hb978 (h.dt 8 50 rfl rfl rfl) kI
        ·exact oI rfl fun h => yl_assign rfl (h.dt 9 51 rfl rfl rfl) kI
        ·intro fl1138 fh1139 L1135 w1136 hp1137
         have hE1140 := hp1137.ex
         have hE1140z := Ex.size hE1140
         refine SeqR.done (bn (tn (CW.sub (Sub.cons (d := 0) (hp1137.old 0 _ rfl rfl) (Sub.cons (d := 1) (hp1137.old 1 _ rfl rfl) (Sub.cons (d := 5) (hp1137.old 5 _ rfl rfl) (Sub.cons (d := 6) (hp1137.nt 10 6 rfl rfl rfl) (Sub.cons (d := 7) (hp1137.old 7 _ rfl rfl) (Sub.cons (d := 19) (hp1137.old 19 _ rfl rfl) (Sub.cons (d := 20) (hp1137.old 20 _ rfl rfl) (Sub.cons (d := 21) (hp1137.old 21 _ rfl rfl) (Sub.cons (d := 22) (hp1137.old 22 _ rfl rfl) (Sub.cons (d := 25) (hp1137.old 25 _ rfl rfl) (Sub.cons (d := 26) (hp1137.old 26 _ rfl rfl) (Sub.cons (d := 27) (hp1137.old 27 _ rfl rfl) (Sub.cons (d := 28) (hp1137.old 28 _ rfl rfl) (Sub.cons (d := 29) (hp1137.old 29 _ rfl rfl) (Sub.cons (d := 30) (hp1137.old 30 _ rfl rfl) (Sub.cons (d := 31) (hp1137.old 31 _ rfl rfl) (Sub.cons (d := 32) (hp1137.old 32 _ rfl rfl) (Sub.cons (d := 33) (hp1137.old 33 _ rfl rfl) (Sub.cons (d := 34) (hp1137.old 34 _ rfl rfl) (Sub.cons (d := 44) (hp1137.nt 2 44 rfl rfl rfl) (Sub.cons (d := 45) (hp1137.nt 3 45 rfl rfl rfl) (Sub.cons (d := 46) (hp1137.nt 4 46 rfl rfl rfl) (Sub.cons (d := 47) (hp1137.nt 5 47 rfl rfl rfl) (Sub.cons (d := 48) (hp1137.nt 6 48 rfl rfl rfl) (Sub.cons (d := 49) (hp1137.nt 7 49 rfl rfl rfl) (Sub.cons (d := 50) (hp1137.nt 8 50 rfl rfl rfl) (Sub.nil _))))))))))))))))))))))))))) (CW.region (sd rfl (yl_move rfl rfl (sd rfl (yl_inc rfl rfl rfl (by omega) (sd rfl (yl_assign rfl rfl (SeqR.done ?_)))))))))))
         refine tn ?_
         have hB1167 : B_s_l3Bytes_1 p_s p_more k5 k945 (x946) = .cont (decide (((p_s.getD k5 0).toNat : Int) = ((p_more.getD k945 0).toNat : Int))) := by simp only [B_s_l3Bytes_1, hb21, hb714, hb978, cL]
         exact ⟨p_more.length - (k945 + 1), by omega, k945 + 1, decide (((p_s.getD k5 0).toNat : Int) = ((p_more.getD k945 0).toNat : Int)), rfl, hlt977, (by omega), rfl, rfl, rfl, rfl, rfl, rfl, rfl, rfl, rfl, rfl, rfl, rfl, rfl, rfl, rfl, rfl, rfl, rfl, rfl, (Ex.trans hf975 hE1140), (loopM.cont hlt977 hB1167).symm.trans hI954⟩
      ·refine CW.seq (CW.seq (CW.region (sd rfl (yl_move rfl rfl (sd rfl (yl_move rfl rfl (sd rfl (yl_slen un9 (a := p_more) rfl rfl (sd rfl (yl_lss rfl rfl rfl (dn ?_)))))))))))
       refine CW.cond_f rfl (lt_f hlt977) (CW.exit (tx (tx ?_)))
       have hL1169 : loopM (B_s_l3Bytes_1 p_s p_more k5) (p_more.length - 0) 0 (false) = .done (x946) := hI954.symm.trans (loopM.stop hlt977)
       refine bx (tn (CW.seq (CW.region (sd rfl (yl_move rfl rfl (sd rfl (yl_not rfl rfl (dn (bcase (x946) (fun hb1170 => ?_) (fun hb1170 => ?_))))))))))
       ·refine CW.cond_f rfl (not_t hb1170) (CW.skip (bn (tn (CW.region (sd rfl (yl_move rfl rfl (sd rfl (yl_inc rfl rfl rfl (by omega) (sd rfl (yl_assign rfl rfl (SeqR.done ?_)))))))))))
        refine tn ?_
        have hB1171 : B_s_l3Bytes_0 p_s p_more k5 () = .cont () := by simp only [B_s_l3Bytes_0, hb21, hb714, hb1170, hL1169, cL]
        exact ⟨p_s.length - (k5 + 1), by omega, k5 + 1, rfl, hlt20, (by omega), rfl, rfl, rfl, hf975, (loopM.cont hlt20 hB1171).symm.trans hI13⟩
       ·refine CW.cond_t rfl (not_f hb1170) (CW.seq (CW.region (sd rfl (yl_assign rfl rfl (dn (CW.ret (br (tr ?_))))))))
        refine tr ?_
        have hB1173 : B_s_l3Bytes_0 p_s p_more k5 () = .ret false := by simp only [B_s_l3Bytes_0, hb21, hb714, hb1170, hL1169, cL]
        have hL1172 : loopM (B_s_l3Bytes_0 p_s p_more) (p_s.length - 0) 0 () = .ret false := hI13.symm.trans (loopM.ret hlt20 hB1173)
        refine br (tr (rr rfl (.cons rfl .nil) ?_))
        have hM1174 : (s_l3Bytes p_s p_more) = (false) := by simp only [s_l3Bytes, hb21, hb714, hb1170, hL1169, hL1172, cL]
        rw [hM1174]
        exact ⟨rfl, hf975⟩
  ·refine CW.seq (CW.seq (CW.region (sd rfl (yl_move rfl rfl (sd rfl (yl_move rfl rfl (sd rfl (yl_slen un9 (a := p_s) rfl rfl (sd rfl (yl_lss rfl rfl rfl (dn ?_)))))))))))
   refine CW.cond_f rfl (lt_f hlt20) (CW.exit (tx (tx ?_)))
   have hL1175 : loopM (B_s_l3Bytes_0 p_s p_more) (p_s.length - 0) 0 () = .done () := hI13.symm.trans (loopM.stop hlt20)
   refine bx (tn (CW.seq (CW.region (sd rfl (yl_assign rfl rfl (dn (CW.ret (rr rfl (.cons rfl .nil) ?_))))))))
   have hM1176 : (s_l3Bytes p_s p_more) = (true) := by simp only [s_l3Bytes, hL1175, cL]
   rw [hM1176]
   exact ⟨rfl, hf18⟩
theorem c_s_l3Key {w : World} (p_s : Str) (o1 : okS p_s) : Cal Try.prog 109 #[.string (bs (p_s))] w fun v w' => v = .bool ((s_l3Key p_s)) ∧ Ex w w' := by
 refine Cal.of func109 rfl ntmps109 rfl (CW.seq (CW.region (sd rfl (yl_assign rfl rfl (dn (CW.seq (CW.region (sd rfl (yl_move rfl rfl ?_)))))))))
 refine sd rfl (yl_slen un9 (a := p_s) rfl rfl (sd rfl (yl_call en80 rfl (oc rfl (oc rfl (oc rfl oz))) (Cal.mono (c_s_l1In (p_s.length : Int) 1 12) ?_))))
 rintro v4 w3 ⟨rfl, hE5⟩
 refine sd rfl (yl_move rfl rfl (bcase (s_l1In (p_s.length : Int) 1 12) (fun hb6 => ?_) (fun hb6 => ?_)))
 ·have hb6p := f_l1In hb6
  refine sy rfl rfl hb6 (yl_move rfl rfl (sy rfl rfl hb6 (yl_call en117 rfl (oc rfl (oc rfl oz)) (Cal.mono (c_s_l3Bytes p_s ([46, 47] : Str) o1 (okS.lit rfl)) ?_))))
  rintro v8 w7 ⟨rfl, hE9⟩
  refine sd rfl (yl_pick_t rfl rfl hb6 rfl (sd rfl (yl_assign rfl rfl (dn (CW.ret (rr rfl (.cons rfl .nil) ?_))))))
  have hM10 : (s_l3Key p_s) = ((s_l3Bytes p_s ([46, 47] : Str))) := by simp only [s_l3Key, hb6, cL]
  rw [hM10]
  exact ⟨rfl, (Ex.trans (Ex.trans (Ex.refl w) hE5) hE9)⟩
 ·refine sz rfl rfl hb6 (sz rfl rfl hb6 (sd rfl (yl_pick_f rfl rfl hb6 rfl (sd rfl (yl_assign rfl rfl (dn (CW.ret (rr rfl (.cons rfl .nil) ?_))))))))
  have hM13 : (s_l3Key p_s) = (false) := by simp only [s_l3Key, hb6, cL]
  rw [hM13]
  exact ⟨rfl, (Ex.trans (Ex.refl w) hE5)⟩
theorem c_s_l3Val {w : World} (p_s : Str) (o1 : okS p_s) : Cal Try.prog 113 #[.string (bs (p_s))] w fun v w' => v = .bool ((s_l3Val p_s)) ∧ Ex w w' := by
 refine Cal.of func113 rfl ntmps113 rfl (CW.seq (CW.region (sd rfl (yl_assign rfl rfl (dn (CW.seq (CW.region (sd rfl (yl_move rfl rfl ?_)))))))))
 refine sd rfl (yl_slen un9 (a := p_s) rfl rfl (sd rfl (yl_leq rfl rfl rfl (sd rfl (yl_move rfl rfl (bcase (decide ((p_s.length : Int) ≤ 24)) (fun hb3 => ?_) (fun hb3 => ?_)))))))
 ·have hb3p := dec_t hb3
  refine sy rfl rfl hb3 (yl_move rfl rfl (sy rfl rfl hb3 (yl_call en117 rfl (oc rfl (oc rfl oz)) (Cal.mono (c_s_l3Bytes p_s ([46, 45, 44, 95] : Str) o1 (okS.lit rfl)) ?_))))
  rintro v5 w4 ⟨rfl, hE6⟩
  refine sd rfl (yl_pick_t rfl rfl hb3 rfl (sd rfl (yl_assign rfl rfl (dn (CW.ret (rr rfl (.cons rfl .nil) ?_))))))
  have hM7 : (s_l3Val p_s) = ((s_l3Bytes p_s ([46, 45, 44, 95] : Str))) := by simp only [s_l3Val, hb3, cL]
  rw [hM7]
  exact ⟨rfl, (Ex.trans (Ex.refl w) hE6)⟩
 ·have hb3p := dec_f hb3
  refine sz rfl rfl hb3 (sz rfl rfl hb3 (sd rfl (yl_pick_f rfl rfl hb3 rfl (sd rfl (yl_assign rfl rfl (dn (CW.ret (rr rfl (.cons rfl .nil) ?_))))))))
  have hM9 : (s_l3Val p_s) = (false) := by simp only [s_l3Val, hb3, cL]
  rw [hM9]
  exact ⟨rfl, (Ex.refl w)⟩
theorem c_s_l3Write {w : World} (p_key : Str) (p_val : Str) (p_gone : Bool) (o1 : okS p_key) (o2 : okS p_val) : Cal Try.prog 100 #[.string (bs (p_key)), .string (bs (p_val)), .bool (p_gone)] w fun v w' => v = .bool ((s_l3Write p_key p_val p_gone)) ∧ Ex w w' := by
 refine Cal.of func100 rfl ntmps100 rfl (CW.seq (CW.region (sd rfl (yl_assign rfl rfl (dn (CW.seq (CW.region (sd rfl (yl_move rfl rfl ?_)))))))))
 refine sd rfl (yl_call en109 rfl (oc rfl oz) (Cal.mono (c_s_l3Key p_key o1) ?_))
 rintro v6 w5 ⟨rfl, hE7⟩
 refine sd rfl (yl_move rfl rfl (bcase (s_l3Key p_key) (fun hb8 => ?_) (fun hb8 => ?_)))
 ·refine sy rfl rfl hb8 (yl_move rfl rfl (sy rfl rfl hb8 (yl_call en113 rfl (oc rfl oz) (Cal.mono (c_s_l3Val p_val o2) ?_))))
  rintro v10 w9 ⟨rfl, hE11⟩
  refine sd rfl (yl_pick_t rfl rfl hb8 rfl (sd rfl (yl_move rfl rfl (bcase (s_l3Val p_val) (fun hb12 => ?_) (fun hb12 => ?_)))))
  ·refine sy rfl rfl hb12 (yl_move rfl rfl (sy rfl rfl hb12 (yl_not rfl rfl (sy rfl rfl hb12 (yl_move rfl rfl (bcase (p_gone) (fun hb13 => ?_) (fun hb13 => ?_)))))))
   ·refine sy rfl rfl (not_t hb13) (yl_move rfl rfl (sy rfl rfl (not_t hb13) (yl_seql (a := p_val) (b := ([] : Str)) rfl rfl rfl (sy rfl rfl hb12 (yl_pick_f rfl rfl (not_t hb13) rfl (sd rfl (yl_pick_t rfl rfl hb12 rfl (sd rfl (yl_assign rfl rfl (dn (CW.ret (rr rfl (.cons rfl .nil) ?_))))))))))))
    have hM14 : (s_l3Write p_key p_val p_gone) = (p_val == ([] : Str)) := by simp only [s_l3Write, hb8, hb12, hb13, cL]
    rw [hM14]
    exact ⟨rfl, (Ex.trans (Ex.trans (Ex.refl w) hE7) hE11)⟩
   ·refine sz rfl rfl (not_f hb13) (sz rfl rfl (not_f hb13) (sy rfl rfl hb12 (yl_pick_t rfl rfl (not_f hb13) rfl (sd rfl (yl_pick_t rfl rfl hb12 rfl (sd rfl (yl_assign rfl rfl (dn (CW.ret (rr rfl (.cons rfl .nil) ?_))))))))))
    have hM17 : (s_l3Write p_key p_val p_gone) = (true) := by simp only [s_l3Write, hb8, hb12, hb13, cL]
    rw [hM17]
    exact ⟨rfl, (Ex.trans (Ex.trans (Ex.refl w) hE7) hE11)⟩
  ·refine sz rfl rfl hb12 (sz rfl rfl hb12 (sz rfl rfl hb12 (sq rfl rfl (sq rfl rfl (sz rfl rfl hb12 (sd rfl (yl_pick_f rfl rfl hb12 rfl (sd rfl (yl_assign rfl rfl (SeqR.done ?_))))))))))
   refine tn (CW.ret (rr rfl (.cons rfl .nil) ?_))
   have hM20 : (s_l3Write p_key p_val p_gone) = (false) := by simp only [s_l3Write, hb8, hb12, cL]
   rw [hM20]
   exact ⟨rfl, (Ex.trans (Ex.trans (Ex.refl w) hE7) hE11)⟩
 ·refine sz rfl rfl hb8 (sz rfl rfl hb8 (sd rfl (yl_pick_f rfl rfl hb8 rfl (sd rfl (yl_move rfl rfl (sz rfl rfl rfl (sz rfl rfl rfl (sz rfl rfl rfl (sq rfl rfl (sq rfl rfl ?_))))))))))
  refine sz rfl rfl rfl (sd rfl (yl_pick_f rfl rfl rfl rfl (sd rfl (yl_assign rfl rfl (dn (CW.ret (rr rfl (.cons rfl .nil) ?_)))))))
  have hM23 : (s_l3Write p_key p_val p_gone) = (false) := by simp only [s_l3Write, hb8, cL]
  rw [hM23]
  exact ⟨rfl, (Ex.trans (Ex.refl w) hE7)⟩
theorem c_s_l23Good {w : World} (p_c : DFeedItem) (o1 : ok_FeedItem p_c) : Cal Try.prog 104 #[.agg #[.int .i64 (p_c.Time), .int .i64 (p_c.Group), .string (bs (p_c.Key)), .string (bs (p_c.Val)), .bool (p_c.Gone)]] w fun v w' => v = .bool ((s_l23Good p_c)) ∧ Ex w w' := by
 refine Cal.of func104 rfl ntmps104 rfl (CW.seq (CW.region (sd rfl (yl_box rfl rfl rfl ?_))))
 intro b4 w5 hs6 hz7 hB8 hE9
 refine sd rfl (yl_assign rfl rfl (dn (CW.seq (CW.region (sd rfl (yl_fieldAddr fd63_0 rfl rfl (sd rfl (yl_load1 ty3 rfl rfl ((hB8.cell 0).trans rfl) (sd rfl (yl_call en80 rfl (oc rfl (oc rfl (oc rfl oz))) (Cal.mono (c_s_l1In p_c.Time 1 100000) ?_)))))))))))
 rintro v11 w10 ⟨rfl, hE12⟩
 refine sd rfl (yl_move rfl rfl (bcase (s_l1In p_c.Time 1 100000) (fun hb13 => ?_) (fun hb13 => ?_)))
 ·have hb13p := f_l1In hb13
  refine sy rfl rfl hb13 (yl_fieldAddr fd63_1 rfl rfl ?_)
  have q14 := Box.ex hB8 hE12
  refine sy rfl rfl hb13 (yl_load1 ty3 rfl rfl ((q14.cell 1).trans rfl) (sy rfl rfl hb13 (yl_call en80 rfl (oc rfl (oc rfl (oc rfl oz))) (Cal.mono (c_s_l1In p_c.Group 0 3) ?_))))
  rintro v16 w15 ⟨rfl, hE17⟩
  refine sd rfl (yl_pick_t rfl rfl hb13 rfl (sd rfl (yl_move rfl rfl (bcase (s_l1In p_c.Group 0 3) (fun hb18 => ?_) (fun hb18 => ?_)))))
  ·have hb18p := f_l1In hb18
   refine sy rfl rfl hb18 (yl_fieldAddr fd63_2 rfl rfl ?_)
   have q19 := Box.ex q14 hE17
   refine sy rfl rfl hb18 (yl_load1 ty9 rfl rfl ((q19.cell 2).trans rfl) (sy rfl rfl hb18 (yl_fieldAddr fd63_3 rfl rfl (sy rfl rfl hb18 (yl_load1 ty9 rfl rfl ((q19.cell 3).trans rfl) (sy rfl rfl hb18 (yl_fieldAddr fd63_4 rfl rfl (sy rfl rfl hb18 (yl_load1 ty4 rfl rfl ((q19.cell 4).trans rfl) (sy rfl rfl hb18 (yl_call en100 rfl (oc rfl (oc rfl (oc rfl oz))) (Cal.mono (c_s_l3Write p_c.Key p_c.Val p_c.Gone o1.1 o1.2) ?_))))))))))))
   rintro v21 w20 ⟨rfl, hE22⟩
   refine sd rfl (yl_pick_t rfl rfl hb18 rfl (sd rfl (yl_assign rfl rfl (dn (CW.ret (rr rfl (.cons rfl .nil) ?_))))))
   have hM23 : (s_l23Good p_c) = ((s_l3Write p_c.Key p_c.Val p_c.Gone)) := by simp only [s_l23Good, hb13, hb18, cL]
   rw [hM23]
   exact ⟨rfl, (Ex.trans (Ex.trans (Ex.trans (Ex.trans (Ex.refl w) hE9) hE12) hE17) hE22)⟩
  ·refine sz rfl rfl hb18 (sz rfl rfl hb18 (sz rfl rfl hb18 (sz rfl rfl hb18 (sz rfl rfl hb18 (sz rfl rfl hb18 (sz rfl rfl hb18 (sd rfl (yl_pick_f rfl rfl hb18 rfl (sd rfl (yl_assign rfl rfl ?_))))))))))
   refine dn (CW.ret (rr rfl (.cons rfl .nil) ?_))
   have hM28 : (s_l23Good p_c) = (false) := by simp only [s_l23Good, hb13, hb18, cL]
   rw [hM28]
   exact ⟨rfl, (Ex.trans (Ex.trans (Ex.trans (Ex.refl w) hE9) hE12) hE17)⟩
 ·refine sz rfl rfl hb13 (sz rfl rfl hb13 (sz rfl rfl hb13 (sd rfl (yl_pick_f rfl rfl hb13 rfl (sd rfl (yl_move rfl rfl (sz rfl rfl rfl (sz rfl rfl rfl (sz rfl rfl rfl (sz rfl rfl rfl ?_))))))))))
  refine sz rfl rfl rfl (sz rfl rfl rfl (sz rfl rfl rfl (sd rfl (yl_pick_f rfl rfl rfl rfl (sd rfl (yl_assign rfl rfl (dn (CW.ret (rr rfl (.cons rfl .nil) ?_)))))))))
  have hM32 : (s_l23Good p_c) = (false) := by simp only [s_l23Good, hb13, cL]
  rw [hM32]
  exact ⟨rfl, (Ex.trans (Ex.trans (Ex.refl w) hE9) hE12)⟩
theorem c_s_l23Ahead {w : World} (p_a : DFeedItem) (p_b : DFeedItem) (o1 : ok_FeedItem p_a) (o2 : ok_FeedItem p_b) : Cal Try.prog 105 #[.agg #[.int .i64 (p_a.Time), .int .i64 (p_a.Group), .string (bs (p_a.Key)), .string (bs (p_a.Val)), .bool (p_a.Gone)], .agg #[.int .i64 (p_b.Time), .int .i64 (p_b.Group), .string (bs (p_b.Key)), .string (bs (p_b.Val)), .bool (p_b.Gone)]] w fun v w' => v = .bool ((s_l23Ahead p_a p_b)) ∧ Ex w w' := by
 refine Cal.of func105 rfl ntmps105 rfl (CW.seq (CW.region (sd rfl (yl_box rfl rfl rfl ?_))))
 intro b7 w8 hs9 hz10 hB11 hE12
 refine sd rfl (yl_box rfl rfl rfl ?_)
 intro b13 w14 hs15 hz16 hB17 hE18
 refine sd rfl (yl_assign rfl rfl (dn (CW.seq (CW.seq (CW.region (sd rfl (yl_fieldAddr fd63_0 rfl rfl ?_)))))))
 have q19 := Box.ex hB11 hE18
 refine sd rfl (yl_load1 ty3 rfl rfl ((q19.cell 0).trans rfl) (sd rfl (yl_fieldAddr fd63_0 rfl rfl (sd rfl (yl_load1 ty3 rfl rfl ((hB17.cell 0).trans rfl) (sd rfl (yl_neq rfl rfl rfl (dn (bcase (decide (p_a.Time = p_b.Time)) (fun hb20 => ?_) (fun hb20 => ?_))))))))))
 ·have hb20p := dec_t hb20
  refine CW.cond_f rfl (not_t hb20) (CW.skip (tn (CW.seq (CW.seq (CW.region (sd rfl (yl_fieldAddr fd63_1 rfl rfl (sd rfl (yl_load1 ty3 rfl rfl ((q19.cell 1).trans rfl) (sd rfl (yl_fieldAddr fd63_1 rfl rfl ?_)))))))))))
  refine sd rfl (yl_load1 ty3 rfl rfl ((hB17.cell 1).trans rfl) (sd rfl (yl_neq rfl rfl rfl (dn (bcase (decide (p_a.Group = p_b.Group)) (fun hb21 => ?_) (fun hb21 => ?_))))))
  ·have hb21p := dec_t hb21
   refine CW.cond_f rfl (not_t hb21) (CW.skip (tn (CW.seq (CW.region (sd rfl (yl_fieldAddr fd63_2 rfl rfl (sd rfl (yl_load1 ty9 rfl rfl ((q19.cell 2).trans rfl) (sd rfl (yl_fieldAddr fd63_2 rfl rfl (sd rfl (yl_load1 ty9 rfl rfl ((hB17.cell 2).trans rfl) ?_))))))))))))
   refine sd rfl (yl_slss (a := p_a.Key) (b := p_b.Key) rfl rfl rfl (sd rfl (yl_assign rfl rfl (dn (CW.ret (rr rfl (.cons rfl .nil) ?_))))))
   have hM22 : (s_l23Ahead p_a p_b) = (sLt p_a.Key p_b.Key) := by simp only [s_l23Ahead, hb20, hb21, cL]
   rw [hM22]
   exact ⟨rfl, (Ex.trans (Ex.trans (Ex.refl w) hE12) hE18)⟩
  ·have hb21p := dec_f hb21
   refine CW.cond_t rfl (not_f hb21) (CW.seq (CW.region (sd rfl (yl_fieldAddr fd63_1 rfl rfl (sd rfl (yl_load1 ty3 rfl rfl ((q19.cell 1).trans rfl) (sd rfl (yl_fieldAddr fd63_1 rfl rfl (sd rfl (yl_load1 ty3 rfl rfl ((hB17.cell 1).trans rfl) (sd rfl (yl_lss rfl rfl rfl (sd rfl (yl_assign rfl rfl ?_))))))))))))))
   refine dn (CW.ret (tr (rr rfl (.cons rfl .nil) ?_)))
   have hM25 : (s_l23Ahead p_a p_b) = (decide (p_a.Group < p_b.Group)) := by simp only [s_l23Ahead, hb20, hb21, cL]
   rw [hM25]
   exact ⟨rfl, (Ex.trans (Ex.trans (Ex.refl w) hE12) hE18)⟩
 ·have hb20p := dec_f hb20
  refine CW.cond_t rfl (not_f hb20) (CW.seq (CW.region (sd rfl (yl_fieldAddr fd63_0 rfl rfl (sd rfl (yl_load1 ty3 rfl rfl ((q19.cell 0).trans rfl) (sd rfl (yl_fieldAddr fd63_0 rfl rfl (sd rfl (yl_load1 ty3 rfl rfl ((hB17.cell 0).trans rfl) (sd rfl (yl_lss rfl rfl rfl (sd rfl (yl_assign rfl rfl ?_))))))))))))))
  refine dn (CW.ret (tr (rr rfl (.cons rfl .nil) ?_)))
  have hM28 : (s_l23Ahead p_a p_b) = (decide (p_a.Time < p_b.Time)) := by simp only [s_l23Ahead, hb20, cL]
  rw [hM28]
  exact ⟨rfl, (Ex.trans (Ex.trans (Ex.refl w) hE12) hE18)⟩
theorem c_s_l23Feed {A1 : Option Addr} {c1 : Nat} {w : World} (p_l : List DFeedItem) (h1 : RdS w (Iv 0 w.heap.size) (RF e_FeedItem) 5 A1 p_l.length c1 p_l) (o2 : (okL ok_FeedItem) p_l) : Cal Try.prog 86 #[.slice A1 p_l.length c1] w fun v w' => v = .bool ((s_l23Feed p_l)) ∧ Ex w w' := by
 have hol3 := o2.1
 refine Cal.of func86 rfl ntmps86 rfl (CW.seq (CW.region (sd rfl (yl_assign rfl rfl (dn (CW.seq (CW.seq (CW.region ?_))))))))
 refine sd rfl (yl_assign rfl rfl (dn (CW.block (CW.loop (fun m5 L6 w7 => ∃ (k4 : Nat), m5 = p_l.length - k4 ∧ k4 ≤ p_l.length ∧ w.heap.size ≤ w7.heap.size ∧ lkp L6 0 = some (.slice A1 p_l.length c1) ∧ lkp L6 3 = some (.int .i64 ((k4 : Int))) ∧ RdS w7 (Iv 0 w.heap.size) (RF e_FeedItem) 5 A1 p_l.length c1 p_l ∧ Ex w w7 ∧ loopM (B_s_l23Feed_0 p_l) (p_l.length - k4) k4 () = loopM (B_s_l23Feed_0 p_l) (p_l.length - 0) 0 ()) (p_l.length - 0) ?_ ?_))))
 ·exact ⟨0, rfl, (by omega), Nat.le_refl _, rfl, rfl, h1, (Ex.refl w), rfl⟩
 ·rintro m8 L9 w10 ⟨k4, rfl, hk11, hsz13, hl14, hl15, hf16, hf17, hI12⟩
  refine CW.sub (Sub.cons hl14 (Sub.cons hl15 (Sub.nil _))) ?_
  have hf17z := Ex.size hf17
  have hbg18 := RdS.big hf16
  rcases Nat.lt_or_ge k4 p_l.length with hlt19 | hlt19
  ·refine CW.seq (CW.seq (CW.region (sd rfl (yl_move rfl rfl (sd rfl (yl_move rfl rfl (sd rfl (yl_len un30 rfl rfl (sd rfl (yl_lss rfl rfl rfl (sd rfl (yl_move rfl rfl (sy rfl rfl (lt_t hlt19) (yl_move rfl rfl ?_))))))))))))))
   refine sy rfl rfl (lt_t hlt19) (yl_leq rfl rfl rfl (sd rfl (yl_pick_t rfl rfl (lt_t hlt19) rfl (dn (bcase (decide ((k4 : Int) ≤ 400)) (fun hb20 => ?_) (fun hb20 => ?_))))))
   ·have hb20p := dec_t hb20
    refine CW.cond_t rfl hb20 (CW.skip (tn (CW.seq (CW.block (CW.seq ?_)))))
    obtain ⟨eb21, eo21, _, _, _, ebl21, _, eR21, eC21⟩ := RdS.aD hf16 d_FeedItem (i := k4)
    obtain rfl := eR21
    have eC21 : Cells w10 eb21 (eo21 + k4 * 5) [.int .i64 ((p_l.getD k4 d_FeedItem).Time), .int .i64 ((p_l.getD k4 d_FeedItem).Group), .string (bs ((p_l.getD k4 d_FeedItem).Key)), .string (bs ((p_l.getD k4 d_FeedItem).Val)), .bool ((p_l.getD k4 d_FeedItem).Gone)] := eC21
    refine bcase (s_l23Good (p_l.getD k4 d_FeedItem)) (fun hb23 => ?_) (fun hb23 => ?_)
    ·obtain ⟨eb24, eo24, _, _, _, ebl24, _, eR24, eC24⟩ := RdS.aD hf16 d_FeedItem (i := k4)
     obtain rfl := eR24
     have eC24 : Cells w10 eb24 (eo24 + k4 * 5) [.int .i64 ((p_l.getD k4 d_FeedItem).Time), .int .i64 ((p_l.getD k4 d_FeedItem).Group), .string (bs ((p_l.getD k4 d_FeedItem).Key)), .string (bs ((p_l.getD k4 d_FeedItem).Val)), .bool ((p_l.getD k4 d_FeedItem).Gone)] := eC24
     refine bcase (decide (0 < (k4 : Int))) (fun hb26 => ?_) (fun hb26 => ?_)
     ·have hb26p := dec_t hb26
      obtain ⟨eb27, eo27, _, eA27, _, ebl27, _, eR27, eC27⟩ := RdS.aD hf16 d_FeedItem (i := k4)
      obtain rfl := eR27
      have eC27 : Cells w10 eb27 (eo27 + k4 * 5) [.int .i64 ((p_l.getD k4 d_FeedItem).Time), .int .i64 ((p_l.getD k4 d_FeedItem).Group), .string (bs ((p_l.getD k4 d_FeedItem).Key)), .string (bs ((p_l.getD k4 d_FeedItem).Val)), .bool ((p_l.getD k4 d_FeedItem).Gone)] := eC27
      obtain ⟨eb29, eo29, _, eA29, _, ebl29, _, eR29, eC29⟩ := RdS.atD hf16 d_FeedItem (i := (IntKind.wrap .i64 ((k4 : Int) - 1)).toNat) (by first | omega | assumption | (simp only [wI] at *; omega))
      obtain rfl := eR29
      have eC29 : Cells w10 eb29 (eo29 + ((IntKind.wrap .i64 ((k4 : Int) - 1)).toNat) * 5) [.int .i64 ((p_l.getD ((IntKind.wrap .i64 ((k4 : Int) - 1)).toNat) d_FeedItem).Time), .int .i64 ((p_l.getD ((IntKind.wrap .i64 ((k4 : Int) - 1)).toNat) d_FeedItem).Group), .string (bs ((p_l.getD ((IntKind.wrap .i64 ((k4 : Int) - 1)).toNat) d_FeedItem).Key)), .string (bs ((p_l.getD ((IntKind.wrap .i64 ((k4 : Int) - 1)).toNat) d_FeedItem).Val)), .bool ((p_l.getD ((IntKind.wrap .i64 ((k4 : Int) - 1)).toNat) d_FeedItem).Gone)] := eC29
      refine CW.drawsI 23 (vgetI ([.slice A1 p_l.length c1, .int .i64 ((k4 : Int)), .pointer (some ⟨eb27, eo27 + k4 * 5, none⟩), .agg #[.int .i64 ((p_l.getD k4 d_FeedItem).Time), .int .i64 ((p_l.getD k4 d_FeedItem).Group), .string (bs ((p_l.getD k4 d_FeedItem).Key)), .string (bs ((p_l.getD k4 d_FeedItem).Val)), .bool ((p_l.getD k4 d_FeedItem).Gone)], .bool ((s_l23Good (p_l.getD k4 d_FeedItem))), .bool (!(s_l23Good (p_l.getD k4 d_FeedItem))), .bool (!(s_l23Good (p_l.getD k4 d_FeedItem))), .int .i64 ((k4 : Int)), .bool (decide (0 < (k4 : Int))), .bool (decide (0 < (k4 : Int))), .slice A1 p_l.length c1, .int .i64 ((k4 : Int)), .int .i64 (IntKind.wrap .i64 ((k4 : Int) - 1)), .pointer (some ⟨eb29, eo29 + ((IntKind.wrap .i64 ((k4 : Int) - 1)).toNat) * 5, none⟩), .agg #[.int .i64 ((p_l.getD ((IntKind.wrap .i64 ((k4 : Int) - 1)).toNat) d_FeedItem).Time), .int .i64 ((p_l.getD ((IntKind.wrap .i64 ((k4 : Int) - 1)).toNat) d_FeedItem).Group), .string (bs ((p_l.getD ((IntKind.wrap .i64 ((k4 : Int) - 1)).toNat) d_FeedItem).Key)), .string (bs ((p_l.getD ((IntKind.wrap .i64 ((k4 : Int) - 1)).toNat) d_FeedItem).Val)), .bool ((p_l.getD ((IntKind.wrap .i64 ((k4 : Int) - 1)).toNat) d_FeedItem).Gone)], .slice A1 p_l.length c1, .int .i64 ((k4 : Int)), .pointer (some ⟨eb27, eo27 + k4 * 5, none⟩), .agg #[.int .i64 ((p_l.getD k4 d_FeedItem).Time), .int .i64 ((p_l.getD k4 d_FeedItem).Group), .string (bs ((p_l.getD k4 d_FeedItem).Key)), .string (bs ((p_l.getD k4 d_FeedItem).Val)), .bool ((p_l.getD k4 d_FeedItem).Gone)], .bool ((s_l23Ahead (p_l.getD ((IntKind.wrap .i64 ((k4 : Int) - 1)).toNat) d_FeedItem) (p_l.getD k4 d_FeedItem))), .bool (!(s_l23Ahead (p_l.getD ((IntKind.wrap .i64 ((k4 : Int) - 1)).toNat) d_FeedItem) (p_l.getD k4 d_FeedItem))), .bool (!(s_l23Ahead (p_l.getD ((IntKind.wrap .i64 ((k4 : Int) - 1)).toNat) d_FeedItem) (p_l.getD k4 d_FeedItem))), .bool (!(s_l23Ahead (p_l.getD ((IntKind.wrap .i64 ((k4 : Int) - 1)).toNat) d_FeedItem) (p_l.getD k4 d_FeedItem)))].map DetI)) Try.follows rfl rfl rfl rfl rfl rfl (vgetI_stable (stD _)) ⟨?_, ?_, ?_, ?_, ?_, ?_, ?_, ?_, ?_, ?_, ?_, ?_, ?_, ?_, ?_, ?_, ?_, ?_, ?_, ?_, ?_, ?_, ?_, trivial⟩ ?_
      ·exact oI rfl fun h => yl_move rfl (h.old 0 _ rfl rfl) kI
      ·exact oI rfl fun h => yl_move rfl (h.old 3 _ rfl rfl) kI
      ·intro L41 w42 hi43
       have hE44 := hi43.ex
       have hE44z := Ex.size hE44
       exact os rfl ((yl_ixN un30 ty63 rfl (hi43.dt 0 14 rfl rfl rfl) (hi43.dt 1 15 rfl rfl rfl) eA27 kI))
      ·exact oI rfl fun h => yl_loadN ty63 rfl (h.dt 2 16 rfl rfl rfl) (Cells.ex eC27 h.ex) rfl kI
      ·intro L53 w54 hi55
       exact OpR.op' rfl (yl_call en104 rfl (oc (hi55.dt 3 17 rfl rfl rfl) oz) (Cal.mono (c_s_l23Good (p_l.getD k4 d_FeedItem) (okL.getD o2 ok_d_FeedItem _)) fun _ _ h => h))
      ·exact oI rfl fun h => yl_not rfl (h.dt 4 18 rfl rfl rfl) kI
      ·exact oI rfl fun h => yl_move rfl (h.dt 5 19 rfl rfl rfl) kI
      ·exact oW rfl rfl rfl rfl (not_t hb23) fun h => yl_move rfl (h.old 3 _ rfl rfl) kI
      ·exact oW rfl rfl rfl rfl (not_t hb23) fun h => yl_gtr rfl (h.dt 7 21 rfl rfl rfl) rfl kI
      ·exact oW rfl rfl rfl rfl (not_t hb23) fun h => yl_move rfl (h.dt 8 22 rfl rfl rfl) kI
      ·exact oW rfl rfl rfl rfl hb26 fun h => yl_move rfl (h.old 0 _ rfl rfl) kI
      ·exact oW rfl rfl rfl rfl hb26 fun h => yl_move rfl (h.old 3 _ rfl rfl) kI
      ·exact oW rfl rfl rfl rfl hb26 fun h => yl_sub rfl (h.dt 11 25 rfl rfl rfl) rfl kI
      ·intro L107 w108 hi109
       have hE110 := hi109.ex
       have hE110z := Ex.size hE110
       exact OpR.want rfl rfl (hi109.dt 9 23 rfl rfl rfl) hb26 (Yl.sameI (yl_indexAddr un30 ty63 rfl (hi109.dt 10 24 rfl rfl rfl) (hi109.dt 12 26 rfl rfl rfl) eA29 (by first | omega | assumption | (simp only [wI] at *; omega)) (by first | omega | assumption | (simp only [wI] at *; omega)) kI))
      ·exact oW rfl rfl rfl rfl hb26 fun h => yl_loadN ty63 rfl (h.dt 13 27 rfl rfl rfl) (Cells.ex eC29 h.ex) rfl kI
      ·exact oW rfl rfl rfl rfl hb26 fun h => yl_move rfl (h.old 0 _ rfl rfl) kI
      ·exact oW rfl rfl rfl rfl hb26 fun h => yl_move rfl (h.old 3 _ rfl rfl) kI
      ·intro L133 w134 hi135
       have hE136 := hi135.ex
       have hE136z := Ex.size hE136
       exact OpR.want rfl rfl (hi135.dt 9 23 rfl rfl rfl) hb26 (Yl.sameI (yl_ixN un30 ty63 rfl (hi135.dt 15 29 rfl rfl rfl) (hi135.dt 16 30 rfl rfl rfl) eA27 kI))
      ·exact oW rfl rfl rfl rfl hb26 fun h => yl_loadN ty63 rfl (h.dt 17 31 rfl rfl rfl) (Cells.ex eC27 h.ex) rfl kI
      ·intro L147 w148 hi149
       exact OpR.want rfl rfl (hi149.dt 9 23 rfl rfl rfl) hb26 (yl_call en105 rfl (oc (hi149.dt 14 28 rfl rfl rfl) (oc (hi149.dt 18 32 rfl rfl rfl) oz)) (Cal.mono (c_s_l23Ahead (p_l.getD ((IntKind.wrap .i64 ((k4 : Int) - 1)).toNat) d_FeedItem) (p_l.getD k4 d_FeedItem) (okL.getD o2 ok_d_FeedItem _) (okL.getD o2 ok_d_FeedItem _)) fun _ _ h => h))
      ·exact oW rfl rfl rfl rfl hb26 fun h => yl_not rfl (h.dt 19 33 rfl rfl rfl) kI
      ·exact oW rfl rfl rfl rfl (not_t hb23) fun h => yl_pick_t rfl (h.dt 9 23 rfl rfl rfl) hb26 (h.dt 20 34 rfl rfl rfl) kI
      ·exact oI rfl fun h => yl_pick_f rfl (h.dt 6 20 rfl rfl rfl) (not_t hb23) (h.dt 21 35 rfl rfl rfl) kI
      ·intro fl179 fh180 L176 w177 hp178
       have hE181 := hp178.ex
       have hE181z := Ex.size hE181
       refine dn (CW.sub (Sub.cons (d := 0) (hp178.old 0 _ rfl rfl) (Sub.cons (d := 3) (hp178.old 3 _ rfl rfl) (Sub.cons (d := 9) (hp178.old 9 _ rfl rfl) (Sub.cons (d := 10) (hp178.old 10 _ rfl rfl) (Sub.cons (d := 21) (hp178.nt 7 21 rfl rfl rfl) (Sub.cons (d := 22) (hp178.nt 8 22 rfl rfl rfl) (Sub.cons (d := 23) (hp178.nt 9 23 rfl rfl rfl) (Sub.cons (d := 24) (hp178.nt 10 24 rfl rfl rfl) (Sub.cons (d := 25) (hp178.nt 11 25 rfl rfl rfl) (Sub.cons (d := 26) (hp178.nt 12 26 rfl rfl rfl) (Sub.cons (d := 27) (hp178.nt 13 27 rfl rfl rfl) (Sub.cons (d := 28) (hp178.nt 14 28 rfl rfl rfl) (Sub.cons (d := 29) (hp178.nt 15 29 rfl rfl rfl) (Sub.cons (d := 30) (hp178.nt 16 30 rfl rfl rfl) (Sub.cons (d := 31) (hp178.nt 17 31 rfl rfl rfl) (Sub.cons (d := 32) (hp178.nt 18 32 rfl rfl rfl) (Sub.cons (d := 33) (hp178.nt 19 33 rfl rfl rfl) (Sub.cons (d := 34) (hp178.nt 20 34 rfl rfl rfl) (Sub.cons (d := 35) (hp178.nt 21 35 rfl rfl rfl) (Sub.cons (d := 36) (hp178.nt 22 36 rfl rfl rfl) (Sub.nil _))))))))))))))))))))) (bcase (s_l23Ahead (p_l.getD ((IntKind.wrap .i64 ((k4 : Int) - 1)).toNat) d_FeedItem) (p_l.getD k4 d_FeedItem)) (fun hb202 => ?_) (fun hb202 => ?_)))
       ·refine CW.cond_f rfl (not_t hb202) (CW.skip (bn (tn (CW.region (sd rfl (yl_move rfl rfl (sd rfl (yl_inc rfl rfl rfl (by omega) (sd rfl (yl_assign rfl rfl (SeqR.done ?_)))))))))))
        refine tn ?_
        have hB203 : B_s_l23Feed_0 p_l k4 () = .cont () := by simp only [B_s_l23Feed_0, hb20, hb23, hb26, hb202, cL]
        exact ⟨p_l.length - (k4 + 1), by omega, k4 + 1, rfl, hlt19, (by omega), rfl, rfl, (RdS.ex good_FeedItem hf16 hE181), (Ex.trans hf17 hE181), (loopM.cont hlt19 hB203).symm.trans hI12⟩
       ·refine CW.cond_t rfl (not_f hb202) (CW.seq (CW.region (sd rfl (yl_assign rfl rfl (dn (CW.ret (br (tr ?_))))))))
        refine tr ?_
        have hB207 : B_s_l23Feed_0 p_l k4 () = .ret false := by simp only [B_s_l23Feed_0, hb20, hb23, hb26, hb202, cL]
        have hL206 : loopM (B_s_l23Feed_0 p_l) (p_l.length - 0) 0 () = .ret false := hI12.symm.trans (loopM.ret hlt19 hB207)
        refine br (tr (rr rfl (.cons rfl .nil) ?_))
        have hM208 : (s_l23Feed p_l) = (false) := by simp only [s_l23Feed, hb20, hb23, hb26, hb202, hL206, cL]
        rw [hM208]
        exact ⟨rfl, (Ex.trans hf17 hE181)⟩
     ·have hb26p := dec_f hb26
      obtain ⟨eb210, eo210, _, eA210, _, ebl210, _, eR210, eC210⟩ := RdS.aD hf16 d_FeedItem (i := k4)
      obtain rfl := eR210
      have eC210 : Cells w10 eb210 (eo210 + k4 * 5) [.int .i64 ((p_l.getD k4 d_FeedItem).Time), .int .i64 ((p_l.getD k4 d_FeedItem).Group), .string (bs ((p_l.getD k4 d_FeedItem).Key)), .string (bs ((p_l.getD k4 d_FeedItem).Val)), .bool ((p_l.getD k4 d_FeedItem).Gone)] := eC210
      refine CW.drawsI 23 (vgetI ([.slice A1 p_l.length c1, .int .i64 ((k4 : Int)), .pointer (some ⟨eb210, eo210 + k4 * 5, none⟩), .agg #[.int .i64 ((p_l.getD k4 d_FeedItem).Time), .int .i64 ((p_l.getD k4 d_FeedItem).Group), .string (bs ((p_l.getD k4 d_FeedItem).Key)), .string (bs ((p_l.getD k4 d_FeedItem).Val)), .bool ((p_l.getD k4 d_FeedItem).Gone)], .bool ((s_l23Good (p_l.getD k4 d_FeedItem))), .bool (!(s_l23Good (p_l.getD k4 d_FeedItem))), .bool (!(s_l23Good (p_l.getD k4 d_FeedItem))), .int .i64 ((k4 : Int)), .bool (decide (0 < (k4 : Int))), .bool (decide (0 < (k4 : Int))), undef, undef, undef, undef, undef, undef, undef, undef, undef, undef, undef, .bool (false), .bool (false)].map DetI)) Try.follows rfl rfl rfl rfl rfl rfl (vgetI_stable (stD _)) ⟨?_, ?_, ?_, ?_, ?_, ?_, ?_, ?_, ?_, ?_, ?_, ?_, ?_, ?_, ?_, ?_, ?_, ?_, ?_, ?_, ?_, ?_, ?_, trivial⟩ ?_
      ·exact oI rfl fun h => yl_move rfl (h.old 0 _ rfl rfl) kI
      ·exact oI rfl fun h => yl_move rfl (h.old 3 _ rfl rfl) kI
      ·intro L222 w223 hi224
       have hE225 := hi224.ex
       have hE225z := Ex.size hE225
       exact os rfl ((yl_ixN un30 ty63 rfl (hi224.dt 0 14 rfl rfl rfl) (hi224.dt 1 15 rfl rfl rfl) eA210 kI))
      ·exact oI rfl fun h => yl_loadN ty63 rfl (h.dt 2 16 rfl rfl rfl) (Cells.ex eC210 h.ex) rfl kI
      ·intro L234 w235 hi236
       exact OpR.op' rfl (yl_call en104 rfl (oc (hi236.dt 3 17 rfl rfl rfl) oz) (Cal.mono (c_s_l23Good (p_l.getD k4 d_FeedItem) (okL.getD o2 ok_d_FeedItem _)) fun _ _ h => h))
      ·exact oI rfl fun h => yl_not rfl (h.dt 4 18 rfl rfl rfl) kI
      ·exact oI rfl fun h => yl_move rfl (h.dt 5 19 rfl rfl rfl) kI
      ·exact oW rfl rfl rfl rfl (not_t hb23) fun h => yl_move rfl (h.old 3 _ rfl rfl) kI
      ·exact oW rfl rfl rfl rfl (not_t hb23) fun h => yl_gtr rfl (h.dt 7 21 rfl rfl rfl) rfl kI
      ·exact oW rfl rfl rfl rfl (not_t hb23) fun h => yl_move rfl (h.dt 8 22 rfl rfl rfl) kI
      ·exact oS rfl rfl rfl rfl rfl hb26
      ·exact oS rfl rfl rfl rfl rfl hb26
      ·exact oS rfl rfl rfl rfl rfl hb26
      ·exact oS rfl rfl rfl rfl rfl hb26
      ·exact oS rfl rfl rfl rfl rfl hb26
      ·exact oS rfl rfl rfl rfl rfl hb26
      ·exact oS rfl rfl rfl rfl rfl hb26
      ·exact oS rfl rfl rfl rfl rfl hb26
      ·exact oS rfl rfl rfl rfl rfl hb26
      ·exact oS rfl rfl rfl rfl rfl hb26
      ·exact oS rfl rfl rfl rfl rfl hb26
      ·exact oW rfl rfl rfl rfl (not_t hb23) fun h => yl_pick_f rfl (h.dt 9 23 rfl rfl rfl) hb26 rfl kI
      ·exact oI rfl fun h => yl_pick_f rfl (h.dt 6 20 rfl rfl rfl) (not_t hb23) (h.dt 21 35 rfl rfl rfl) kI
      ·intro fl341 fh342 L338 w339 hp340
       have hE343 := hp340.ex
       have hE343z := Ex.size hE343
       refine dn (CW.sub (Sub.cons (d := 0) (hp340.old 0 _ rfl rfl) (Sub.cons (d := 3) (hp340.old 3 _ rfl rfl) (Sub.cons (d := 9) (hp340.old 9 _ rfl rfl) (Sub.cons (d := 10) (hp340.old 10 _ rfl rfl) (Sub.cons (d := 21) (hp340.nt 7 21 rfl rfl rfl) (Sub.cons (d := 22) (hp340.nt 8 22 rfl rfl rfl) (Sub.cons (d := 23) (hp340.nt 9 23 rfl rfl rfl) (Sub.cons (d := 24) (hp340.nt 10 24 rfl rfl rfl) (Sub.cons (d := 25) (hp340.nt 11 25 rfl rfl rfl) (Sub.cons (d := 26) (hp340.nt 12 26 rfl rfl rfl) (Sub.cons (d := 27) (hp340.nt 13 27 rfl rfl rfl) (Sub.cons (d := 28) (hp340.nt 14 28 rfl rfl rfl) (Sub.cons (d := 29) (hp340.nt 15 29 rfl rfl rfl) (Sub.cons (d := 30) (hp340.nt 16 30 rfl rfl rfl) (Sub.cons (d := 31) (hp340.nt 17 31 rfl rfl rfl) (Sub.cons (d := 32) (hp340.nt 18 32 rfl rfl rfl) (Sub.cons (d := 33) (hp340.nt 19 33 rfl rfl rfl) (Sub.cons (d := 34) (hp340.nt 20 34 rfl rfl rfl) (Sub.cons (d := 35) (hp340.nt 21 35 rfl rfl rfl) (Sub.cons (d := 36) (hp340.nt 22 36 rfl rfl rfl) (Sub.nil _))))))))))))))))))))) (CW.cond_f rfl rfl (CW.skip (bn (tn (CW.region (sd rfl (yl_move rfl rfl ?_))))))))
       refine sd rfl (yl_inc rfl rfl rfl (by omega) (sd rfl (yl_assign rfl rfl (dn ?_))))
       have hB364 : B_s_l23Feed_0 p_l k4 () = .cont () := by simp only [B_s_l23Feed_0, hb20, hb23, hb26, cL]
       exact ⟨p_l.length - (k4 + 1), by omega, k4 + 1, rfl, hlt19, (by omega), rfl, rfl, (RdS.ex good_FeedItem hf16 hE343), (Ex.trans hf17 hE343), (loopM.cont hlt19 hB364).symm.trans hI12⟩
    ·obtain ⟨eb367, eo367, _, eA367, _, ebl367, _, eR367, eC367⟩ := RdS.aD hf16 d_FeedItem (i := k4)
     obtain rfl := eR367
     have eC367 : Cells w10 eb367 (eo367 + k4 * 5) [.int .i64 ((p_l.getD k4 d_FeedItem).Time), .int .i64 ((p_l.getD k4 d_FeedItem).Group), .string (bs ((p_l.getD k4 d_FeedItem).Key)), .string (bs ((p_l.getD k4 d_FeedItem).Val)), .bool ((p_l.getD k4 d_FeedItem).Gone)] := eC367
     refine CW.drawsI 23 (vgetI ([.slice A1 p_l.length c1, .int .i64 ((k4 : Int)), .pointer (some ⟨eb367, eo367 + k4 * 5, none⟩), .agg #[.int .i64 ((p_l.getD k4 d_FeedItem).Time), .int .i64 ((p_l.getD k4 d_FeedItem).Group), .string (bs ((p_l.getD k4 d_FeedItem).Key)), .string (bs ((p_l.getD k4 d_FeedItem).Val)), .bool ((p_l.getD k4 d_FeedItem).Gone)], .bool ((s_l23Good (p_l.getD k4 d_FeedItem))), .bool (!(s_l23Good (p_l.getD k4 d_FeedItem))), .bool (!(s_l23Good (p_l.getD k4 d_FeedItem))), undef, undef, undef, undef, undef, undef, undef, undef, undef, undef, undef, undef, undef, undef, undef, .bool (true)].map DetI)) Try.follows rfl rfl rfl rfl rfl rfl (vgetI_stable (stD _)) ⟨?_, ?_, ?_, ?_, ?_, ?_, ?_, ?_, ?_, ?_, ?_, ?_, ?_, ?_, ?_, ?_, ?_, ?_, ?_, ?_, ?_, ?_, ?_, trivial⟩ ?_
     ·exact oI rfl fun h => yl_move rfl (h.old 0 _ rfl rfl) kI
     ·exact oI rfl fun h => yl_move rfl (h.old 3 _ rfl rfl) kI
     ·intro L379 w380 hi381
      have hE382 := hi381.ex
      have hE382z := Ex.size hE382
      exact os rfl ((yl_ixN un30 ty63 rfl (hi381.dt 0 14 rfl rfl rfl) (hi381.dt 1 15 rfl rfl rfl) eA367 kI))
     ·exact oI rfl fun h => yl_loadN ty63 rfl (h.dt 2 16 rfl rfl rfl) (Cells.ex eC367 h.ex) rfl kI
     ·intro L391 w392 hi393
      exact OpR.op' rfl (yl_call en104 rfl (oc (hi393.dt 3 17 rfl rfl rfl) oz) (Cal.mono (c_s_l23Good (p_l.getD k4 d_FeedItem) (okL.getD o2 ok_d_FeedItem _)) fun _ _ h => h))
     ·exact oI rfl fun h => yl_not rfl (h.dt 4 18 rfl rfl rfl) kI
     ·exact oI rfl fun h => yl_move rfl (h.dt 5 19 rfl rfl rfl) kI
     ·exact oS rfl rfl rfl rfl rfl (not_f hb23)
     ·exact oS rfl rfl rfl rfl rfl (not_f hb23)
     ·exact oS rfl rfl rfl rfl rfl (not_f hb23)
     ·exact oU rfl rfl rfl rfl rfl
     ·exact oU rfl rfl rfl rfl rfl
     ·exact oU rfl rfl rfl rfl rfl
     ·exact oU rfl rfl rfl rfl rfl
     ·exact oU rfl rfl rfl rfl rfl
     ·exact oU rfl rfl rfl rfl rfl
     ·exact oU rfl rfl rfl rfl rfl
     ·exact oU rfl rfl rfl rfl rfl
     ·exact oU rfl rfl rfl rfl rfl
     ·exact oU rfl rfl rfl rfl rfl
     ·exact oU rfl rfl rfl rfl rfl
     ·exact oS rfl rfl rfl rfl rfl (not_f hb23)
     ·exact oI rfl fun h => yl_pick_t rfl (h.dt 6 20 rfl rfl rfl) (not_f hb23) rfl kI
     ·intro fl493 fh494 L490 w491 hp492
      have hE495 := hp492.ex
      have hE495z := Ex.size hE495
      refine dn (CW.sub (Sub.cons (d := 0) (hp492.old 0 _ rfl rfl) (Sub.cons (d := 3) (hp492.old 3 _ rfl rfl) (Sub.cons (d := 9) (hp492.old 9 _ rfl rfl) (Sub.cons (d := 10) (hp492.old 10 _ rfl rfl) (Sub.cons (d := 21) (hp492.nt 7 21 rfl rfl rfl) (Sub.cons (d := 22) (hp492.nt 8 22 rfl rfl rfl) (Sub.cons (d := 23) (hp492.nt 9 23 rfl rfl rfl) (Sub.cons (d := 24) (hp492.nt 10 24 rfl rfl rfl) (Sub.cons (d := 25) (hp492.nt 11 25 rfl rfl rfl) (Sub.cons (d := 26) (hp492.nt 12 26 rfl rfl rfl) (Sub.cons (d := 27) (hp492.nt 13 27 rfl rfl rfl) (Sub.cons (d := 28) (hp492.nt 14 28 rfl rfl rfl) (Sub.cons (d := 29) (hp492.nt 15 29 rfl rfl rfl) (Sub.cons (d := 30) (hp492.nt 16 30 rfl rfl rfl) (Sub.cons (d := 31) (hp492.nt 17 31 rfl rfl rfl) (Sub.cons (d := 32) (hp492.nt 18 32 rfl rfl rfl) (Sub.cons (d := 33) (hp492.nt 19 33 rfl rfl rfl) (Sub.cons (d := 34) (hp492.nt 20 34 rfl rfl rfl) (Sub.cons (d := 35) (hp492.nt 21 35 rfl rfl rfl) (Sub.cons (d := 36) (hp492.nt 22 36 rfl rfl rfl) (Sub.nil _))))))))))))))))))))) (CW.cond_t rfl rfl (CW.seq (CW.region (sd rfl (yl_assign rfl rfl (dn ?_)))))))
      refine CW.ret (br (tr (tr ?_)))
      have hB517 : B_s_l23Feed_0 p_l k4 () = .ret false := by simp only [B_s_l23Feed_0, hb20, hb23, cL]
      have hL516 : loopM (B_s_l23Feed_0 p_l) (p_l.length - 0) 0 () = .ret false := hI12.symm.trans (loopM.ret hlt19 hB517)
      refine br (tr (rr rfl (.cons rfl .nil) ?_))
      have hM518 : (s_l23Feed p_l) = (false) := by simp only [s_l23Feed, hb20, hb23, hL516, cL]
      rw [hM518]
      exact ⟨rfl, (Ex.trans hf17 hE495)⟩
   ·have hb20p := dec_f hb20
    refine CW.cond_f rfl hb20 (CW.exit (tx (tx ?_)))
    have hB521 : B_s_l23Feed_0 p_l k4 () = .brk () := by simp only [B_s_l23Feed_0, hb20, cL]
    have hL520 : loopM (B_s_l23Feed_0 p_l) (p_l.length - 0) 0 () = .done () := hI12.symm.trans (loopM.brk hlt19 hB521)
    refine bx (tn (CW.seq (CW.region (sd rfl (yl_move rfl rfl (sd rfl (yl_len un30 rfl rfl (sd rfl (yl_leq rfl rfl rfl (sd rfl (yl_assign rfl rfl (SeqR.done ?_))))))))))))
    refine tn (CW.ret (rr rfl (.cons rfl .nil) ?_))
    have hM522 : (s_l23Feed p_l) = (decide ((p_l.length : Int) ≤ 400)) := by simp only [s_l23Feed, hb20, hL520, cL]
    rw [hM522]
    exact ⟨rfl, hf17⟩
  ·refine CW.seq (CW.seq (CW.region (sd rfl (yl_move rfl rfl (sd rfl (yl_move rfl rfl (sd rfl (yl_len un30 rfl rfl (sd rfl (yl_lss rfl rfl rfl (sd rfl (yl_move rfl rfl (sz rfl rfl (lt_f hlt19) ?_)))))))))))))
   refine sz rfl rfl (lt_f hlt19) (sd rfl (yl_pick_f rfl rfl (lt_f hlt19) rfl (dn (CW.cond_f rfl rfl (CW.exit (tx (tx ?_)))))))
   have hL523 : loopM (B_s_l23Feed_0 p_l) (p_l.length - 0) 0 () = .done () := hI12.symm.trans (loopM.stop hlt19)
   refine bx (tn (CW.seq (CW.region (sd rfl (yl_move rfl rfl (sd rfl (yl_len un30 rfl rfl (sd rfl (yl_leq rfl rfl rfl (sd rfl (yl_assign rfl rfl (SeqR.done ?_))))))))))))
   refine tn (CW.ret (rr rfl (.cons rfl .nil) ?_))
   have hM524 : (s_l23Feed p_l) = (decide ((p_l.length : Int) ≤ 400)) := by simp only [s_l23Feed, hL523, cL]
   rw [hM524]
   exact ⟨rfl, hf17⟩
theorem c_s_l31Diff {A1 : Option Addr} {c1 : Nat} {w : World} (p_d : DDiff) (h1 : RdS w (Iv 0 w.heap.size) (RF e_FeedItem) 5 A1 p_d.List.length c1 p_d.List) (o2 : ok_Diff p_d) : Cal Try.prog 62 #[.agg #[.int .i64 (p_d.From), .int .i64 (p_d.To), .slice A1 p_d.List.length c1]] w fun v w' => v = .bool ((s_l31Diff p_d)) ∧ Ex w w' := by
 have hol3 := o2.1
 refine Cal.of func62 rfl ntmps62 rfl (CW.seq (CW.region (sd rfl (yl_box rfl rfl rfl ?_))))
 intro b4 w5 hs6 hz7 hB8 hE9
 refine sd rfl (yl_assign rfl rfl (dn (CW.seq (CW.seq (CW.region (sd rfl (yl_assign rfl rfl (dn ?_))))))))
 refine CW.block (CW.loop (fun m11 L12 w13 => ∃ (k10 : Nat), m11 = p_d.List.length - k10 ∧ k10 ≤ p_d.List.length ∧ w5.heap.size ≤ w13.heap.size ∧ lkp L12 1 = some (.pointer (some ⟨b4, 0, none⟩)) ∧ lkp L12 3 = some (.int .i64 ((k10 : Int))) ∧ Box w13 b4 32 [.int .i64 (p_d.From), .int .i64 (p_d.To), .slice A1 p_d.List.length c1] ∧ RdS w13 (Iv 0 w.heap.size) (RF e_FeedItem) 5 A1 p_d.List.length c1 p_d.List ∧ Ex w w13 ∧ loopM (B_s_l31Diff_0 p_d) (p_d.List.length - k10) k10 () = loopM (B_s_l31Diff_0 p_d) (p_d.List.length - 0) 0 ()) (p_d.List.length - 0) ?_ ?_)
 ·exact ⟨0, rfl, (by omega), Nat.le_refl _, rfl, rfl, hB8, (RdS.ex good_FeedItem h1 hE9), (Ex.trans (Ex.refl w) hE9), rfl⟩
 ·rintro m16 L17 w18 ⟨k10, rfl, hk19, hsz21, hl22, hl23, hf24, hf25, hf26, hI20⟩
  refine CW.sub (Sub.cons hl22 (Sub.cons hl23 (Sub.nil _))) ?_
  have hf24z := Box.lt hf24
  have hf26z := Ex.size hf26
  have hbg27 := RdS.big hf25
  rcases Nat.lt_or_ge k10 p_d.List.length with hlt28 | hlt28
  ·refine CW.seq (CW.seq (CW.region (sd rfl (yl_move rfl rfl (sd rfl (yl_fieldAddr fd32_2 rfl rfl (sd rfl (yl_load1 ty30 rfl rfl ((hf24.cell 2).trans rfl) (sd rfl (yl_len un30 rfl rfl (sd rfl (yl_lss rfl rfl rfl (SeqR.done ?_)))))))))))))
   refine tn (CW.cond_t rfl (lt_t hlt28) (CW.skip (tn (CW.seq (CW.block (CW.seq ?_))))))
   obtain ⟨eb29, eo29, _, _, _, ebl29, _, eR29, eC29⟩ := RdS.aD hf25 d_FeedItem (i := k10)
   obtain rfl := eR29
   have eC29 : Cells w18 eb29 (eo29 + k10 * 5) [.int .i64 ((p_d.List.getD k10 d_FeedItem).Time), .int .i64 ((p_d.List.getD k10 d_FeedItem).Group), .string (bs ((p_d.List.getD k10 d_FeedItem).Key)), .string (bs ((p_d.List.getD k10 d_FeedItem).Val)), .bool ((p_d.List.getD k10 d_FeedItem).Gone)] := eC29
   refine bcase (decide (((p_d.List.getD k10 d_FeedItem).Group) = 0)) (fun hb30 => ?_) (fun hb30 => ?_)
   ·have hb30p := dec_t hb30
    obtain ⟨eb31, eo31, _, eA31, _, ebl31, _, eR31, eC31⟩ := RdS.aD hf25 d_FeedItem (i := k10)
    obtain rfl := eR31
    have eC31 : Cells w18 eb31 (eo31 + k10 * 5) [.int .i64 ((p_d.List.getD k10 d_FeedItem).Time), .int .i64 ((p_d.List.getD k10 d_FeedItem).Group), .string (bs ((p_d.List.getD k10 d_FeedItem).Key)), .string (bs ((p_d.List.getD k10 d_FeedItem).Val)), .bool ((p_d.List.getD k10 d_FeedItem).Gone)] := eC31
    refine CW.drawsI 22 (vgetI ([.pointer (some ⟨b4, 0 + 2, none⟩), .slice A1 p_d.List.length c1, .int .i64 ((k10 : Int)), .pointer (some ⟨eb31, eo31 + k10 * 5, none⟩), .pointer (some ⟨eb31, eo31 + k10 * 5 + 1, none⟩), .int .i64 ((p_d.List.getD k10 d_FeedItem).Group), .bool (!(decide (((p_d.List.getD k10 d_FeedItem).Group) = 0))), .bool (!(decide (((p_d.List.getD k10 d_FeedItem).Group) = 0))), .pointer (some ⟨b4, 0 + 2, none⟩), .slice A1 p_d.List.length c1, .int .i64 ((k10 : Int)), .pointer (some ⟨eb31, eo31 + k10 * 5, none⟩), .pointer (some ⟨eb31, eo31 + k10 * 5 + 0, none⟩), .int .i64 ((p_d.List.getD k10 d_FeedItem).Time), .pointer (some ⟨b4, 0 + 0, none⟩), .int .i64 (p_d.From), .int .i64 (IntKind.wrap .i64 (p_d.From + 1)), .pointer (some ⟨b4, 0 + 1, none⟩), .int .i64 (p_d.To), .bool ((s_l1In ((p_d.List.getD k10 d_FeedItem).Time) (IntKind.wrap .i64 (p_d.From + 1)) p_d.To)), .bool (!(s_l1In ((p_d.List.getD k10 d_FeedItem).Time) (IntKind.wrap .i64 (p_d.From + 1)) p_d.To)), .bool (!(s_l1In ((p_d.List.getD k10 d_FeedItem).Time) (IntKind.wrap .i64 (p_d.From + 1)) p_d.To))].map DetI)) Try.follows rfl rfl rfl rfl rfl rfl (vgetI_stable (stD _)) ⟨?_, ?_, ?_, ?_, ?_, ?_, ?_, ?_, ?_, ?_, ?_, ?_, ?_, ?_, ?_, ?_, ?_, ?_, ?_, ?_, ?_, ?_, trivial⟩ ?_
    ·exact oI rfl fun h => yl_fieldAddr fd32_2 rfl (h.old 1 _ rfl rfl) kI
    ·exact oI rfl fun h => yl_load1 ty30 rfl (h.dt 0 11 rfl rfl rfl) (((Box.ex hf24 h.ex).cell 2).trans rfl) kI
    ·exact oI rfl fun h => yl_move rfl (h.old 3 _ rfl rfl) kI
    ·intro L49 w50 hi51
     have hE52 := hi51.ex
     have hE52z := Ex.size hE52
     exact os rfl ((yl_ixN un30 ty63 rfl (hi51.dt 1 12 rfl rfl rfl) (hi51.dt 2 13 rfl rfl rfl) eA31 kI))
    ·exact oI rfl fun h => yl_fieldAddr fd63_1 rfl (h.dt 3 14 rfl rfl rfl) kI
    ·exact oI rfl fun h => yl_load1 ty3 rfl (h.dt 4 15 rfl rfl rfl) ((Cells.ex eC31 h.ex) 1 _ rfl) kI
    ·exact oI rfl fun h => yl_neq rfl (h.dt 5 16 rfl rfl rfl) rfl kI
    ·exact oI rfl fun h => yl_move rfl (h.dt 6 17 rfl rfl rfl) kI
    ·exact oW rfl rfl rfl rfl (not_t hb30) fun h => yl_fieldAddr fd32_2 rfl (h.old 1 _ rfl rfl) kI
    ·exact oW rfl rfl rfl rfl (not_t hb30) fun h => yl_load1 ty30 rfl (h.dt 8 19 rfl rfl rfl) (((Box.ex hf24 h.ex).cell 2).trans rfl) kI
    ·exact oW rfl rfl rfl rfl (not_t hb30) fun h => yl_move rfl (h.old 3 _ rfl rfl) kI
    ·intro L95 w96 hi97
     have hE98 := hi97.ex
     have hE98z := Ex.size hE98
     exact OpR.want rfl rfl (hi97.dt 7 18 rfl rfl rfl) (not_t hb30) (Yl.sameI (yl_ixN un30 ty63 rfl (hi97.dt 9 20 rfl rfl rfl) (hi97.dt 10 21 rfl rfl rfl) eA31 kI))
    ·exact oW rfl rfl rfl rfl (not_t hb30) fun h => yl_fieldAddr fd63_0 rfl (h.dt 11 22 rfl rfl rfl) kI
    ·exact oW rfl rfl rfl rfl (not_t hb30) fun h => yl_load1 ty3 rfl (h.dt 12 23 rfl rfl rfl) ((Cells.ex eC31 h.ex) 0 _ rfl) kI
    ·exact oW rfl rfl rfl rfl (not_t hb30) fun h => yl_fieldAddr fd32_0 rfl (h.old 1 _ rfl rfl) kI
    ·exact oW rfl rfl rfl rfl (not_t hb30) fun h => yl_load1 ty3 rfl (h.dt 14 25 rfl rfl rfl) (((Box.ex hf24 h.ex).cell 0).trans rfl) kI
    ·exact oW rfl rfl rfl rfl (not_t hb30) fun h => yl_add rfl (h.dt 15 26 rfl rfl rfl) rfl kI
    ·exact oW rfl rfl rfl rfl (not_t hb30) fun h => yl_fieldAddr fd32_1 rfl (h.old 1 _ rfl rfl) kI
    ·exact oW rfl rfl rfl rfl (not_t hb30) fun h => yl_load1 ty3 rfl (h.dt 17 28 rfl rfl rfl) (((Box.ex hf24 h.ex).cell 1).trans rfl) kI
    ·intro L147 w148 hi149
     exact OpR.want rfl rfl (hi149.dt 7 18 rfl rfl rfl) (not_t hb30) (yl_call en80 rfl (oc (hi149.dt 13 24 rfl rfl rfl) (oc (hi149.dt 16 27 rfl rfl rfl) (oc (hi149.dt 18 29 rfl rfl rfl) oz))) (Cal.mono (c_s_l1In ((p_d.List.getD k10 d_FeedItem).Time) (IntKind.wrap .i64 (p_d.From + 1)) p_d.To) fun _ _ h => h))
    ·exact oW rfl rfl rfl rfl (not_t hb30) fun h => yl_not rfl (h.dt 19 30 rfl rfl rfl) kI
    ·exact oI rfl fun h => yl_pick_f rfl (h.dt 7 18 rfl rfl rfl) (not_t hb30) (h.dt 20 31 rfl rfl rfl) kI
    ·intro fl173 fh174 L170 w171 hp172
     have hE175 := hp172.ex
     have hE175z := Ex.size hE175
     refine dn (CW.sub (Sub.cons (d := 1) (hp172.old 1 _ rfl rfl) (Sub.cons (d := 3) (hp172.old 3 _ rfl rfl) (Sub.cons (d := 19) (hp172.nt 8 19 rfl rfl rfl) (Sub.cons (d := 20) (hp172.nt 9 20 rfl rfl rfl) (Sub.cons (d := 21) (hp172.nt 10 21 rfl rfl rfl) (Sub.cons (d := 22) (hp172.nt 11 22 rfl rfl rfl) (Sub.cons (d := 23) (hp172.nt 12 23 rfl rfl rfl) (Sub.cons (d := 24) (hp172.nt 13 24 rfl rfl rfl) (Sub.cons (d := 25) (hp172.nt 14 25 rfl rfl rfl) (Sub.cons (d := 26) (hp172.nt 15 26 rfl rfl rfl) (Sub.cons (d := 27) (hp172.nt 16 27 rfl rfl rfl) (Sub.cons (d := 28) (hp172.nt 17 28 rfl rfl rfl) (Sub.cons (d := 29) (hp172.nt 18 29 rfl rfl rfl) (Sub.cons (d := 30) (hp172.nt 19 30 rfl rfl rfl) (Sub.cons (d := 31) (hp172.nt 20 31 rfl rfl rfl) (Sub.cons (d := 32) (hp172.nt 21 32 rfl rfl rfl) (Sub.nil _))))))))))))))))) (bcase (s_l1In ((p_d.List.getD k10 d_FeedItem).Time) (IntKind.wrap .i64 (p_d.From + 1)) p_d.To) (fun hb192 => ?_) (fun hb192 => ?_)))
     ·have hb192p := f_l1In hb192
      refine CW.cond_f rfl (not_t hb192) (CW.skip (bn (tn (CW.region (sd rfl (yl_move rfl rfl (sd rfl (yl_inc rfl rfl rfl (by omega) (sd rfl (yl_assign rfl rfl (SeqR.done ?_)))))))))))
      refine tn ?_
      have hB193 : B_s_l31Diff_0 p_d k10 () = .cont () := by simp only [B_s_l31Diff_0, hb30, hb192, cL]
      exact ⟨p_d.List.length - (k10 + 1), by omega, k10 + 1, rfl, hlt28, (by omega), rfl, rfl, (Box.ex hf24 hE175), (RdS.ex good_FeedItem hf25 hE175), (Ex.trans hf26 hE175), (loopM.cont hlt28 hB193).symm.trans hI20⟩
     ·refine CW.cond_t rfl (not_f hb192) (CW.seq (CW.region (sd rfl (yl_assign rfl rfl (dn (CW.ret (br (tr ?_))))))))
      refine tr ?_
      have hB198 : B_s_l31Diff_0 p_d k10 () = .ret false := by simp only [B_s_l31Diff_0, hb30, hb192, cL]
      have hL197 : loopM (B_s_l31Diff_0 p_d) (p_d.List.length - 0) 0 () = .ret false := hI20.symm.trans (loopM.ret hlt28 hB198)
      refine br (tr (rr rfl (.cons rfl .nil) ?_))
      have hM199 : (s_l31Diff p_d) = (false) := by simp only [s_l31Diff, hb30, hb192, hL197, cL]
      rw [hM199]
      exact ⟨rfl, (Ex.trans hf26 hE175)⟩
   ·have hb30p := dec_f hb30
    obtain ⟨eb201, eo201, _, eA201, _, ebl201, _, eR201, eC201⟩ := RdS.aD hf25 d_FeedItem (i := k10)
    obtain rfl := eR201
    have eC201 : Cells w18 eb201 (eo201 + k10 * 5) [.int .i64 ((p_d.List.getD k10 d_FeedItem).Time), .int .i64 ((p_d.List.getD k10 d_FeedItem).Group), .string (bs ((p_d.List.getD k10 d_FeedItem).Key)), .string (bs ((p_d.List.getD k10 d_FeedItem).Val)), .bool ((p_d.List.getD k10 d_FeedItem).Gone)] := eC201
    refine CW.drawsI 22 (vgetI ([.pointer (some ⟨b4, 0 + 2, none⟩), .slice A1 p_d.List.length c1, .int .i64 ((k10 : Int)), .pointer (some ⟨eb201, eo201 + k10 * 5, none⟩), .pointer (some ⟨eb201, eo201 + k10 * 5 + 1, none⟩), .int .i64 ((p_d.List.getD k10 d_FeedItem).Group), .bool (!(decide (((p_d.List.getD k10 d_FeedItem).Group) = 0))), .bool (!(decide (((p_d.List.getD k10 d_FeedItem).Group) = 0))), undef, undef, undef, undef, undef, undef, undef, undef, undef, undef, undef, undef, undef, .bool (true)].map DetI)) Try.follows rfl rfl rfl rfl rfl rfl (vgetI_stable (stD _)) ⟨?_, ?_, ?_, ?_, ?_, ?_, ?_, ?_, ?_, ?_, ?_, ?_, ?_, ?_, ?_, ?_, ?_, ?_, ?_, ?_, ?_, ?_, trivial⟩ ?_
    ·exact oI rfl fun h => yl_fieldAddr fd32_2 rfl (h.old 1 _ rfl rfl) kI
    ·exact oI rfl fun h => yl_load1 ty30 rfl (h.dt 0 11 rfl rfl rfl) (((Box.ex hf24 h.ex).cell 2).trans rfl) kI
    ·exact oI rfl fun h => yl_move rfl (h.old 3 _ rfl rfl) kI
    ·intro L218 w219 hi220
     have hE221 := hi220.ex
     have hE221z := Ex.size hE221
     exact os rfl ((yl_ixN un30 ty63 rfl (hi220.dt 1 12 rfl rfl rfl) (hi220.dt 2 13 rfl rfl rfl) eA201 kI))
    ·exact oI rfl fun h => yl_fieldAddr fd63_1 rfl (h.dt 3 14 rfl rfl rfl) kI
    ·exact oI rfl fun h => yl_load1 ty3 rfl (h.dt 4 15 rfl rfl rfl) ((Cells.ex eC201 h.ex) 1 _ rfl) kI
    ·exact oI rfl fun h => yl_neq rfl (h.dt 5 16 rfl rfl rfl) rfl kI
    ·exact oI rfl fun h => yl_move rfl (h.dt 6 17 rfl rfl rfl) kI
    ·exact oS rfl rfl rfl rfl rfl (not_f hb30)
    ·exact oS rfl rfl rfl rfl rfl (not_f hb30)
    ·exact oS rfl rfl rfl rfl rfl (not_f hb30)
    ·exact oS rfl rfl rfl rfl rfl (not_f hb30)
    ·exact oS rfl rfl rfl rfl rfl (not_f hb30)
    ·exact oS rfl rfl rfl rfl rfl (not_f hb30)
    ·exact oS rfl rfl rfl rfl rfl (not_f hb30)
    ·exact oS rfl rfl rfl rfl rfl (not_f hb30)
    ·exact oS rfl rfl rfl rfl rfl (not_f hb30)
    ·exact oS rfl rfl rfl rfl rfl (not_f hb30)
    ·exact oS rfl rfl rfl rfl rfl (not_f hb30)
    ·exact oS rfl rfl rfl rfl rfl (not_f hb30)
    ·exact oS rfl rfl rfl rfl rfl (not_f hb30)
    ·exact oI rfl fun h => yl_pick_t rfl (h.dt 7 18 rfl rfl rfl) (not_f hb30) rfl kI
    ·intro fl319 fh320 L316 w317 hp318
     have hE321 := hp318.ex
     have hE321z := Ex.size hE321
     refine dn (CW.sub (Sub.cons (d := 1) (hp318.old 1 _ rfl rfl) (Sub.cons (d := 3) (hp318.old 3 _ rfl rfl) (Sub.cons (d := 19) (hp318.nt 8 19 rfl rfl rfl) (Sub.cons (d := 20) (hp318.nt 9 20 rfl rfl rfl) (Sub.cons (d := 21) (hp318.nt 10 21 rfl rfl rfl) (Sub.cons (d := 22) (hp318.nt 11 22 rfl rfl rfl) (Sub.cons (d := 23) (hp318.nt 12 23 rfl rfl rfl) (Sub.cons (d := 24) (hp318.nt 13 24 rfl rfl rfl) (Sub.cons (d := 25) (hp318.nt 14 25 rfl rfl rfl) (Sub.cons (d := 26) (hp318.nt 15 26 rfl rfl rfl) (Sub.cons (d := 27) (hp318.nt 16 27 rfl rfl rfl) (Sub.cons (d := 28) (hp318.nt 17 28 rfl rfl rfl) (Sub.cons (d := 29) (hp318.nt 18 29 rfl rfl rfl) (Sub.cons (d := 30) (hp318.nt 19 30 rfl rfl rfl) (Sub.cons (d := 31) (hp318.nt 20 31 rfl rfl rfl) (Sub.cons (d := 32) (hp318.nt 21 32 rfl rfl rfl) (Sub.nil _))))))))))))))))) (CW.cond_t rfl rfl (CW.seq (CW.region (sd rfl (yl_assign rfl rfl (dn ?_)))))))
     refine CW.ret (br (tr (tr ?_)))
     have hB339 : B_s_l31Diff_0 p_d k10 () = .ret false := by simp only [B_s_l31Diff_0, hb30, cL]
     have hL338 : loopM (B_s_l31Diff_0 p_d) (p_d.List.length - 0) 0 () = .ret false := hI20.symm.trans (loopM.ret hlt28 hB339)
     refine br (tr (rr rfl (.cons rfl .nil) ?_))
     have hM340 : (s_l31Diff p_d) = (false) := by simp only [s_l31Diff, hb30, hL338, cL]
     rw [hM340]
     exact ⟨rfl, (Ex.trans hf26 hE321)⟩
  ·refine CW.seq (CW.seq (CW.region (sd rfl (yl_move rfl rfl (sd rfl (yl_fieldAddr fd32_2 rfl rfl (sd rfl (yl_load1 ty30 rfl rfl ((hf24.cell 2).trans rfl) (sd rfl (yl_len un30 rfl rfl (sd rfl (yl_lss rfl rfl rfl (SeqR.done ?_)))))))))))))
   refine tn (CW.cond_f rfl (lt_f hlt28) (CW.exit (tx (tx ?_))))
   have hL342 : loopM (B_s_l31Diff_0 p_d) (p_d.List.length - 0) 0 () = .done () := hI20.symm.trans (loopM.stop hlt28)
   refine bx (tn (CW.seq (CW.region (sd rfl (yl_fieldAddr fd32_0 rfl rfl (sd rfl (yl_load1 ty3 rfl rfl ((hf24.cell 0).trans rfl) (sd rfl (yl_fieldAddr fd32_1 rfl rfl (sd rfl (yl_load1 ty3 rfl rfl ((hf24.cell 1).trans rfl) (sd rfl (yl_call en80 rfl (oc rfl (oc rfl (oc rfl oz))) (Cal.mono (c_s_l1In p_d.From 0 p_d.To) ?_))))))))))))))
   rintro v344 w343 ⟨rfl, hE345⟩
   have hE345z := Ex.size hE345
   refine sd rfl (yl_move rfl rfl (bcase (s_l1In p_d.From 0 p_d.To) (fun hb346 => ?_) (fun hb346 => ?_)))
   ·have hb346p := f_l1In hb346
    refine sy rfl rfl hb346 (yl_fieldAddr fd32_1 rfl rfl ?_)
    have q347 := Box.ex hf24 hE345
    refine sy rfl rfl hb346 (yl_load1 ty3 rfl rfl ((q347.cell 1).trans rfl) (sy rfl rfl hb346 (yl_leq rfl rfl rfl (sd rfl (yl_pick_t rfl rfl hb346 rfl (sd rfl (yl_move rfl rfl (bcase (decide (p_d.To ≤ 100000)) (fun hb348 => ?_) (fun hb348 => ?_)))))))))
    ·have hb348p := dec_t hb348
     refine sy rfl rfl hb348 (yl_fieldAddr fd32_2 rfl rfl (sy rfl rfl hb348 (yl_load1 ty30 rfl rfl ((q347.cell 2).trans rfl) (sy rfl rfl hb348 (yl_len un30 rfl rfl (sy rfl rfl hb348 (yl_leq rfl rfl rfl (sd rfl (yl_pick_t rfl rfl hb348 rfl (sd rfl (yl_move rfl rfl (bcase (decide ((p_d.List.length : Int) ≤ 60)) (fun hb349 => ?_) (fun hb349 => ?_)))))))))))))
     ·have hb349p := dec_t hb349
      refine sy rfl rfl hb349 (yl_fieldAddr fd32_2 rfl rfl (sy rfl rfl hb349 (yl_load1 ty30 rfl rfl ((q347.cell 2).trans rfl) (sy rfl rfl hb349 (yl_call en86 rfl (oc rfl oz) (Cal.mono (c_s_l23Feed p_d.List (RdS.up (RdS.ex good_FeedItem hf25 hE345) good_FeedItem) o2) ?_))))))
      rintro v352 w351 ⟨rfl, hE353⟩
      have hE353z := Ex.size hE353
      refine sd rfl (yl_pick_t rfl rfl hb349 rfl (sd rfl (yl_assign rfl rfl (dn (CW.ret (rr rfl (.cons rfl .nil) ?_))))))
      have hM354 : (s_l31Diff p_d) = ((s_l23Feed p_d.List)) := by simp only [s_l31Diff, hb346, hb348, hb349, hL342, cL]
      rw [hM354]
      exact ⟨rfl, (Ex.trans (Ex.trans hf26 hE345) hE353)⟩
     ·have hb349p := dec_f hb349
      refine sz rfl rfl hb349 (sz rfl rfl hb349 (sz rfl rfl hb349 (sd rfl (yl_pick_f rfl rfl hb349 rfl (sd rfl (yl_assign rfl rfl (dn (CW.ret (rr rfl (.cons rfl .nil) ?_)))))))))
      have hM357 : (s_l31Diff p_d) = (false) := by simp only [s_l31Diff, hb346, hb348, hb349, hL342, cL]
      rw [hM357]
      exact ⟨rfl, (Ex.trans hf26 hE345)⟩
    ·have hb348p := dec_f hb348
     refine sz rfl rfl hb348 (sz rfl rfl hb348 (sz rfl rfl hb348 (sz rfl rfl hb348 (sd rfl (yl_pick_f rfl rfl hb348 rfl (sd rfl (yl_move rfl rfl (sz rfl rfl rfl (sz rfl rfl rfl (sz rfl rfl rfl ?_))))))))))
     refine sd rfl (yl_pick_f rfl rfl rfl rfl (sd rfl (yl_assign rfl rfl (dn (CW.ret (rr rfl (.cons rfl .nil) ?_))))))
     have hM359 : (s_l31Diff p_d) = (false) := by simp only [s_l31Diff, hb346, hb348, hL342, cL]
     rw [hM359]
     exact ⟨rfl, (Ex.trans hf26 hE345)⟩
   ·refine sz rfl rfl hb346 (sz rfl rfl hb346 (sz rfl rfl hb346 (sd rfl (yl_pick_f rfl rfl hb346 rfl (sd rfl (yl_move rfl rfl (sz rfl rfl rfl (sz rfl rfl rfl (sz rfl rfl rfl (sz rfl rfl rfl ?_))))))))))
    refine sd rfl (yl_pick_f rfl rfl rfl rfl (sd rfl (yl_move rfl rfl (sz rfl rfl rfl (sz rfl rfl rfl (sz rfl rfl rfl (sd rfl (yl_pick_f rfl rfl rfl rfl (sd rfl (yl_assign rfl rfl (dn ?_)))))))))))
    refine CW.ret (rr rfl (.cons rfl .nil) ?_)
    have hM361 : (s_l31Diff p_d) = (false) := by simp only [s_l31Diff, hb346, hL342, cL]
    rw [hM361]
    exact ⟨rfl, (Ex.trans hf26 hE345)⟩
theorem c_s_l4Flag {w : World} (p_is : Bool) : Cal Try.prog 63 #[.bool (p_is)] w fun v w' => v = .string (bs ((s_l4Flag p_is))) ∧ okS (s_l4Flag p_is) ∧ Ex w w' := by
 refine Cal.of func63 rfl ntmps63 rfl (CW.seq (CW.region (sd rfl (yl_assign rfl rfl (dn (CW.seq (CW.seq (CW.region ?_))))))))
 refine sd rfl (yl_move rfl rfl (dn (bcase (p_is) (fun hb1 => ?_) (fun hb1 => ?_))))
 ·refine CW.cond_t rfl hb1 (CW.seq (CW.region (sd rfl (yl_assign rfl rfl (dn (CW.ret (tr (rr rfl (.cons rfl .nil) ?_))))))))
  have hM2 : (s_l4Flag p_is) = (([1] : Str)) := by simp only [s_l4Flag, hb1, cL]
  rw [hM2]
  exact ⟨rfl, (okS.lit rfl), (Ex.refl w)⟩
 ·refine CW.cond_f rfl hb1 (CW.skip (tn (CW.seq (CW.region (sd rfl (yl_assign rfl rfl (dn (CW.ret ?_))))))))
  refine rr rfl (.cons rfl .nil) ?_
  have hM3 : (s_l4Flag p_is) = (([0] : Str)) := by simp only [s_l4Flag, hb1, cL]
  rw [hM3]
  exact ⟨rfl, (okS.lit rfl), (Ex.refl w)⟩
theorem c_s_DiffBytes {A1 : Option Addr} {c1 : Nat} {w : World} (p_d : DDiff) (h1 : RdS w (Iv 0 w.heap.size) (RF e_FeedItem) 5 A1 p_d.List.length c1 p_d.List) (o2 : ok_Diff p_d) : Cal Try.prog 35 #[.agg #[.int .i64 (p_d.From), .int .i64 (p_d.To), .slice A1 p_d.List.length c1]] w fun v w' => v = .tuple #[.string (bs ((s_DiffBytes p_d).1)), .bool ((s_DiffBytes p_d).2)] ∧ Ex w w' := by
 have hol3 := o2.1
 refine Cal.of func35 rfl ntmps35 rfl (CW.seq (CW.region (sd rfl (yl_box rfl rfl rfl ?_))))
 intro b4 w5 hs6 hz7 hB8 hE9
 refine sd rfl (yl_assign rfl rfl (sd rfl (yl_assign rfl rfl (dn (CW.seq (CW.seq (CW.region (sd rfl (yl_loadN ty32 rfl rfl (hB8.cells (n := 3) rfl) rfl ?_)))))))))
 have q10 := RdS.ex good_FeedItem h1 hE9
 refine sd rfl (yl_call en62 rfl (oc rfl oz) (Cal.mono (c_s_l31Diff p_d (RdS.up q10 good_FeedItem) o2) ?_))
 rintro v12 w11 ⟨rfl, hE13⟩
 have hE13z := Ex.size hE13
 refine sd rfl (yl_not rfl rfl (dn (bcase (s_l31Diff p_d) (fun hb14 => ?_) (fun hb14 => ?_))))
 ·obtain ⟨hb14p0, hb14p1⟩ := f_s_l31Diff hb14
  refine CW.cond_f rfl (not_t hb14) (CW.skip (tn (CW.seq ?_)))
  have q15 := Box.ex hB8 hE13
  have hrf19 := rf_l1NumB p_d.From (by first | omega | assumption | (simp only [wI] at *; omega))
  have hrf20 := rf_l1NumB p_d.To (by first | omega | assumption | (simp only [wI] at *; omega))
  have hrf21 := rf_l1NumB (p_d.List.length : Int) (by first | omega | assumption | (simp only [wI] at *; omega))
  refine CW.drawsI 13 (vgetI ([.pointer (some ⟨b4, 0 + 0, none⟩), .int .i64 (p_d.From), .string (bs ((s_l1NumB p_d.From))), .pointer (some ⟨b4, 0 + 1, none⟩), .int .i64 (p_d.To), .string (bs ((s_l1NumB p_d.To))), .string (bs ((s_l1NumB p_d.From) ++ (s_l1NumB p_d.To))), .pointer (some ⟨b4, 0 + 2, none⟩), .slice A1 p_d.List.length c1, .int .i64 ((p_d.List.length : Int)), .string (bs ((s_l1NumB (p_d.List.length : Int)))), .string (bs (((s_l1NumB p_d.From) ++ (s_l1NumB p_d.To)) ++ (s_l1NumB (p_d.List.length : Int)))), .string (bs (((s_l1NumB p_d.From) ++ (s_l1NumB p_d.To)) ++ (s_l1NumB (p_d.List.length : Int))))].map DetI)) Try.follows rfl rfl rfl rfl rfl rfl (vgetI_stable (stD _)) ⟨?_, ?_, ?_, ?_, ?_, ?_, ?_, ?_, ?_, ?_, ?_, ?_, ?_, trivial⟩ ?_
  ·exact oI rfl fun h => yl_fieldAddr fd32_0 rfl (h.old 1 _ rfl rfl) kI
  ·exact oI rfl fun h => yl_load1 ty3 rfl (h.dt 0 10 rfl rfl rfl) (((Box.ex q15 h.ex).cell 0).trans rfl) kI
  ·intro L33 w34 hi35
   have hE36 := hi35.ex
   have hE36z := Ex.size hE36
   exact OpR.op' rfl (yl_call en52 rfl (oc (hi35.dt 1 11 rfl rfl rfl) oz) (Cal.mono (c_s_l1NumB p_d.From (by first | omega | assumption | (simp only [wI] at *; omega))) fun _ _ h => h))
  ·exact oI rfl fun h => yl_fieldAddr fd32_1 rfl (h.old 1 _ rfl rfl) kI
  ·exact oI rfl fun h => yl_load1 ty3 rfl (h.dt 3 13 rfl rfl rfl) (((Box.ex q15 h.ex).cell 1).trans rfl) kI
  ·intro L52 w53 hi54
   have hE55 := hi54.ex
   have hE55z := Ex.size hE55
   exact OpR.op' rfl (yl_call en52 rfl (oc (hi54.dt 4 14 rfl rfl rfl) oz) (Cal.mono (c_s_l1NumB p_d.To (by first | omega | assumption | (simp only [wI] at *; omega))) fun _ _ h => h))
  ·intro L60 w61 hi62
   have hE63 := hi62.ex
   have hE63z := Ex.size hE63
   exact os rfl ((yl_sadd (a := (s_l1NumB p_d.From)) (b := (s_l1NumB p_d.To)) rfl (hi62.dt 2 12 rfl rfl rfl) (hi62.dt 5 15 rfl rfl rfl) (by first | omega | (simp only [List.length_append, List.length_cons, List.length_nil, List.length_take, List.length_drop, toS_length]; omega)) kI))
  ·exact oI rfl fun h => yl_fieldAddr fd32_2 rfl (h.old 1 _ rfl rfl) kI
  ·exact oI rfl fun h => yl_load1 ty30 rfl (h.dt 7 17 rfl rfl rfl) (((Box.ex q15 h.ex).cell 2).trans rfl) kI
  ·exact oI rfl fun h => yl_len un30 rfl (h.dt 8 18 rfl rfl rfl) kI
  ·intro L82 w83 hi84
   have hE85 := hi84.ex
   have hE85z := Ex.size hE85
   exact OpR.op' rfl (yl_call en52 rfl (oc (hi84.dt 9 19 rfl rfl rfl) oz) (Cal.mono (c_s_l1NumB (p_d.List.length : Int) (by first | omega | assumption | (simp only [wI] at *; omega))) fun _ _ h => h))
  ·intro L90 w91 hi92
   have hE93 := hi92.ex
   have hE93z := Ex.size hE93
   exact os rfl ((yl_sadd (a := ((s_l1NumB p_d.From) ++ (s_l1NumB p_d.To))) (b := (s_l1NumB (p_d.List.length : Int))) rfl (hi92.dt 6 16 rfl rfl rfl) (hi92.dt 10 20 rfl rfl rfl) (by first | omega | (simp only [List.length_append, List.length_cons, List.length_nil, List.length_take, List.length_drop, toS_length]; omega)) kI))
  ·exact oI rfl fun h => yl_assign rfl (h.dt 11 21 rfl rfl rfl) kI
  ·intro fl104 fh105 L101 w102 hp103
   have hE106 := hp103.ex
   have hE106z := Ex.size hE106
   refine dn (CW.sub (Sub.cons (d := 1) (hp103.old 1 _ rfl rfl) (Sub.cons (d := 4) (hp103.nt 12 4 rfl rfl rfl) (Sub.nil _))) (CW.seq (CW.seq (CW.region (sd rfl (yl_assign rfl rfl (dn ?_)))))))
   refine CW.block (CW.loop (fun m151 L152 w153 => ∃ (k109 : Nat) (x150 : Str), m151 = p_d.List.length - k109 ∧ k109 ≤ p_d.List.length ∧ w102.heap.size ≤ w153.heap.size ∧ lkp L152 1 = some (.pointer (some ⟨b4, 0, none⟩)) ∧ lkp L152 4 = some (.string (bs (x150))) ∧ lkp L152 5 = some (.int .i64 ((k109 : Int))) ∧ Box w153 b4 32 [.int .i64 (p_d.From), .int .i64 (p_d.To), .slice A1 p_d.List.length c1] ∧ RdS w153 (Iv 0 w.heap.size) (RF e_FeedItem) 5 A1 p_d.List.length c1 p_d.List ∧ Ex w w153 ∧ x150.length ≤ (s_l1NumB p_d.From).length + (s_l1NumB p_d.To).length + (s_l1NumB (p_d.List.length : Int)).length + 52 * (k109 - 0) ∧ loopM (B_s_DiffBytes_0 p_d) (p_d.List.length - k109) k109 (x150) = loopM (B_s_DiffBytes_0 p_d) (p_d.List.length - 0) 0 (((s_l1NumB p_d.From) ++ (s_l1NumB p_d.To)) ++ (s_l1NumB (p_d.List.length : Int)))) (p_d.List.length - 0) ?_ ?_)
   ·exact ⟨0, ((s_l1NumB p_d.From) ++ (s_l1NumB p_d.To)) ++ (s_l1NumB (p_d.List.length : Int)), rfl, (by omega), Nat.le_refl _, rfl, rfl, rfl, (Box.ex q15 hE106), (RdS.ex good_FeedItem (RdS.ex good_FeedItem q10 hE13) hE106), (Ex.trans (Ex.trans (Ex.trans (Ex.refl w) hE9) hE13) hE106), (by first | (simp; done) | (first | omega | (simp only [List.length_append, List.length_cons, List.length_nil, List.length_set, toS_length]; omega))), rfl⟩
   ·rintro m160 L161 w162 ⟨k109, x150, rfl, hk163, hsz165, hl166, hl167, hl168, hf169, hf170, hf171, hln172, hI164⟩
    refine CW.sub (Sub.cons hl166 (Sub.cons hl167 (Sub.cons hl168 (Sub.nil _)))) ?_
    have hf169z := Box.lt hf169
    have hf171z := Ex.size hf171
    have hbg173 := RdS.big hf170
    rcases Nat.lt_or_ge k109 p_d.List.length with hlt174 | hlt174
    ·have hcp3 := ‹diffShort _› k109 hlt174
     refine CW.seq (CW.seq (CW.region (sd rfl (yl_move rfl rfl (sd rfl (yl_fieldAddr fd32_2 rfl rfl (sd rfl (yl_load1 ty30 rfl rfl ((hf169.cell 2).trans rfl) (sd rfl (yl_len un30 rfl rfl (sd rfl (yl_lss rfl rfl rfl (SeqR.done ?_)))))))))))))
     refine tn (CW.cond_t rfl (lt_t hlt174) (CW.skip (tn (CW.seq (CW.block (CW.seq (CW.region (sd rfl (yl_fieldAddr fd32_2 rfl rfl ?_)))))))))
     refine sd rfl (yl_load1 ty30 rfl rfl ((hf169.cell 2).trans rfl) (sd rfl (yl_move rfl rfl ?_)))
     obtain ⟨eb175, eo175, _, eA175, _, ebl175, _, eR175, eC175⟩ := RdS.aD hf170 d_FeedItem (i := k109)
     obtain rfl := eR175
     have eC175 : Cells w162 eb175 (eo175 + k109 * 5) [.int .i64 ((p_d.List.getD k109 d_FeedItem).Time), .int .i64 ((p_d.List.getD k109 d_FeedItem).Group), .string (bs ((p_d.List.getD k109 d_FeedItem).Key)), .string (bs ((p_d.List.getD k109 d_FeedItem).Val)), .bool ((p_d.List.getD k109 d_FeedItem).Gone)] := eC175
     refine sd rfl (yl_ixN un30 ty63 rfl rfl rfl eA175 (sd rfl (yl_loadN ty63 rfl rfl eC175 rfl (sd rfl (yl_alloc ty63 (cs := [.int .i64 (0), .int .i64 (0), .string (bs (([] : Str))), .string (bs (([] : Str))), .bool (false)]) rfl rfl ?_)))))
     intro b176 w177 hs178 hz179 hB180 hE181
     refine SeqR.u rfl rfl (yl_store (vs := [.int .i64 ((p_d.List.getD k109 d_FeedItem).Time), .int .i64 ((p_d.List.getD k109 d_FeedItem).Group), .string (bs ((p_d.List.getD k109 d_FeedItem).Key)), .string (bs ((p_d.List.getD k109 d_FeedItem).Val)), .bool ((p_d.List.getD k109 d_FeedItem).Gone)]) ty63 rfl rfl rfl rfl rfl rfl hB180 (Nat.le_of_ble_eq_true rfl) ?_)
     intro w182 hB183 hO184
     have hB183 : Box w182 b176 63 [.int .i64 ((p_d.List.getD k109 d_FeedItem).Time), .int .i64 ((p_d.List.getD k109 d_FeedItem).Group), .string (bs ((p_d.List.getD k109 d_FeedItem).Key)), .string (bs ((p_d.List.getD k109 d_FeedItem).Val)), .bool ((p_d.List.getD k109 d_FeedItem).Gone)] := hB183
     have hO184z := hO184.size
     refine dn ?_
     have hrf190 := rf_l1NumB ((p_d.List.getD k109 d_FeedItem).Time) (by first | omega | assumption | (simp only [wI] at *; omega))
     have hrf191 := rf_l1TextB ((p_d.List.getD k109 d_FeedItem).Key) (by omega)
     have hrf192 := rf_l4Flag ((p_d.List.getD k109 d_FeedItem).Gone)
     have hrf193 := rf_l1TextB ((p_d.List.getD k109 d_FeedItem).Val) (by omega)
     refine CW.drawsI 18 (vgetI [DetI (.string (bs (x150))), DetI (.pointer (some ⟨b176, 0 + 0, none⟩)), DetI (.int .i64 ((p_d.List.getD k109 d_FeedItem).Time)), DetI (.string (bs ((s_l1NumB ((p_d.List.getD k109 d_FeedItem).Time))))), DetI (.string (bs (x150 ++ (s_l1NumB ((p_d.List.getD k109 d_FeedItem).Time))))), DetI (.pointer (some ⟨b176, 0 + 2, none⟩)), DetI (.string (bs ((p_d.List.getD k109 d_FeedItem).Key))), DetI (.string (bs ((s_l1TextB ((p_d.List.getD k109 d_FeedItem).Key))))), DetI (.string (bs ((x150 ++ (s_l1NumB ((p_d.List.getD k109 d_FeedItem).Time))) ++ (s_l1TextB ((p_d.List.getD k109 d_FeedItem).Key))))), DetI (.pointer (some ⟨b176, 0 + 4, none⟩)), DetI (.bool ((p_d.List.getD k109 d_FeedItem).Gone)), fun lo hi v wq => v = .string (bs ((s_l4Flag ((p_d.List.getD k109 d_FeedItem).Gone)))) ∧ okS (s_l4Flag ((p_d.List.getD k109 d_FeedItem).Gone)), DetI (.string (bs (((x150 ++ (s_l1NumB ((p_d.List.getD k109 d_FeedItem).Time))) ++ (s_l1TextB ((p_d.List.getD k109 d_FeedItem).Key))) ++ (s_l4Flag ((p_d.List.getD k109 d_FeedItem).Gone))))), DetI (.pointer (some ⟨b176, 0 + 3, none⟩)), DetI (.string (bs ((p_d.List.getD k109 d_FeedItem).Val))), DetI (.string (bs ((s_l1TextB ((p_d.List.getD k109 d_FeedItem).Val))))), DetI (.string (bs ((((x150 ++ (s_l1NumB ((p_d.List.getD k109 d_FeedItem).Time))) ++ (s_l1TextB ((p_d.List.getD k109 d_FeedItem).Key))) ++ (s_l4Flag ((p_d.List.getD k109 d_FeedItem).Gone))) ++ (s_l1TextB ((p_d.List.getD k109 d_FeedItem).Val))))), DetI (.string (bs ((((x150 ++ (s_l1NumB ((p_d.List.getD k109 d_FeedItem).Time))) ++ (s_l1TextB ((p_d.List.getD k109 d_FeedItem).Key))) ++ (s_l4Flag ((p_d.List.getD k109 d_FeedItem).Gone))) ++ (s_l1TextB ((p_d.List.getD k109 d_FeedItem).Val)))))]) Try.follows rfl rfl rfl rfl rfl rfl (vgetI_stable ⟨StableI.det _, StableI.det _, StableI.det _, StableI.det _, StableI.det _, StableI.det _, StableI.det _, StableI.det _, StableI.det _, StableI.det _, StableI.det _, (fun _ _ _ _ _ ⟨hv, ho188⟩ e => ⟨hv, ho188⟩), StableI.det _, StableI.det _, StableI.det _, StableI.det _, StableI.det _, StableI.det _, trivial⟩) ⟨?_, ?_, ?_, ?_, ?_, ?_, ?_, ?_, ?_, ?_, ?_, ?_, ?_, ?_, ?_, ?_, ?_, ?_, trivial⟩ ?_
     ·exact oI rfl fun h => yl_move rfl (h.old 4 _ rfl rfl) kI
     ·exact oI rfl fun h => yl_fieldAddr fd63_0 rfl (h.old 6 _ rfl rfl) kI
     ·exact oI rfl fun h => yl_load1 ty3 rfl (h.dt 1 35 rfl rfl rfl) (((Box.ex hB183 h.ex).cell 0).trans rfl) kI
     ·intro L210 w211 hi212
      have hE213 := hi212.ex
      have hE213z := Ex.size hE213
      exact OpR.op' rfl (yl_call en52 rfl (oc (hi212.dt 2 36 rfl rfl rfl) oz) (Cal.mono (c_s_l1NumB ((p_d.List.getD k109 d_FeedItem).Time) (by first | omega | assumption | (simp only [wI] at *; omega))) fun _ _ h => h))
     ·intro L218 w219 hi220
      have hE221 := hi220.ex
      have hE221z := Ex.size hE221
      exact os rfl ((yl_sadd (a := x150) (b := (s_l1NumB ((p_d.List.getD k109 d_FeedItem).Time))) rfl (hi220.dt 0 34 rfl rfl rfl) (hi220.dt 3 37 rfl rfl rfl) (by first | omega | (simp only [List.length_append, List.length_cons, List.length_nil, List.length_take, List.length_drop, toS_length]; omega)) kI))
     ·exact oI rfl fun h => yl_fieldAddr fd63_2 rfl (h.old 6 _ rfl rfl) kI
     ·exact oI rfl fun h => yl_load1 ty9 rfl (h.dt 5 39 rfl rfl rfl) (((Box.ex hB183 h.ex).cell 2).trans rfl) kI
     ·intro L235 w236 hi237
      exact OpR.op' rfl (yl_call en54 rfl (oc (hi237.dt 6 40 rfl rfl rfl) oz) (Cal.mono (c_s_l1TextB ((p_d.List.getD k109 d_FeedItem).Key) ((okL.getD o2 ok_d_FeedItem _).1)) fun _ _ h => h))
     ·intro L243 w244 hi245
      have hE246 := hi245.ex
      have hE246z := Ex.size hE246
      exact os rfl ((yl_sadd (a := (x150 ++ (s_l1NumB ((p_d.List.getD k109 d_FeedItem).Time)))) (b := (s_l1TextB ((p_d.List.getD k109 d_FeedItem).Key))) rfl (hi245.dt 4 38 rfl rfl rfl) (hi245.dt 7 41 rfl rfl rfl) (by first | omega | (simp only [List.length_append, List.length_cons, List.length_nil, List.length_take, List.length_drop, toS_length]; omega)) kI))
     ·exact oI rfl fun h => yl_fieldAddr fd63_4 rfl (h.old 6 _ rfl rfl) kI
     ·exact oI rfl fun h => yl_load1 ty4 rfl (h.dt 9 43 rfl rfl rfl) (((Box.ex hB183 h.ex).cell 4).trans rfl) kI
     ·intro L260 w261 hi262
      refine OpR.op' rfl (yl_call en63 rfl (oc (hi262.dt 10 44 rfl rfl rfl) oz) (Cal.mono (c_s_l4Flag ((p_d.List.getD k109 d_FeedItem).Gone)) ?_))
      rintro v267 w265 ⟨rfl, ho266, hE268⟩
      exact ⟨⟨rfl, ho266⟩, hE268⟩
     ·intro L269 w270 hi271
      have hE272 := hi271.ex
      have hE272z := Ex.size hE272
      obtain ⟨lo275, hh276, _, hx274, hr277, hr278, hr279, rfl, h280⟩ := hi271.dep 11 45 rfl rfl
      have hol281 : (s_l4Flag ((p_d.List.getD k109 d_FeedItem).Gone)).length ≤ 1073741824 := h280
      exact os rfl ((yl_sadd (a := ((x150 ++ (s_l1NumB ((p_d.List.getD k109 d_FeedItem).Time))) ++ (s_l1TextB ((p_d.List.getD k109 d_FeedItem).Key)))) (b := (s_l4Flag ((p_d.List.getD k109 d_FeedItem).Gone))) rfl (hi271.dt 8 42 rfl rfl rfl) hx274 (by first | omega | (simp only [List.length_append, List.length_cons, List.length_nil, List.length_take, List.length_drop, toS_length]; omega)) kI))
     ·exact oI rfl fun h => yl_fieldAddr fd63_3 rfl (h.old 6 _ rfl rfl) kI
     ·exact oI rfl fun h => yl_load1 ty9 rfl (h.dt 13 47 rfl rfl rfl) (((Box.ex hB183 h.ex).cell 3).trans rfl) kI
     ·intro L293 w294 hi295
      exact OpR.op' rfl (yl_call en54 rfl (oc (hi295.dt 14 48 rfl rfl rfl) oz) (Cal.mono (c_s_l1TextB ((p_d.List.getD k109 d_FeedItem).Val) ((okL.getD o2 ok_d_FeedItem _).2)) fun _ _ h => h))
     ·intro L301 w302 hi303
      have hE304 := hi303.ex
      have hE304z := Ex.size hE304
      exact os rfl ((yl_sadd (a := (((x150 ++ (s_l1NumB ((p_d.List.getD k109 d_FeedItem).Time))) ++ (s_l1TextB ((p_d.List.getD k109 d_FeedItem).Key))) ++ (s_l4Flag ((p_d.List.getD k109 d_FeedItem).Gone)))) (b := (s_l1TextB ((p_d.List.getD k109 d_FeedItem).Val))) rfl (hi303.dt 12 46 rfl rfl rfl) (hi303.dt 15 49 rfl rfl rfl) (by first | omega | (simp only [List.length_append, List.length_cons, List.length_nil, List.length_take, List.length_drop, toS_length]; omega)) kI))
     ·exact oI rfl fun h => yl_assign rfl (h.dt 16 50 rfl rfl rfl) kI
     ·intro fl315 fh316 L312 w313 hp314
      have hE317 := hp314.ex
      have hE317z := Ex.size hE317
      refine SeqR.done (bn (tn (CW.sub (Sub.cons (d := 1) (hp314.old 1 _ rfl rfl) (Sub.cons (d := 4) (hp314.nt 17 4 rfl rfl rfl) (Sub.cons (d := 5) (hp314.old 5 _ rfl rfl) (Sub.nil _)))) (CW.region (sd rfl (yl_move rfl rfl (sd rfl (yl_inc rfl rfl rfl (by omega) (sd rfl (yl_assign rfl rfl (SeqR.done ?_)))))))))))
      refine tn ?_
      have hB321 : B_s_DiffBytes_0 p_d k109 (x150) = .cont ((((x150 ++ (s_l1NumB ((p_d.List.getD k109 d_FeedItem).Time))) ++ (s_l1TextB ((p_d.List.getD k109 d_FeedItem).Key))) ++ (s_l4Flag ((p_d.List.getD k109 d_FeedItem).Gone))) ++ (s_l1TextB ((p_d.List.getD k109 d_FeedItem).Val))) := by simp only [B_s_DiffBytes_0, hb14, cL]
      exact ⟨p_d.List.length - (k109 + 1), by omega, k109 + 1, (((x150 ++ (s_l1NumB ((p_d.List.getD k109 d_FeedItem).Time))) ++ (s_l1TextB ((p_d.List.getD k109 d_FeedItem).Key))) ++ (s_l4Flag ((p_d.List.getD k109 d_FeedItem).Gone))) ++ (s_l1TextB ((p_d.List.getD k109 d_FeedItem).Val)), rfl, hlt174, (by omega), rfl, rfl, rfl, (Box.ex (Box.only (Box.ex hf169 hE181) hO184 (by omega)) hE317), (RdS.ex good_FeedItem (RdS.only good_FeedItem (RdS.ex good_FeedItem hf170 hE181) hO184 (by simp only [Iv]; omega)) hE317), (Ex.trans (Below.only (Ex.trans hf171 hE181) hO184 (by omega)) hE317), (by first | omega | (simp only [List.length_append, List.length_cons, List.length_nil, List.length_set, toS_length]; omega)), (loopM.cont hlt174 hB321).symm.trans hI164⟩
    ·refine CW.seq (CW.seq (CW.region (sd rfl (yl_move rfl rfl (sd rfl (yl_fieldAddr fd32_2 rfl rfl (sd rfl (yl_load1 ty30 rfl rfl ((hf169.cell 2).trans rfl) (sd rfl (yl_len un30 rfl rfl (sd rfl (yl_lss rfl rfl rfl (SeqR.done ?_)))))))))))))
     refine tn (CW.cond_f rfl (lt_f hlt174) (CW.exit (tx (tx ?_))))
     have hL331 : loopM (B_s_DiffBytes_0 p_d) (p_d.List.length - 0) 0 (((s_l1NumB p_d.From) ++ (s_l1NumB p_d.To)) ++ (s_l1NumB (p_d.List.length : Int))) = .done (x150) := hI164.symm.trans (loopM.stop hlt174)
     refine bx (tn (CW.seq (CW.seq (CW.region (sd rfl (yl_move rfl rfl (sd rfl (yl_slen un9 (a := x150) rfl rfl (sd rfl (yl_gtr rfl rfl rfl (SeqR.done ?_)))))))))))
     refine tn (bcase (decide (5997 < (x150.length : Int))) (fun hb332 => ?_) (fun hb332 => ?_))
     ·have hb332p := dec_t hb332
      refine CW.cond_t rfl hb332 (CW.seq (CW.region (sd rfl (yl_assign rfl rfl (sd rfl (yl_assign rfl rfl (dn (CW.ret (tr ?_)))))))))
      refine rr rfl (.cons rfl (.cons rfl .nil)) ?_
      have hM333 : (s_DiffBytes p_d) = ((([] : Str), false)) := by simp only [s_DiffBytes, hb14, hb332, hL331, cL]
      rw [hM333]
      exact ⟨rfl, hf171⟩
     ·have hb332p := dec_f hb332
      refine CW.cond_f rfl hb332 (CW.skip (tn (CW.seq (CW.region (sd rfl (yl_move rfl rfl (sd rfl (yl_call en51 rfl (oc rfl oz) (Cal.mono (c_s_l1Seal x150 (by unfold okS; omega)) ?_)))))))))
      rintro v335 w334 ⟨rfl, hE336⟩
      have hE336z := Ex.size hE336
      have hrf337 := rf_l1Seal x150
      refine sd rfl (yl_assign rfl rfl (sd rfl (yl_assign rfl rfl (dn (CW.ret (rr rfl (.cons rfl (.cons rfl .nil)) ?_))))))
      have hM338 : (s_DiffBytes p_d) = (((s_l1Seal x150), true)) := by simp only [s_DiffBytes, hb14, hb332, hL331, cL]
      rw [hM338]
      exact ⟨rfl, (Ex.trans hf171 hE336)⟩
 ·refine CW.cond_t rfl (not_f hb14) (CW.seq (CW.region (sd rfl (yl_assign rfl rfl (sd rfl (yl_assign rfl rfl (dn (CW.ret (tr ?_)))))))))
  refine rr rfl (.cons rfl (.cons rfl .nil)) ?_
  have hM340 : (s_DiffBytes p_d) = ((([] : Str), false)) := by simp only [s_DiffBytes, hb14, cL]
  rw [hM340]
  exact ⟨rfl, (Ex.trans (Ex.trans (Ex.refl w) hE9) hE13)⟩
theorem c_s_ReadDiff {w : World} (p_0 : Str) (o1 : okS p_0) : Cal Try.prog 11 #[.string (bs (p_0))] w fun v w' => ∃ A_1 c_1 lo_1 hi_1, v = .tuple #[.agg #[.int .i64 ((s_ReadDiff p_0).1.From), .int .i64 ((s_ReadDiff p_0).1.To), .slice A_1 (((s_ReadDiff p_0).1.List).length) c_1], .bool ((s_ReadDiff p_0).2)] ∧ OwnL w' lo_1 hi_1 63 5 (RF e_FeedItem) A_1 (((s_ReadDiff p_0).1.List).length) c_1 ((s_ReadDiff p_0).1.List) ∧ ok_Diff ((s_ReadDiff p_0).1) ∧ (w.heap.size ≤ lo_1 ∧ lo_1 ≤ hi_1 ∧ hi_1 ≤ w'.heap.size) ∧ Ex w w' := by
 have hol2 : p_0.length ≤ 1073741824 := o1
 refine Cal.of func11 rfl ntmps11 rfl (CW.seq (CW.region (sd rfl (yl_alloc ty32 (cs := [.int .i64 (0), .int .i64 (0), .slice none 0 0]) rfl rfl ?_))))
 intro b3 w4 hs5 hz6 hB7 hE8
 refine sd rfl (yl_assign rfl rfl (dn (CW.seq (CW.region (sd rfl (yl_move rfl rfl (sd rfl (yl_call en22 rfl (oc rfl oz) (Cal.mono (c_s_OpenSeal p_0 o1) ?_)))))))))
 rintro v11 w9 ⟨rfl, ho10, hE12⟩
 have hE12z := Ex.size hE12
 refine sd rfl (yl_move rfl rfl (sd rfl (yl_extract rfl rfl rfl (sd rfl (yl_extract rfl rfl rfl (sd rfl (yl_assign rfl rfl (sd rfl (yl_assign rfl rfl (dn (CW.seq (CW.region ?_))))))))))))
 refine sd rfl (yl_move rfl rfl (sd rfl (yl_build (cs := [.string (bs ((s_OpenSeal p_0).1)), .int .i64 (0), .bool (false)]) rfl (oc rfl oz) (by kernel_rfl) (sd rfl (yl_box rfl rfl rfl ?_)))))
 intro b13 w14 hs15 hz16 hB17 hE18
 refine sd rfl (yl_assign rfl rfl (dn (CW.seq (CW.region (sd rfl (yl_buildSlice (cs := []) un30 ty63 (by decide) rfl opvs_nil (by kernel_rfl) ?_))))))
 intro b19 w20 hs21 hz22 hB23 hE24
 have hO25 : OwnL w20 b19 (b19 + 1) 63 5 (RF e_FeedItem) (some ⟨b19, 0, none⟩) 0 0 ([] : List DFeedItem) := OwnL.of_box (S := fun _ => False) hB23 (Nat.le_refl _) (Nat.lt_succ_self _) EncL.nil (Nat.le_of_ble_eq_true rfl) (fun h => h) (fun _ h => False.elim h)
 refine sd rfl (yl_build (cs := [.int .i64 (0), .int .i64 (0), .slice (some ⟨b19, 0, none⟩) 0 0]) rfl (oc rfl oz) (by kernel_rfl) (sd rfl (yl_alloc ty32 (cs := [.int .i64 (0), .int .i64 (0), .slice none 0 0]) rfl rfl ?_)))
 intro b26 w27 hs28 hz29 hB30 hE31
 refine SeqR.u rfl rfl (yl_store (vs := [.int .i64 (0), .int .i64 (0), .slice (some ⟨b19, 0, none⟩) 0 0]) ty32 rfl rfl rfl rfl rfl rfl hB30 (Nat.le_of_ble_eq_true rfl) ?_)
 intro w32 hB33 hO34
 have hB33 : Box w32 b26 32 [.int .i64 (0), .int .i64 (0), .slice (some ⟨b19, 0, none⟩) 0 0] := hB33
 have hO34z := hO34.size
 refine dn (CW.seq (CW.region (sd rfl (yl_move rfl rfl (sd rfl (yl_call en23 rfl (oc rfl oz) (Cal.mono (c_s_l1R_num ((s_OpenSeal p_0).1) (0, false) (Box.only (Box.ex (Box.ex hB17 hE24) hE31) hO34 (by omega)) ho10 (by first | omega | assumption | (simp only [wI] at *; omega))) ?_)))))))
 rintro v39 w38 ⟨rfl, hB41, hc40⟩
 have hc40z := Chg.size hc40
 have hB41z := Box.lt hB41
 have hrf42 := rf_rnum ho10 (0, false)  (by first | omega | assumption | (simp only [wI] at *; omega))
 refine sd rfl (yl_fieldAddr fd32_0 rfl rfl (SeqR.u rfl rfl (yl_store (vs := [.int .i64 ((s_l1R_num ((s_OpenSeal p_0).1) (0, false)).1)]) ty3 rfl rfl rfl rfl rfl rfl (Box.chg hB33 hc40 (by have := Box.lt hB33; simp only [InR, or_false]; omega)) (Nat.le_of_ble_eq_true rfl) ?_)))
 intro w44 hB45 hO46
 have hB45 : Box w44 b26 32 [.int .i64 ((s_l1R_num ((s_OpenSeal p_0).1) (0, false)).1), .int .i64 (0), .slice (some ⟨b19, 0, none⟩) 0 0] := hB45
 have hO46z := hO46.size
 refine dn (CW.seq (CW.region (sd rfl (yl_move rfl rfl (sd rfl (yl_call en23 rfl (oc rfl oz) (Cal.mono (c_s_l1R_num ((s_OpenSeal p_0).1) ((s_l1R_num ((s_OpenSeal p_0).1) (0, false)).2) (Box.only hB41 hO46 (by omega)) ho10 (by first | omega | assumption | (simp only [wI] at *; omega))) ?_)))))))
 rintro v49 w48 ⟨rfl, hB51, hc50⟩
 have hc50z := Chg.size hc50
 have hB51z := Box.lt hB51
 have hrf52 := rf_rnum ho10 ((s_l1R_num ((s_OpenSeal p_0).1) (0, false)).2)  (by first | omega | assumption | (simp only [wI] at *; omega))
 refine sd rfl (yl_fieldAddr fd32_1 rfl rfl (SeqR.u rfl rfl (yl_store (vs := [.int .i64 ((s_l1R_num ((s_OpenSeal p_0).1) ((s_l1R_num ((s_OpenSeal p_0).1) (0, false)).2)).1)]) ty3 rfl rfl rfl rfl rfl rfl (Box.chg hB45 hc50 (by have := Box.lt hB45; simp only [InR, or_false]; omega)) (Nat.le_of_ble_eq_true rfl) ?_)))
 intro w54 hB55 hO56
 have hB55 : Box w54 b26 32 [.int .i64 ((s_l1R_num ((s_OpenSeal p_0).1) (0, false)).1), .int .i64 ((s_l1R_num ((s_OpenSeal p_0).1) ((s_l1R_num ((s_OpenSeal p_0).1) (0, false)).2)).1), .slice (some ⟨b19, 0, none⟩) 0 0] := hB55
 have hO56z := hO56.size
 refine dn (CW.seq (CW.region (sd rfl (yl_move rfl rfl (sd rfl (yl_call en23 rfl (oc rfl oz) (Cal.mono (c_s_l1R_num ((s_OpenSeal p_0).1) ((s_l1R_num ((s_OpenSeal p_0).1) ((s_l1R_num ((s_OpenSeal p_0).1) (0, false)).2)).2) (Box.only hB51 hO56 (by omega)) ho10 (by first | omega | assumption | (simp only [wI] at *; omega))) ?_)))))))
 rintro v59 w58 ⟨rfl, hB61, hc60⟩
 have hc60z := Chg.size hc60
 have hB61z := Box.lt hB61
 have hrf62 := rf_rnum ho10 ((s_l1R_num ((s_OpenSeal p_0).1) ((s_l1R_num ((s_OpenSeal p_0).1) (0, false)).2)).2)  (by first | omega | assumption | (simp only [wI] at *; omega))
 refine sd rfl (yl_assign rfl rfl (dn (CW.seq (CW.seq (CW.region (sd rfl (yl_assign rfl rfl (dn ?_))))))))
 refine CW.block ?_
 have q139 := Box.only (Box.ex (Box.ex (Box.ex (Box.ex hB7 hE12) hE18) hE24) hE31) hO34 (by omega)
 have q141 := Box.only (Box.chg q139 hc40 (by have := Box.lt q139; simp only [InR, or_false]; omega)) hO46 (by omega)
 have q143 := Box.only (Box.chg q141 hc50 (by have := Box.lt q141; simp only [InR, or_false]; omega)) hO56 (by omega)
 refine CW.loop (fun m132 L133 w134 => ∃ (x125 : Int) (x126 : Int) (x127 : Bool) (x128 : List DFeedItem) (A129 : Option Addr) (c130 : Nat) (u131 : Nat), ((60 - (x125 : Int)).toNat) < m132 ∧ w58.heap.size ≤ w134.heap.size ∧ lkp L133 0 = some (.string (bs (p_0))) ∧ lkp L133 2 = some (.pointer (some ⟨b3, 0, none⟩)) ∧ lkp L133 5 = some (.bool ((s_OpenSeal p_0).2)) ∧ lkp L133 6 = some (.pointer (some ⟨b13, 0, none⟩)) ∧ lkp L133 7 = some (.pointer (some ⟨b26, 0, none⟩)) ∧ lkp L133 8 = some (.int .i64 ((s_l1R_num ((s_OpenSeal p_0).1) ((s_l1R_num ((s_OpenSeal p_0).1) ((s_l1R_num ((s_OpenSeal p_0).1) (0, false)).2)).2)).1)) ∧ lkp L133 9 = some (.int .i64 (x125)) ∧ Box w134 b3 32 [.int .i64 (0), .int .i64 (0), .slice none 0 0] ∧ Box w134 b13 49 [.string (bs ((s_OpenSeal p_0).1)), .int .i64 (x126), .bool (x127)] ∧ Box w134 b26 32 [.int .i64 ((s_l1R_num ((s_OpenSeal p_0).1) (0, false)).1), .int .i64 ((s_l1R_num ((s_OpenSeal p_0).1) ((s_l1R_num ((s_OpenSeal p_0).1) (0, false)).2)).1), .slice A129 x128.length c130] ∧ OwnL w134 w58.heap.size u131 63 5 (RF e_FeedItem) A129 x128.length c130 x128 ∧ Ex w w134 ∧ (w58.heap.size ≤ u131 ∧ u131 ≤ w134.heap.size) ∧ x128.length + 1 * ((60 - (x125 : Int)).toNat) ≤ 0 + 1 * ((60 - (0 : Int)).toNat) ∧ (∀ y ∈ x128, ok_FeedItem y) ∧ (0 ≤ x126 ∧ x126 ≤ ((s_OpenSeal p_0).1.length : Int)) ∧ (0 ≤ x125 ∧ x125 ≤ 60) ∧ loopW (B_s_ReadDiff_0 p_0) m132 (x125, x126, x127, x128) = loopW (B_s_ReadDiff_0 p_0) (((60 - (0 : Int)).toNat) + 1) (0, ((s_l1R_num ((s_OpenSeal p_0).1) ((s_l1R_num ((s_OpenSeal p_0).1) ((s_l1R_num ((s_OpenSeal p_0).1) (0, false)).2)).2)).2).1, ((s_l1R_num ((s_OpenSeal p_0).1) ((s_l1R_num ((s_OpenSeal p_0).1) ((s_l1R_num ((s_OpenSeal p_0).1) (0, false)).2)).2)).2).2, ([] : List DFeedItem))) (((60 - (0 : Int)).toNat) + 1) ?_ ?_
 ·exact ⟨0, ((s_l1R_num ((s_OpenSeal p_0).1) ((s_l1R_num ((s_OpenSeal p_0).1) ((s_l1R_num ((s_OpenSeal p_0).1) (0, false)).2)).2)).2).1, ((s_l1R_num ((s_OpenSeal p_0).1) ((s_l1R_num ((s_OpenSeal p_0).1) ((s_l1R_num ((s_OpenSeal p_0).1) (0, false)).2)).2)).2).2, ([] : List DFeedItem), (some ⟨b19, 0, none⟩), 0, w58.heap.size, Nat.lt_succ_self _, Nat.le_refl _, rfl, rfl, rfl, rfl, rfl, rfl, rfl, (Box.chg q143 hc60 (by have := Box.lt q143; simp only [InR, or_false]; omega)), hB61, (Box.chg hB55 hc60 (by have := Box.lt hB55; simp only [InR, or_false]; omega)), (OwnL.empty w58 w58.heap.size w58.heap.size 63 5 (RF e_FeedItem) (some ⟨b19, 0, none⟩)), (Ex.chg (Below.only (Ex.chg (Below.only (Ex.chg (Below.only (Ex.trans (Ex.trans (Ex.trans (Ex.trans (Ex.trans (Ex.refl w) hE8) hE12) hE18) hE24) hE31) hO34 (by omega)) hc40 (fun k hk => by simp only [InR, or_false] at hk; omega)) hO46 (by omega)) hc50 (fun k hk => by simp only [InR, or_false] at hk; omega)) hO56 (by omega)) hc60 (fun k hk => by simp only [InR, or_false] at hk; omega)), (by omega), (by first | (simp; done) | (first | omega | (simp only [List.length_append, List.length_cons, List.length_nil, List.length_set, toS_length]; omega))), okE.nil, (by first | omega | assumption | (simp only [wI] at *; omega)), (by first | omega | assumption | (simp only [wI] at *; omega)), rfl⟩
 ·rintro m157 L158 w159 ⟨x125, x126, x127, x128, A129, c130, u131, hk160, hsz162, hl163, hl164, hl165, hl166, hl167, hl168, hl169, hf170, hf171, hf172, hf173, hf174, hu175, hln176, hok177, hv178, hv179, hI161⟩
  refine CW.sub (Sub.cons hl163 (Sub.cons hl164 (Sub.cons hl165 (Sub.cons hl166 (Sub.cons hl167 (Sub.cons hl168 (Sub.cons hl169 (Sub.nil _)))))))) ?_
  have hf170z := Box.lt hf170
  have hf171z := Box.lt hf171
  have hf172z := Box.lt hf172
  have hf174z := Ex.size hf174
  refine CW.seq (CW.seq (CW.region (sd rfl (yl_move rfl rfl (sd rfl (yl_move rfl rfl (sd rfl (yl_lss rfl rfl rfl (sd rfl (yl_move rfl rfl (bcase (decide (x125 < ((s_l1R_num ((s_OpenSeal p_0).1) ((s_l1R_num ((s_OpenSeal p_0).1) ((s_l1R_num ((s_OpenSeal p_0).1) (0, false)).2)).2)).1))) (fun hb180 => ?_) (fun hb180 => ?_))))))))))))
  ·have hb180p := dec_t hb180
   refine sy rfl rfl hb180 (yl_move rfl rfl (sy rfl rfl hb180 (yl_lss rfl rfl rfl (sd rfl (yl_pick_t rfl rfl hb180 rfl (sd rfl (yl_move rfl rfl (bcase (decide (x125 < 60)) (fun hb181 => ?_) (fun hb181 => ?_)))))))))
   ·have hb181p := dec_t hb181
    refine sy rfl rfl hb181 (yl_move rfl rfl (sy rfl rfl hb181 (yl_nil rfl rfl (sy rfl rfl hb181 (yl_fieldAddr fd49_2 rfl rfl (sy rfl rfl hb181 (yl_load1 ty4 rfl rfl ((hf171.cell 2).trans rfl) (sy rfl rfl hb181 (yl_not rfl rfl (sd rfl (yl_pick_t rfl rfl hb181 rfl (dn (bcase (x127) (fun hb182 => ?_) (fun hb182 => ?_))))))))))))))
    ·refine CW.cond_f rfl (not_t hb182) (CW.exit (tx (tx ?_)))
     have hB184 : B_s_ReadDiff_0 p_0 (x125, x126, x127, x128) = .brk (x125, x126, x127, x128) := by simp only [B_s_ReadDiff_0, hb180, hb181, hb182, cL]
     have hL183 : loopW (B_s_ReadDiff_0 p_0) (((60 - (0 : Int)).toNat) + 1) (0, ((s_l1R_num ((s_OpenSeal p_0).1) ((s_l1R_num ((s_OpenSeal p_0).1) ((s_l1R_num ((s_OpenSeal p_0).1) (0, false)).2)).2)).2).1, ((s_l1R_num ((s_OpenSeal p_0).1) ((s_l1R_num ((s_OpenSeal p_0).1) ((s_l1R_num ((s_OpenSeal p_0).1) (0, false)).2)).2)).2).2, ([] : List DFeedItem)) = .done (x125, x126, x127, x128) := hI161.symm.trans (loopW.brk hk160 hB184)
     refine bx (tn (CW.seq (CW.seq (CW.region (sd rfl (yl_loadN ty32 rfl rfl (hf172.cells (n := 3) rfl) rfl (sd rfl (yl_call en35 rfl (oc rfl oz) (Cal.mono (c_s_DiffBytes (⟨(s_l1R_num ((s_OpenSeal p_0).1) (0, false)).1, (s_l1R_num ((s_OpenSeal p_0).1) ((s_l1R_num ((s_OpenSeal p_0).1) (0, false)).2)).1, x128⟩ : DDiff) (RdS.up (OwnL.rd good_FeedItem hf173) good_FeedItem) (okL.mk (xs := x128) (by first | omega | (simp only [List.length_append, List.length_cons, List.length_nil, List.length_take, List.length_drop, List.length_replicate, List.length_set, toS_length]; omega)) hok177)) ?_)))))))))
     rintro v187 w186 ⟨rfl, hE188⟩
     have hE188z := Ex.size hE188
     refine sd rfl (yl_move rfl rfl (sd rfl (yl_extract rfl rfl rfl (sd rfl (yl_extract rfl rfl rfl (sd rfl (yl_assign rfl rfl (sd rfl (yl_assign rfl rfl (dn (CW.seq (CW.region ?_))))))))))))
     refine sd rfl (yl_move rfl rfl (sd rfl (yl_not rfl rfl (sd rfl (yl_move rfl rfl (bcase ((s_OpenSeal p_0).2) (fun hb189 => ?_) (fun hb189 => ?_)))))))
     ·refine sy rfl rfl (not_t hb189) (yl_move rfl rfl (sy rfl rfl (not_t hb189) (yl_nil rfl rfl (sy rfl rfl (not_t hb189) (yl_fieldAddr fd49_2 rfl rfl (sy rfl rfl (not_t hb189) (yl_load1 ty4 rfl rfl (((Box.ex hf171 hE188).cell 2).trans rfl) (sd rfl (yl_pick_f rfl rfl (not_t hb189) rfl (sd rfl (yl_move rfl rfl (sz rfl rfl hb182 (sz rfl rfl hb182 (sd rfl (yl_pick_t rfl rfl hb182 rfl ?_)))))))))))))))
      refine sd rfl (yl_move rfl rfl (sz rfl rfl rfl (sz rfl rfl rfl (sz rfl rfl rfl (sd rfl (yl_pick_t rfl rfl rfl rfl (dn (CW.cond_t rfl rfl (CW.seq ?_)))))))))
      refine CW.region (sd rfl (yl_build (cs := [.int .i64 (0), .int .i64 (0), .slice none 0 0]) rfl opvs_nil (by kernel_rfl) (SeqR.u rfl rfl (yl_store (vs := [.int .i64 (0), .int .i64 (0), .slice none 0 0]) ty32 rfl rfl rfl rfl rfl rfl (Box.ex hf170 hE188) (Nat.le_of_ble_eq_true rfl) ?_))))
      intro w192 hB193 hO194
      have hB193 : Box w192 b3 32 [.int .i64 (0), .int .i64 (0), .slice none 0 0] := hB193
      have hO194z := hO194.size
      refine sd rfl (yl_assign rfl rfl (dn (CW.ret (tr (rr rfl (.cons ⟨_, rfl, run_loadN ty32 (cs := [.int .i64 (0), .int .i64 (0), .slice none 0 0]) rfl (hB193.cells (n := 3) rfl)⟩ (.cons rfl .nil)) ?_)))))
      have hM195 : (s_ReadDiff p_0) = (((⟨0, 0, []⟩ : DDiff), false)) := by simp only [s_ReadDiff, hb180, hb181, hb182, hb189, hL183, cL]
      rw [hM195]
      exact ⟨none, 0, w192.heap.size, w192.heap.size, rfl, (OwnL.nil _ _ _ _ _ _), (okL.nil _), (by omega), (Below.only (Ex.trans hf174 hE188) hO194 (by omega))⟩
     ·refine sz rfl rfl (not_f hb189) (sz rfl rfl (not_f hb189) (sz rfl rfl (not_f hb189) (sz rfl rfl (not_f hb189) (sd rfl (yl_pick_t rfl rfl (not_f hb189) rfl (sd rfl (yl_move rfl rfl (sz rfl rfl rfl (sz rfl rfl rfl (sd rfl (yl_pick_t rfl rfl rfl rfl ?_)))))))))))
      refine sd rfl (yl_move rfl rfl (sz rfl rfl rfl (sz rfl rfl rfl (sz rfl rfl rfl (sd rfl (yl_pick_t rfl rfl rfl rfl (dn (CW.cond_t rfl rfl (CW.seq ?_)))))))))
      refine CW.region (sd rfl (yl_build (cs := [.int .i64 (0), .int .i64 (0), .slice none 0 0]) rfl opvs_nil (by kernel_rfl) (SeqR.u rfl rfl (yl_store (vs := [.int .i64 (0), .int .i64 (0), .slice none 0 0]) ty32 rfl rfl rfl rfl rfl rfl (Box.ex hf170 hE188) (Nat.le_of_ble_eq_true rfl) ?_))))
      intro w199 hB200 hO201
      have hB200 : Box w199 b3 32 [.int .i64 (0), .int .i64 (0), .slice none 0 0] := hB200
      have hO201z := hO201.size
      refine sd rfl (yl_assign rfl rfl (dn (CW.ret (tr (rr rfl (.cons ⟨_, rfl, run_loadN ty32 (cs := [.int .i64 (0), .int .i64 (0), .slice none 0 0]) rfl (hB200.cells (n := 3) rfl)⟩ (.cons rfl .nil)) ?_)))))
      have hM202 : (s_ReadDiff p_0) = (((⟨0, 0, []⟩ : DDiff), false)) := by simp only [s_ReadDiff, hb180, hb181, hb182, hb189, hL183, cL]
      rw [hM202]
      exact ⟨none, 0, w199.heap.size, w199.heap.size, rfl, (OwnL.nil _ _ _ _ _ _), (okL.nil _), (by omega), (Below.only (Ex.trans hf174 hE188) hO201 (by omega))⟩
    ·refine CW.cond_t rfl (not_f hb182) (CW.skip (tn (CW.seq (CW.block (CW.seq (CW.region (sd rfl (yl_move rfl rfl (sd rfl (yl_call en23 rfl (oc rfl oz) (Cal.mono (c_s_l1R_num ((s_OpenSeal p_0).1) (x126, x127) hf171 ho10 (by first | omega | assumption | (simp only [wI] at *; omega))) ?_)))))))))))
     rintro v206 w205 ⟨rfl, hB208, hc207⟩
     have hc207z := Chg.size hc207
     have hB208z := Box.lt hB208
     have hrf209 := rf_rnum ho10 (x126, x127)  (by first | omega | assumption | (simp only [wI] at *; omega))
     refine sd rfl (yl_build (cs := [.int .i64 ((s_l1R_num ((s_OpenSeal p_0).1) (x126, x127)).1), .int .i64 (0), .string (bs (([] : Str))), .string (bs (([] : Str))), .bool (false)]) rfl (oc rfl oz) (by kernel_rfl) (sd rfl (yl_alloc ty63 (cs := [.int .i64 (0), .int .i64 (0), .string (bs (([] : Str))), .string (bs (([] : Str))), .bool (false)]) rfl rfl ?_)))
     intro b210 w211 hs212 hz213 hB214 hE215
     refine SeqR.u rfl rfl (yl_store (vs := [.int .i64 ((s_l1R_num ((s_OpenSeal p_0).1) (x126, x127)).1), .int .i64 (0), .string (bs (([] : Str))), .string (bs (([] : Str))), .bool (false)]) ty63 rfl rfl rfl rfl rfl rfl hB214 (Nat.le_of_ble_eq_true rfl) ?_)
     intro w216 hB217 hO218
     have hB217 : Box w216 b210 63 [.int .i64 ((s_l1R_num ((s_OpenSeal p_0).1) (x126, x127)).1), .int .i64 (0), .string (bs (([] : Str))), .string (bs (([] : Str))), .bool (false)] := hB217
     have hO218z := hO218.size
     refine dn (CW.seq (CW.region (sd rfl (yl_move rfl rfl (sd rfl (yl_call en24 rfl (oc rfl oz) (Cal.mono (c_s_l1R_text ((s_OpenSeal p_0).1) ((s_l1R_num ((s_OpenSeal p_0).1) (x126, x127)).2) (Box.only (Box.ex hB208 hE215) hO218 (by omega)) ho10 (by first | omega | assumption | (simp only [wI] at *; omega))) ?_)))))))
     rintro v223 w221 ⟨rfl, ho222, hB225, hc224⟩
     have hc224z := Chg.size hc224
     have hB225z := Box.lt hB225
     have hrf226 := rf_rtext ho10 ((s_l1R_num ((s_OpenSeal p_0).1) (x126, x127)).2)  (by first | omega | assumption | (simp only [wI] at *; omega))
     refine sd rfl (yl_fieldAddr fd63_2 rfl rfl (SeqR.u rfl rfl (yl_store (vs := [.string (bs ((s_l1R_text ((s_OpenSeal p_0).1) ((s_l1R_num ((s_OpenSeal p_0).1) (x126, x127)).2)).1))]) ty9 rfl rfl rfl rfl rfl rfl (Box.chg hB217 hc224 (by have := Box.lt hB217; simp only [InR, or_false]; omega)) (Nat.le_of_ble_eq_true rfl) ?_)))
     intro w228 hB229 hO230
     have hB229 : Box w228 b210 63 [.int .i64 ((s_l1R_num ((s_OpenSeal p_0).1) (x126, x127)).1), .int .i64 (0), .string (bs ((s_l1R_text ((s_OpenSeal p_0).1) ((s_l1R_num ((s_OpenSeal p_0).1) (x126, x127)).2)).1)), .string (bs (([] : Str))), .bool (false)] := hB229
     have hO230z := hO230.size
     refine dn (CW.seq (CW.region (sd rfl (yl_move rfl rfl (sd rfl (yl_call en34 rfl (oc rfl oz) (Cal.mono (c_s_l1R_one ((s_OpenSeal p_0).1) ((s_l1R_text ((s_OpenSeal p_0).1) ((s_l1R_num ((s_OpenSeal p_0).1) (x126, x127)).2)).2) (Box.only hB225 hO230 (by omega)) ho10 (by first | omega | assumption | (simp only [wI] at *; omega))) ?_)))))))
     rintro v233 w232 ⟨rfl, hB235, hc234⟩
     have hc234z := Chg.size hc234
     have hB235z := Box.lt hB235
     have hrf236 := rf_one ho10 ((s_l1R_text ((s_OpenSeal p_0).1) ((s_l1R_num ((s_OpenSeal p_0).1) (x126, x127)).2)).2)  (by first | omega | assumption | (simp only [wI] at *; omega))
     refine sd rfl (yl_eql rfl rfl rfl (sd rfl (yl_fieldAddr fd63_4 rfl rfl (SeqR.u rfl rfl (yl_store (vs := [.bool (decide (((s_l1R_one ((s_OpenSeal p_0).1) ((s_l1R_text ((s_OpenSeal p_0).1) ((s_l1R_num ((s_OpenSeal p_0).1) (x126, x127)).2)).2)).1) = 1))]) ty4 rfl rfl rfl rfl rfl rfl (Box.chg hB229 hc234 (by have := Box.lt hB229; simp only [InR, or_false]; omega)) (Nat.le_of_ble_eq_true rfl) ?_)))))
     intro w238 hB239 hO240
     have hB239 : Box w238 b210 63 [.int .i64 ((s_l1R_num ((s_OpenSeal p_0).1) (x126, x127)).1), .int .i64 (0), .string (bs ((s_l1R_text ((s_OpenSeal p_0).1) ((s_l1R_num ((s_OpenSeal p_0).1) (x126, x127)).2)).1)), .string (bs (([] : Str))), .bool (decide (((s_l1R_one ((s_OpenSeal p_0).1) ((s_l1R_text ((s_OpenSeal p_0).1) ((s_l1R_num ((s_OpenSeal p_0).1) (x126, x127)).2)).2)).1) = 1))] := hB239
     have hO240z := hO240.size
     refine dn (CW.seq (CW.region (sd rfl (yl_move rfl rfl (sd rfl (yl_call en24 rfl (oc rfl oz) (Cal.mono (c_s_l1R_text ((s_OpenSeal p_0).1) ((s_l1R_one ((s_OpenSeal p_0).1) ((s_l1R_text ((s_OpenSeal p_0).1) ((s_l1R_num ((s_OpenSeal p_0).1) (x126, x127)).2)).2)).2) (Box.only hB235 hO240 (by omega)) ho10 (by first | omega | assumption | (simp only [wI] at *; omega))) ?_)))))))
     rintro v244 w242 ⟨rfl, ho243, hB246, hc245⟩
     have hc245z := Chg.size hc245
     have hB246z := Box.lt hB246
     have hrf247 := rf_rtext ho10 ((s_l1R_one ((s_OpenSeal p_0).1) ((s_l1R_text ((s_OpenSeal p_0).1) ((s_l1R_num ((s_OpenSeal p_0).1) (x126, x127)).2)).2)).2)  (by first | omega | assumption | (simp only [wI] at *; omega))
     refine sd rfl (yl_fieldAddr fd63_3 rfl rfl (SeqR.u rfl rfl (yl_store (vs := [.string (bs ((s_l1R_text ((s_OpenSeal p_0).1) ((s_l1R_one ((s_OpenSeal p_0).1) ((s_l1R_text ((s_OpenSeal p_0).1) ((s_l1R_num ((s_OpenSeal p_0).1) (x126, x127)).2)).2)).2)).1))]) ty9 rfl rfl rfl rfl rfl rfl (Box.chg hB239 hc245 (by have := Box.lt hB239; simp only [InR, or_false]; omega)) (Nat.le_of_ble_eq_true rfl) ?_)))
     intro w249 hB250 hO251
     have hB250 : Box w249 b210 63 [.int .i64 ((s_l1R_num ((s_OpenSeal p_0).1) (x126, x127)).1), .int .i64 (0), .string (bs ((s_l1R_text ((s_OpenSeal p_0).1) ((s_l1R_num ((s_OpenSeal p_0).1) (x126, x127)).2)).1)), .string (bs ((s_l1R_text ((s_OpenSeal p_0).1) ((s_l1R_one ((s_OpenSeal p_0).1) ((s_l1R_text ((s_OpenSeal p_0).1) ((s_l1R_num ((s_OpenSeal p_0).1) (x126, x127)).2)).2)).2)).1)), .bool (decide (((s_l1R_one ((s_OpenSeal p_0).1) ((s_l1R_text ((s_OpenSeal p_0).1) ((s_l1R_num ((s_OpenSeal p_0).1) (x126, x127)).2)).2)).1) = 1))] := hB250
     have hO251z := hO251.size
     refine dn (CW.region (sd rfl (yl_fieldAddr fd32_2 rfl rfl ?_)))
     have q254 := Box.only (Box.ex (Box.chg hf172 hc207 (by have := Box.lt hf172; simp only [InR, or_false]; omega)) hE215) hO218 (by omega)
     have q256 := Box.only (Box.chg q254 hc224 (by have := Box.lt q254; simp only [InR, or_false]; omega)) hO230 (by omega)
     have q258 := Box.only (Box.chg q256 hc234 (by have := Box.lt q256; simp only [InR, or_false]; omega)) hO240 (by omega)
     have q260 := Box.only (Box.chg q258 hc245 (by have := Box.lt q258; simp only [InR, or_false]; omega)) hO251 (by omega)
     refine sd rfl (yl_load1 ty30 rfl rfl ((q260.cell 2).trans rfl) (sd rfl (yl_loadN ty63 rfl rfl (hB250.cells (n := 5) rfl) rfl (sd rfl (yl_buildSlice (cs := [.int .i64 ((s_l1R_num ((s_OpenSeal p_0).1) (x126, x127)).1), .int .i64 (0), .string (bs ((s_l1R_text ((s_OpenSeal p_0).1) ((s_l1R_num ((s_OpenSeal p_0).1) (x126, x127)).2)).1)), .string (bs ((s_l1R_text ((s_OpenSeal p_0).1) ((s_l1R_one ((s_OpenSeal p_0).1) ((s_l1R_text ((s_OpenSeal p_0).1) ((s_l1R_num ((s_OpenSeal p_0).1) (x126, x127)).2)).2)).2)).1)), .bool (decide (((s_l1R_one ((s_OpenSeal p_0).1) ((s_l1R_text ((s_OpenSeal p_0).1) ((s_l1R_num ((s_OpenSeal p_0).1) (x126, x127)).2)).2)).1) = 1))]) un30 ty63 (by decide) rfl (oc rfl oz) (by kernel_rfl) ?_)))))
     intro b261 w262 hs263 hz264 hB265 hE266
     have hO267 : OwnL w262 b261 (b261 + 1) 63 5 (RF e_FeedItem) (some ⟨b261, 0, none⟩) 1 1 ([(⟨(s_l1R_num ((s_OpenSeal p_0).1) (x126, x127)).1, 0, (s_l1R_text ((s_OpenSeal p_0).1) ((s_l1R_num ((s_OpenSeal p_0).1) (x126, x127)).2)).1, (s_l1R_text ((s_OpenSeal p_0).1) ((s_l1R_one ((s_OpenSeal p_0).1) ((s_l1R_text ((s_OpenSeal p_0).1) ((s_l1R_num ((s_OpenSeal p_0).1) (x126, x127)).2)).2)).2)).1, decide (((s_l1R_one ((s_OpenSeal p_0).1) ((s_l1R_text ((s_OpenSeal p_0).1) ((s_l1R_num ((s_OpenSeal p_0).1) (x126, x127)).2)).2)).1) = 1)⟩ : DFeedItem)] : List DFeedItem) := OwnL.of_box (S := fun _ => False) hB265 (Nat.le_refl _) (Nat.lt_succ_self _) (EncL.cons (c := [.int .i64 ((s_l1R_num ((s_OpenSeal p_0).1) (x126, x127)).1), .int .i64 (0), .string (bs ((s_l1R_text ((s_OpenSeal p_0).1) ((s_l1R_num ((s_OpenSeal p_0).1) (x126, x127)).2)).1)), .string (bs ((s_l1R_text ((s_OpenSeal p_0).1) ((s_l1R_one ((s_OpenSeal p_0).1) ((s_l1R_text ((s_OpenSeal p_0).1) ((s_l1R_num ((s_OpenSeal p_0).1) (x126, x127)).2)).2)).2)).1)), .bool (decide (((s_l1R_one ((s_OpenSeal p_0).1) ((s_l1R_text ((s_OpenSeal p_0).1) ((s_l1R_num ((s_OpenSeal p_0).1) (x126, x127)).2)).2)).1) = 1))]) rfl rfl EncL.nil) (Nat.le_of_ble_eq_true rfl) (fun h => h) (fun _ h => False.elim h)
     have q274 := OwnL.only good_FeedItem (OwnL.chg good_FeedItem (OwnL.only good_FeedItem (OwnL.chg good_FeedItem (OwnL.only good_FeedItem (OwnL.ex good_FeedItem (OwnL.chg good_FeedItem hf173 hc207 (fun k hl hk => by simp only [InR, or_false] at hk; omega)) hE215) hO218 (by omega)) hc224 (fun k hl hk => by simp only [InR, or_false] at hk; omega)) hO230 (by omega)) hc234 (fun k hl hk => by simp only [InR, or_false] at hk; omega)) hO240 (by omega)
     refine sd rfl (yl_appendL (S := (fun _ => False)) (lo := w58.heap.size) (hi := u131) (xs := x128) (ys := ([(⟨(s_l1R_num ((s_OpenSeal p_0).1) (x126, x127)).1, 0, (s_l1R_text ((s_OpenSeal p_0).1) ((s_l1R_num ((s_OpenSeal p_0).1) (x126, x127)).2)).1, (s_l1R_text ((s_OpenSeal p_0).1) ((s_l1R_one ((s_OpenSeal p_0).1) ((s_l1R_text ((s_OpenSeal p_0).1) ((s_l1R_num ((s_OpenSeal p_0).1) (x126, x127)).2)).2)).2)).1, decide (((s_l1R_one ((s_OpenSeal p_0).1) ((s_l1R_text ((s_OpenSeal p_0).1) ((s_l1R_num ((s_OpenSeal p_0).1) (x126, x127)).2)).2)).1) = 1)⟩ : DFeedItem)] : List DFeedItem)) good_FeedItem un30 ty63 rfl (Nat.le_of_ble_eq_true rfl) rfl rfl rfl (OwnL.ex good_FeedItem (OwnL.only good_FeedItem (OwnL.chg good_FeedItem q274 hc245 (fun k hl hk => by simp only [InR, or_false] at hk; omega)) hO251 (by omega)) hE266) (EncL.cons (c := [.int .i64 ((s_l1R_num ((s_OpenSeal p_0).1) (x126, x127)).1), .int .i64 (0), .string (bs ((s_l1R_text ((s_OpenSeal p_0).1) ((s_l1R_num ((s_OpenSeal p_0).1) (x126, x127)).2)).1)), .string (bs ((s_l1R_text ((s_OpenSeal p_0).1) ((s_l1R_one ((s_OpenSeal p_0).1) ((s_l1R_text ((s_OpenSeal p_0).1) ((s_l1R_num ((s_OpenSeal p_0).1) (x126, x127)).2)).2)).2)).1)), .bool (decide (((s_l1R_one ((s_OpenSeal p_0).1) ((s_l1R_text ((s_OpenSeal p_0).1) ((s_l1R_num ((s_OpenSeal p_0).1) (x126, x127)).2)).2)).1) = 1))]) rfl rfl EncL.nil) (Or.inr ⟨_, _, rfl, rfl, hB265.cells (o := 0) (n := 5) rfl⟩) rfl (by first | omega | (simp only [List.length_append, List.length_cons, List.length_nil, List.length_take, List.length_drop, List.length_replicate, List.length_set, toS_length]; omega)) (by first | omega | (simp only [List.length_append, List.length_cons, List.length_nil, List.length_take, List.length_drop, List.length_replicate, List.length_set, toS_length]; omega)) (by omega) (by omega) (fun _ h _ => False.elim h) (by omega) ?_)
     intro A278 c279 w280 row281 hO282 hG283 hrg284
     have hG283z := hG283.size
     refine sd rfl (yl_fieldAddr fd32_2 rfl rfl (SeqR.u rfl rfl (yl_store (vs := [.slice A278 ((x128 ++ ([(⟨(s_l1R_num ((s_OpenSeal p_0).1) (x126, x127)).1, 0, (s_l1R_text ((s_OpenSeal p_0).1) ((s_l1R_num ((s_OpenSeal p_0).1) (x126, x127)).2)).1, (s_l1R_text ((s_OpenSeal p_0).1) ((s_l1R_one ((s_OpenSeal p_0).1) ((s_l1R_text ((s_OpenSeal p_0).1) ((s_l1R_num ((s_OpenSeal p_0).1) (x126, x127)).2)).2)).2)).1, decide (((s_l1R_one ((s_OpenSeal p_0).1) ((s_l1R_text ((s_OpenSeal p_0).1) ((s_l1R_num ((s_OpenSeal p_0).1) (x126, x127)).2)).2)).1) = 1)⟩ : DFeedItem)] : List DFeedItem)).length) c279]) ty30 rfl rfl rfl rfl rfl rfl (Box.grown (Box.ex q260 hE266) hG283 (fun k hk => by have := hrg284 k hk; omega)) (Nat.le_of_ble_eq_true rfl) ?_)))
     intro w287 hB288 hO289
     have hB288 : Box w287 b26 32 [.int .i64 ((s_l1R_num ((s_OpenSeal p_0).1) (0, false)).1), .int .i64 ((s_l1R_num ((s_OpenSeal p_0).1) ((s_l1R_num ((s_OpenSeal p_0).1) (0, false)).2)).1), .slice A278 ((x128 ++ ([(⟨(s_l1R_num ((s_OpenSeal p_0).1) (x126, x127)).1, 0, (s_l1R_text ((s_OpenSeal p_0).1) ((s_l1R_num ((s_OpenSeal p_0).1) (x126, x127)).2)).1, (s_l1R_text ((s_OpenSeal p_0).1) ((s_l1R_one ((s_OpenSeal p_0).1) ((s_l1R_text ((s_OpenSeal p_0).1) ((s_l1R_num ((s_OpenSeal p_0).1) (x126, x127)).2)).2)).2)).1, decide (((s_l1R_one ((s_OpenSeal p_0).1) ((s_l1R_text ((s_OpenSeal p_0).1) ((s_l1R_num ((s_OpenSeal p_0).1) (x126, x127)).2)).2)).1) = 1)⟩ : DFeedItem)] : List DFeedItem)).length) c279] := hB288
     have hO289z := hO289.size
     refine SeqR.done (bn (tn (CW.region (sd rfl (yl_move rfl rfl (sd rfl (yl_add rfl rfl rfl (sd rfl (yl_assign rfl rfl (dn ?_))))))))))
     have hB290 : B_s_ReadDiff_0 p_0 (x125, x126, x127, x128) = .cont (IntKind.wrap .i64 (x125 + 1), ((s_l1R_text ((s_OpenSeal p_0).1) ((s_l1R_one ((s_OpenSeal p_0).1) ((s_l1R_text ((s_OpenSeal p_0).1) ((s_l1R_num ((s_OpenSeal p_0).1) (x126, x127)).2)).2)).2)).2).1, ((s_l1R_text ((s_OpenSeal p_0).1) ((s_l1R_one ((s_OpenSeal p_0).1) ((s_l1R_text ((s_OpenSeal p_0).1) ((s_l1R_num ((s_OpenSeal p_0).1) (x126, x127)).2)).2)).2)).2).2, (x128 ++ ([(⟨(s_l1R_num ((s_OpenSeal p_0).1) (x126, x127)).1, 0, (s_l1R_text ((s_OpenSeal p_0).1) ((s_l1R_num ((s_OpenSeal p_0).1) (x126, x127)).2)).1, (s_l1R_text ((s_OpenSeal p_0).1) ((s_l1R_one ((s_OpenSeal p_0).1) ((s_l1R_text ((s_OpenSeal p_0).1) ((s_l1R_num ((s_OpenSeal p_0).1) (x126, x127)).2)).2)).2)).1, decide (((s_l1R_one ((s_OpenSeal p_0).1) ((s_l1R_text ((s_OpenSeal p_0).1) ((s_l1R_num ((s_OpenSeal p_0).1) (x126, x127)).2)).2)).1) = 1)⟩ : DFeedItem)] : List DFeedItem))) := by simp only [B_s_ReadDiff_0, hb180, hb181, hb182, cL]
     have q293 := Box.only (Box.ex (Box.chg hf170 hc207 (by have := Box.lt hf170; simp only [InR, or_false]; omega)) hE215) hO218 (by omega)
     have q295 := Box.only (Box.chg q293 hc224 (by have := Box.lt q293; simp only [InR, or_false]; omega)) hO230 (by omega)
     have q297 := Box.only (Box.chg q295 hc234 (by have := Box.lt q295; simp only [InR, or_false]; omega)) hO240 (by omega)
     have q316 := Below.only (Ex.chg (Below.only (Ex.chg (Below.only (Ex.chg (Below.only (Ex.trans (Ex.chg hf174 hc207 (fun k hk => by simp only [InR, or_false] at hk; omega)) hE215) hO218 (by omega)) hc224 (fun k hk => by simp only [InR, or_false] at hk; omega)) hO230 (by omega)) hc234 (fun k hk => by simp only [InR, or_false] at hk; omega)) hO240 (by omega)) hc245 (fun k hk => by simp only [InR, or_false] at hk; omega)) hO251 (by omega)
     have hmu320 : ((60 - (IntKind.wrap .i64 (x125 + 1) : Int)).toNat) < ((60 - (x125 : Int)).toNat) := by first | omega | assumption | (simp only [wI] at *; omega)
     exact ⟨m157 - 1, by omega, IntKind.wrap .i64 (x125 + 1), ((s_l1R_text ((s_OpenSeal p_0).1) ((s_l1R_one ((s_OpenSeal p_0).1) ((s_l1R_text ((s_OpenSeal p_0).1) ((s_l1R_num ((s_OpenSeal p_0).1) (x126, x127)).2)).2)).2)).2).1, ((s_l1R_text ((s_OpenSeal p_0).1) ((s_l1R_one ((s_OpenSeal p_0).1) ((s_l1R_text ((s_OpenSeal p_0).1) ((s_l1R_num ((s_OpenSeal p_0).1) (x126, x127)).2)).2)).2)).2).2, (x128 ++ ([(⟨(s_l1R_num ((s_OpenSeal p_0).1) (x126, x127)).1, 0, (s_l1R_text ((s_OpenSeal p_0).1) ((s_l1R_num ((s_OpenSeal p_0).1) (x126, x127)).2)).1, (s_l1R_text ((s_OpenSeal p_0).1) ((s_l1R_one ((s_OpenSeal p_0).1) ((s_l1R_text ((s_OpenSeal p_0).1) ((s_l1R_num ((s_OpenSeal p_0).1) (x126, x127)).2)).2)).2)).1, decide (((s_l1R_one ((s_OpenSeal p_0).1) ((s_l1R_text ((s_OpenSeal p_0).1) ((s_l1R_num ((s_OpenSeal p_0).1) (x126, x127)).2)).2)).1) = 1)⟩ : DFeedItem)] : List DFeedItem)), A278, c279, w280.heap.size, (by omega), (by omega), rfl, rfl, rfl, rfl, rfl, rfl, rfl, (Box.only (Box.grown (Box.ex (Box.only (Box.chg q297 hc245 (by have := Box.lt q297; simp only [InR, or_false]; omega)) hO251 (by omega)) hE266) hG283 (fun k hk => by have := hrg284 k hk; omega)) hO289 (by omega)), (Box.only (Box.grown (Box.ex (Box.only hB246 hO251 (by omega)) hE266) hG283 (fun k hk => by have := hrg284 k hk; omega)) hO289 (by omega)), hB288, (OwnL.only good_FeedItem hO282 hO289 (by omega)), (Below.only (Below.grown (Ex.trans q316 hE266) hG283 (by omega) (fun k hk => by have := hrg284 k hk; omega)) hO289 (by omega)), (by omega), (by first | omega | (simp only [List.length_append, List.length_cons, List.length_nil, List.length_set, toS_length]; omega)), (okE.append hok177 ((okL.mk (Nat.le_of_ble_eq_true rfl) (okE.cons ⟨ho222, ho243⟩ okE.nil))).2), (by first | omega | assumption | (simp only [wI] at *; omega)), (by first | omega | assumption | (simp only [wI] at *; omega)), (loopW.cont hk160 hB290).symm.trans hI161⟩
   ·have hb181p := dec_f hb181
    refine sz rfl rfl hb181 (sz rfl rfl hb181 (sz rfl rfl hb181 (sz rfl rfl hb181 (sz rfl rfl hb181 (sd rfl (yl_pick_f rfl rfl hb181 rfl (dn (CW.cond_f rfl rfl ?_))))))))
    refine CW.exit (tx (tx ?_))
    have hB322 : B_s_ReadDiff_0 p_0 (x125, x126, x127, x128) = .brk (x125, x126, x127, x128) := by simp only [B_s_ReadDiff_0, hb180, hb181, cL]
    have hL321 : loopW (B_s_ReadDiff_0 p_0) (((60 - (0 : Int)).toNat) + 1) (0, ((s_l1R_num ((s_OpenSeal p_0).1) ((s_l1R_num ((s_OpenSeal p_0).1) ((s_l1R_num ((s_OpenSeal p_0).1) (0, false)).2)).2)).2).1, ((s_l1R_num ((s_OpenSeal p_0).1) ((s_l1R_num ((s_OpenSeal p_0).1) ((s_l1R_num ((s_OpenSeal p_0).1) (0, false)).2)).2)).2).2, ([] : List DFeedItem)) = .done (x125, x126, x127, x128) := hI161.symm.trans (loopW.brk hk160 hB322)
    refine bx (tn (CW.seq (CW.seq (CW.region (sd rfl (yl_loadN ty32 rfl rfl (hf172.cells (n := 3) rfl) rfl (sd rfl (yl_call en35 rfl (oc rfl oz) (Cal.mono (c_s_DiffBytes (⟨(s_l1R_num ((s_OpenSeal p_0).1) (0, false)).1, (s_l1R_num ((s_OpenSeal p_0).1) ((s_l1R_num ((s_OpenSeal p_0).1) (0, false)).2)).1, x128⟩ : DDiff) (RdS.up (OwnL.rd good_FeedItem hf173) good_FeedItem) (okL.mk (xs := x128) (by first | omega | (simp only [List.length_append, List.length_cons, List.length_nil, List.length_take, List.length_drop, List.length_replicate, List.length_set, toS_length]; omega)) hok177)) ?_)))))))))
    rintro v325 w324 ⟨rfl, hE326⟩
    have hE326z := Ex.size hE326
    refine sd rfl (yl_move rfl rfl (sd rfl (yl_extract rfl rfl rfl (sd rfl (yl_extract rfl rfl rfl (sd rfl (yl_assign rfl rfl (sd rfl (yl_assign rfl rfl (dn (CW.seq (CW.region ?_))))))))))))
    refine sd rfl (yl_move rfl rfl (sd rfl (yl_not rfl rfl (sd rfl (yl_move rfl rfl (bcase ((s_OpenSeal p_0).2) (fun hb327 => ?_) (fun hb327 => ?_)))))))
    ·refine sy rfl rfl (not_t hb327) (yl_move rfl rfl (sy rfl rfl (not_t hb327) (yl_nil rfl rfl (sy rfl rfl (not_t hb327) (yl_fieldAddr fd49_2 rfl rfl (sy rfl rfl (not_t hb327) (yl_load1 ty4 rfl rfl (((Box.ex hf171 hE326).cell 2).trans rfl) (sd rfl (yl_pick_f rfl rfl (not_t hb327) rfl (sd rfl (yl_move rfl rfl (bcase (x127) (fun hb329 => ?_) (fun hb329 => ?_)))))))))))))
     ·refine sz rfl rfl hb329 (sz rfl rfl hb329 (sd rfl (yl_pick_t rfl rfl hb329 rfl (sd rfl (yl_move rfl rfl (sz rfl rfl rfl (sz rfl rfl rfl (sz rfl rfl rfl (sd rfl (yl_pick_t rfl rfl rfl rfl (SeqR.done ?_)))))))))))
      refine tn (CW.cond_t rfl rfl (CW.seq (CW.region (sd rfl (yl_build (cs := [.int .i64 (0), .int .i64 (0), .slice none 0 0]) rfl opvs_nil (by kernel_rfl) (SeqR.u rfl rfl (yl_store (vs := [.int .i64 (0), .int .i64 (0), .slice none 0 0]) ty32 rfl rfl rfl rfl rfl rfl (Box.ex hf170 hE326) (Nat.le_of_ble_eq_true rfl) ?_)))))))
      intro w331 hB332 hO333
      have hB332 : Box w331 b3 32 [.int .i64 (0), .int .i64 (0), .slice none 0 0] := hB332
      have hO333z := hO333.size
      refine sd rfl (yl_assign rfl rfl (dn (CW.ret (tr (rr rfl (.cons ⟨_, rfl, run_loadN ty32 (cs := [.int .i64 (0), .int .i64 (0), .slice none 0 0]) rfl (hB332.cells (n := 3) rfl)⟩ (.cons rfl .nil)) ?_)))))
      have hM334 : (s_ReadDiff p_0) = (((⟨0, 0, []⟩ : DDiff), false)) := by simp only [s_ReadDiff, hb180, hb181, hb327, hb329, hL321, cL]
      rw [hM334]
      exact ⟨none, 0, w331.heap.size, w331.heap.size, rfl, (OwnL.nil _ _ _ _ _ _), (okL.nil _), (by omega), (Below.only (Ex.trans hf174 hE326) hO333 (by omega))⟩
     ·refine sy rfl rfl hb329 (yl_move rfl rfl (sy rfl rfl hb329 (yl_not rfl rfl (sd rfl (yl_pick_f rfl rfl hb329 rfl (sd rfl (yl_move rfl rfl (bcase ((s_DiffBytes (⟨(s_l1R_num ((s_OpenSeal p_0).1) (0, false)).1, (s_l1R_num ((s_OpenSeal p_0).1) ((s_l1R_num ((s_OpenSeal p_0).1) (0, false)).2)).1, x128⟩ : DDiff)).2) (fun hb337 => ?_) (fun hb337 => ?_)))))))))
      ·refine sy rfl rfl (not_t hb337) (yl_move rfl rfl (sy rfl rfl (not_t hb337) (yl_move rfl rfl (sy rfl rfl (not_t hb337) (yl_sneq (a := ((s_DiffBytes (⟨(s_l1R_num ((s_OpenSeal p_0).1) (0, false)).1, (s_l1R_num ((s_OpenSeal p_0).1) ((s_l1R_num ((s_OpenSeal p_0).1) (0, false)).2)).1, x128⟩ : DDiff)).1)) (b := p_0) rfl rfl rfl (sd rfl (yl_pick_f rfl rfl (not_t hb337) rfl (dn (bcase (((s_DiffBytes (⟨(s_l1R_num ((s_OpenSeal p_0).1) (0, false)).1, (s_l1R_num ((s_OpenSeal p_0).1) ((s_l1R_num ((s_OpenSeal p_0).1) (0, false)).2)).1, x128⟩ : DDiff)).1) == p_0) (fun hb338 => ?_) (fun hb338 => ?_))))))))))
       ·refine CW.cond_f rfl (not_t hb338) (CW.skip (tn (CW.seq (CW.region (sd rfl (yl_loadN ty32 rfl rfl ((Box.ex hf172 hE326).cells (n := 3) rfl) rfl (SeqR.u rfl rfl (yl_store (vs := [.int .i64 ((s_l1R_num ((s_OpenSeal p_0).1) (0, false)).1), .int .i64 ((s_l1R_num ((s_OpenSeal p_0).1) ((s_l1R_num ((s_OpenSeal p_0).1) (0, false)).2)).1), .slice A129 x128.length c130]) ty32 rfl rfl rfl rfl rfl rfl (Box.ex hf170 hE326) (Nat.le_of_ble_eq_true rfl) ?_))))))))
        intro w341 hB342 hO343
        have hB342 : Box w341 b3 32 [.int .i64 ((s_l1R_num ((s_OpenSeal p_0).1) (0, false)).1), .int .i64 ((s_l1R_num ((s_OpenSeal p_0).1) ((s_l1R_num ((s_OpenSeal p_0).1) (0, false)).2)).1), .slice A129 x128.length c130] := hB342
        have hO343z := hO343.size
        refine sd rfl (yl_assign rfl rfl (dn (CW.ret (rr rfl (.cons ⟨_, rfl, run_loadN ty32 (cs := [.int .i64 ((s_l1R_num ((s_OpenSeal p_0).1) (0, false)).1), .int .i64 ((s_l1R_num ((s_OpenSeal p_0).1) ((s_l1R_num ((s_OpenSeal p_0).1) (0, false)).2)).1), .slice A129 x128.length c130]) rfl (hB342.cells (n := 3) rfl)⟩ (.cons rfl .nil)) ?_))))
        have hM344 : (s_ReadDiff p_0) = (((⟨(s_l1R_num ((s_OpenSeal p_0).1) (0, false)).1, (s_l1R_num ((s_OpenSeal p_0).1) ((s_l1R_num ((s_OpenSeal p_0).1) (0, false)).2)).1, x128⟩ : DDiff), true)) := by simp only [s_ReadDiff, hb180, hb181, hb327, hb329, hb337, hb338, hL321, cL]
        rw [hM344]
        exact ⟨A129, c130, w58.heap.size, u131, rfl, (OwnL.only good_FeedItem (OwnL.ex good_FeedItem hf173 hE326) hO343 (by omega)), (okL.mk (xs := x128) (by first | omega | (simp only [List.length_append, List.length_cons, List.length_nil, List.length_take, List.length_drop, List.length_replicate, List.length_set, toS_length]; omega)) hok177), (by omega), (Below.only (Ex.trans hf174 hE326) hO343 (by omega))⟩
       ·refine CW.cond_t rfl (not_f hb338) (CW.seq (CW.region (sd rfl (yl_build (cs := [.int .i64 (0), .int .i64 (0), .slice none 0 0]) rfl opvs_nil (by kernel_rfl) (SeqR.u rfl rfl (yl_store (vs := [.int .i64 (0), .int .i64 (0), .slice none 0 0]) ty32 rfl rfl rfl rfl rfl rfl (Box.ex hf170 hE326) (Nat.le_of_ble_eq_true rfl) ?_))))))
        intro w350 hB351 hO352
        have hB351 : Box w350 b3 32 [.int .i64 (0), .int .i64 (0), .slice none 0 0] := hB351
        have hO352z := hO352.size
        refine sd rfl (yl_assign rfl rfl (dn (CW.ret (tr (rr rfl (.cons ⟨_, rfl, run_loadN ty32 (cs := [.int .i64 (0), .int .i64 (0), .slice none 0 0]) rfl (hB351.cells (n := 3) rfl)⟩ (.cons rfl .nil)) ?_)))))
        have hM353 : (s_ReadDiff p_0) = (((⟨0, 0, []⟩ : DDiff), false)) := by simp only [s_ReadDiff, hb180, hb181, hb327, hb329, hb337, hb338, hL321, cL]
        rw [hM353]
        exact ⟨none, 0, w350.heap.size, w350.heap.size, rfl, (OwnL.nil _ _ _ _ _ _), (okL.nil _), (by omega), (Below.only (Ex.trans hf174 hE326) hO352 (by omega))⟩
      ·refine sz rfl rfl (not_f hb337) (sz rfl rfl (not_f hb337) (sz rfl rfl (not_f hb337) (sd rfl (yl_pick_t rfl rfl (not_f hb337) rfl (dn (CW.cond_t rfl rfl (CW.seq (CW.region ?_))))))))
       refine sd rfl (yl_build (cs := [.int .i64 (0), .int .i64 (0), .slice none 0 0]) rfl opvs_nil (by kernel_rfl) (SeqR.u rfl rfl (yl_store (vs := [.int .i64 (0), .int .i64 (0), .slice none 0 0]) ty32 rfl rfl rfl rfl rfl rfl (Box.ex hf170 hE326) (Nat.le_of_ble_eq_true rfl) ?_)))
       intro w357 hB358 hO359
       have hB358 : Box w357 b3 32 [.int .i64 (0), .int .i64 (0), .slice none 0 0] := hB358
       have hO359z := hO359.size
       refine sd rfl (yl_assign rfl rfl (dn (CW.ret (tr (rr rfl (.cons ⟨_, rfl, run_loadN ty32 (cs := [.int .i64 (0), .int .i64 (0), .slice none 0 0]) rfl (hB358.cells (n := 3) rfl)⟩ (.cons rfl .nil)) ?_)))))
       have hM360 : (s_ReadDiff p_0) = (((⟨0, 0, []⟩ : DDiff), false)) := by simp only [s_ReadDiff, hb180, hb181, hb327, hb329, hb337, hL321, cL]
       rw [hM360]
       exact ⟨none, 0, w357.heap.size, w357.heap.size, rfl, (OwnL.nil _ _ _ _ _ _), (okL.nil _), (by omega), (Below.only (Ex.trans hf174 hE326) hO359 (by omega))⟩
    ·refine sz rfl rfl (not_f hb327) (sz rfl rfl (not_f hb327) (sz rfl rfl (not_f hb327) (sz rfl rfl (not_f hb327) (sd rfl (yl_pick_t rfl rfl (not_f hb327) rfl (sd rfl (yl_move rfl rfl (sz rfl rfl rfl (sz rfl rfl rfl (sd rfl (yl_pick_t rfl rfl rfl rfl ?_)))))))))))
     refine sd rfl (yl_move rfl rfl (sz rfl rfl rfl (sz rfl rfl rfl (sz rfl rfl rfl (sd rfl (yl_pick_t rfl rfl rfl rfl (dn (CW.cond_t rfl rfl (CW.seq ?_)))))))))
     refine CW.region (sd rfl (yl_build (cs := [.int .i64 (0), .int .i64 (0), .slice none 0 0]) rfl opvs_nil (by kernel_rfl) (SeqR.u rfl rfl (yl_store (vs := [.int .i64 (0), .int .i64 (0), .slice none 0 0]) ty32 rfl rfl rfl rfl rfl rfl (Box.ex hf170 hE326) (Nat.le_of_ble_eq_true rfl) ?_))))
     intro w364 hB365 hO366
     have hB365 : Box w364 b3 32 [.int .i64 (0), .int .i64 (0), .slice none 0 0] := hB365
     have hO366z := hO366.size
     refine sd rfl (yl_assign rfl rfl (dn (CW.ret (tr (rr rfl (.cons ⟨_, rfl, run_loadN ty32 (cs := [.int .i64 (0), .int .i64 (0), .slice none 0 0]) rfl (hB365.cells (n := 3) rfl)⟩ (.cons rfl .nil)) ?_)))))
     have hM367 : (s_ReadDiff p_0) = (((⟨0, 0, []⟩ : DDiff), false)) := by simp only [s_ReadDiff, hb180, hb181, hb327, hL321, cL]
     rw [hM367]
     exact ⟨none, 0, w364.heap.size, w364.heap.size, rfl, (OwnL.nil _ _ _ _ _ _), (okL.nil _), (by omega), (Below.only (Ex.trans hf174 hE326) hO366 (by omega))⟩
  ·have hb180p := dec_f hb180
   refine sz rfl rfl hb180 (sz rfl rfl hb180 (sd rfl (yl_pick_f rfl rfl hb180 rfl (sd rfl (yl_move rfl rfl (sz rfl rfl rfl (sz rfl rfl rfl (sz rfl rfl rfl (sz rfl rfl rfl (sz rfl rfl rfl ?_))))))))))
   refine sd rfl (yl_pick_f rfl rfl rfl rfl (dn (CW.cond_f rfl rfl (CW.exit (tx (tx ?_))))))
   have hB371 : B_s_ReadDiff_0 p_0 (x125, x126, x127, x128) = .brk (x125, x126, x127, x128) := by simp only [B_s_ReadDiff_0, hb180, cL]
   have hL370 : loopW (B_s_ReadDiff_0 p_0) (((60 - (0 : Int)).toNat) + 1) (0, ((s_l1R_num ((s_OpenSeal p_0).1) ((s_l1R_num ((s_OpenSeal p_0).1) ((s_l1R_num ((s_OpenSeal p_0).1) (0, false)).2)).2)).2).1, ((s_l1R_num ((s_OpenSeal p_0).1) ((s_l1R_num ((s_OpenSeal p_0).1) ((s_l1R_num ((s_OpenSeal p_0).1) (0, false)).2)).2)).2).2, ([] : List DFeedItem)) = .done (x125, x126, x127, x128) := hI161.symm.trans (loopW.brk hk160 hB371)
   refine bx (tn (CW.seq (CW.seq (CW.region (sd rfl (yl_loadN ty32 rfl rfl (hf172.cells (n := 3) rfl) rfl (sd rfl (yl_call en35 rfl (oc rfl oz) (Cal.mono (c_s_DiffBytes (⟨(s_l1R_num ((s_OpenSeal p_0).1) (0, false)).1, (s_l1R_num ((s_OpenSeal p_0).1) ((s_l1R_num ((s_OpenSeal p_0).1) (0, false)).2)).1, x128⟩ : DDiff) (RdS.up (OwnL.rd good_FeedItem hf173) good_FeedItem) (okL.mk (xs := x128) (by first | omega | (simp only [List.length_append, List.length_cons, List.length_nil, List.length_take, List.length_drop, List.length_replicate, List.length_set, toS_length]; omega)) hok177)) ?_)))))))))
   rintro v374 w373 ⟨rfl, hE375⟩
   have hE375z := Ex.size hE375
   refine sd rfl (yl_move rfl rfl (sd rfl (yl_extract rfl rfl rfl (sd rfl (yl_extract rfl rfl rfl (sd rfl (yl_assign rfl rfl (sd rfl (yl_assign rfl rfl (dn (CW.seq (CW.region ?_))))))))))))
   refine sd rfl (yl_move rfl rfl (sd rfl (yl_not rfl rfl (sd rfl (yl_move rfl rfl (bcase ((s_OpenSeal p_0).2) (fun hb376 => ?_) (fun hb376 => ?_)))))))
   ·refine sy rfl rfl (not_t hb376) (yl_move rfl rfl (sy rfl rfl (not_t hb376) (yl_nil rfl rfl (sy rfl rfl (not_t hb376) (yl_fieldAddr fd49_2 rfl rfl (sy rfl rfl (not_t hb376) (yl_load1 ty4 rfl rfl (((Box.ex hf171 hE375).cell 2).trans rfl) (sd rfl (yl_pick_f rfl rfl (not_t hb376) rfl (sd rfl (yl_move rfl rfl (bcase (x127) (fun hb378 => ?_) (fun hb378 => ?_)))))))))))))
    ·refine sz rfl rfl hb378 (sz rfl rfl hb378 (sd rfl (yl_pick_t rfl rfl hb378 rfl (sd rfl (yl_move rfl rfl (sz rfl rfl rfl (sz rfl rfl rfl (sz rfl rfl rfl (sd rfl (yl_pick_t rfl rfl rfl rfl (SeqR.done ?_)))))))))))
     refine tn (CW.cond_t rfl rfl (CW.seq (CW.region (sd rfl (yl_build (cs := [.int .i64 (0), .int .i64 (0), .slice none 0 0]) rfl opvs_nil (by kernel_rfl) (SeqR.u rfl rfl (yl_store (vs := [.int .i64 (0), .int .i64 (0), .slice none 0 0]) ty32 rfl rfl rfl rfl rfl rfl (Box.ex hf170 hE375) (Nat.le_of_ble_eq_true rfl) ?_)))))))
     intro w380 hB381 hO382
     have hB381 : Box w380 b3 32 [.int .i64 (0), .int .i64 (0), .slice none 0 0] := hB381
     have hO382z := hO382.size
     refine sd rfl (yl_assign rfl rfl (dn (CW.ret (tr (rr rfl (.cons ⟨_, rfl, run_loadN ty32 (cs := [.int .i64 (0), .int .i64 (0), .slice none 0 0]) rfl (hB381.cells (n := 3) rfl)⟩ (.cons rfl .nil)) ?_)))))
     have hM383 : (s_ReadDiff p_0) = (((⟨0, 0, []⟩ : DDiff), false)) := by simp only [s_ReadDiff, hb180, hb376, hb378, hL370, cL]
     rw [hM383]
     exact ⟨none, 0, w380.heap.size, w380.heap.size, rfl, (OwnL.nil _ _ _ _ _ _), (okL.nil _), (by omega), (Below.only (Ex.trans hf174 hE375) hO382 (by omega))⟩
    ·refine sy rfl rfl hb378 (yl_move rfl rfl (sy rfl rfl hb378 (yl_not rfl rfl (sd rfl (yl_pick_f rfl rfl hb378 rfl (sd rfl (yl_move rfl rfl (bcase ((s_DiffBytes (⟨(s_l1R_num ((s_OpenSeal p_0).1) (0, false)).1, (s_l1R_num ((s_OpenSeal p_0).1) ((s_l1R_num ((s_OpenSeal p_0).1) (0, false)).2)).1, x128⟩ : DDiff)).2) (fun hb386 => ?_) (fun hb386 => ?_)))))))))
     ·refine sy rfl rfl (not_t hb386) (yl_move rfl rfl (sy rfl rfl (not_t hb386) (yl_move rfl rfl (sy rfl rfl (not_t hb386) (yl_sneq (a := ((s_DiffBytes (⟨(s_l1R_num ((s_OpenSeal p_0).1) (0, false)).1, (s_l1R_num ((s_OpenSeal p_0).1) ((s_l1R_num ((s_OpenSeal p_0).1) (0, false)).2)).1, x128⟩ : DDiff)).1)) (b := p_0) rfl rfl rfl (sd rfl (yl_pick_f rfl rfl (not_t hb386) rfl (dn (bcase (((s_DiffBytes (⟨(s_l1R_num ((s_OpenSeal p_0).1) (0, false)).1, (s_l1R_num ((s_OpenSeal p_0).1) ((s_l1R_num ((s_OpenSeal p_0).1) (0, false)).2)).1, x128⟩ : DDiff)).1) == p_0) (fun hb387 => ?_) (fun hb387 => ?_))))))))))
      ·refine CW.cond_f rfl (not_t hb387) (CW.skip (tn (CW.seq (CW.region (sd rfl (yl_loadN ty32 rfl rfl ((Box.ex hf172 hE375).cells (n := 3) rfl) rfl (SeqR.u rfl rfl (yl_store (vs := [.int .i64 ((s_l1R_num ((s_OpenSeal p_0).1) (0, false)).1), .int .i64 ((s_l1R_num ((s_OpenSeal p_0).1) ((s_l1R_num ((s_OpenSeal p_0).1) (0, false)).2)).1), .slice A129 x128.length c130]) ty32 rfl rfl rfl rfl rfl rfl (Box.ex hf170 hE375) (Nat.le_of_ble_eq_true rfl) ?_))))))))
       intro w390 hB391 hO392
       have hB391 : Box w390 b3 32 [.int .i64 ((s_l1R_num ((s_OpenSeal p_0).1) (0, false)).1), .int .i64 ((s_l1R_num ((s_OpenSeal p_0).1) ((s_l1R_num ((s_OpenSeal p_0).1) (0, false)).2)).1), .slice A129 x128.length c130] := hB391
       have hO392z := hO392.size
       refine sd rfl (yl_assign rfl rfl (dn (CW.ret (rr rfl (.cons ⟨_, rfl, run_loadN ty32 (cs := [.int .i64 ((s_l1R_num ((s_OpenSeal p_0).1) (0, false)).1), .int .i64 ((s_l1R_num ((s_OpenSeal p_0).1) ((s_l1R_num ((s_OpenSeal p_0).1) (0, false)).2)).1), .slice A129 x128.length c130]) rfl (hB391.cells (n := 3) rfl)⟩ (.cons rfl .nil)) ?_))))
       have hM393 : (s_ReadDiff p_0) = (((⟨(s_l1R_num ((s_OpenSeal p_0).1) (0, false)).1, (s_l1R_num ((s_OpenSeal p_0).1) ((s_l1R_num ((s_OpenSeal p_0).1) (0, false)).2)).1, x128⟩ : DDiff), true)) := by simp only [s_ReadDiff, hb180, hb376, hb378, hb386, hb387, hL370, cL]
       rw [hM393]
       exact ⟨A129, c130, w58.heap.size, u131, rfl, (OwnL.only good_FeedItem (OwnL.ex good_FeedItem hf173 hE375) hO392 (by omega)), (okL.mk (xs := x128) (by first | omega | (simp only [List.length_append, List.length_cons, List.length_nil, List.length_take, List.length_drop, List.length_replicate, List.length_set, toS_length]; omega)) hok177), (by omega), (Below.only (Ex.trans hf174 hE375) hO392 (by omega))⟩
      ·refine CW.cond_t rfl (not_f hb387) (CW.seq (CW.region (sd rfl (yl_build (cs := [.int .i64 (0), .int .i64 (0), .slice none 0 0]) rfl opvs_nil (by kernel_rfl) (SeqR.u rfl rfl (yl_store (vs := [.int .i64 (0), .int .i64 (0), .slice none 0 0]) ty32 rfl rfl rfl rfl rfl rfl (Box.ex hf170 hE375) (Nat.le_of_ble_eq_true rfl) ?_))))))
       intro w399 hB400 hO401
       have hB400 : Box w399 b3 32 [.int .i64 (0), .int .i64 (0), .slice none 0 0] := hB400
       have hO401z := hO401.size
       refine sd rfl (yl_assign rfl rfl (dn (CW.ret (tr (rr rfl (.cons ⟨_, rfl, run_loadN ty32 (cs := [.int .i64 (0), .int .i64 (0), .slice none 0 0]) rfl (hB400.cells (n := 3) rfl)⟩ (.cons rfl .nil)) ?_)))))
       have hM402 : (s_ReadDiff p_0) = (((⟨0, 0, []⟩ : DDiff), false)) := by simp only [s_ReadDiff, hb180, hb376, hb378, hb386, hb387, hL370, cL]
       rw [hM402]
       exact ⟨none, 0, w399.heap.size, w399.heap.size, rfl, (OwnL.nil _ _ _ _ _ _), (okL.nil _), (by omega), (Below.only (Ex.trans hf174 hE375) hO401 (by omega))⟩
     ·refine sz rfl rfl (not_f hb386) (sz rfl rfl (not_f hb386) (sz rfl rfl (not_f hb386) (sd rfl (yl_pick_t rfl rfl (not_f hb386) rfl (dn (CW.cond_t rfl rfl (CW.seq (CW.region ?_))))))))
      refine sd rfl (yl_build (cs := [.int .i64 (0), .int .i64 (0), .slice none 0 0]) rfl opvs_nil (by kernel_rfl) (SeqR.u rfl rfl (yl_store (vs := [.int .i64 (0), .int .i64 (0), .slice none 0 0]) ty32 rfl rfl rfl rfl rfl rfl (Box.ex hf170 hE375) (Nat.le_of_ble_eq_true rfl) ?_)))
      intro w406 hB407 hO408
      have hB407 : Box w406 b3 32 [.int .i64 (0), .int .i64 (0), .slice none 0 0] := hB407
      have hO408z := hO408.size
      refine sd rfl (yl_assign rfl rfl (dn (CW.ret (tr (rr rfl (.cons ⟨_, rfl, run_loadN ty32 (cs := [.int .i64 (0), .int .i64 (0), .slice none 0 0]) rfl (hB407.cells (n := 3) rfl)⟩ (.cons rfl .nil)) ?_)))))
      have hM409 : (s_ReadDiff p_0) = (((⟨0, 0, []⟩ : DDiff), false)) := by simp only [s_ReadDiff, hb180, hb376, hb378, hb386, hL370, cL]
      rw [hM409]
      exact ⟨none, 0, w406.heap.size, w406.heap.size, rfl, (OwnL.nil _ _ _ _ _ _), (okL.nil _), (by omega), (Below.only (Ex.trans hf174 hE375) hO408 (by omega))⟩
   ·refine sz rfl rfl (not_f hb376) (sz rfl rfl (not_f hb376) (sz rfl rfl (not_f hb376) (sz rfl rfl (not_f hb376) (sd rfl (yl_pick_t rfl rfl (not_f hb376) rfl (sd rfl (yl_move rfl rfl (sz rfl rfl rfl (sz rfl rfl rfl (sd rfl (yl_pick_t rfl rfl rfl rfl ?_)))))))))))
    refine sd rfl (yl_move rfl rfl (sz rfl rfl rfl (sz rfl rfl rfl (sz rfl rfl rfl (sd rfl (yl_pick_t rfl rfl rfl rfl (dn (CW.cond_t rfl rfl (CW.seq ?_)))))))))
    refine CW.region (sd rfl (yl_build (cs := [.int .i64 (0), .int .i64 (0), .slice none 0 0]) rfl opvs_nil (by kernel_rfl) (SeqR.u rfl rfl (yl_store (vs := [.int .i64 (0), .int .i64 (0), .slice none 0 0]) ty32 rfl rfl rfl rfl rfl rfl (Box.ex hf170 hE375) (Nat.le_of_ble_eq_true rfl) ?_))))
    intro w413 hB414 hO415
    have hB414 : Box w413 b3 32 [.int .i64 (0), .int .i64 (0), .slice none 0 0] := hB414
    have hO415z := hO415.size
    refine sd rfl (yl_assign rfl rfl (dn (CW.ret (tr (rr rfl (.cons ⟨_, rfl, run_loadN ty32 (cs := [.int .i64 (0), .int .i64 (0), .slice none 0 0]) rfl (hB414.cells (n := 3) rfl)⟩ (.cons rfl .nil)) ?_)))))
    have hM416 : (s_ReadDiff p_0) = (((⟨0, 0, []⟩ : DDiff), false)) := by simp only [s_ReadDiff, hb180, hb376, hL370, cL]
    rw [hM416]
    exact ⟨none, 0, w413.heap.size, w413.heap.size, rfl, (OwnL.nil _ _ _ _ _ _), (okL.nil _), (by omega), (Below.only (Ex.trans hf174 hE375) hO415 (by omega))⟩
theorem c_i_within {w : World} (p_n : Int) (p_low : Int) (p_high : Int) : Cal Try.prog 55 #[.int .i64 (p_n), .int .i64 (p_low), .int .i64 (p_high)] w fun v w' => v = .bool ((i_within p_n p_low p_high)) ∧ Ex w w' := by
 refine Cal.of func55 rfl ntmps55 rfl (CW.seq (CW.region (sd rfl (yl_assign rfl rfl (dn (CW.seq (CW.region (sd rfl (yl_move rfl rfl ?_)))))))))
 refine sd rfl (yl_move rfl rfl (sd rfl (yl_geq rfl rfl rfl (sd rfl (yl_move rfl rfl (bcase (decide (p_low ≤ p_n)) (fun hb1 => ?_) (fun hb1 => ?_)))))))
 ·have hb1p := dec_t hb1
  refine sy rfl rfl hb1 (yl_move rfl rfl (sy rfl rfl hb1 (yl_move rfl rfl (sy rfl rfl hb1 (yl_leq rfl rfl rfl (sd rfl (yl_pick_t rfl rfl hb1 rfl (sd rfl (yl_assign rfl rfl (dn (CW.ret (rr rfl (.cons rfl .nil) ?_))))))))))))
  have hM2 : (i_within p_n p_low p_high) = (decide (p_n ≤ p_high)) := by simp only [i_within, hb1, cL]
  rw [hM2]
  exact ⟨rfl, (Ex.refl w)⟩
 ·have hb1p := dec_f hb1
  refine sz rfl rfl hb1 (sz rfl rfl hb1 (sz rfl rfl hb1 (sd rfl (yl_pick_f rfl rfl hb1 rfl (sd rfl (yl_assign rfl rfl (dn (CW.ret (rr rfl (.cons rfl .nil) ?_)))))))))
  have hM3 : (i_within p_n p_low p_high) = (false) := by simp only [i_within, hb1, cL]
  rw [hM3]
  exact ⟨rfl, (Ex.refl w)⟩
theorem c_i_sumOf {w : World} (p_b : Str) (o1 : okS p_b) : Cal Try.prog 82 #[.string (bs (p_b))] w fun v w' => v = .int .i64 ((i_sumOf p_b)) ∧ Ex w w' := by
 have hol2 : p_b.length ≤ 1073741824 := o1
 refine Cal.of func82 rfl ntmps82 rfl (CW.seq (CW.region (sd rfl (yl_assign rfl rfl (dn (CW.seq (CW.region (sd rfl (yl_assign rfl rfl ?_)))))))))
 refine dn (CW.seq (CW.seq (CW.region (sd rfl (yl_move rfl rfl (sd rfl (yl_slen un9 (a := p_b) rfl rfl (sd rfl (yl_move rfl rfl (SeqR.done ?_))))))))))
 refine tn (CW.block (CW.loop (fun m5 L6 w7 => ∃ (k3 : Nat) (x4 : Int), m5 = p_b.length - k3 ∧ k3 ≤ p_b.length ∧ w.heap.size ≤ w7.heap.size ∧ lkp L6 0 = some (.string (bs (p_b))) ∧ lkp L6 3 = some (.int .i64 (x4)) ∧ lkp L6 6 = some (.int .i64 ((p_b.length : Int))) ∧ lkp L6 7 = some (.int .i64 ((k3 : Int))) ∧ Ex w w7 ∧ loopM (B_i_sumOf_0 p_b) (p_b.length - k3) k3 (x4) = loopM (B_i_sumOf_0 p_b) (p_b.length - 0) 0 (7)) (p_b.length - 0) ?_ ?_))
 ·exact ⟨0, 7, rfl, (by omega), Nat.le_refl _, rfl, rfl, rfl, rfl, (Ex.refl w), rfl⟩
 ·rintro m8 L9 w10 ⟨k3, x4, rfl, hk11, hsz13, hl14, hl15, hl16, hl17, hf18, hI12⟩
  refine CW.sub (Sub.cons hl14 (Sub.cons hl15 (Sub.cons hl16 (Sub.cons hl17 (Sub.nil _))))) ?_
  have hf18z := Ex.size hf18
  have hbg19 : p_b.length ≤ 1073741824 := o1
  rcases Nat.lt_or_ge k3 p_b.length with hlt20 | hlt20
  ·refine CW.seq (CW.region (sd rfl (yl_lss rfl rfl rfl (dn (CW.seq (CW.cond_t rfl (lt_t hlt20) (CW.skip (tn ?_))))))))
   refine CW.seq (CW.block (CW.seq (CW.region (sd rfl (yl_move rfl rfl (sd rfl (yl_assign rfl rfl (dn (CW.region ?_)))))))))
   refine sd rfl (yl_move rfl rfl (sd rfl (yl_mul rfl rfl rfl (sd rfl (yl_move rfl rfl (sd rfl (yl_move rfl rfl (sd rfl (yl_sindexN un9 (a := p_b) rfl rfl rfl (by first | omega | assumption | (simp only [wI] at *; omega)) (sd rfl (yl_conv un5 un3 rfl rfl (sd rfl (yl_add rfl rfl rfl (sd rfl (yl_add rfl rfl rfl (sd rfl (yl_rem rfl rfl rfl (by decide) ?_)))))))))))))))))
   refine sd rfl (yl_assign rfl rfl (SeqR.done (bn (tn (CW.region (sd rfl (yl_inc rfl rfl rfl (by omega) (sd rfl (yl_move rfl rfl (dn ?_))))))))))
   have hB21 : B_i_sumOf_0 p_b k3 (x4) = .cont (Int.tmod (IntKind.wrap .i64 ((IntKind.wrap .i64 ((IntKind.wrap .i64 (31 * x4)) + (IntKind.wrap .i64 ((p_b.getD k3 0).toNat : Int)))) + 1)) 16000057) := by simp only [B_i_sumOf_0, cL]
   exact ⟨p_b.length - (k3 + 1), by omega, k3 + 1, Int.tmod (IntKind.wrap .i64 ((IntKind.wrap .i64 ((IntKind.wrap .i64 (31 * x4)) + (IntKind.wrap .i64 ((p_b.getD k3 0).toNat : Int)))) + 1)) 16000057, rfl, hlt20, (by omega), rfl, rfl, rfl, rfl, hf18, (loopM.cont hlt20 hB21).symm.trans hI12⟩
  ·refine CW.seq (CW.region (sd rfl (yl_lss rfl rfl rfl (dn (CW.seq (CW.cond_f rfl (lt_f hlt20) (CW.exit (tx ?_))))))))
   refine tx ?_
   have hL22 : loopM (B_i_sumOf_0 p_b) (p_b.length - 0) 0 (7) = .done (x4) := hI12.symm.trans (loopM.stop hlt20)
   refine bx (tn (CW.seq (CW.region (sd rfl (yl_move rfl rfl (sd rfl (yl_assign rfl rfl (dn (CW.ret ?_)))))))))
   refine rr rfl (.cons rfl .nil) ?_
   have hM23 : (i_sumOf p_b) = (x4) := by simp only [i_sumOf, hL22, cL]
   rw [hM23]
   exact ⟨rfl, hf18⟩
theorem c_i_seal {w : World} (p_b : Str) (o1 : okS p_b) : Cal Try.prog 56 #[.string (bs (p_b))] w fun v w' => v = .string (bs ((i_seal p_b))) ∧ Ex w w' := by
 have hol2 : p_b.length ≤ 1073741824 := o1
 refine Cal.of func56 rfl ntmps56 rfl (CW.seq (CW.region (sd rfl (yl_assign rfl rfl (dn (CW.seq (CW.region (sd rfl (yl_move rfl rfl ?_)))))))))
 refine sd rfl (yl_call en82 rfl (oc rfl oz) (Cal.mono (c_i_sumOf p_b o1) ?_))
 rintro v4 w3 ⟨rfl, hE5⟩
 have hE5z := Ex.size hE5
 refine sd rfl (yl_assign rfl rfl (dn (CW.seq (CW.region (sd rfl (yl_move rfl rfl (sd rfl (yl_move rfl rfl (sd rfl (yl_shr (q := 65536) rfl rfl rfl (by decide) (by decide) (by decide) (sd rfl (yl_conv un3 un5 rfl rfl ?_))))))))))))
 refine sd rfl (yl_move rfl rfl (sd rfl (yl_shr (q := 256) rfl rfl rfl (by decide) (by decide) (by decide) (sd rfl (yl_conv un3 un5 rfl rfl (sd rfl (yl_move rfl rfl (sd rfl (yl_conv un3 un5 rfl rfl (sd rfl (yl_buildSlice (cs := [.int .u8 (IntKind.wrap .u8 (Int.fdiv (i_sumOf p_b) 65536)), .int .u8 (IntKind.wrap .u8 (Int.fdiv (i_sumOf p_b) 256)), .int .u8 (IntKind.wrap .u8 (i_sumOf p_b))]) un101 ty5 (by decide) rfl (oc rfl (oc rfl (oc rfl oz))) (by kernel_rfl) ?_)))))))))))
 intro b6 w7 hs8 hz9 hB10 hE11
 have hO12 : OwnL w7 b6 (b6 + 1) 5 1 (RF e_U8) (some ⟨b6, 0, none⟩) 3 3 ([IntKind.wrap .u8 (Int.fdiv (i_sumOf p_b) 65536), IntKind.wrap .u8 (Int.fdiv (i_sumOf p_b) 256), IntKind.wrap .u8 (i_sumOf p_b)] : List Int) := OwnL.of_box (S := fun _ => False) hB10 (Nat.le_refl _) (Nat.lt_succ_self _) (EncL.cons (c := [.int .u8 (IntKind.wrap .u8 (Int.fdiv (i_sumOf p_b) 65536))]) rfl rfl (EncL.cons (c := [.int .u8 (IntKind.wrap .u8 (Int.fdiv (i_sumOf p_b) 256))]) rfl rfl (EncL.cons (c := [.int .u8 (IntKind.wrap .u8 (i_sumOf p_b))]) rfl rfl EncL.nil))) (Nat.le_of_ble_eq_true rfl) (fun h => h) (fun _ h => False.elim h)
 refine sd rfl (yl_toS un101 un5 un9 rfl rfl (OwnL.rd good_U8 hO12) ?_)
 have hol14 : p_b.length ≤ 1073741824 := o1
 have hol15 : (toS ([IntKind.wrap .u8 (Int.fdiv (i_sumOf p_b) 65536), IntKind.wrap .u8 (Int.fdiv (i_sumOf p_b) 256), IntKind.wrap .u8 (i_sumOf p_b)] : List Int)).length ≤ 1073741824 := (okS_toS (Nat.le_of_ble_eq_true rfl))
 refine sd rfl (yl_sadd (a := p_b) (b := (toS ([IntKind.wrap .u8 (Int.fdiv (i_sumOf p_b) 65536), IntKind.wrap .u8 (Int.fdiv (i_sumOf p_b) 256), IntKind.wrap .u8 (i_sumOf p_b)] : List Int))) rfl rfl rfl (by first | omega | (simp only [List.length_append, List.length_cons, List.length_nil, List.length_take, List.length_drop, toS_length]; omega)) (sd rfl (yl_assign rfl rfl (dn (CW.ret (rr rfl (.cons rfl .nil) ?_))))))
 have hM16 : (i_seal p_b) = (p_b ++ (toS ([IntKind.wrap .u8 (Int.fdiv (i_sumOf p_b) 65536), IntKind.wrap .u8 (Int.fdiv (i_sumOf p_b) 256), IntKind.wrap .u8 (i_sumOf p_b)] : List Int))) := by simp only [i_seal, cL]
 rw [hM16]
 exact ⟨rfl, (Ex.trans (Ex.trans (Ex.refl w) hE5) hE11)⟩
theorem c_i_OpenSeal {w : World} (p_b : Str) (o1 : okS p_b) : Cal Try.prog 26 #[.string (bs (p_b))] w fun v w' => v = .tuple #[.string (bs ((i_OpenSeal p_b).1)), .bool ((i_OpenSeal p_b).2)] ∧ okS ((i_OpenSeal p_b).1) ∧ Ex w w' := by
 have hol2 : p_b.length ≤ 1073741824 := o1
 refine Cal.of func26 rfl ntmps26 rfl (CW.seq (CW.region (sd rfl (yl_assign rfl rfl (sd rfl (yl_assign rfl rfl (dn (CW.seq (CW.seq ?_)))))))))
 refine CW.region (sd rfl (yl_move rfl rfl (sd rfl (yl_slen un9 (a := p_b) rfl rfl (sd rfl (yl_call en55 rfl (oc rfl (oc rfl (oc rfl oz))) (Cal.mono (c_i_within (p_b.length : Int) 3 6000) ?_)))))))
 rintro v4 w3 ⟨rfl, hE5⟩
 have hE5z := Ex.size hE5
 refine sd rfl (yl_not rfl rfl (sd rfl (yl_move rfl rfl (bcase (i_within (p_b.length : Int) 3 6000) (fun hb6 => ?_) (fun hb6 => ?_)))))
 ·have hb6p := f_within hb6
  refine sy rfl rfl (not_t hb6) (yl_move rfl rfl (sy rfl rfl (not_t hb6) (yl_move rfl rfl (sy rfl rfl (not_t hb6) (yl_slen un9 (a := p_b) rfl rfl (sy rfl rfl (not_t hb6) (yl_sub rfl rfl rfl (sy rfl rfl (not_t hb6) (yl_sslice_hi un9 (a := p_b) (h := (IntKind.wrap .i64 ((p_b.length : Int) - 3)).toNat) rfl rfl (toNat_op rfl (by first | omega | assumption | (simp only [wI] at *; omega))) (by first | omega | assumption | (simp only [wI] at *; omega)) (sy rfl rfl (not_t hb6) (yl_call en56 rfl (oc rfl oz) (Cal.mono (c_i_seal (p_b.take ((IntKind.wrap .i64 ((p_b.length : Int) - 3)).toNat)) (okS.take o1 _)) ?_))))))))))))
  rintro v8 w7 ⟨rfl, hE9⟩
  have hE9z := Ex.size hE9
  have hrf10 := rf_seal (p_b.take ((IntKind.wrap .i64 ((p_b.length : Int) - 3)).toNat))
  refine sy rfl rfl (not_t hb6) (yl_move rfl rfl (sy rfl rfl (not_t hb6) (yl_sneq (a := (i_seal (p_b.take ((IntKind.wrap .i64 ((p_b.length : Int) - 3)).toNat)))) (b := p_b) rfl rfl rfl (sd rfl (yl_pick_f rfl rfl (not_t hb6) rfl (dn (bcase ((i_seal (p_b.take ((IntKind.wrap .i64 ((p_b.length : Int) - 3)).toNat))) == p_b) (fun hb11 => ?_) (fun hb11 => ?_))))))))
  ·refine CW.cond_f rfl (not_t hb11) (CW.skip (tn (CW.seq (CW.region (sd rfl (yl_move rfl rfl (sd rfl (yl_move rfl rfl (sd rfl (yl_slen un9 (a := p_b) rfl rfl (sd rfl (yl_sub rfl rfl rfl ?_))))))))))))
   refine sd rfl (yl_sslice_hi un9 (a := p_b) (h := (IntKind.wrap .i64 ((p_b.length : Int) - 3)).toNat) rfl rfl (toNat_op rfl (by first | omega | assumption | (simp only [wI] at *; omega))) (by first | omega | assumption | (simp only [wI] at *; omega)) (sd rfl (yl_assign rfl rfl (sd rfl (yl_assign rfl rfl (dn (CW.ret (rr rfl (.cons rfl (.cons rfl .nil)) ?_))))))))
   have hM12 : (i_OpenSeal p_b) = (((p_b.take ((IntKind.wrap .i64 ((p_b.length : Int) - 3)).toNat)), true)) := by simp only [i_OpenSeal, hb6, hb11, cL]
   rw [hM12]
   exact ⟨rfl, (okS.take o1 _), (Ex.trans (Ex.trans (Ex.refl w) hE5) hE9)⟩
  ·refine CW.cond_t rfl (not_f hb11) (CW.seq (CW.region (sd rfl (yl_assign rfl rfl (sd rfl (yl_assign rfl rfl (dn (CW.ret (tr ?_)))))))))
   refine rr rfl (.cons rfl (.cons rfl .nil)) ?_
   have hM15 : (i_OpenSeal p_b) = ((([] : Str), false)) := by simp only [i_OpenSeal, hb6, hb11, cL]
   rw [hM15]
   exact ⟨rfl, (okS.lit rfl), (Ex.trans (Ex.trans (Ex.refl w) hE5) hE9)⟩
 ·refine sz rfl rfl (not_f hb6) (sz rfl rfl (not_f hb6) (sz rfl rfl (not_f hb6) (sz rfl rfl (not_f hb6) (sz rfl rfl (not_f hb6) (sz rfl rfl (not_f hb6) (sz rfl rfl (not_f hb6) (sz rfl rfl (not_f hb6) (sd rfl (yl_pick_t rfl rfl (not_f hb6) rfl ?_)))))))))
  refine dn (CW.cond_t rfl rfl (CW.seq (CW.region (sd rfl (yl_assign rfl rfl (sd rfl (yl_assign rfl rfl (dn ?_))))))))
  refine CW.ret (tr (rr rfl (.cons rfl (.cons rfl .nil)) ?_))
  have hM18 : (i_OpenSeal p_b) = ((([] : Str), false)) := by simp only [i_OpenSeal, hb6, cL]
  rw [hM18]
  exact ⟨rfl, (okS.lit rfl), (Ex.trans (Ex.refl w) hE5)⟩
theorem c_i_source_fail {b1 : Nat} {w : World} (p_r_b : Str) (p_r : Int × Bool) (h2 : Box w b1 57 [.string (bs (p_r_b)), .int .i64 (p_r.1), .bool (p_r.2)]) (o3 : okS p_r_b) : Cal Try.prog 57 #[.pointer (some ⟨b1, 0, none⟩)] w fun v w' => v = .tuple #[] ∧ Box w' b1 57 [.string (bs (p_r_b)), .int .i64 ((i_source_fail p_r_b p_r).1), .bool ((i_source_fail p_r_b p_r).2)] ∧ Chg (InR [(b1, b1 + 1)]) w w' := by
 have hol4 : p_r_b.length ≤ 1073741824 := o3
 have hbx5 := Box.lt h2
 refine Cal.of func57 rfl ntmps57 rfl (CW.region (sd rfl (yl_move rfl rfl (sd rfl (yl_nil rfl rfl (sd rfl (yl_fieldAddr fd57_2 rfl rfl (SeqR.u rfl rfl (yl_store (vs := [.bool (true)]) ty4 rfl rfl rfl rfl rfl rfl h2 (Nat.le_of_ble_eq_true rfl) ?_)))))))))
 intro w6 hB7 hO8
 have hB7 : Box w6 b1 57 [.string (bs (p_r_b)), .int .i64 (p_r.1), .bool (true)] := hB7
 have hO8z := hO8.size
 refine SeqR.done (rn rfl .nil ?_)
 have hM9 : (i_source_fail p_r_b p_r) = ((p_r.1, true)) := by first | (simp only [i_source_fail, cL]; done) | (simp only [i_source_fail, cond_true, cond_false, loopE_done, loopE_ret, pairE]; done) | exact (show (i_source_fail p_r_b p_r) = ((p_r.1, true)) from by simp only [i_source_fail, cond_true, cond_false, loopE_done, loopE_ret, pairE])
 rw [hM9]
 exact ⟨rfl, hB7, (Chg.tonly (Chg.refl (InR [(b1, b1 + 1)]) w) hO8 (by simp only [InR, or_false]; omega))⟩
end Go.Proofs.Ytbamdefifgkbgaa
