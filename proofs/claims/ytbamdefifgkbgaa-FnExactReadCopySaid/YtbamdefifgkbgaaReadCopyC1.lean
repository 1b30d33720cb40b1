/- Read Copy: what each call returns, part 1. -/
import Derived.Test.YtbamdefifgkbgaaReadCopyL
import Derived.Test.YtbamdefifgkbgaaReadCopyF
set_option maxRecDepth 100000
set_option maxHeartbeats 2000000
open Go.Proofs.Try Go.Proofs.Ytbamdefifgkbgaa.Try
set_option linter.unusedVariables false
set_option linter.unusedSimpArgs false
namespace Go.Proofs.Ytbamdefifgkbgaa
open Go.RowKit Go.X
theorem c_s_l1Three {w : World} (p_n : Int) : Cal Try.prog 78 #[.int .i64 (p_n)] w fun v w' => v = .string (bs ((s_l1Three p_n))) ∧ okS (s_l1Three p_n) ∧ Ex w w' := by
 refine Cal.of func78 rfl ntmps78 rfl (CW.seq (CW.region (sd rfl (yl_assign rfl rfl (dn (CW.seq (CW.region (sd rfl (yl_move rfl rfl ?_)))))))))
 refine sd rfl (yl_quo rfl rfl rfl (by decide) (sd rfl (yl_conv un3 un5 rfl rfl (sd rfl (yl_move rfl rfl (sd rfl (yl_quo rfl rfl rfl (by decide) (sd rfl (yl_rem rfl rfl rfl (by decide) (sd rfl (yl_conv un3 un5 rfl rfl (sd rfl (yl_move rfl rfl (sd rfl (yl_rem rfl rfl rfl (by decide) (sd rfl (yl_conv un3 un5 rfl rfl ?_)))))))))))))))))
 refine sd rfl (yl_buildSlice (cs := [.int .u8 (IntKind.wrap .u8 (IntKind.wrap .i64 (Int.tdiv p_n 65536))), .int .u8 (IntKind.wrap .u8 (Int.tmod (IntKind.wrap .i64 (Int.tdiv p_n 256)) 256)), .int .u8 (IntKind.wrap .u8 (Int.tmod p_n 256))]) un101 ty5 (by decide) rfl (oc rfl (oc rfl (oc rfl oz))) (by kernel_rfl) ?_)
 intro b1 w2 hs3 hz4 hB5 hE6
 have hO7 : OwnL w2 b1 (b1 + 1) 5 1 (RF e_U8) (some ⟨b1, 0, none⟩) 3 3 ([IntKind.wrap .u8 (IntKind.wrap .i64 (Int.tdiv p_n 65536)), IntKind.wrap .u8 (Int.tmod (IntKind.wrap .i64 (Int.tdiv p_n 256)) 256), IntKind.wrap .u8 (Int.tmod p_n 256)] : List Int) := OwnL.of_box (S := fun _ => False) hB5 (Nat.le_refl _) (Nat.lt_succ_self _) (EncL.cons (c := [.int .u8 (IntKind.wrap .u8 (IntKind.wrap .i64 (Int.tdiv p_n 65536)))]) rfl rfl (EncL.cons (c := [.int .u8 (IntKind.wrap .u8 (Int.tmod (IntKind.wrap .i64 (Int.tdiv p_n 256)) 256))]) rfl rfl (EncL.cons (c := [.int .u8 (IntKind.wrap .u8 (Int.tmod p_n 256))]) rfl rfl EncL.nil))) (Nat.le_of_ble_eq_true rfl) (fun h => h) (fun _ h => False.elim h)
 refine sd rfl (yl_toS un101 un5 un9 rfl rfl (OwnL.rd good_U8 hO7) (sd rfl (yl_assign rfl rfl (dn (CW.ret (rr rfl (.cons rfl .nil) ?_))))))
 have hM9 : (s_l1Three p_n) = (toS ([IntKind.wrap .u8 (IntKind.wrap .i64 (Int.tdiv p_n 65536)), IntKind.wrap .u8 (Int.tmod (IntKind.wrap .i64 (Int.tdiv p_n 256)) 256), IntKind.wrap .u8 (Int.tmod p_n 256)] : List Int)) := by simp only [s_l1Three, cL]
 rw [hM9]
 exact ⟨rfl, (okS_toS (Nat.le_of_ble_eq_true rfl)), (Ex.trans (Ex.refl w) hE6)⟩
theorem c_s_l1Sum {w : World} (p_b : Str) (o1 : okS p_b) : Cal Try.prog 79 #[.string (bs (p_b))] w fun v w' => v = .int .i64 ((s_l1Sum p_b)) ∧ Ex w w' := by
 have hol2 : p_b.length ≤ 1073741824 := o1
 refine Cal.of func79 rfl ntmps79 rfl (CW.seq (CW.region (sd rfl (yl_assign rfl rfl (dn (CW.seq (CW.region (sd rfl (yl_assign rfl rfl ?_)))))))))
 refine dn (CW.seq (CW.seq (CW.region (sd rfl (yl_assign rfl rfl (dn (CW.block ?_)))))))
 refine CW.loop (fun m5 L6 w7 => ∃ (k3 : Nat) (x4 : Int), m5 = p_b.length - k3 ∧ k3 ≤ p_b.length ∧ w.heap.size ≤ w7.heap.size ∧ lkp L6 0 = some (.string (bs (p_b))) ∧ lkp L6 3 = some (.int .i64 (x4)) ∧ lkp L6 4 = some (.int .i64 ((k3 : Int))) ∧ Ex w w7 ∧ loopM (B_s_l1Sum_0 p_b) (p_b.length - k3) k3 (x4) = loopM (B_s_l1Sum_0 p_b) (p_b.length - 0) 0 (7)) (p_b.length - 0) ?_ ?_
 ·exact ⟨0, 7, rfl, (by omega), Nat.le_refl _, rfl, rfl, rfl, (Ex.refl w), rfl⟩
 ·rintro m8 L9 w10 ⟨k3, x4, rfl, hk11, hsz13, hl14, hl15, hl16, hf17, hI12⟩
  refine CW.sub (Sub.cons hl14 (Sub.cons hl15 (Sub.cons hl16 (Sub.nil _)))) ?_
  have hf17z := Ex.size hf17
  have hbg18 : p_b.length ≤ 1073741824 := o1
  rcases Nat.lt_or_ge k3 p_b.length with hlt19 | hlt19
  ·refine CW.seq (CW.seq (CW.region (sd rfl (yl_move rfl rfl (sd rfl (yl_move rfl rfl (sd rfl (yl_slen un9 (a := p_b) rfl rfl (sd rfl (yl_lss rfl rfl rfl (dn ?_)))))))))))
   refine CW.cond_t rfl (lt_t hlt19) (CW.skip (tn (CW.seq (CW.block (CW.region (sd rfl (yl_move rfl rfl (sd rfl (yl_mul rfl rfl rfl (sd rfl (yl_move rfl rfl ?_)))))))))))
   refine sd rfl (yl_move rfl rfl (sd rfl (yl_sindexN un9 (a := p_b) rfl rfl rfl (by first | omega | assumption | (simp only [wI] at *; omega)) (sd rfl (yl_conv un5 un3 rfl rfl (sd rfl (yl_add rfl rfl rfl (sd rfl (yl_add rfl rfl rfl (sd rfl (yl_rem rfl rfl rfl (by decide) (sd rfl (yl_assign rfl rfl (SeqR.done (bn ?_)))))))))))))))
   refine tn (CW.region (sd rfl (yl_move rfl rfl (sd rfl (yl_inc rfl rfl rfl (by omega) (sd rfl (yl_assign rfl rfl (dn ?_))))))))
   have hB20 : B_s_l1Sum_0 p_b k3 (x4) = .cont (Int.tmod (IntKind.wrap .i64 ((IntKind.wrap .i64 ((IntKind.wrap .i64 (31 * x4)) + (IntKind.wrap .i64 ((p_b.getD k3 0).toNat : Int)))) + 1)) 16000057) := by simp only [B_s_l1Sum_0, cL]
   exact ⟨p_b.length - (k3 + 1), by omega, k3 + 1, Int.tmod (IntKind.wrap .i64 ((IntKind.wrap .i64 ((IntKind.wrap .i64 (31 * x4)) + (IntKind.wrap .i64 ((p_b.getD k3 0).toNat : Int)))) + 1)) 16000057, rfl, hlt19, (by omega), rfl, rfl, rfl, hf17, (loopM.cont hlt19 hB20).symm.trans hI12⟩
  ·refine CW.seq (CW.seq (CW.region (sd rfl (yl_move rfl rfl (sd rfl (yl_move rfl rfl (sd rfl (yl_slen un9 (a := p_b) rfl rfl (sd rfl (yl_lss rfl rfl rfl (dn ?_)))))))))))
   refine CW.cond_f rfl (lt_f hlt19) (CW.exit (tx (tx ?_)))
   have hL21 : loopM (B_s_l1Sum_0 p_b) (p_b.length - 0) 0 (7) = .done (x4) := hI12.symm.trans (loopM.stop hlt19)
   refine bx (tn (CW.seq (CW.region (sd rfl (yl_move rfl rfl (sd rfl (yl_assign rfl rfl (dn (CW.ret ?_)))))))))
   refine rr rfl (.cons rfl .nil) ?_
   have hM22 : (s_l1Sum p_b) = (x4) := by simp only [s_l1Sum, hL21, cL]
   rw [hM22]
   exact ⟨rfl, hf17⟩
theorem c_s_l1Seal {w : World} (p_b : Str) (o1 : okS p_b) : Cal Try.prog 51 #[.string (bs (p_b))] w fun v w' => v = .string (bs ((s_l1Seal p_b))) ∧ Ex w w' := by
 have hol2 : p_b.length ≤ 1073741824 := o1
 refine Cal.of func51 rfl ntmps51 rfl (CW.seq (CW.region (sd rfl (yl_assign rfl rfl (dn (CW.seq (CW.region (sd rfl (yl_move rfl rfl ?_)))))))))
 refine sd rfl (yl_move rfl rfl (sd rfl (yl_call en79 rfl (oc rfl oz) (Cal.mono (c_s_l1Sum p_b o1) ?_))))
 rintro v4 w3 ⟨rfl, hE5⟩
 have hE5z := Ex.size hE5
 refine sd rfl (yl_call en78 rfl (oc rfl oz) (Cal.mono (c_s_l1Three (s_l1Sum p_b)) ?_))
 rintro v8 w6 ⟨rfl, ho7, hE9⟩
 have hE9z := Ex.size hE9
 have hol10 : p_b.length ≤ 1073741824 := o1
 have hol11 : (s_l1Three (s_l1Sum p_b)).length ≤ 1073741824 := ho7
 refine sd rfl (yl_sadd (a := p_b) (b := (s_l1Three (s_l1Sum p_b))) rfl rfl rfl (by first | omega | (simp only [List.length_append, List.length_cons, List.length_nil, List.length_take, List.length_drop, toS_length]; omega)) (sd rfl (yl_assign rfl rfl (dn (CW.ret (rr rfl (.cons rfl .nil) ?_))))))
 have hM12 : (s_l1Seal p_b) = (p_b ++ (s_l1Three (s_l1Sum p_b))) := by simp only [s_l1Seal, cL]
 rw [hM12]
 exact ⟨rfl, (Ex.trans (Ex.trans (Ex.refl w) hE5) hE9)⟩
theorem c_s_OpenSeal {w : World} (p_b : Str) (o1 : okS p_b) : Cal Try.prog 22 #[.string (bs (p_b))] w fun v w' => v = .tuple #[.string (bs ((s_OpenSeal p_b).1)), .bool ((s_OpenSeal p_b).2)] ∧ okS ((s_OpenSeal p_b).1) ∧ Ex w w' := by
 have hol2 : p_b.length ≤ 1073741824 := o1
 refine Cal.of func22 rfl ntmps22 rfl (CW.seq (CW.region (sd rfl (yl_assign rfl rfl (sd rfl (yl_assign rfl rfl (dn (CW.seq (CW.region ?_)))))))))
 refine sd rfl (yl_move rfl rfl (sd rfl (yl_slen un9 (a := p_b) rfl rfl (sd rfl (yl_sub rfl rfl rfl (sd rfl (yl_assign rfl rfl (dn (CW.seq (CW.seq (CW.region ?_)))))))))))
 refine sd rfl (yl_move rfl rfl (sd rfl (yl_lss rfl rfl rfl (sd rfl (yl_move rfl rfl (bcase (decide ((IntKind.wrap .i64 ((p_b.length : Int) - 3)) < 0)) (fun hb3 => ?_) (fun hb3 => ?_)))))))
 ·have hb3p := dec_t hb3
  refine sz rfl rfl hb3 (sz rfl rfl hb3 (sz rfl rfl hb3 (sd rfl (yl_pick_t rfl rfl hb3 rfl (sd rfl (yl_move rfl rfl (sz rfl rfl rfl (sz rfl rfl rfl (sz rfl rfl rfl (sz rfl rfl rfl ?_))))))))))
  refine sz rfl rfl rfl (sz rfl rfl rfl (sd rfl (yl_pick_t rfl rfl rfl rfl (dn (CW.cond_t rfl rfl (CW.seq (CW.region (sd rfl (yl_assign rfl rfl ?_)))))))))
  refine sd rfl (yl_assign rfl rfl (dn (CW.ret (tr (rr rfl (.cons rfl (.cons rfl .nil)) ?_)))))
  have hM4 : (s_OpenSeal p_b) = ((([] : Str), false)) := by simp only [s_OpenSeal, hb3, cL]
  rw [hM4]
  exact ⟨rfl, (okS.lit rfl), (Ex.refl w)⟩
 ·have hb3p := dec_f hb3
  refine sy rfl rfl hb3 (yl_move rfl rfl (sy rfl rfl hb3 (yl_slen un9 (a := p_b) rfl rfl (sy rfl rfl hb3 (yl_gtr rfl rfl rfl (sd rfl (yl_pick_f rfl rfl hb3 rfl (sd rfl (yl_move rfl rfl (bcase (decide (6000 < (p_b.length : Int))) (fun hb5 => ?_) (fun hb5 => ?_)))))))))))
  ·have hb5p := dec_t hb5
   refine sz rfl rfl hb5 (sz rfl rfl hb5 (sz rfl rfl hb5 (sz rfl rfl hb5 (sz rfl rfl hb5 (sz rfl rfl hb5 (sd rfl (yl_pick_t rfl rfl hb5 rfl (dn ?_))))))))
   refine CW.cond_t rfl rfl (CW.seq (CW.region (sd rfl (yl_assign rfl rfl (sd rfl (yl_assign rfl rfl (dn (CW.ret (tr ?_)))))))))
   refine rr rfl (.cons rfl (.cons rfl .nil)) ?_
   have hM6 : (s_OpenSeal p_b) = ((([] : Str), false)) := by simp only [s_OpenSeal, hb3, hb5, cL]
   rw [hM6]
   exact ⟨rfl, (okS.lit rfl), (Ex.refl w)⟩
  ·have hb5p := dec_f hb5
   refine sy rfl rfl hb5 (yl_move rfl rfl (sy rfl rfl hb5 (yl_move rfl rfl (sy rfl rfl hb5 (yl_sslice_hi un9 (a := p_b) (h := (IntKind.wrap .i64 ((p_b.length : Int) - 3)).toNat) rfl rfl (toNat_op rfl (by first | omega | assumption | (simp only [wI] at *; omega))) (by first | omega | assumption | (simp only [wI] at *; omega)) (sy rfl rfl hb5 (yl_call en51 rfl (oc rfl oz) (Cal.mono (c_s_l1Seal (p_b.take ((IntKind.wrap .i64 ((p_b.length : Int) - 3)).toNat)) (okS.take o1 _)) ?_))))))))
   rintro v8 w7 ⟨rfl, hE9⟩
   have hE9z := Ex.size hE9
   have hrf10 := rf_l1Seal (p_b.take ((IntKind.wrap .i64 ((p_b.length : Int) - 3)).toNat))
   refine sy rfl rfl hb5 (yl_move rfl rfl (sy rfl rfl hb5 (yl_sneq (a := (s_l1Seal (p_b.take ((IntKind.wrap .i64 ((p_b.length : Int) - 3)).toNat)))) (b := p_b) rfl rfl rfl (sd rfl (yl_pick_f rfl rfl hb5 rfl (dn (bcase ((s_l1Seal (p_b.take ((IntKind.wrap .i64 ((p_b.length : Int) - 3)).toNat))) == p_b) (fun hb11 => ?_) (fun hb11 => ?_))))))))
   ·refine CW.cond_f rfl (not_t hb11) (CW.skip (tn (CW.seq (CW.region (sd rfl (yl_move rfl rfl (sd rfl (yl_move rfl rfl (sd rfl (yl_sslice_hi un9 (a := p_b) (h := (IntKind.wrap .i64 ((p_b.length : Int) - 3)).toNat) rfl rfl (toNat_op rfl (by first | omega | assumption | (simp only [wI] at *; omega))) (by first | omega | assumption | (simp only [wI] at *; omega)) (sd rfl (yl_assign rfl rfl ?_))))))))))))
    refine sd rfl (yl_assign rfl rfl (dn (CW.ret (rr rfl (.cons rfl (.cons rfl .nil)) ?_))))
    have hM12 : (s_OpenSeal p_b) = (((p_b.take ((IntKind.wrap .i64 ((p_b.length : Int) - 3)).toNat)), true)) := by simp only [s_OpenSeal, hb3, hb5, hb11, cL]
    rw [hM12]
    exact ⟨rfl, (okS.take o1 _), (Ex.trans (Ex.refl w) hE9)⟩
   ·refine CW.cond_t rfl (not_f hb11) (CW.seq (CW.region (sd rfl (yl_assign rfl rfl (sd rfl (yl_assign rfl rfl (dn (CW.ret (tr ?_)))))))))
    refine rr rfl (.cons rfl (.cons rfl .nil)) ?_
    have hM14 : (s_OpenSeal p_b) = ((([] : Str), false)) := by simp only [s_OpenSeal, hb3, hb5, hb11, cL]
    rw [hM14]
    exact ⟨rfl, (okS.lit rfl), (Ex.trans (Ex.refl w) hE9)⟩
theorem c_s_l1R_one {b1 : Nat} {w : World} (p_r_b : Str) (p_r : Int × Bool) (h2 : Box w b1 49 [.string (bs (p_r_b)), .int .i64 (p_r.1), .bool (p_r.2)]) (o3 : okS p_r_b) (pre0 : (0 ≤ p_r.1 ∧ p_r.1 ≤ (p_r_b.length : Int))) : Cal Try.prog 34 #[.pointer (some ⟨b1, 0, none⟩)] w fun v w' => v = .int .i64 ((s_l1R_one p_r_b p_r).1) ∧ Box w' b1 49 [.string (bs (p_r_b)), .int .i64 (((s_l1R_one p_r_b p_r).2).1), .bool (((s_l1R_one p_r_b p_r).2).2)] ∧ Chg (InR [(b1, b1 + 1)]) w w' := by
 have hol4 : p_r_b.length ≤ 1073741824 := o3
 have hbx5 := Box.lt h2
 refine Cal.of func34 rfl ntmps34 rfl (CW.seq (CW.region (sd rfl (yl_assign rfl rfl (dn (CW.seq (CW.seq (bcase (p_r.2) (fun hb6 => ?_) (fun hb6 => ?_)))))))))
 ·refine CW.drawsI 16 (vgetI ([.pointer (some ⟨b1, 0, none⟩), .pointer (some ⟨b1, 0, none⟩), .pointer (some ⟨b1, 0 + 2, none⟩), .bool (p_r.2), .bool (p_r.2), undef, undef, undef, undef, undef, undef, undef, undef, undef, undef, .bool (true)].map DetI)) Try.follows rfl rfl rfl rfl rfl rfl (vgetI_stable (stD _)) ⟨?_, ?_, ?_, ?_, ?_, ?_, ?_, ?_, ?_, ?_, ?_, ?_, ?_, ?_, ?_, ?_, trivial⟩ ?_
  ·exact oI rfl fun h => yl_move rfl (h.old 0 _ rfl rfl) kI
  ·exact oI rfl fun h => yl_nil rfl (h.dt 0 3 rfl rfl rfl) kI
  ·exact oI rfl fun h => yl_fieldAddr fd49_2 rfl (h.dt 1 4 rfl rfl rfl) kI
  ·exact oI rfl fun h => yl_load1 ty4 rfl (h.dt 2 5 rfl rfl rfl) (((Box.ex h2 h.ex).cell 2).trans rfl) kI
  ·exact oI rfl fun h => yl_move rfl (h.dt 3 6 rfl rfl rfl) kI
  ·exact oS rfl rfl rfl rfl rfl hb6
  ·exact oS rfl rfl rfl rfl rfl hb6
  ·exact oS rfl rfl rfl rfl rfl hb6
  ·exact oS rfl rfl rfl rfl rfl hb6
  ·exact oS rfl rfl rfl rfl rfl hb6
  ·exact oS rfl rfl rfl rfl rfl hb6
  ·exact oS rfl rfl rfl rfl rfl hb6
  ·exact oS rfl rfl rfl rfl rfl hb6
  ·exact oS rfl rfl rfl rfl rfl hb6
  ·exact oS rfl rfl rfl rfl rfl hb6
  ·exact oI rfl fun h => yl_pick_t rfl (h.dt 4 7 rfl rfl rfl) hb6 rfl kI
  ·intro fl92 fh93 L89 w90 hp91
   have hE94 := hp91.ex
   have hE94z := Ex.size hE94
   refine dn (CW.sub (Sub.cons (d := 0) (hp91.old 0 _ rfl rfl) (Sub.cons (d := 18) (hp91.nt 15 18 rfl rfl rfl) (Sub.nil _))) (CW.cond_t rfl rfl (CW.seq (CW.region (sd rfl (yl_move rfl rfl (sd rfl (yl_nil rfl rfl (sd rfl (yl_fieldAddr fd49_2 rfl rfl ?_))))))))))
   refine SeqR.u rfl rfl (yl_store (vs := [.bool (true)]) ty4 rfl rfl rfl rfl rfl rfl (Box.ex h2 hE94) (Nat.le_of_ble_eq_true rfl) ?_)
   intro w98 hB99 hO100
   have hB99 : Box w98 b1 49 [.string (bs (p_r_b)), .int .i64 (p_r.1), .bool (true)] := hB99
   have hO100z := hO100.size
   refine dn (CW.seq (CW.region (sd rfl (yl_assign rfl rfl (dn (CW.ret (tr ?_)))))))
   refine rr rfl (.cons rfl .nil) ?_
   have hM101 : (s_l1R_one p_r_b p_r) = ((0, (p_r.1, true))) := by first | (simp only [s_l1R_one, hb6, cL]; done) | (simp only [s_l1R_one, hb6, cond_true, cond_false, loopE_done, loopE_ret, pairE]; done) | exact (show (s_l1R_one p_r_b p_r) = ((0, (p_r.1, true))) from by simp only [s_l1R_one, hb6, cond_true, cond_false, loopE_done, loopE_ret, pairE])
   rw [hM101]
   exact ⟨rfl, hB99, (Chg.tonly (Chg.tex (Chg.refl (InR [(b1, b1 + 1)]) w) hE94) hO100 (by simp only [InR, or_false]; omega))⟩
 ·refine CW.drawsI 16 (vgetI ([.pointer (some ⟨b1, 0, none⟩), .pointer (some ⟨b1, 0, none⟩), .pointer (some ⟨b1, 0 + 2, none⟩), .bool (p_r.2), .bool (p_r.2), .pointer (some ⟨b1, 0, none⟩), .pointer (some ⟨b1, 0, none⟩), .pointer (some ⟨b1, 0 + 1, none⟩), .int .i64 (p_r.1), .pointer (some ⟨b1, 0, none⟩), .pointer (some ⟨b1, 0, none⟩), .pointer (some ⟨b1, 0 + 0, none⟩), .string (bs (p_r_b)), .int .i64 ((p_r_b.length : Int)), .bool (decide ((p_r_b.length : Int) ≤ p_r.1)), .bool (decide ((p_r_b.length : Int) ≤ p_r.1))].map DetI)) Try.follows rfl rfl rfl rfl rfl rfl (vgetI_stable (stD _)) ⟨?_, ?_, ?_, ?_, ?_, ?_, ?_, ?_, ?_, ?_, ?_, ?_, ?_, ?_, ?_, ?_, trivial⟩ ?_
  ·exact oI rfl fun h => yl_move rfl (h.old 0 _ rfl rfl) kI
  ·exact oI rfl fun h => yl_nil rfl (h.dt 0 3 rfl rfl rfl) kI
  ·exact oI rfl fun h => yl_fieldAddr fd49_2 rfl (h.dt 1 4 rfl rfl rfl) kI
  ·exact oI rfl fun h => yl_load1 ty4 rfl (h.dt 2 5 rfl rfl rfl) (((Box.ex h2 h.ex).cell 2).trans rfl) kI
  ·exact oI rfl fun h => yl_move rfl (h.dt 3 6 rfl rfl rfl) kI
  ·exact oW rfl rfl rfl rfl hb6 fun h => yl_move rfl (h.old 0 _ rfl rfl) kI
  ·exact oW rfl rfl rfl rfl hb6 fun h => yl_nil rfl (h.dt 5 8 rfl rfl rfl) kI
  ·exact oW rfl rfl rfl rfl hb6 fun h => yl_fieldAddr fd49_1 rfl (h.dt 6 9 rfl rfl rfl) kI
  ·exact oW rfl rfl rfl rfl hb6 fun h => yl_load1 ty3 rfl (h.dt 7 10 rfl rfl rfl) (((Box.ex h2 h.ex).cell 1).trans rfl) kI
  ·exact oW rfl rfl rfl rfl hb6 fun h => yl_move rfl (h.old 0 _ rfl rfl) kI
  ·exact oW rfl rfl rfl rfl hb6 fun h => yl_nil rfl (h.dt 9 12 rfl rfl rfl) kI
  ·exact oW rfl rfl rfl rfl hb6 fun h => yl_fieldAddr fd49_0 rfl (h.dt 10 13 rfl rfl rfl) kI
  ·exact oW rfl rfl rfl rfl hb6 fun h => yl_load1 ty9 rfl (h.dt 11 14 rfl rfl rfl) (((Box.ex h2 h.ex).cell 0).trans rfl) kI
  ·exact oW rfl rfl rfl rfl hb6 fun h => yl_slen un9 (a := p_r_b) rfl (h.dt 12 15 rfl rfl rfl) kI
  ·exact oW rfl rfl rfl rfl hb6 fun h => yl_geq rfl (h.dt 8 11 rfl rfl rfl) (h.dt 13 16 rfl rfl rfl) kI
  ·exact oI rfl fun h => yl_pick_f rfl (h.dt 4 7 rfl rfl rfl) hb6 (h.dt 14 17 rfl rfl rfl) kI
  ·intro fl202 fh203 L199 w200 hp201
   have hE204 := hp201.ex
   have hE204z := Ex.size hE204
   refine dn (CW.sub (Sub.cons (d := 0) (hp201.old 0 _ rfl rfl) (Sub.cons (d := 18) (hp201.nt 15 18 rfl rfl rfl) (Sub.nil _))) (bcase (decide ((p_r_b.length : Int) ≤ p_r.1)) (fun hb207 => ?_) (fun hb207 => ?_)))
   ·have hb207p := dec_t hb207
    refine CW.cond_t rfl hb207 (CW.seq (CW.region (sd rfl (yl_move rfl rfl (sd rfl (yl_nil rfl rfl (sd rfl (yl_fieldAddr fd49_2 rfl rfl (SeqR.u rfl rfl (yl_store (vs := [.bool (true)]) ty4 rfl rfl rfl rfl rfl rfl (Box.ex h2 hE204) (Nat.le_of_ble_eq_true rfl) ?_))))))))))
    intro w209 hB210 hO211
    have hB210 : Box w209 b1 49 [.string (bs (p_r_b)), .int .i64 (p_r.1), .bool (true)] := hB210
    have hO211z := hO211.size
    refine dn (CW.seq (CW.region (sd rfl (yl_assign rfl rfl (dn (CW.ret (tr ?_)))))))
    refine rr rfl (.cons rfl .nil) ?_
    have hM212 : (s_l1R_one p_r_b p_r) = ((0, (p_r.1, true))) := by first | (simp only [s_l1R_one, hb6, hb207, cL]; done) | (simp only [s_l1R_one, hb6, hb207, cond_true, cond_false, loopE_done, loopE_ret, pairE]; done) | exact (show (s_l1R_one p_r_b p_r) = ((0, (p_r.1, true))) from by simp only [s_l1R_one, hb6, hb207, cond_true, cond_false, loopE_done, loopE_ret, pairE])
    rw [hM212]
    exact ⟨rfl, hB210, (Chg.tonly (Chg.tex (Chg.refl (InR [(b1, b1 + 1)]) w) hE204) hO211 (by simp only [InR, or_false]; omega))⟩
   ·have hb207p := dec_f hb207
    refine CW.cond_f rfl hb207 (CW.skip (tn (CW.seq (CW.region (sd rfl (yl_move rfl rfl (sd rfl (yl_nil rfl rfl (sd rfl (yl_fieldAddr fd49_1 rfl rfl ?_))))))))))
    have q215 := Box.ex h2 hE204
    refine sd rfl (yl_load1 ty3 rfl rfl ((q215.cell 1).trans rfl) (sd rfl (yl_add rfl rfl rfl (sd rfl (yl_nil rfl rfl (sd rfl (yl_fieldAddr fd49_1 rfl rfl (SeqR.u rfl rfl (yl_store (vs := [.int .i64 (IntKind.wrap .i64 (p_r.1 + 1))]) ty3 rfl rfl rfl rfl rfl rfl q215 (Nat.le_of_ble_eq_true rfl) ?_)))))))))
    intro w216 hB217 hO218
    have hB217 : Box w216 b1 49 [.string (bs (p_r_b)), .int .i64 (IntKind.wrap .i64 (p_r.1 + 1)), .bool (p_r.2)] := hB217
    have hO218z := hO218.size
    refine dn (CW.seq (CW.drawsI 9 (vgetI ([.pointer (some ⟨b1, 0, none⟩), .pointer (some ⟨b1, 0, none⟩), .pointer (some ⟨b1, 0 + 0, none⟩), .string (bs (p_r_b)), .pointer (some ⟨b1, 0, none⟩), .pointer (some ⟨b1, 0, none⟩), .pointer (some ⟨b1, 0 + 1, none⟩), .int .i64 (IntKind.wrap .i64 (p_r.1 + 1)), .int .i64 (IntKind.wrap .i64 ((IntKind.wrap .i64 (p_r.1 + 1)) - 1))].map DetI)) Try.follows rfl rfl rfl rfl rfl rfl (vgetI_stable (stD _)) ⟨?_, ?_, ?_, ?_, ?_, ?_, ?_, ?_, ?_, trivial⟩ ?_))
    ·exact oI rfl fun h => yl_move rfl (h.old 0 _ rfl rfl) kI
    ·exact oI rfl fun h => yl_nil rfl (h.dt 0 29 rfl rfl rfl) kI
    ·exact oI rfl fun h => yl_fieldAddr fd49_0 rfl (h.dt 1 30 rfl rfl rfl) kI
    ·exact oI rfl fun h => yl_load1 ty9 rfl (h.dt 2 31 rfl rfl rfl) (((Box.ex hB217 h.ex).cell 0).trans rfl) kI
    ·exact oI rfl fun h => yl_move rfl (h.old 0 _ rfl rfl) kI
    ·exact oI rfl fun h => yl_nil rfl (h.dt 4 33 rfl rfl rfl) kI
    ·exact oI rfl fun h => yl_fieldAddr fd49_1 rfl (h.dt 5 34 rfl rfl rfl) kI
    ·exact oI rfl fun h => yl_load1 ty3 rfl (h.dt 6 35 rfl rfl rfl) (((Box.ex hB217 h.ex).cell 1).trans rfl) kI
    ·exact oI rfl fun h => yl_sub rfl (h.dt 7 36 rfl rfl rfl) rfl kI
    ·intro fl269 fh270 L266 w267 hp268
     have hE271 := hp268.ex
     have hE271z := Ex.size hE271
     refine sd rfl (yl_sindex un9 (a := p_r_b) rfl (hp268.nt 3 32 rfl rfl rfl) (hp268.nt 8 37 rfl rfl rfl) (by first | omega | assumption | (simp only [wI] at *; omega)) (by first | omega | assumption | (simp only [wI] at *; omega)) (sd rfl (yl_conv un5 un3 rfl rfl (sd rfl (yl_assign rfl rfl (dn (CW.sub (Sub.cons (d := 2) rfl (Sub.nil _)) (CW.ret (rr rfl (.cons rfl .nil) ?_)))))))))
     have hM274 : (s_l1R_one p_r_b p_r) = ((IntKind.wrap .i64 ((p_r_b.getD (IntKind.wrap .i64 ((IntKind.wrap .i64 (p_r.1 + 1)) - 1)).toNat 0).toNat : Int), (IntKind.wrap .i64 (p_r.1 + 1), p_r.2))) := by first | (simp only [s_l1R_one, hb6, hb207, cL]; done) | (simp only [s_l1R_one, hb6, hb207, cond_true, cond_false, loopE_done, loopE_ret, pairE]; done) | exact (show (s_l1R_one p_r_b p_r) = ((IntKind.wrap .i64 ((p_r_b.getD (IntKind.wrap .i64 ((IntKind.wrap .i64 (p_r.1 + 1)) - 1)).toNat 0).toNat : Int), (IntKind.wrap .i64 (p_r.1 + 1), p_r.2))) from by simp only [s_l1R_one, hb6, hb207, cond_true, cond_false, loopE_done, loopE_ret, pairE])
     rw [hM274]
     exact ⟨rfl, (Box.ex hB217 hE271), (Chg.tex (Chg.tonly (Chg.tex (Chg.refl (InR [(b1, b1 + 1)]) w) hE204) hO218 (by simp only [InR, or_false]; omega)) hE271)⟩
theorem c_s_l1NumB {w : World} (p_n : Int) (pre0 : (0 ≤ p_n ∧ p_n ≤ 1073741824)) : Cal Try.prog 52 #[.int .i64 (p_n)] w fun v w' => v = .string (bs ((s_l1NumB p_n))) ∧ Ex w w' := by
 refine Cal.of func52 rfl ntmps52 rfl (CW.seq (CW.region (sd rfl (yl_assign rfl rfl (dn (CW.seq (CW.region (sd rfl (yl_assign rfl rfl ?_)))))))))
 refine dn (CW.seq (CW.block (CW.loop (fun m25 L26 w27 => ∃ (x20 : Int) (x21 : List Int) (A22 : Option Addr) (c23 : Nat) (u24 : Nat), ((x20).toNat) < m25 ∧ w.heap.size ≤ w27.heap.size ∧ lkp L26 0 = some (.int .i64 (x20)) ∧ lkp L26 3 = some (.slice A22 x21.length c23) ∧ OwnL w27 w.heap.size u24 5 1 (RF e_U8) A22 x21.length c23 x21 ∧ Ex w w27 ∧ (w.heap.size ≤ u24 ∧ u24 ≤ w27.heap.size) ∧ x21.length + 1 * ((x20).toNat) ≤ 0 + 1 * ((p_n).toNat) ∧ 0 ≤ x20 ∧ x20 ≤ 1073741824 ∧ loopW (B_s_l1NumB_0 p_n) m25 (x20, x21) = loopW (B_s_l1NumB_0 p_n) (((p_n).toNat) + 1) (p_n, ([] : List Int))) (((p_n).toNat) + 1) ?_ ?_)))
 ·exact ⟨p_n, ([] : List Int), none, 0, w.heap.size, Nat.lt_succ_self _, Nat.le_refl _, rfl, rfl, (OwnL.nil w w.heap.size w.heap.size 5 1 (RF e_U8)), (Ex.refl w), (by omega), (by first | (simp; done) | (first | omega | (simp only [List.length_append, List.length_cons, List.length_nil, List.length_set, toS_length]; omega))), (by first | omega | assumption | (simp only [wI] at *; omega)), (by first | omega | assumption | (simp only [wI] at *; omega)), rfl⟩
 ·rintro m28 L29 w30 ⟨x20, x21, A22, c23, u24, hk31, hsz33, hl34, hl35, hf36, hf37, hu38, hln39, hv40, hv41, hI32⟩
  refine CW.sub (Sub.cons hl34 (Sub.cons hl35 (Sub.nil _))) ?_
  have hf37z := Ex.size hf37
  refine CW.seq (CW.seq (CW.region (sd rfl (yl_move rfl rfl (sd rfl (yl_geq rfl rfl rfl (dn (bcase (decide (128 ≤ x20)) (fun hb42 => ?_) (fun hb42 => ?_)))))))))
  ·have hb42p := dec_t hb42
   refine CW.cond_t rfl hb42 (CW.skip (tn (CW.seq (CW.block (CW.region (sd rfl (yl_move rfl rfl (sd rfl (yl_move rfl rfl (sd rfl (yl_rem rfl rfl rfl (by decide) ?_)))))))))))
   refine sd rfl (yl_add rfl rfl rfl (sd rfl (yl_conv un3 un5 rfl rfl (sd rfl (yl_buildSlice (cs := [.int .u8 (IntKind.wrap .u8 (IntKind.wrap .i64 ((Int.tmod x20 128) + 128)))]) un101 ty5 (by decide) rfl (oc rfl oz) (by kernel_rfl) ?_)))))
   intro b43 w44 hs45 hz46 hB47 hE48
   have hO49 : OwnL w44 b43 (b43 + 1) 5 1 (RF e_U8) (some ⟨b43, 0, none⟩) 1 1 ([IntKind.wrap .u8 (IntKind.wrap .i64 ((Int.tmod x20 128) + 128))] : List Int) := OwnL.of_box (S := fun _ => False) hB47 (Nat.le_refl _) (Nat.lt_succ_self _) (EncL.cons (c := [.int .u8 (IntKind.wrap .u8 (IntKind.wrap .i64 ((Int.tmod x20 128) + 128)))]) rfl rfl EncL.nil) (Nat.le_of_ble_eq_true rfl) (fun h => h) (fun _ h => False.elim h)
   refine sd rfl (yl_appendL (S := (fun _ => False)) (lo := w.heap.size) (hi := u24) (xs := x21) (ys := ([IntKind.wrap .u8 (IntKind.wrap .i64 ((Int.tmod x20 128) + 128))] : List Int)) good_U8 un101 ty5 rfl (Nat.le_of_ble_eq_true rfl) rfl rfl rfl (OwnL.ex good_U8 hf36 hE48) (EncL.cons (c := [.int .u8 (IntKind.wrap .u8 (IntKind.wrap .i64 ((Int.tmod x20 128) + 128)))]) rfl rfl EncL.nil) (Or.inr ⟨_, _, rfl, rfl, hB47.cells (o := 0) (n := 1) rfl⟩) rfl (by first | omega | (simp only [List.length_append, List.length_cons, List.length_nil, List.length_take, List.length_drop, List.length_replicate, List.length_set, toS_length]; omega)) (by first | omega | (simp only [List.length_append, List.length_cons, List.length_nil, List.length_take, List.length_drop, List.length_replicate, List.length_set, toS_length]; omega)) (by omega) (by omega) (fun _ h _ => False.elim h) (by omega) ?_)
   intro A51 c52 w53 row54 hO55 hG56 hrg57
   have hG56z := hG56.size
   refine sd rfl (yl_assign rfl rfl (SeqR.done (bn (tn (CW.region (sd rfl (yl_move rfl rfl (sd rfl (yl_quo rfl rfl rfl (by decide) (sd rfl (yl_assign rfl rfl (SeqR.done ?_))))))))))))
   refine tn ?_
   have hB58 : B_s_l1NumB_0 p_n (x20, x21) = .cont (IntKind.wrap .i64 (Int.tdiv x20 128), (x21 ++ ([IntKind.wrap .u8 (IntKind.wrap .i64 ((Int.tmod x20 128) + 128))] : List Int))) := by simp only [B_s_l1NumB_0, hb42, cL]
   have hmu61 : ((IntKind.wrap .i64 (Int.tdiv x20 128)).toNat) < ((x20).toNat) := by (have hq := wtd (n := x20) (c := 128) (by decide) (by omega) (by omega); omega)
   exact ⟨m28 - 1, by omega, IntKind.wrap .i64 (Int.tdiv x20 128), (x21 ++ ([IntKind.wrap .u8 (IntKind.wrap .i64 ((Int.tmod x20 128) + 128))] : List Int)), A51, c52, w53.heap.size, (by omega), (by omega), rfl, rfl, hO55, (Below.grown (Ex.trans hf37 hE48) hG56 (by omega) (fun k hk => by have := hrg57 k hk; omega)), (by omega), (by first | omega | (simp only [List.length_append, List.length_cons, List.length_nil, List.length_set, toS_length]; omega)), (by (have hq := wtd (n := x20) (c := 128) (by decide) (by omega) (by omega); omega)), (by (have hq := wtd (n := x20) (c := 128) (by decide) (by omega) (by omega); omega)), (loopW.cont hk31 hB58).symm.trans hI32⟩
  ·have hb42p := dec_f hb42
   refine CW.cond_f rfl hb42 (CW.exit (tx (tx ?_)))
   have hB63 : B_s_l1NumB_0 p_n (x20, x21) = .brk (x20, x21) := by simp only [B_s_l1NumB_0, hb42, cL]
   have hL62 : loopW (B_s_l1NumB_0 p_n) (((p_n).toNat) + 1) (p_n, ([] : List Int)) = .done (x20, x21) := hI32.symm.trans (loopW.brk hk31 hB63)
   refine bx (tn (CW.seq (CW.region (sd rfl (yl_move rfl rfl (sd rfl (yl_move rfl rfl (sd rfl (yl_conv un3 un5 rfl rfl (sd rfl (yl_buildSlice (cs := [.int .u8 (IntKind.wrap .u8 x20)]) un101 ty5 (by decide) rfl (oc rfl oz) (by kernel_rfl) ?_)))))))))))
   intro b64 w65 hs66 hz67 hB68 hE69
   have hO70 : OwnL w65 b64 (b64 + 1) 5 1 (RF e_U8) (some ⟨b64, 0, none⟩) 1 1 ([IntKind.wrap .u8 x20] : List Int) := OwnL.of_box (S := fun _ => False) hB68 (Nat.le_refl _) (Nat.lt_succ_self _) (EncL.cons (c := [.int .u8 (IntKind.wrap .u8 x20)]) rfl rfl EncL.nil) (Nat.le_of_ble_eq_true rfl) (fun h => h) (fun _ h => False.elim h)
   refine sd rfl (yl_appendL (S := (fun _ => False)) (lo := w.heap.size) (hi := u24) (xs := x21) (ys := ([IntKind.wrap .u8 x20] : List Int)) good_U8 un101 ty5 rfl (Nat.le_of_ble_eq_true rfl) rfl rfl rfl (OwnL.ex good_U8 hf36 hE69) (EncL.cons (c := [.int .u8 (IntKind.wrap .u8 x20)]) rfl rfl EncL.nil) (Or.inr ⟨_, _, rfl, rfl, hB68.cells (o := 0) (n := 1) rfl⟩) rfl (by first | omega | (simp only [List.length_append, List.length_cons, List.length_nil, List.length_take, List.length_drop, List.length_replicate, List.length_set, toS_length]; omega)) (by first | omega | (simp only [List.length_append, List.length_cons, List.length_nil, List.length_take, List.length_drop, List.length_replicate, List.length_set, toS_length]; omega)) (by omega) (by omega) (fun _ h _ => False.elim h) (by omega) ?_)
   intro A72 c73 w74 row75 hO76 hG77 hrg78
   have hG77z := hG77.size
   refine sd rfl (yl_toS un101 un5 un9 rfl rfl (OwnL.rd good_U8 hO76) (sd rfl (yl_assign rfl rfl (dn (CW.ret (rr rfl (.cons rfl .nil) ?_))))))
   have hM80 : (s_l1NumB p_n) = (toS (x21 ++ ([IntKind.wrap .u8 x20] : List Int))) := by simp only [s_l1NumB, hb42, hL62, cL]
   rw [hM80]
   exact ⟨rfl, (Below.grown (Ex.trans hf37 hE69) hG77 (by omega) (fun k hk => by have := hrg78 k hk; omega))⟩
theorem c_s_l1R_num {b1 : Nat} {w : World} (p_r_b : Str) (p_r : Int × Bool) (h2 : Box w b1 49 [.string (bs (p_r_b)), .int .i64 (p_r.1), .bool (p_r.2)]) (o3 : okS p_r_b) (pre0 : (0 ≤ p_r.1 ∧ p_r.1 ≤ (p_r_b.length : Int))) : Cal Try.prog 23 #[.pointer (some ⟨b1, 0, none⟩)] w fun v w' => v = .int .i64 ((s_l1R_num p_r_b p_r).1) ∧ Box w' b1 49 [.string (bs (p_r_b)), .int .i64 (((s_l1R_num p_r_b p_r).2).1), .bool (((s_l1R_num p_r_b p_r).2).2)] ∧ Chg (InR [(b1, b1 + 1)]) w w' := by
 have hol4 : p_r_b.length ≤ 1073741824 := o3
 have hbx5 := Box.lt h2
 refine Cal.of func23 rfl ntmps23 rfl (CW.seq (CW.region (sd rfl (yl_assign rfl rfl (dn (CW.seq (CW.region (sd rfl (yl_move rfl rfl ?_)))))))))
 refine sd rfl (yl_nil rfl rfl (sd rfl (yl_fieldAddr fd49_1 rfl rfl (sd rfl (yl_load1 ty3 rfl rfl ((h2.cell 1).trans rfl) (sd rfl (yl_assign rfl rfl (dn (CW.seq (CW.region (sd rfl (yl_assign rfl rfl ?_))))))))))))
 refine sd rfl (yl_assign rfl rfl (dn (CW.seq (CW.seq (CW.region (sd rfl (yl_assign rfl rfl (dn ?_))))))))
 refine CW.block (CW.loop (fun m20 L21 w22 => ∃ (k6 : Nat) (x16 : Int) (x17 : Int) (x18 : Int) (x19 : Bool), m20 = 5 - k6 ∧ k6 ≤ 5 ∧ w.heap.size ≤ w22.heap.size ∧ lkp L21 0 = some (.pointer (some ⟨b1, 0, none⟩)) ∧ lkp L21 3 = some (.int .i64 (p_r.1)) ∧ lkp L21 4 = some (.int .i64 (x16)) ∧ lkp L21 5 = some (.int .i64 (x17)) ∧ lkp L21 6 = some (.int .i64 ((k6 : Int))) ∧ Box w22 b1 49 [.string (bs (p_r_b)), .int .i64 (x18), .bool (x19)] ∧ Chg (InR [(b1, b1 + 1)]) w w22 ∧ (p_r.1 ≤ x18 ∧ x18 ≤ (p_r_b.length : Int)) ∧ (0 ≤ x16 ∧ x16 ≤ 34091302912 * (k6 : Int)) ∧ (((k6 : Int) = 0 ∧ x17 = 1) ∨ ((k6 : Int) = 1 ∧ x17 = 128) ∨ ((k6 : Int) = 2 ∧ x17 = 16384) ∨ ((k6 : Int) = 3 ∧ x17 = 2097152) ∨ ((k6 : Int) = 4 ∧ x17 = 268435456) ∨ ((k6 : Int) = 5 ∧ x17 = 34359738368)) ∧ loopM (B_s_l1R_num_0 p_r_b p_r) (5 - k6) k6 (x16, x17, x18, x19) = loopM (B_s_l1R_num_0 p_r_b p_r) (5 - 0) 0 (0, 1, p_r.1, p_r.2)) (5 - 0) ?_ ?_)
 ·exact ⟨0, 0, 1, p_r.1, p_r.2, rfl, (by omega), Nat.le_refl _, rfl, rfl, rfl, rfl, rfl, h2, (Chg.refl (InR [(b1, b1 + 1)]) w), (by first | omega | assumption | (simp only [wI] at *; omega)), (by first | omega | assumption | (simp only [wI] at *; omega)), (by first | omega | assumption | (simp only [wI] at *; omega)), rfl⟩
 ·rintro m23 L24 w25 ⟨k6, x16, x17, x18, x19, rfl, hk26, hsz28, hl29, hl30, hl31, hl32, hl33, hf34, hf35, hv36, hv37, hv38, hI27⟩
  refine CW.sub (Sub.cons hl29 (Sub.cons hl30 (Sub.cons hl31 (Sub.cons hl32 (Sub.cons hl33 (Sub.nil _)))))) ?_
  have hf34z := Box.lt hf34
  have hf35z := Chg.size hf35
  rcases Nat.lt_or_ge k6 5 with hlt39 | hlt39
  ·have hdm := digit_mul2 o3 (x18, x19) (f := x17) (by omega) (by omega) (by omega)
   have hdr : IntKind.wrap .i64 (x16 + (IntKind.wrap .i64 ((Int.tmod ((s_l1R_one p_r_b (x18, x19)).1) 128) * x17))) = x16 + (IntKind.wrap .i64 ((Int.tmod ((s_l1R_one p_r_b (x18, x19)).1) 128) * x17)) := wrap_in (by omega)
   have hdt : IntKind.wrap .i64 (x17 * 128) = x17 * 128 := wrap_in (by omega)
   refine CW.seq (CW.seq (CW.region (sd rfl (yl_move rfl rfl (sd rfl (yl_lss rfl rfl rfl (dn (CW.cond_t rfl (lt_t hlt39) (CW.skip ?_)))))))))
   refine tn (CW.seq (CW.block (CW.seq (CW.region (sd rfl (yl_move rfl rfl (sd rfl (yl_call en34 rfl (oc rfl oz) (Cal.mono (c_s_l1R_one p_r_b (x18, x19) hf34 o3 (by first | omega | assumption | (simp only [wI] at *; omega))) ?_)))))))))
   rintro v41 w40 ⟨rfl, hB43, hc42⟩
   have hc42z := Chg.size hc42
   have hB43z := Box.lt hB43
   have hrf44 := rf_one o3 (x18, x19)  (by first | omega | assumption | (simp only [wI] at *; omega))
   refine sd rfl (yl_assign rfl rfl (dn (CW.seq (CW.region (sd rfl (yl_move rfl rfl (sd rfl (yl_move rfl rfl (sd rfl (yl_rem rfl rfl rfl (by decide) (sd rfl (yl_move rfl rfl ?_))))))))))))
   refine sd rfl (yl_mul rfl rfl rfl (sd rfl (yl_add rfl rfl rfl (sd rfl (yl_assign rfl rfl (dn (CW.seq (CW.region (sd rfl (yl_move rfl rfl (sd rfl (yl_mul rfl rfl rfl ?_))))))))))))
   refine sd rfl (yl_assign rfl rfl (dn (CW.seq (CW.region (sd rfl (yl_move rfl rfl (sd rfl (yl_lss rfl rfl rfl (dn ?_)))))))))
   refine bcase (decide (((s_l1R_one p_r_b (x18, x19)).1) < 128)) (fun hb45 => ?_) (fun hb45 => ?_)
   ·have hb45p := dec_t hb45
    refine CW.cond_t rfl hb45 (CW.exit (by' rfl (tx (tx ?_))))
    have hB47 : B_s_l1R_num_0 p_r_b p_r k6 (x16, x17, x18, x19) = .brk (IntKind.wrap .i64 (x16 + (IntKind.wrap .i64 ((Int.tmod ((s_l1R_one p_r_b (x18, x19)).1) 128) * x17))), IntKind.wrap .i64 (x17 * 128), ((s_l1R_one p_r_b (x18, x19)).2).1, ((s_l1R_one p_r_b (x18, x19)).2).2) := by simp only [B_s_l1R_num_0, hb45, cL]
    have hL46 : loopM (B_s_l1R_num_0 p_r_b p_r) (5 - 0) 0 (0, 1, p_r.1, p_r.2) = .done (IntKind.wrap .i64 (x16 + (IntKind.wrap .i64 ((Int.tmod ((s_l1R_one p_r_b (x18, x19)).1) 128) * x17))), IntKind.wrap .i64 (x17 * 128), ((s_l1R_one p_r_b (x18, x19)).2).1, ((s_l1R_one p_r_b (x18, x19)).2).2) := hI27.symm.trans (loopM.brk hlt39 hB47)
    refine bx (tn (CW.seq (CW.seq (bcase (((s_l1R_one p_r_b (x18, x19)).2).2) (fun hb48 => ?_) (fun hb48 => ?_)))))
    ·refine CW.drawsI 23 (vgetI ([.pointer (some ⟨b1, 0, none⟩), .pointer (some ⟨b1, 0, none⟩), .pointer (some ⟨b1, 0 + 2, none⟩), .bool (((s_l1R_one p_r_b (x18, x19)).2).2), .bool (((s_l1R_one p_r_b (x18, x19)).2).2), undef, undef, .bool (true), .bool (true), undef, undef, undef, undef, undef, undef, undef, undef, undef, undef, undef, undef, undef, .bool (true)].map DetI)) Try.follows rfl rfl rfl rfl rfl rfl (vgetI_stable (stD _)) ⟨?_, ?_, ?_, ?_, ?_, ?_, ?_, ?_, ?_, ?_, ?_, ?_, ?_, ?_, ?_, ?_, ?_, ?_, ?_, ?_, ?_, ?_, ?_, trivial⟩ ?_
     ·exact oI rfl fun h => yl_move rfl (h.old 0 _ rfl rfl) kI
     ·exact oI rfl fun h => yl_nil rfl (h.dt 0 28 rfl rfl rfl) kI
     ·exact oI rfl fun h => yl_fieldAddr fd49_2 rfl (h.dt 1 29 rfl rfl rfl) kI
     ·exact oI rfl fun h => yl_load1 ty4 rfl (h.dt 2 30 rfl rfl rfl) (((Box.ex hB43 h.ex).cell 2).trans rfl) kI
     ·exact oI rfl fun h => yl_move rfl (h.dt 3 31 rfl rfl rfl) kI
     ·exact oS rfl rfl rfl rfl rfl hb48
     ·exact oS rfl rfl rfl rfl rfl hb48
     ·exact oI rfl fun h => yl_pick_t rfl (h.dt 4 32 rfl rfl rfl) hb48 rfl kI
     ·exact oI rfl fun h => yl_move rfl (h.dt 7 35 rfl rfl rfl) kI
     ·exact oS rfl rfl rfl rfl rfl rfl
     ·exact oS rfl rfl rfl rfl rfl rfl
     ·exact oS rfl rfl rfl rfl rfl rfl
     ·exact oS rfl rfl rfl rfl rfl rfl
     ·exact oS rfl rfl rfl rfl rfl rfl
     ·exact oS rfl rfl rfl rfl rfl rfl
     ·exact oS rfl rfl rfl rfl rfl rfl
     ·exact oS rfl rfl rfl rfl rfl rfl
     ·exact oS rfl rfl rfl rfl rfl rfl
     ·exact oS rfl rfl rfl rfl rfl rfl
     ·exact oS rfl rfl rfl rfl rfl rfl
     ·exact oS rfl rfl rfl rfl rfl rfl
     ·exact oS rfl rfl rfl rfl rfl rfl
     ·exact oI rfl fun h => yl_pick_t rfl (h.dt 8 36 rfl rfl rfl) rfl rfl kI
     ·intro fl170 fh171 L167 w168 hp169
      have hE172 := hp169.ex
      have hE172z := Ex.size hE172
      refine dn (CW.sub (Sub.cons (d := 0) (hp169.old 0 _ rfl rfl) (Sub.cons (d := 4) (hp169.old 4 _ rfl rfl) (Sub.cons (d := 50) (hp169.nt 22 50 rfl rfl rfl) (Sub.nil _)))) (CW.cond_t rfl rfl (CW.seq (CW.region (sd rfl (yl_move rfl rfl (sd rfl (yl_nil rfl rfl (sd rfl (yl_fieldAddr fd49_2 rfl rfl ?_))))))))))
      refine SeqR.u rfl rfl (yl_store (vs := [.bool (true)]) ty4 rfl rfl rfl rfl rfl rfl (Box.ex hB43 hE172) (Nat.le_of_ble_eq_true rfl) ?_)
      intro w177 hB178 hO179
      have hB178 : Box w177 b1 49 [.string (bs (p_r_b)), .int .i64 (((s_l1R_one p_r_b (x18, x19)).2).1), .bool (true)] := hB178
      have hO179z := hO179.size
      refine dn (CW.seq (CW.region (sd rfl (yl_assign rfl rfl (dn (CW.ret (tr ?_)))))))
      refine rr rfl (.cons rfl .nil) ?_
      have hM180 : (s_l1R_num p_r_b p_r) = ((0, (((s_l1R_one p_r_b (x18, x19)).2).1, true))) := by first | (simp only [s_l1R_num, hb48, hL46, cond_true, cond_false, loopE_done, loopE_ret, pairE]; done) | (simp only [s_l1R_num, hb45, hb48, hL46, cL]; done) | (simp only [s_l1R_num, hb45, hb48, hL46, cond_true, cond_false, loopE_done, loopE_ret, pairE]; done) | exact (show (s_l1R_num p_r_b p_r) = ((0, (((s_l1R_one p_r_b (x18, x19)).2).1, true))) from by simp only [s_l1R_num, hb45, hb48, hL46, cond_true, cond_false, loopE_done, loopE_ret, pairE])
      rw [hM180]
      exact ⟨rfl, hB178, (Chg.tonly (Chg.tex (Chg.tchg hf35 hc42 (fun k hk => by simp only [InR, or_false] at hk ⊢; omega)) hE172) hO179 (by simp only [InR, or_false]; omega))⟩
    ·refine bcase (decide (1000000000 < (IntKind.wrap .i64 (x16 + (IntKind.wrap .i64 ((Int.tmod ((s_l1R_one p_r_b (x18, x19)).1) 128) * x17)))))) (fun hb184 => ?_) (fun hb184 => ?_)
     ·have hb184p := dec_t hb184
      refine CW.drawsI 23 (vgetI ([.pointer (some ⟨b1, 0, none⟩), .pointer (some ⟨b1, 0, none⟩), .pointer (some ⟨b1, 0 + 2, none⟩), .bool (((s_l1R_one p_r_b (x18, x19)).2).2), .bool (((s_l1R_one p_r_b (x18, x19)).2).2), .int .i64 (IntKind.wrap .i64 (x16 + (IntKind.wrap .i64 ((Int.tmod ((s_l1R_one p_r_b (x18, x19)).1) 128) * x17)))), .bool (decide (1000000000 < (IntKind.wrap .i64 (x16 + (IntKind.wrap .i64 ((Int.tmod ((s_l1R_one p_r_b (x18, x19)).1) 128) * x17)))))), .bool (decide (1000000000 < (IntKind.wrap .i64 (x16 + (IntKind.wrap .i64 ((Int.tmod ((s_l1R_one p_r_b (x18, x19)).1) 128) * x17)))))), .bool (decide (1000000000 < (IntKind.wrap .i64 (x16 + (IntKind.wrap .i64 ((Int.tmod ((s_l1R_one p_r_b (x18, x19)).1) 128) * x17)))))), undef, undef, undef, undef, undef, undef, undef, undef, undef, undef, undef, undef, undef, .bool (true)].map DetI)) Try.follows rfl rfl rfl rfl rfl rfl (vgetI_stable (stD _)) ⟨?_, ?_, ?_, ?_, ?_, ?_, ?_, ?_, ?_, ?_, ?_, ?_, ?_, ?_, ?_, ?_, ?_, ?_, ?_, ?_, ?_, ?_, ?_, trivial⟩ ?_
      ·exact oI rfl fun h => yl_move rfl (h.old 0 _ rfl rfl) kI
      ·exact oI rfl fun h => yl_nil rfl (h.dt 0 28 rfl rfl rfl) kI
      ·exact oI rfl fun h => yl_fieldAddr fd49_2 rfl (h.dt 1 29 rfl rfl rfl) kI
      ·exact oI rfl fun h => yl_load1 ty4 rfl (h.dt 2 30 rfl rfl rfl) (((Box.ex hB43 h.ex).cell 2).trans rfl) kI
      ·exact oI rfl fun h => yl_move rfl (h.dt 3 31 rfl rfl rfl) kI
      ·exact oW rfl rfl rfl rfl hb48 fun h => yl_move rfl (h.old 4 _ rfl rfl) kI
      ·exact oW rfl rfl rfl rfl hb48 fun h => yl_gtr rfl (h.dt 5 33 rfl rfl rfl) rfl kI
      ·exact oI rfl fun h => yl_pick_f rfl (h.dt 4 32 rfl rfl rfl) hb48 (h.dt 6 34 rfl rfl rfl) kI
      ·exact oI rfl fun h => yl_move rfl (h.dt 7 35 rfl rfl rfl) kI
      ·exact oS rfl rfl rfl rfl rfl hb184
      ·exact oS rfl rfl rfl rfl rfl hb184
      ·exact oS rfl rfl rfl rfl rfl hb184
      ·exact oS rfl rfl rfl rfl rfl hb184
      ·exact oS rfl rfl rfl rfl rfl hb184
      ·exact oS rfl rfl rfl rfl rfl hb184
      ·exact oS rfl rfl rfl rfl rfl hb184
      ·exact oS rfl rfl rfl rfl rfl hb184
      ·exact oS rfl rfl rfl rfl rfl hb184
      ·exact oS rfl rfl rfl rfl rfl hb184
      ·exact oS rfl rfl rfl rfl rfl hb184
      ·exact oS rfl rfl rfl rfl rfl hb184
      ·exact oS rfl rfl rfl rfl rfl hb184
      ·exact oI rfl fun h => yl_pick_t rfl (h.dt 8 36 rfl rfl rfl) hb184 rfl kI
      ·intro fl308 fh309 L305 w306 hp307
       have hE310 := hp307.ex
       have hE310z := Ex.size hE310
       refine dn (CW.sub (Sub.cons (d := 0) (hp307.old 0 _ rfl rfl) (Sub.cons (d := 4) (hp307.old 4 _ rfl rfl) (Sub.cons (d := 50) (hp307.nt 22 50 rfl rfl rfl) (Sub.nil _)))) (CW.cond_t rfl rfl (CW.seq (CW.region (sd rfl (yl_move rfl rfl (sd rfl (yl_nil rfl rfl (sd rfl (yl_fieldAddr fd49_2 rfl rfl ?_))))))))))
       refine SeqR.u rfl rfl (yl_store (vs := [.bool (true)]) ty4 rfl rfl rfl rfl rfl rfl (Box.ex hB43 hE310) (Nat.le_of_ble_eq_true rfl) ?_)
       intro w315 hB316 hO317
       have hB316 : Box w315 b1 49 [.string (bs (p_r_b)), .int .i64 (((s_l1R_one p_r_b (x18, x19)).2).1), .bool (true)] := hB316
       have hO317z := hO317.size
       refine dn (CW.seq (CW.region (sd rfl (yl_assign rfl rfl (dn (CW.ret (tr ?_)))))))
       refine rr rfl (.cons rfl .nil) ?_
       have hM318 : (s_l1R_num p_r_b p_r) = ((0, (((s_l1R_one p_r_b (x18, x19)).2).1, true))) := by first | (simp only [s_l1R_num, hb48, hb184, hL46, cond_true, cond_false, loopE_done, loopE_ret, pairE]; done) | (simp only [s_l1R_num, hb45, hb48, hb184, hL46, cL]; done) | (simp only [s_l1R_num, hb45, hb48, hb184, hL46, cond_true, cond_false, loopE_done, loopE_ret, pairE]; done) | exact (show (s_l1R_num p_r_b p_r) = ((0, (((s_l1R_one p_r_b (x18, x19)).2).1, true))) from by simp only [s_l1R_num, hb45, hb48, hb184, hL46, cond_true, cond_false, loopE_done, loopE_ret, pairE])
       rw [hM318]
       exact ⟨rfl, hB316, (Chg.tonly (Chg.tex (Chg.tchg hf35 hc42 (fun k hk => by simp only [InR, or_false] at hk ⊢; omega)) hE310) hO317 (by simp only [InR, or_false]; omega))⟩
     ·have hb184p := dec_f hb184
      have hrf323 := rf_l1NumB (IntKind.wrap .i64 (x16 + (IntKind.wrap .i64 ((Int.tmod ((s_l1R_one p_r_b (x18, x19)).1) 128) * x17)))) (by first | omega | assumption | (simp only [wI] at *; omega))
      refine CW.drawsI 23 (vgetI ([.pointer (some ⟨b1, 0, none⟩), .pointer (some ⟨b1, 0, none⟩), .pointer (some ⟨b1, 0 + 2, none⟩), .bool (((s_l1R_one p_r_b (x18, x19)).2).2), .bool (((s_l1R_one p_r_b (x18, x19)).2).2), .int .i64 (IntKind.wrap .i64 (x16 + (IntKind.wrap .i64 ((Int.tmod ((s_l1R_one p_r_b (x18, x19)).1) 128) * x17)))), .bool (decide (1000000000 < (IntKind.wrap .i64 (x16 + (IntKind.wrap .i64 ((Int.tmod ((s_l1R_one p_r_b (x18, x19)).1) 128) * x17)))))), .bool (decide (1000000000 < (IntKind.wrap .i64 (x16 + (IntKind.wrap .i64 ((Int.tmod ((s_l1R_one p_r_b (x18, x19)).1) 128) * x17)))))), .bool (decide (1000000000 < (IntKind.wrap .i64 (x16 + (IntKind.wrap .i64 ((Int.tmod ((s_l1R_one p_r_b (x18, x19)).1) 128) * x17)))))), .int .i64 (IntKind.wrap .i64 (x16 + (IntKind.wrap .i64 ((Int.tmod ((s_l1R_one p_r_b (x18, x19)).1) 128) * x17)))), .string (bs ((s_l1NumB (IntKind.wrap .i64 (x16 + (IntKind.wrap .i64 ((Int.tmod ((s_l1R_one p_r_b (x18, x19)).1) 128) * x17))))))), .pointer (some ⟨b1, 0, none⟩), .pointer (some ⟨b1, 0, none⟩), .pointer (some ⟨b1, 0 + 0, none⟩), .string (bs (p_r_b)), .int .i64 (p_r.1), .pointer (some ⟨b1, 0, none⟩), .pointer (some ⟨b1, 0, none⟩), .pointer (some ⟨b1, 0 + 1, none⟩), .int .i64 (((s_l1R_one p_r_b (x18, x19)).2).1), .string (bs (((p_r_b.take ((((s_l1R_one p_r_b (x18, x19)).2).1).toNat)).drop ((p_r.1).toNat)))), .bool (!((s_l1NumB (IntKind.wrap .i64 (x16 + (IntKind.wrap .i64 ((Int.tmod ((s_l1R_one p_r_b (x18, x19)).1) 128) * x17))))) == ((p_r_b.take ((((s_l1R_one p_r_b (x18, x19)).2).1).toNat)).drop ((p_r.1).toNat)))), .bool (!((s_l1NumB (IntKind.wrap .i64 (x16 + (IntKind.wrap .i64 ((Int.tmod ((s_l1R_one p_r_b (x18, x19)).1) 128) * x17))))) == ((p_r_b.take ((((s_l1R_one p_r_b (x18, x19)).2).1).toNat)).drop ((p_r.1).toNat))))].map DetI)) Try.follows rfl rfl rfl rfl rfl rfl (vgetI_stable (stD _)) ⟨?_, ?_, ?_, ?_, ?_, ?_, ?_, ?_, ?_, ?_, ?_, ?_, ?_, ?_, ?_, ?_, ?_, ?_, ?_, ?_, ?_, ?_, ?_, trivial⟩ ?_
      ·exact oI rfl fun h => yl_move rfl (h.old 0 _ rfl rfl) kI
      ·exact oI rfl fun h => yl_nil rfl (h.dt 0 28 rfl rfl rfl) kI
      ·exact oI rfl fun h => yl_fieldAddr fd49_2 rfl (h.dt 1 29 rfl rfl rfl) kI
      ·exact oI rfl fun h => yl_load1 ty4 rfl (h.dt 2 30 rfl rfl rfl) (((Box.ex hB43 h.ex).cell 2).trans rfl) kI
      ·exact oI rfl fun h => yl_move rfl (h.dt 3 31 rfl rfl rfl) kI
      ·exact oW rfl rfl rfl rfl hb48 fun h => yl_move rfl (h.old 4 _ rfl rfl) kI
      ·exact oW rfl rfl rfl rfl hb48 fun h => yl_gtr rfl (h.dt 5 33 rfl rfl rfl) rfl kI
      ·exact oI rfl fun h => yl_pick_f rfl (h.dt 4 32 rfl rfl rfl) hb48 (h.dt 6 34 rfl rfl rfl) kI
      ·exact oI rfl fun h => yl_move rfl (h.dt 7 35 rfl rfl rfl) kI
      ·exact oW rfl rfl rfl rfl hb184 fun h => yl_move rfl (h.old 4 _ rfl rfl) kI
      ·intro L379 w380 hi381
       have hE382 := hi381.ex
       have hE382z := Ex.size hE382
       exact OpR.want rfl rfl (hi381.dt 8 36 rfl rfl rfl) hb184 (yl_call en52 rfl (oc (hi381.dt 9 37 rfl rfl rfl) oz) (Cal.mono (c_s_l1NumB (IntKind.wrap .i64 (x16 + (IntKind.wrap .i64 ((Int.tmod ((s_l1R_one p_r_b (x18, x19)).1) 128) * x17)))) (by first | omega | assumption | (simp only [wI] at *; omega))) fun _ _ h => h))
      ·exact oW rfl rfl rfl rfl hb184 fun h => yl_move rfl (h.old 0 _ rfl rfl) kI
      ·exact oW rfl rfl rfl rfl hb184 fun h => yl_nil rfl (h.dt 11 39 rfl rfl rfl) kI
      ·exact oW rfl rfl rfl rfl hb184 fun h => yl_fieldAddr fd49_0 rfl (h.dt 12 40 rfl rfl rfl) kI
      ·exact oW rfl rfl rfl rfl hb184 fun h => yl_load1 ty9 rfl (h.dt 13 41 rfl rfl rfl) (((Box.ex hB43 h.ex).cell 0).trans rfl) kI
      ·exact oW rfl rfl rfl rfl hb184 fun h => yl_move rfl (h.old 3 _ rfl rfl) kI
      ·exact oW rfl rfl rfl rfl hb184 fun h => yl_move rfl (h.old 0 _ rfl rfl) kI
      ·exact oW rfl rfl rfl rfl hb184 fun h => yl_nil rfl (h.dt 16 44 rfl rfl rfl) kI
      ·exact oW rfl rfl rfl rfl hb184 fun h => yl_fieldAddr fd49_1 rfl (h.dt 17 45 rfl rfl rfl) kI
      ·exact oW rfl rfl rfl rfl hb184 fun h => yl_load1 ty3 rfl (h.dt 18 46 rfl rfl rfl) (((Box.ex hB43 h.ex).cell 1).trans rfl) kI
      ·intro L444 w445 hi446
       have hE447 := hi446.ex
       have hE447z := Ex.size hE447
       exact OpR.want rfl rfl (hi446.dt 8 36 rfl rfl rfl) hb184 (Yl.sameI (yl_sslice_lh un9 (a := p_r_b) (l := (p_r.1).toNat) (h := (((s_l1R_one p_r_b (x18, x19)).2).1).toNat) rfl (hi446.dt 14 42 rfl rfl rfl) (toNat_op (hi446.dt 15 43 rfl rfl rfl) (by first | omega | assumption | (simp only [wI] at *; omega))) (toNat_op (hi446.dt 19 47 rfl rfl rfl) (by first | omega | assumption | (simp only [wI] at *; omega))) (by first | omega | assumption | (simp only [wI] at *; omega)) (by first | omega | assumption | (simp only [wI] at *; omega)) kI))
      ·exact oW rfl rfl rfl rfl hb184 fun h => yl_sneq (a := (s_l1NumB (IntKind.wrap .i64 (x16 + (IntKind.wrap .i64 ((Int.tmod ((s_l1R_one p_r_b (x18, x19)).1) 128) * x17)))))) (b := ((p_r_b.take ((((s_l1R_one p_r_b (x18, x19)).2).1).toNat)).drop ((p_r.1).toNat))) rfl (h.dt 10 38 rfl rfl rfl) (h.dt 20 48 rfl rfl rfl) kI
      ·exact oI rfl fun h => yl_pick_f rfl (h.dt 8 36 rfl rfl rfl) hb184 (h.dt 21 49 rfl rfl rfl) kI
      ·intro fl468 fh469 L465 w466 hp467
       have hE470 := hp467.ex
       have hE470z := Ex.size hE470
       refine dn (CW.sub (Sub.cons (d := 0) (hp467.old 0 _ rfl rfl) (Sub.cons (d := 4) (hp467.old 4 _ rfl rfl) (Sub.cons (d := 50) (hp467.nt 22 50 rfl rfl rfl) (Sub.nil _)))) (bcase ((s_l1NumB (IntKind.wrap .i64 (x16 + (IntKind.wrap .i64 ((Int.tmod ((s_l1R_one p_r_b (x18, x19)).1) 128) * x17))))) == ((p_r_b.take ((((s_l1R_one p_r_b (x18, x19)).2).1).toNat)).drop ((p_r.1).toNat))) (fun hb474 => ?_) (fun hb474 => ?_)))
       ·refine CW.cond_f rfl (not_t hb474) (CW.skip (tn (CW.seq (CW.region (sd rfl (yl_move rfl rfl (sd rfl (yl_assign rfl rfl (dn ?_)))))))))
        refine CW.ret (rr rfl (.cons rfl .nil) ?_)
        have hM475 : (s_l1R_num p_r_b p_r) = ((IntKind.wrap .i64 (x16 + (IntKind.wrap .i64 ((Int.tmod ((s_l1R_one p_r_b (x18, x19)).1) 128) * x17))), (((s_l1R_one p_r_b (x18, x19)).2).1, ((s_l1R_one p_r_b (x18, x19)).2).2))) := by first | (simp only [s_l1R_num, hb48, hb184, hb474, hL46, cond_true, cond_false, loopE_done, loopE_ret, pairE]; done) | (simp only [s_l1R_num, hb45, hb48, hb184, hb474, hL46, cL]; done) | (simp only [s_l1R_num, hb45, hb48, hb184, hb474, hL46, cond_true, cond_false, loopE_done, loopE_ret, pairE]; done) | exact (show (s_l1R_num p_r_b p_r) = ((IntKind.wrap .i64 (x16 + (IntKind.wrap .i64 ((Int.tmod ((s_l1R_one p_r_b (x18, x19)).1) 128) * x17))), ((s_l1R_one p_r_b (x18, x19)).2))) from by simp only [s_l1R_num, hb45, hb48, hb184, hb474, hL46, cond_true, cond_false, loopE_done, loopE_ret, pairE])
        rw [hM475]
        exact ⟨rfl, (Box.ex hB43 hE470), (Chg.tex (Chg.tchg hf35 hc42 (fun k hk => by simp only [InR, or_false] at hk ⊢; omega)) hE470)⟩
       ·refine CW.cond_t rfl (not_f hb474) (CW.seq (CW.region (sd rfl (yl_move rfl rfl (sd rfl (yl_nil rfl rfl (sd rfl (yl_fieldAddr fd49_2 rfl rfl (SeqR.u rfl rfl (yl_store (vs := [.bool (true)]) ty4 rfl rfl rfl rfl rfl rfl (Box.ex hB43 hE470) (Nat.le_of_ble_eq_true rfl) ?_))))))))))
        intro w480 hB481 hO482
        have hB481 : Box w480 b1 49 [.string (bs (p_r_b)), .int .i64 (((s_l1R_one p_r_b (x18, x19)).2).1), .bool (true)] := hB481
        have hO482z := hO482.size
        refine dn (CW.seq (CW.region (sd rfl (yl_assign rfl rfl (dn (CW.ret (tr ?_)))))))
        refine rr rfl (.cons rfl .nil) ?_
        have hM483 : (s_l1R_num p_r_b p_r) = ((0, (((s_l1R_one p_r_b (x18, x19)).2).1, true))) := by first | (simp only [s_l1R_num, hb48, hb184, hb474, hL46, cond_true, cond_false, loopE_done, loopE_ret, pairE]; done) | (simp only [s_l1R_num, hb45, hb48, hb184, hb474, hL46, cL]; done) | (simp only [s_l1R_num, hb45, hb48, hb184, hb474, hL46, cond_true, cond_false, loopE_done, loopE_ret, pairE]; done) | exact (show (s_l1R_num p_r_b p_r) = ((0, (((s_l1R_one p_r_b (x18, x19)).2).1, true))) from by simp only [s_l1R_num, hb45, hb48, hb184, hb474, hL46, cond_true, cond_false, loopE_done, loopE_ret, pairE])
        rw [hM483]
        exact ⟨rfl, hB481, (Chg.tonly (Chg.tex (Chg.tchg hf35 hc42 (fun k hk => by simp only [InR, or_false] at hk ⊢; omega)) hE470) hO482 (by simp only [InR, or_false]; omega))⟩
   ·have hb45p := dec_f hb45
    refine CW.cond_f rfl hb45 (CW.skip (bn (tn (CW.region (sd rfl (yl_move rfl rfl (sd rfl (yl_inc rfl rfl rfl (by omega) (sd rfl (yl_assign rfl rfl (SeqR.done ?_)))))))))))
    refine tn ?_
    have hB487 : B_s_l1R_num_0 p_r_b p_r k6 (x16, x17, x18, x19) = .cont (IntKind.wrap .i64 (x16 + (IntKind.wrap .i64 ((Int.tmod ((s_l1R_one p_r_b (x18, x19)).1) 128) * x17))), IntKind.wrap .i64 (x17 * 128), ((s_l1R_one p_r_b (x18, x19)).2).1, ((s_l1R_one p_r_b (x18, x19)).2).2) := by simp only [B_s_l1R_num_0, hb45, cL]
    exact ⟨5 - (k6 + 1), by omega, k6 + 1, IntKind.wrap .i64 (x16 + (IntKind.wrap .i64 ((Int.tmod ((s_l1R_one p_r_b (x18, x19)).1) 128) * x17))), IntKind.wrap .i64 (x17 * 128), ((s_l1R_one p_r_b (x18, x19)).2).1, ((s_l1R_one p_r_b (x18, x19)).2).2, rfl, hlt39, (by omega), rfl, rfl, rfl, rfl, rfl, hB43, (Chg.tchg hf35 hc42 (fun k hk => by simp only [InR, or_false] at hk ⊢; omega)), (by first | omega | assumption | (simp only [wI] at *; omega)), (by first | omega | assumption | (simp only [wI] at *; omega)), (by first | omega | assumption | (simp only [wI] at *; omega)), (loopM.cont hlt39 hB487).symm.trans hI27⟩
  ·refine CW.seq (CW.seq (CW.region (sd rfl (yl_move rfl rfl (sd rfl (yl_lss rfl rfl rfl (dn (CW.cond_f rfl (lt_f hlt39) (CW.exit ?_)))))))))
   refine tx (tx ?_)
   have hL489 : loopM (B_s_l1R_num_0 p_r_b p_r) (5 - 0) 0 (0, 1, p_r.1, p_r.2) = .done (x16, x17, x18, x19) := hI27.symm.trans (loopM.stop hlt39)
   refine bx (tn (CW.seq (CW.seq (bcase (x19) (fun hb490 => ?_) (fun hb490 => ?_)))))
   ·refine CW.drawsI 23 (vgetI ([.pointer (some ⟨b1, 0, none⟩), .pointer (some ⟨b1, 0, none⟩), .pointer (some ⟨b1, 0 + 2, none⟩), .bool (x19), .bool (x19), undef, undef, .bool (true), .bool (true), undef, undef, undef, undef, undef, undef, undef, undef, undef, undef, undef, undef, undef, .bool (true)].map DetI)) Try.follows rfl rfl rfl rfl rfl rfl (vgetI_stable (stD _)) ⟨?_, ?_, ?_, ?_, ?_, ?_, ?_, ?_, ?_, ?_, ?_, ?_, ?_, ?_, ?_, ?_, ?_, ?_, ?_, ?_, ?_, ?_, ?_, trivial⟩ ?_
    ·exact oI rfl fun h => yl_move rfl (h.old 0 _ rfl rfl) kI
    ·exact oI rfl fun h => yl_nil rfl (h.dt 0 28 rfl rfl rfl) kI
    ·exact oI rfl fun h => yl_fieldAddr fd49_2 rfl (h.dt 1 29 rfl rfl rfl) kI
    ·exact oI rfl fun h => yl_load1 ty4 rfl (h.dt 2 30 rfl rfl rfl) (((Box.ex hf34 h.ex).cell 2).trans rfl) kI
    ·exact oI rfl fun h => yl_move rfl (h.dt 3 31 rfl rfl rfl) kI
    ·exact oS rfl rfl rfl rfl rfl hb490
    ·exact oS rfl rfl rfl rfl rfl hb490
    ·exact oI rfl fun h => yl_pick_t rfl (h.dt 4 32 rfl rfl rfl) hb490 rfl kI
    ·exact oI rfl fun h => yl_move rfl (h.dt 7 35 rfl rfl rfl) kI
    ·exact oS rfl rfl rfl rfl rfl rfl
    ·exact oS rfl rfl rfl rfl rfl rfl
    ·exact oS rfl rfl rfl rfl rfl rfl
    ·exact oS rfl rfl rfl rfl rfl rfl
    ·exact oS rfl rfl rfl rfl rfl rfl
    ·exact oS rfl rfl rfl rfl rfl rfl
    ·exact oS rfl rfl rfl rfl rfl rfl
    ·exact oS rfl rfl rfl rfl rfl rfl
    ·exact oS rfl rfl rfl rfl rfl rfl
    ·exact oS rfl rfl rfl rfl rfl rfl
    ·exact oS rfl rfl rfl rfl rfl rfl
    ·exact oS rfl rfl rfl rfl rfl rfl
    ·exact oS rfl rfl rfl rfl rfl rfl
    ·exact oI rfl fun h => yl_pick_t rfl (h.dt 8 36 rfl rfl rfl) rfl rfl kI
    ·intro fl612 fh613 L609 w610 hp611
     have hE614 := hp611.ex
     have hE614z := Ex.size hE614
     refine dn (CW.sub (Sub.cons (d := 0) (hp611.old 0 _ rfl rfl) (Sub.cons (d := 4) (hp611.old 4 _ rfl rfl) (Sub.cons (d := 50) (hp611.nt 22 50 rfl rfl rfl) (Sub.nil _)))) (CW.cond_t rfl rfl (CW.seq (CW.region (sd rfl (yl_move rfl rfl (sd rfl (yl_nil rfl rfl (sd rfl (yl_fieldAddr fd49_2 rfl rfl ?_))))))))))
     refine SeqR.u rfl rfl (yl_store (vs := [.bool (true)]) ty4 rfl rfl rfl rfl rfl rfl (Box.ex hf34 hE614) (Nat.le_of_ble_eq_true rfl) ?_)
     intro w619 hB620 hO621
     have hB620 : Box w619 b1 49 [.string (bs (p_r_b)), .int .i64 (x18), .bool (true)] := hB620
     have hO621z := hO621.size
     refine dn (CW.seq (CW.region (sd rfl (yl_assign rfl rfl (dn (CW.ret (tr ?_)))))))
     refine rr rfl (.cons rfl .nil) ?_
     have hM622 : (s_l1R_num p_r_b p_r) = ((0, (x18, true))) := by first | (simp only [s_l1R_num, hb490, hL489, cL]; done) | (simp only [s_l1R_num, hb490, hL489, cond_true, cond_false, loopE_done, loopE_ret, pairE]; done) | exact (show (s_l1R_num p_r_b p_r) = ((0, (x18, true))) from by simp only [s_l1R_num, hb490, hL489, cond_true, cond_false, loopE_done, loopE_ret, pairE])
     rw [hM622]
     exact ⟨rfl, hB620, (Chg.tonly (Chg.tex hf35 hE614) hO621 (by simp only [InR, or_false]; omega))⟩
   ·refine bcase (decide (1000000000 < x16)) (fun hb625 => ?_) (fun hb625 => ?_)
    ·have hb625p := dec_t hb625
     refine CW.drawsI 23 (vgetI ([.pointer (some ⟨b1, 0, none⟩), .pointer (some ⟨b1, 0, none⟩), .pointer (some ⟨b1, 0 + 2, none⟩), .bool (x19), .bool (x19), .int .i64 (x16), .bool (decide (1000000000 < x16)), .bool (decide (1000000000 < x16)), .bool (decide (1000000000 < x16)), undef, undef, undef, undef, undef, undef, undef, undef, undef, undef, undef, undef, undef, .bool (true)].map DetI)) Try.follows rfl rfl rfl rfl rfl rfl (vgetI_stable (stD _)) ⟨?_, ?_, ?_, ?_, ?_, ?_, ?_, ?_, ?_, ?_, ?_, ?_, ?_, ?_, ?_, ?_, ?_, ?_, ?_, ?_, ?_, ?_, ?_, trivial⟩ ?_
     ·exact oI rfl fun h => yl_move rfl (h.old 0 _ rfl rfl) kI
     ·exact oI rfl fun h => yl_nil rfl (h.dt 0 28 rfl rfl rfl) kI
     ·exact oI rfl fun h => yl_fieldAddr fd49_2 rfl (h.dt 1 29 rfl rfl rfl) kI
     ·exact oI rfl fun h => yl_load1 ty4 rfl (h.dt 2 30 rfl rfl rfl) (((Box.ex hf34 h.ex).cell 2).trans rfl) kI
     ·exact oI rfl fun h => yl_move rfl (h.dt 3 31 rfl rfl rfl) kI
     ·exact oW rfl rfl rfl rfl hb490 fun h => yl_move rfl (h.old 4 _ rfl rfl) kI
     ·exact oW rfl rfl rfl rfl hb490 fun h => yl_gtr rfl (h.dt 5 33 rfl rfl rfl) rfl kI
     ·exact oI rfl fun h => yl_pick_f rfl (h.dt 4 32 rfl rfl rfl) hb490 (h.dt 6 34 rfl rfl rfl) kI
     ·exact oI rfl fun h => yl_move rfl (h.dt 7 35 rfl rfl rfl) kI
     ·exact oS rfl rfl rfl rfl rfl hb625
     ·exact oS rfl rfl rfl rfl rfl hb625
     ·exact oS rfl rfl rfl rfl rfl hb625
     ·exact oS rfl rfl rfl rfl rfl hb625
     ·exact oS rfl rfl rfl rfl rfl hb625
     ·exact oS rfl rfl rfl rfl rfl hb625
     ·exact oS rfl rfl rfl rfl rfl hb625
     ·exact oS rfl rfl rfl rfl rfl hb625
     ·exact oS rfl rfl rfl rfl rfl hb625
     ·exact oS rfl rfl rfl rfl rfl hb625
     ·exact oS rfl rfl rfl rfl rfl hb625
     ·exact oS rfl rfl rfl rfl rfl hb625
     ·exact oS rfl rfl rfl rfl rfl hb625
     ·exact oI rfl fun h => yl_pick_t rfl (h.dt 8 36 rfl rfl rfl) hb625 rfl kI
     ·intro fl749 fh750 L746 w747 hp748
      have hE751 := hp748.ex
      have hE751z := Ex.size hE751
      refine dn (CW.sub (Sub.cons (d := 0) (hp748.old 0 _ rfl rfl) (Sub.cons (d := 4) (hp748.old 4 _ rfl rfl) (Sub.cons (d := 50) (hp748.nt 22 50 rfl rfl rfl) (Sub.nil _)))) (CW.cond_t rfl rfl (CW.seq (CW.region (sd rfl (yl_move rfl rfl (sd rfl (yl_nil rfl rfl (sd rfl (yl_fieldAddr fd49_2 rfl rfl ?_))))))))))
      refine SeqR.u rfl rfl (yl_store (vs := [.bool (true)]) ty4 rfl rfl rfl rfl rfl rfl (Box.ex hf34 hE751) (Nat.le_of_ble_eq_true rfl) ?_)
      intro w756 hB757 hO758
      have hB757 : Box w756 b1 49 [.string (bs (p_r_b)), .int .i64 (x18), .bool (true)] := hB757
      have hO758z := hO758.size
      refine dn (CW.seq (CW.region (sd rfl (yl_assign rfl rfl (dn (CW.ret (tr ?_)))))))
      refine rr rfl (.cons rfl .nil) ?_
      have hM759 : (s_l1R_num p_r_b p_r) = ((0, (x18, true))) := by first | (simp only [s_l1R_num, hb490, hb625, hL489, cL]; done) | (simp only [s_l1R_num, hb490, hb625, hL489, cond_true, cond_false, loopE_done, loopE_ret, pairE]; done) | exact (show (s_l1R_num p_r_b p_r) = ((0, (x18, true))) from by simp only [s_l1R_num, hb490, hb625, hL489, cond_true, cond_false, loopE_done, loopE_ret, pairE])
      rw [hM759]
      exact ⟨rfl, hB757, (Chg.tonly (Chg.tex hf35 hE751) hO758 (by simp only [InR, or_false]; omega))⟩
    ·have hb625p := dec_f hb625
     have hrf763 := rf_l1NumB x16 (by first | omega | assumption | (simp only [wI] at *; omega))
     refine CW.drawsI 23 (vgetI ([.pointer (some ⟨b1, 0, none⟩), .pointer (some ⟨b1, 0, none⟩), .pointer (some ⟨b1, 0 + 2, none⟩), .bool (x19), .bool (x19), .int .i64 (x16), .bool (decide (1000000000 < x16)), .bool (decide (1000000000 < x16)), .bool (decide (1000000000 < x16)), .int .i64 (x16), .string (bs ((s_l1NumB x16))), .pointer (some ⟨b1, 0, none⟩), .pointer (some ⟨b1, 0, none⟩), .pointer (some ⟨b1, 0 + 0, none⟩), .string (bs (p_r_b)), .int .i64 (p_r.1), .pointer (some ⟨b1, 0, none⟩), .pointer (some ⟨b1, 0, none⟩), .pointer (some ⟨b1, 0 + 1, none⟩), .int .i64 (x18), .string (bs (((p_r_b.take ((x18).toNat)).drop ((p_r.1).toNat)))), .bool (!((s_l1NumB x16) == ((p_r_b.take ((x18).toNat)).drop ((p_r.1).toNat)))), .bool (!((s_l1NumB x16) == ((p_r_b.take ((x18).toNat)).drop ((p_r.1).toNat))))].map DetI)) Try.follows rfl rfl rfl rfl rfl rfl (vgetI_stable (stD _)) ⟨?_, ?_, ?_, ?_, ?_, ?_, ?_, ?_, ?_, ?_, ?_, ?_, ?_, ?_, ?_, ?_, ?_, ?_, ?_, ?_, ?_, ?_, ?_, trivial⟩ ?_
     ·exact oI rfl fun h => yl_move rfl (h.old 0 _ rfl rfl) kI
     ·exact oI rfl fun h => yl_nil rfl (h.dt 0 28 rfl rfl rfl) kI
     ·exact oI rfl fun h => yl_fieldAddr fd49_2 rfl (h.dt 1 29 rfl rfl rfl) kI
     ·exact oI rfl fun h => yl_load1 ty4 rfl (h.dt 2 30 rfl rfl rfl) (((Box.ex hf34 h.ex).cell 2).trans rfl) kI
     ·exact oI rfl fun h => yl_move rfl (h.dt 3 31 rfl rfl rfl) kI
     ·exact oW rfl rfl rfl rfl hb490 fun h => yl_move rfl (h.old 4 _ rfl rfl) kI
     ·exact oW rfl rfl rfl rfl hb490 fun h => yl_gtr rfl (h.dt 5 33 rfl rfl rfl) rfl kI
     ·exact oI rfl fun h => yl_pick_f rfl (h.dt 4 32 rfl rfl rfl) hb490 (h.dt 6 34 rfl rfl rfl) kI
     ·exact oI rfl fun h => yl_move rfl (h.dt 7 35 rfl rfl rfl) kI
     ·exact oW rfl rfl rfl rfl hb625 fun h => yl_move rfl (h.old 4 _ rfl rfl) kI
     ·intro L819 w820 hi821
      have hE822 := hi821.ex
      have hE822z := Ex.size hE822
      exact OpR.want rfl rfl (hi821.dt 8 36 rfl rfl rfl) hb625 (yl_call en52 rfl (oc (hi821.dt 9 37 rfl rfl rfl) oz) (Cal.mono (c_s_l1NumB x16 (by first | omega | assumption | (simp only [wI] at *; omega))) fun _ _ h => h))
     ·exact oW rfl rfl rfl rfl hb625 fun h => yl_move rfl (h.old 0 _ rfl rfl) kI
     ·exact oW rfl rfl rfl rfl hb625 fun h => yl_nil rfl (h.dt 11 39 rfl rfl rfl) kI
     ·exact oW rfl rfl rfl rfl hb625 fun h => yl_fieldAddr fd49_0 rfl (h.dt 12 40 rfl rfl rfl) kI
     ·exact oW rfl rfl rfl rfl hb625 fun h => yl_load1 ty9 rfl (h.dt 13 41 rfl rfl rfl) (((Box.ex hf34 h.ex).cell 0).trans rfl) kI
     ·exact oW rfl rfl rfl rfl hb625 fun h => yl_move rfl (h.old 3 _ rfl rfl) kI
     ·exact oW rfl rfl rfl rfl hb625 fun h => yl_move rfl (h.old 0 _ rfl rfl) kI
     ·exact oW rfl rfl rfl rfl hb625 fun h => yl_nil rfl (h.dt 16 44 rfl rfl rfl) kI
     ·exact oW rfl rfl rfl rfl hb625 fun h => yl_fieldAddr fd49_1 rfl (h.dt 17 45 rfl rfl rfl) kI
     ·exact oW rfl rfl rfl rfl hb625 fun h => yl_load1 ty3 rfl (h.dt 18 46 rfl rfl rfl) (((Box.ex hf34 h.ex).cell 1).trans rfl) kI
     ·intro L884 w885 hi886
      have hE887 := hi886.ex
      have hE887z := Ex.size hE887
      exact OpR.want rfl rfl (hi886.dt 8 36 rfl rfl rfl) hb625 (Yl.sameI (yl_sslice_lh un9 (a := p_r_b) (l := (p_r.1).toNat) (h := (x18).toNat) rfl (hi886.dt 14 42 rfl rfl rfl) (toNat_op (hi886.dt 15 43 rfl rfl rfl) (by first | omega | assumption | (simp only [wI] at *; omega))) (toNat_op (hi886.dt 19 47 rfl rfl rfl) (by first | omega | assumption | (simp only [wI] at *; omega))) (by first | omega | assumption | (simp only [wI] at *; omega)) (by first | omega | assumption | (simp only [wI] at *; omega)) kI))
     ·exact oW rfl rfl rfl rfl hb625 fun h => yl_sneq (a := (s_l1NumB x16)) (b := ((p_r_b.take ((x18).toNat)).drop ((p_r.1).toNat))) rfl (h.dt 10 38 rfl rfl rfl) (h.dt 20 48 rfl rfl rfl) kI
     ·exact oI rfl fun h => yl_pick_f rfl (h.dt 8 36 rfl rfl rfl) hb625 (h.dt 21 49 rfl rfl rfl) kI
     ·intro fl908 fh909 L905 w906 hp907
      have hE910 := hp907.ex
      have hE910z := Ex.size hE910
      refine dn (CW.sub (Sub.cons (d := 0) (hp907.old 0 _ rfl rfl) (Sub.cons (d := 4) (hp907.old 4 _ rfl rfl) (Sub.cons (d := 50) (hp907.nt 22 50 rfl rfl rfl) (Sub.nil _)))) (bcase ((s_l1NumB x16) == ((p_r_b.take ((x18).toNat)).drop ((p_r.1).toNat))) (fun hb914 => ?_) (fun hb914 => ?_)))
      ·refine CW.cond_f rfl (not_t hb914) (CW.skip (tn (CW.seq (CW.region (sd rfl (yl_move rfl rfl (sd rfl (yl_assign rfl rfl (dn ?_)))))))))
       refine CW.ret (rr rfl (.cons rfl .nil) ?_)
       have hM915 : (s_l1R_num p_r_b p_r) = ((x16, (x18, x19))) := by first | (simp only [s_l1R_num, hb490, hb625, hb914, hL489, cL]; done) | (simp only [s_l1R_num, hb490, hb625, hb914, hL489, cond_true, cond_false, loopE_done, loopE_ret, pairE]; done) | exact (show (s_l1R_num p_r_b p_r) = ((x16, (x18, x19))) from by simp only [s_l1R_num, hb490, hb625, hb914, hL489, cond_true, cond_false, loopE_done, loopE_ret, pairE])
       rw [hM915]
       exact ⟨rfl, (Box.ex hf34 hE910), (Chg.tex hf35 hE910)⟩
      ·refine CW.cond_t rfl (not_f hb914) (CW.seq (CW.region (sd rfl (yl_move rfl rfl (sd rfl (yl_nil rfl rfl (sd rfl (yl_fieldAddr fd49_2 rfl rfl (SeqR.u rfl rfl (yl_store (vs := [.bool (true)]) ty4 rfl rfl rfl rfl rfl rfl (Box.ex hf34 hE910) (Nat.le_of_ble_eq_true rfl) ?_))))))))))
       intro w919 hB920 hO921
       have hB920 : Box w919 b1 49 [.string (bs (p_r_b)), .int .i64 (x18), .bool (true)] := hB920
       have hO921z := hO921.size
       refine dn (CW.seq (CW.region (sd rfl (yl_assign rfl rfl (dn (CW.ret (tr ?_)))))))
       refine rr rfl (.cons rfl .nil) ?_
       have hM922 : (s_l1R_num p_r_b p_r) = ((0, (x18, true))) := by first | (simp only [s_l1R_num, hb490, hb625, hb914, hL489, cL]; done) | (simp only [s_l1R_num, hb490, hb625, hb914, hL489, cond_true, cond_false, loopE_done, loopE_ret, pairE]; done) | exact (show (s_l1R_num p_r_b p_r) = ((0, (x18, true))) from by simp only [s_l1R_num, hb490, hb625, hb914, hL489, cond_true, cond_false, loopE_done, loopE_ret, pairE])
       rw [hM922]
       exact ⟨rfl, hB920, (Chg.tonly (Chg.tex hf35 hE910) hO921 (by simp only [InR, or_false]; omega))⟩
theorem c_s_l1R_text {b1 : Nat} {w : World} (p_r_b : Str) (p_r : Int × Bool) (h2 : Box w b1 49 [.string (bs (p_r_b)), .int .i64 (p_r.1), .bool (p_r.2)]) (o3 : okS p_r_b) (pre0 : (0 ≤ p_r.1 ∧ p_r.1 ≤ (p_r_b.length : Int))) : Cal Try.prog 24 #[.pointer (some ⟨b1, 0, none⟩)] w fun v w' => v = .string (bs ((s_l1R_text p_r_b p_r).1)) ∧ okS ((s_l1R_text p_r_b p_r).1) ∧ Box w' b1 49 [.string (bs (p_r_b)), .int .i64 (((s_l1R_text p_r_b p_r).2).1), .bool (((s_l1R_text p_r_b p_r).2).2)] ∧ Chg (InR [(b1, b1 + 1)]) w w' := by
 have hol4 : p_r_b.length ≤ 1073741824 := o3
 have hbx5 := Box.lt h2
 refine Cal.of func24 rfl ntmps24 rfl (CW.seq (CW.region (sd rfl (yl_assign rfl rfl (dn (CW.seq (CW.region (sd rfl (yl_move rfl rfl ?_)))))))))
 refine sd rfl (yl_call en23 rfl (oc rfl oz) (Cal.mono (c_s_l1R_num p_r_b p_r h2 o3 (by first | omega | assumption | (simp only [wI] at *; omega))) ?_))
 rintro v7 w6 ⟨rfl, hB9, hc8⟩
 have hc8z := Chg.size hc8
 have hB9z := Box.lt hB9
 have hrf10 := rf_rnum o3 p_r  (by first | omega | assumption | (simp only [wI] at *; omega))
 refine sd rfl (yl_assign rfl rfl (dn (CW.seq (CW.seq (bcase (((s_l1R_num p_r_b p_r).2).2) (fun hb11 => ?_) (fun hb11 => ?_))))))
 ·refine CW.drawsI 22 (vgetI ([.pointer (some ⟨b1, 0, none⟩), .pointer (some ⟨b1, 0, none⟩), .pointer (some ⟨b1, 0 + 2, none⟩), .bool (((s_l1R_num p_r_b p_r).2).2), .bool (((s_l1R_num p_r_b p_r).2).2), undef, undef, .bool (true), .bool (true), undef, undef, undef, undef, undef, undef, undef, undef, undef, undef, undef, undef, .bool (true)].map DetI)) Try.follows rfl rfl rfl rfl rfl rfl (vgetI_stable (stD _)) ⟨?_, ?_, ?_, ?_, ?_, ?_, ?_, ?_, ?_, ?_, ?_, ?_, ?_, ?_, ?_, ?_, ?_, ?_, ?_, ?_, ?_, ?_, trivial⟩ ?_
  ·exact oI rfl fun h => yl_move rfl (h.old 0 _ rfl rfl) kI
  ·exact oI rfl fun h => yl_nil rfl (h.dt 0 6 rfl rfl rfl) kI
  ·exact oI rfl fun h => yl_fieldAddr fd49_2 rfl (h.dt 1 7 rfl rfl rfl) kI
  ·exact oI rfl fun h => yl_load1 ty4 rfl (h.dt 2 8 rfl rfl rfl) (((Box.ex hB9 h.ex).cell 2).trans rfl) kI
  ·exact oI rfl fun h => yl_move rfl (h.dt 3 9 rfl rfl rfl) kI
  ·exact oS rfl rfl rfl rfl rfl hb11
  ·exact oS rfl rfl rfl rfl rfl hb11
  ·exact oI rfl fun h => yl_pick_t rfl (h.dt 4 10 rfl rfl rfl) hb11 rfl kI
  ·exact oI rfl fun h => yl_move rfl (h.dt 7 13 rfl rfl rfl) kI
  ·exact oS rfl rfl rfl rfl rfl rfl
  ·exact oS rfl rfl rfl rfl rfl rfl
  ·exact oS rfl rfl rfl rfl rfl rfl
  ·exact oS rfl rfl rfl rfl rfl rfl
  ·exact oS rfl rfl rfl rfl rfl rfl
  ·exact oS rfl rfl rfl rfl rfl rfl
  ·exact oS rfl rfl rfl rfl rfl rfl
  ·exact oS rfl rfl rfl rfl rfl rfl
  ·exact oS rfl rfl rfl rfl rfl rfl
  ·exact oS rfl rfl rfl rfl rfl rfl
  ·exact oS rfl rfl rfl rfl rfl rfl
  ·exact oS rfl rfl rfl rfl rfl rfl
  ·exact oI rfl fun h => yl_pick_t rfl (h.dt 8 14 rfl rfl rfl) rfl rfl kI
  ·intro fl128 fh129 L125 w126 hp127
   have hE130 := hp127.ex
   have hE130z := Ex.size hE130
   refine dn (CW.sub (Sub.cons (d := 0) (hp127.old 0 _ rfl rfl) (Sub.cons (d := 3) (hp127.old 3 _ rfl rfl) (Sub.cons (d := 27) (hp127.nt 21 27 rfl rfl rfl) (Sub.nil _)))) (CW.cond_t rfl rfl (CW.seq (CW.region (sd rfl (yl_move rfl rfl (sd rfl (yl_nil rfl rfl (sd rfl (yl_fieldAddr fd49_2 rfl rfl ?_))))))))))
   refine SeqR.u rfl rfl (yl_store (vs := [.bool (true)]) ty4 rfl rfl rfl rfl rfl rfl (Box.ex hB9 hE130) (Nat.le_of_ble_eq_true rfl) ?_)
   intro w135 hB136 hO137
   have hB136 : Box w135 b1 49 [.string (bs (p_r_b)), .int .i64 (((s_l1R_num p_r_b p_r).2).1), .bool (true)] := hB136
   have hO137z := hO137.size
   refine dn (CW.seq (CW.region (sd rfl (yl_assign rfl rfl (dn (CW.ret (tr ?_)))))))
   refine rr rfl (.cons rfl .nil) ?_
   have hM138 : (s_l1R_text p_r_b p_r) = ((([] : Str), (((s_l1R_num p_r_b p_r).2).1, true))) := by first | (simp only [s_l1R_text, hb11, cL]; done) | (simp only [s_l1R_text, hb11, cond_true, cond_false, loopE_done, loopE_ret, pairE]; done) | exact (show (s_l1R_text p_r_b p_r) = ((([] : Str), (((s_l1R_num p_r_b p_r).2).1, true))) from by simp only [s_l1R_text, hb11, cond_true, cond_false, loopE_done, loopE_ret, pairE])
   rw [hM138]
   exact ⟨rfl, (okS.lit rfl), hB136, (Chg.tonly (Chg.tex (Chg.tchg (Chg.refl (InR [(b1, b1 + 1)]) w) hc8 (fun k hk => by simp only [InR, or_false] at hk ⊢; omega)) hE130) hO137 (by simp only [InR, or_false]; omega))⟩
 ·refine bcase (decide (60 < ((s_l1R_num p_r_b p_r).1))) (fun hb142 => ?_) (fun hb142 => ?_)
  ·have hb142p := dec_t hb142
   refine CW.drawsI 22 (vgetI ([.pointer (some ⟨b1, 0, none⟩), .pointer (some ⟨b1, 0, none⟩), .pointer (some ⟨b1, 0 + 2, none⟩), .bool (((s_l1R_num p_r_b p_r).2).2), .bool (((s_l1R_num p_r_b p_r).2).2), .int .i64 ((s_l1R_num p_r_b p_r).1), .bool (decide (60 < ((s_l1R_num p_r_b p_r).1))), .bool (decide (60 < ((s_l1R_num p_r_b p_r).1))), .bool (decide (60 < ((s_l1R_num p_r_b p_r).1))), undef, undef, undef, undef, undef, undef, undef, undef, undef, undef, undef, undef, .bool (true)].map DetI)) Try.follows rfl rfl rfl rfl rfl rfl (vgetI_stable (stD _)) ⟨?_, ?_, ?_, ?_, ?_, ?_, ?_, ?_, ?_, ?_, ?_, ?_, ?_, ?_, ?_, ?_, ?_, ?_, ?_, ?_, ?_, ?_, trivial⟩ ?_
   ·exact oI rfl fun h => yl_move rfl (h.old 0 _ rfl rfl) kI
   ·exact oI rfl fun h => yl_nil rfl (h.dt 0 6 rfl rfl rfl) kI
   ·exact oI rfl fun h => yl_fieldAddr fd49_2 rfl (h.dt 1 7 rfl rfl rfl) kI
   ·exact oI rfl fun h => yl_load1 ty4 rfl (h.dt 2 8 rfl rfl rfl) (((Box.ex hB9 h.ex).cell 2).trans rfl) kI
   ·exact oI rfl fun h => yl_move rfl (h.dt 3 9 rfl rfl rfl) kI
   ·exact oW rfl rfl rfl rfl hb11 fun h => yl_move rfl (h.old 3 _ rfl rfl) kI
   ·exact oW rfl rfl rfl rfl hb11 fun h => yl_gtr rfl (h.dt 5 11 rfl rfl rfl) rfl kI
   ·exact oI rfl fun h => yl_pick_f rfl (h.dt 4 10 rfl rfl rfl) hb11 (h.dt 6 12 rfl rfl rfl) kI
   ·exact oI rfl fun h => yl_move rfl (h.dt 7 13 rfl rfl rfl) kI
   ·exact oS rfl rfl rfl rfl rfl hb142
   ·exact oS rfl rfl rfl rfl rfl hb142
   ·exact oS rfl rfl rfl rfl rfl hb142
   ·exact oS rfl rfl rfl rfl rfl hb142
   ·exact oS rfl rfl rfl rfl rfl hb142
   ·exact oS rfl rfl rfl rfl rfl hb142
   ·exact oS rfl rfl rfl rfl rfl hb142
   ·exact oS rfl rfl rfl rfl rfl hb142
   ·exact oS rfl rfl rfl rfl rfl hb142
   ·exact oS rfl rfl rfl rfl rfl hb142
   ·exact oS rfl rfl rfl rfl rfl hb142
   ·exact oS rfl rfl rfl rfl rfl hb142
   ·exact oI rfl fun h => yl_pick_t rfl (h.dt 8 14 rfl rfl rfl) hb142 rfl kI
   ·intro fl261 fh262 L258 w259 hp260
    have hE263 := hp260.ex
    have hE263z := Ex.size hE263
    refine dn (CW.sub (Sub.cons (d := 0) (hp260.old 0 _ rfl rfl) (Sub.cons (d := 3) (hp260.old 3 _ rfl rfl) (Sub.cons (d := 27) (hp260.nt 21 27 rfl rfl rfl) (Sub.nil _)))) (CW.cond_t rfl rfl (CW.seq (CW.region (sd rfl (yl_move rfl rfl (sd rfl (yl_nil rfl rfl (sd rfl (yl_fieldAddr fd49_2 rfl rfl ?_))))))))))
    refine SeqR.u rfl rfl (yl_store (vs := [.bool (true)]) ty4 rfl rfl rfl rfl rfl rfl (Box.ex hB9 hE263) (Nat.le_of_ble_eq_true rfl) ?_)
    intro w268 hB269 hO270
    have hB269 : Box w268 b1 49 [.string (bs (p_r_b)), .int .i64 (((s_l1R_num p_r_b p_r).2).1), .bool (true)] := hB269
    have hO270z := hO270.size
    refine dn (CW.seq (CW.region (sd rfl (yl_assign rfl rfl (dn (CW.ret (tr ?_)))))))
    refine rr rfl (.cons rfl .nil) ?_
    have hM271 : (s_l1R_text p_r_b p_r) = ((([] : Str), (((s_l1R_num p_r_b p_r).2).1, true))) := by first | (simp only [s_l1R_text, hb11, hb142, cL]; done) | (simp only [s_l1R_text, hb11, hb142, cond_true, cond_false, loopE_done, loopE_ret, pairE]; done) | exact (show (s_l1R_text p_r_b p_r) = ((([] : Str), (((s_l1R_num p_r_b p_r).2).1, true))) from by simp only [s_l1R_text, hb11, hb142, cond_true, cond_false, loopE_done, loopE_ret, pairE])
    rw [hM271]
    exact ⟨rfl, (okS.lit rfl), hB269, (Chg.tonly (Chg.tex (Chg.tchg (Chg.refl (InR [(b1, b1 + 1)]) w) hc8 (fun k hk => by simp only [InR, or_false] at hk ⊢; omega)) hE263) hO270 (by simp only [InR, or_false]; omega))⟩
  ·have hb142p := dec_f hb142
   refine CW.drawsI 22 (vgetI ([.pointer (some ⟨b1, 0, none⟩), .pointer (some ⟨b1, 0, none⟩), .pointer (some ⟨b1, 0 + 2, none⟩), .bool (((s_l1R_num p_r_b p_r).2).2), .bool (((s_l1R_num p_r_b p_r).2).2), .int .i64 ((s_l1R_num p_r_b p_r).1), .bool (decide (60 < ((s_l1R_num p_r_b p_r).1))), .bool (decide (60 < ((s_l1R_num p_r_b p_r).1))), .bool (decide (60 < ((s_l1R_num p_r_b p_r).1))), .pointer (some ⟨b1, 0, none⟩), .pointer (some ⟨b1, 0, none⟩), .pointer (some ⟨b1, 0 + 1, none⟩), .int .i64 (((s_l1R_num p_r_b p_r).2).1), .int .i64 ((s_l1R_num p_r_b p_r).1), .int .i64 (IntKind.wrap .i64 ((((s_l1R_num p_r_b p_r).2).1) + ((s_l1R_num p_r_b p_r).1))), .pointer (some ⟨b1, 0, none⟩), .pointer (some ⟨b1, 0, none⟩), .pointer (some ⟨b1, 0 + 0, none⟩), .string (bs (p_r_b)), .int .i64 ((p_r_b.length : Int)), .bool (decide ((p_r_b.length : Int) < (IntKind.wrap .i64 ((((s_l1R_num p_r_b p_r).2).1) + ((s_l1R_num p_r_b p_r).1))))), .bool (decide ((p_r_b.length : Int) < (IntKind.wrap .i64 ((((s_l1R_num p_r_b p_r).2).1) + ((s_l1R_num p_r_b p_r).1)))))].map DetI)) Try.follows rfl rfl rfl rfl rfl rfl (vgetI_stable (stD _)) ⟨?_, ?_, ?_, ?_, ?_, ?_, ?_, ?_, ?_, ?_, ?_, ?_, ?_, ?_, ?_, ?_, ?_, ?_, ?_, ?_, ?_, ?_, trivial⟩ ?_
   ·exact oI rfl fun h => yl_move rfl (h.old 0 _ rfl rfl) kI
   ·exact oI rfl fun h => yl_nil rfl (h.dt 0 6 rfl rfl rfl) kI
   ·exact oI rfl fun h => yl_fieldAddr fd49_2 rfl (h.dt 1 7 rfl rfl rfl) kI
   ·exact oI rfl fun h => yl_load1 ty4 rfl (h.dt 2 8 rfl rfl rfl) (((Box.ex hB9 h.ex).cell 2).trans rfl) kI
   ·exact oI rfl fun h => yl_move rfl (h.dt 3 9 rfl rfl rfl) kI
   ·exact oW rfl rfl rfl rfl hb11 fun h => yl_move rfl (h.old 3 _ rfl rfl) kI
   ·exact oW rfl rfl rfl rfl hb11 fun h => yl_gtr rfl (h.dt 5 11 rfl rfl rfl) rfl kI
   ·exact oI rfl fun h => yl_pick_f rfl (h.dt 4 10 rfl rfl rfl) hb11 (h.dt 6 12 rfl rfl rfl) kI
   ·exact oI rfl fun h => yl_move rfl (h.dt 7 13 rfl rfl rfl) kI
   ·exact oW rfl rfl rfl rfl hb142 fun h => yl_move rfl (h.old 0 _ rfl rfl) kI
   ·exact oW rfl rfl rfl rfl hb142 fun h => yl_nil rfl (h.dt 9 15 rfl rfl rfl) kI
   ·exact oW rfl rfl rfl rfl hb142 fun h => yl_fieldAddr fd49_1 rfl (h.dt 10 16 rfl rfl rfl) kI
   ·exact oW rfl rfl rfl rfl hb142 fun h => yl_load1 ty3 rfl (h.dt 11 17 rfl rfl rfl) (((Box.ex hB9 h.ex).cell 1).trans rfl) kI
   ·exact oW rfl rfl rfl rfl hb142 fun h => yl_move rfl (h.old 3 _ rfl rfl) kI
   ·exact oW rfl rfl rfl rfl hb142 fun h => yl_add rfl (h.dt 12 18 rfl rfl rfl) (h.dt 13 19 rfl rfl rfl) kI
   ·exact oW rfl rfl rfl rfl hb142 fun h => yl_move rfl (h.old 0 _ rfl rfl) kI
   ·exact oW rfl rfl rfl rfl hb142 fun h => yl_nil rfl (h.dt 15 21 rfl rfl rfl) kI
   ·exact oW rfl rfl rfl rfl hb142 fun h => yl_fieldAddr fd49_0 rfl (h.dt 16 22 rfl rfl rfl) kI
   ·exact oW rfl rfl rfl rfl hb142 fun h => yl_load1 ty9 rfl (h.dt 17 23 rfl rfl rfl) (((Box.ex hB9 h.ex).cell 0).trans rfl) kI
   ·exact oW rfl rfl rfl rfl hb142 fun h => yl_slen un9 (a := p_r_b) rfl (h.dt 18 24 rfl rfl rfl) kI
   ·exact oW rfl rfl rfl rfl hb142 fun h => yl_gtr rfl (h.dt 14 20 rfl rfl rfl) (h.dt 19 25 rfl rfl rfl) kI
   ·exact oI rfl fun h => yl_pick_f rfl (h.dt 8 14 rfl rfl rfl) hb142 (h.dt 20 26 rfl rfl rfl) kI
   ·intro fl409 fh410 L406 w407 hp408
    have hE411 := hp408.ex
    have hE411z := Ex.size hE411
    refine dn (CW.sub (Sub.cons (d := 0) (hp408.old 0 _ rfl rfl) (Sub.cons (d := 3) (hp408.old 3 _ rfl rfl) (Sub.cons (d := 27) (hp408.nt 21 27 rfl rfl rfl) (Sub.nil _)))) (bcase (decide ((p_r_b.length : Int) < (IntKind.wrap .i64 ((((s_l1R_num p_r_b p_r).2).1) + ((s_l1R_num p_r_b p_r).1))))) (fun hb415 => ?_) (fun hb415 => ?_)))
    ·have hb415p := dec_t hb415
     refine CW.cond_t rfl hb415 (CW.seq (CW.region (sd rfl (yl_move rfl rfl (sd rfl (yl_nil rfl rfl (sd rfl (yl_fieldAddr fd49_2 rfl rfl (SeqR.u rfl rfl (yl_store (vs := [.bool (true)]) ty4 rfl rfl rfl rfl rfl rfl (Box.ex hB9 hE411) (Nat.le_of_ble_eq_true rfl) ?_))))))))))
     intro w417 hB418 hO419
     have hB418 : Box w417 b1 49 [.string (bs (p_r_b)), .int .i64 (((s_l1R_num p_r_b p_r).2).1), .bool (true)] := hB418
     have hO419z := hO419.size
     refine dn (CW.seq (CW.region (sd rfl (yl_assign rfl rfl (dn (CW.ret (tr ?_)))))))
     refine rr rfl (.cons rfl .nil) ?_
     have hM420 : (s_l1R_text p_r_b p_r) = ((([] : Str), (((s_l1R_num p_r_b p_r).2).1, true))) := by first | (simp only [s_l1R_text, hb11, hb142, hb415, cL]; done) | (simp only [s_l1R_text, hb11, hb142, hb415, cond_true, cond_false, loopE_done, loopE_ret, pairE]; done) | exact (show (s_l1R_text p_r_b p_r) = ((([] : Str), (((s_l1R_num p_r_b p_r).2).1, true))) from by simp only [s_l1R_text, hb11, hb142, hb415, cond_true, cond_false, loopE_done, loopE_ret, pairE])
     rw [hM420]
     exact ⟨rfl, (okS.lit rfl), hB418, (Chg.tonly (Chg.tex (Chg.tchg (Chg.refl (InR [(b1, b1 + 1)]) w) hc8 (fun k hk => by simp only [InR, or_false] at hk ⊢; omega)) hE411) hO419 (by simp only [InR, or_false]; omega))⟩
    ·have hb415p := dec_f hb415
     refine CW.cond_f rfl hb415 (CW.skip (tn (CW.seq (CW.region (sd rfl (yl_move rfl rfl (sd rfl (yl_nil rfl rfl (sd rfl (yl_fieldAddr fd49_1 rfl rfl ?_))))))))))
     have q424 := Box.ex hB9 hE411
     refine sd rfl (yl_load1 ty3 rfl rfl ((q424.cell 1).trans rfl) (sd rfl (yl_move rfl rfl (sd rfl (yl_add rfl rfl rfl (sd rfl (yl_nil rfl rfl (sd rfl (yl_fieldAddr fd49_1 rfl rfl (SeqR.u rfl rfl (yl_store (vs := [.int .i64 (IntKind.wrap .i64 ((((s_l1R_num p_r_b p_r).2).1) + ((s_l1R_num p_r_b p_r).1)))]) ty3 rfl rfl rfl rfl rfl rfl q424 (Nat.le_of_ble_eq_true rfl) ?_)))))))))))
     intro w425 hB426 hO427
     have hB426 : Box w425 b1 49 [.string (bs (p_r_b)), .int .i64 (IntKind.wrap .i64 ((((s_l1R_num p_r_b p_r).2).1) + ((s_l1R_num p_r_b p_r).1))), .bool (((s_l1R_num p_r_b p_r).2).2)] := hB426
     have hO427z := hO427.size
     refine dn (CW.seq (CW.drawsI 14 (vgetI ([.pointer (some ⟨b1, 0, none⟩), .pointer (some ⟨b1, 0, none⟩), .pointer (some ⟨b1, 0 + 0, none⟩), .string (bs (p_r_b)), .pointer (some ⟨b1, 0, none⟩), .pointer (some ⟨b1, 0, none⟩), .pointer (some ⟨b1, 0 + 1, none⟩), .int .i64 (IntKind.wrap .i64 ((((s_l1R_num p_r_b p_r).2).1) + ((s_l1R_num p_r_b p_r).1))), .int .i64 ((s_l1R_num p_r_b p_r).1), .int .i64 (IntKind.wrap .i64 ((IntKind.wrap .i64 ((((s_l1R_num p_r_b p_r).2).1) + ((s_l1R_num p_r_b p_r).1))) - ((s_l1R_num p_r_b p_r).1))), .pointer (some ⟨b1, 0, none⟩), .pointer (some ⟨b1, 0, none⟩), .pointer (some ⟨b1, 0 + 1, none⟩), .int .i64 (IntKind.wrap .i64 ((((s_l1R_num p_r_b p_r).2).1) + ((s_l1R_num p_r_b p_r).1)))].map DetI)) Try.follows rfl rfl rfl rfl rfl rfl (vgetI_stable (stD _)) ⟨?_, ?_, ?_, ?_, ?_, ?_, ?_, ?_, ?_, ?_, ?_, ?_, ?_, ?_, trivial⟩ ?_))
     ·exact oI rfl fun h => yl_move rfl (h.old 0 _ rfl rfl) kI
     ·exact oI rfl fun h => yl_nil rfl (h.dt 0 39 rfl rfl rfl) kI
     ·exact oI rfl fun h => yl_fieldAddr fd49_0 rfl (h.dt 1 40 rfl rfl rfl) kI
     ·exact oI rfl fun h => yl_load1 ty9 rfl (h.dt 2 41 rfl rfl rfl) (((Box.ex hB426 h.ex).cell 0).trans rfl) kI
     ·exact oI rfl fun h => yl_move rfl (h.old 0 _ rfl rfl) kI
     ·exact oI rfl fun h => yl_nil rfl (h.dt 4 43 rfl rfl rfl) kI
     ·exact oI rfl fun h => yl_fieldAddr fd49_1 rfl (h.dt 5 44 rfl rfl rfl) kI
     ·exact oI rfl fun h => yl_load1 ty3 rfl (h.dt 6 45 rfl rfl rfl) (((Box.ex hB426 h.ex).cell 1).trans rfl) kI
     ·exact oI rfl fun h => yl_move rfl (h.old 3 _ rfl rfl) kI
     ·exact oI rfl fun h => yl_sub rfl (h.dt 7 46 rfl rfl rfl) (h.dt 8 47 rfl rfl rfl) kI
     ·exact oI rfl fun h => yl_move rfl (h.old 0 _ rfl rfl) kI
     ·exact oI rfl fun h => yl_nil rfl (h.dt 10 49 rfl rfl rfl) kI
     ·exact oI rfl fun h => yl_fieldAddr fd49_1 rfl (h.dt 11 50 rfl rfl rfl) kI
     ·exact oI rfl fun h => yl_load1 ty3 rfl (h.dt 12 51 rfl rfl rfl) (((Box.ex hB426 h.ex).cell 1).trans rfl) kI
     ·intro fl505 fh506 L502 w503 hp504
      have hE507 := hp504.ex
      have hE507z := Ex.size hE507
      refine sd rfl (yl_sslice_lh un9 (a := p_r_b) (l := (IntKind.wrap .i64 ((IntKind.wrap .i64 ((((s_l1R_num p_r_b p_r).2).1) + ((s_l1R_num p_r_b p_r).1))) - ((s_l1R_num p_r_b p_r).1))).toNat) (h := (IntKind.wrap .i64 ((((s_l1R_num p_r_b p_r).2).1) + ((s_l1R_num p_r_b p_r).1))).toNat) rfl (hp504.nt 3 42 rfl rfl rfl) (toNat_op (hp504.nt 9 48 rfl rfl rfl) (by first | omega | assumption | (simp only [wI] at *; omega))) (toNat_op (hp504.nt 13 52 rfl rfl rfl) (by first | omega | assumption | (simp only [wI] at *; omega))) (by first | omega | assumption | (simp only [wI] at *; omega)) (by first | omega | assumption | (simp only [wI] at *; omega)) (sd rfl (yl_assign rfl rfl (dn (CW.sub (Sub.cons (d := 2) rfl (Sub.nil _)) (CW.ret (rr rfl (.cons rfl .nil) ?_)))))))
      have hM511 : (s_l1R_text p_r_b p_r) = ((((p_r_b.take ((IntKind.wrap .i64 ((((s_l1R_num p_r_b p_r).2).1) + ((s_l1R_num p_r_b p_r).1))).toNat)).drop ((IntKind.wrap .i64 ((IntKind.wrap .i64 ((((s_l1R_num p_r_b p_r).2).1) + ((s_l1R_num p_r_b p_r).1))) - ((s_l1R_num p_r_b p_r).1))).toNat)), (IntKind.wrap .i64 ((((s_l1R_num p_r_b p_r).2).1) + ((s_l1R_num p_r_b p_r).1)), ((s_l1R_num p_r_b p_r).2).2))) := by first | (simp only [s_l1R_text, hb11, hb142, hb415, cL]; done) | (simp only [s_l1R_text, hb11, hb142, hb415, cond_true, cond_false, loopE_done, loopE_ret, pairE]; done) | exact (show (s_l1R_text p_r_b p_r) = ((((p_r_b.take ((IntKind.wrap .i64 ((((s_l1R_num p_r_b p_r).2).1) + ((s_l1R_num p_r_b p_r).1))).toNat)).drop ((IntKind.wrap .i64 ((IntKind.wrap .i64 ((((s_l1R_num p_r_b p_r).2).1) + ((s_l1R_num p_r_b p_r).1))) - ((s_l1R_num p_r_b p_r).1))).toNat)), (IntKind.wrap .i64 ((((s_l1R_num p_r_b p_r).2).1) + ((s_l1R_num p_r_b p_r).1)), ((s_l1R_num p_r_b p_r).2).2))) from by simp only [s_l1R_text, hb11, hb142, hb415, cond_true, cond_false, loopE_done, loopE_ret, pairE])
      rw [hM511]
      exact ⟨rfl, (okS.drop (okS.take o3 _) _), (Box.ex hB426 hE507), (Chg.tex (Chg.tonly (Chg.tex (Chg.tchg (Chg.refl (InR [(b1, b1 + 1)]) w) hc8 (fun k hk => by simp only [InR, or_false] at hk ⊢; omega)) hE411) hO427 (by simp only [InR, or_false]; omega)) hE507)⟩
theorem c_s_l1In {w : World} (p_n : Int) (p_lo : Int) (p_hi : Int) : Cal Try.prog 80 #[.int .i64 (p_n), .int .i64 (p_lo), .int .i64 (p_hi)] w fun v w' => v = .bool ((s_l1In p_n p_lo p_hi)) ∧ Ex w w' := by
 refine Cal.of func80 rfl ntmps80 rfl (CW.seq (CW.region (sd rfl (yl_assign rfl rfl (dn (CW.seq (CW.region (sd rfl (yl_move rfl rfl ?_)))))))))
 refine sd rfl (yl_move rfl rfl (sd rfl (yl_geq rfl rfl rfl (sd rfl (yl_move rfl rfl (bcase (decide (p_lo ≤ p_n)) (fun hb1 => ?_) (fun hb1 => ?_)))))))
 ·have hb1p := dec_t hb1
  refine sy rfl rfl hb1 (yl_move rfl rfl (sy rfl rfl hb1 (yl_move rfl rfl (sy rfl rfl hb1 (yl_leq rfl rfl rfl (sd rfl (yl_pick_t rfl rfl hb1 rfl (sd rfl (yl_assign rfl rfl (dn (CW.ret (rr rfl (.cons rfl .nil) ?_))))))))))))
  have hM2 : (s_l1In p_n p_lo p_hi) = (decide (p_n ≤ p_hi)) := by simp only [s_l1In, hb1, cL]
  rw [hM2]
  exact ⟨rfl, (Ex.refl w)⟩
 ·have hb1p := dec_f hb1
  refine sz rfl rfl hb1 (sz rfl rfl hb1 (sz rfl rfl hb1 (sd rfl (yl_pick_f rfl rfl hb1 rfl (sd rfl (yl_assign rfl rfl (dn (CW.ret (rr rfl (.cons rfl .nil) ?_)))))))))
  have hM3 : (s_l1In p_n p_lo p_hi) = (false) := by simp only [s_l1In, hb1, cL]
  rw [hM3]
  exact ⟨rfl, (Ex.refl w)⟩
theorem c_s_l3Bytes {w : World} (p_s : Str) (p_more : Str) (o1 : okS p_s) (o2 : okS p_more) : Cal Try.prog 117 #[.string (bs (p_s)), .string (bs (p_more))] w fun v w' => v = .bool ((s_l3Bytes p_s p_more)) ∧ Ex w w' := by
 have hol3 : p_s.length ≤ 1073741824 := o1
 have hol4 : p_more.length ≤ 1073741824 := o2
 refine Cal.of func117 rfl ntmps117 rfl (CW.seq (CW.region (sd rfl (yl_assign rfl rfl (dn (CW.seq (CW.seq (CW.region ?_))))))))
 refine sd rfl (yl_assign rfl rfl (dn (CW.block (CW.loop (fun m6 L7 w8 => ∃ (k5 : Nat), m6 = p_s.length - k5 ∧ k5 ≤ p_s.length ∧ w.heap.size ≤ w8.heap.size ∧ lkp L7 0 = some (.string (bs (p_s))) ∧ lkp L7 1 = some (.string (bs (p_more))) ∧ lkp L7 5 = some (.int .i64 ((k5 : Int))) ∧ Ex w w8 ∧ loopM (B_s_l3Bytes_0 p_s p_more) (p_s.length - k5) k5 () = loopM (B_s_l3Bytes_0 p_s p_more) (p_s.length - 0) 0 ()) (p_s.length - 0) ?_ ?_))))
 ·exact ⟨0, rfl, (by omega), Nat.le_refl _, rfl, rfl, rfl, (Ex.refl w), rfl⟩
 ·rintro m9 L10 w11 ⟨k5, rfl, hk12, hsz14, hl15, hl16, hl17, hf18, hI13⟩
  refine CW.sub (Sub.cons hl15 (Sub.cons hl16 (Sub.cons hl17 (Sub.nil _)))) ?_
  have hf18z := Ex.size hf18
  have hbg19 : p_s.length ≤ 1073741824 := o1
  rcases Nat.lt_or_ge k5 p_s.length with hlt20 | hlt20
  ·refine CW.seq (CW.seq (CW.region (sd rfl (yl_move rfl rfl (sd rfl (yl_move rfl rfl (sd rfl (yl_slen un9 (a := p_s) rfl rfl (sd rfl (yl_lss rfl rfl rfl (dn ?_)))))))))))
   refine CW.cond_t rfl (lt_t hlt20) (CW.skip (tn (CW.seq (CW.block (CW.seq (CW.region (sd rfl (yl_move rfl rfl (sd rfl (yl_move rfl rfl ?_))))))))))
   refine sd rfl (yl_sindexN un9 (a := p_s) rfl rfl rfl (by first | omega | assumption | (simp only [wI] at *; omega)) (sd rfl (yl_geq rfl rfl rfl (sd rfl (yl_move rfl rfl (bcase (decide (97 ≤ ((p_s.getD k5 0).toNat : Int))) (fun hb21 => ?_) (fun hb21 => ?_)))))))
   ·have hb21p := dec_t hb21
    refine sy rfl rfl hb21 (yl_move rfl rfl (sy rfl rfl hb21 (yl_move rfl rfl (sy rfl rfl hb21 (yl_sindexN un9 (a := p_s) rfl rfl rfl (by first | omega | assumption | (simp only [wI] at *; omega)) (sy rfl rfl hb21 (yl_leq rfl rfl rfl (sd rfl (yl_pick_t rfl rfl hb21 rfl (sd rfl (yl_move rfl rfl (bcase (decide (((p_s.getD k5 0).toNat : Int) ≤ 122)) (fun hb22 => ?_) (fun hb22 => ?_)))))))))))))
    ·have hb22p := dec_t hb22
     refine sz rfl rfl hb22 (sz rfl rfl hb22 (sz rfl rfl hb22 (sz rfl rfl hb22 (sz rfl rfl hb22 (sq rfl rfl (sq rfl rfl (sq rfl rfl (sq rfl rfl ?_))))))))
     refine sz rfl rfl hb22 (sd rfl (yl_pick_t rfl rfl hb22 rfl (sd rfl (yl_assign rfl rfl (dn (CW.seq (CW.seq (CW.region (sd rfl (yl_assign rfl rfl ?_))))))))))
     refine dn (CW.block (CW.loop (fun m25 L26 w27 => ∃ (k23 : Nat) (x24 : Bool), m25 = p_more.length - k23 ∧ k23 ≤ p_more.length ∧ w11.heap.size ≤ w27.heap.size ∧ lkp L26 0 = some (.string (bs (p_s))) ∧ lkp L26 1 = some (.string (bs (p_more))) ∧ lkp L26 5 = some (.int .i64 ((k5 : Int))) ∧ lkp L26 6 = some (.bool (x24)) ∧ lkp L26 7 = some (.int .i64 ((k23 : Int))) ∧ lkp L26 19 = some (.string (bs (p_s))) ∧ lkp L26 20 = some (.int .i64 ((k5 : Int))) ∧ lkp L26 21 = some (.int .u8 (((p_s.getD k5 0).toNat : Int))) ∧ lkp L26 22 = some (.bool (decide (((p_s.getD k5 0).toNat : Int) ≤ 122))) ∧ lkp L26 25 = some (undef) ∧ lkp L26 26 = some (undef) ∧ lkp L26 27 = some (undef) ∧ lkp L26 28 = some (undef) ∧ lkp L26 29 = some (undef) ∧ lkp L26 30 = some (undef) ∧ lkp L26 31 = some (undef) ∧ lkp L26 32 = some (undef) ∧ lkp L26 33 = some (undef) ∧ lkp L26 34 = some (undef) ∧ Ex w w27 ∧ loopM (B_s_l3Bytes_1 p_s p_more k5) (p_more.length - k23) k23 (x24) = loopM (B_s_l3Bytes_1 p_s p_more k5) (p_more.length - 0) 0 (true)) (p_more.length - 0) ?_ ?_))
     ·exact ⟨0, true, rfl, (by omega), Nat.le_refl _, rfl, rfl, rfl, rfl, rfl, rfl, rfl, rfl, rfl, rfl, rfl, rfl, rfl, rfl, rfl, rfl, rfl, rfl, rfl, hf18, rfl⟩
     ·rintro m28 L29 w30 ⟨k23, x24, rfl, hk31, hsz33, hl34, hl35, hl36, hl37, hl38, hl39, hl40, hl41, hl42, hl43, hl44, hl45, hl46, hl47, hl48, hl49, hl50, hl51, hl52, hf53, hI32⟩
      refine CW.sub (Sub.cons hl34 (Sub.cons hl35 (Sub.cons hl36 (Sub.cons hl37 (Sub.cons hl38 (Sub.cons hl39 (Sub.cons hl40 (Sub.cons hl41 (Sub.cons hl42 (Sub.cons hl43 (Sub.cons hl44 (Sub.cons hl45 (Sub.cons hl46 (Sub.cons hl47 (Sub.cons hl48 (Sub.cons hl49 (Sub.cons hl50 (Sub.cons hl51 (Sub.cons hl52 (Sub.nil _)))))))))))))))))))) ?_
      have hf53z := Ex.size hf53
      have hbg54 : p_more.length ≤ 1073741824 := o2
      rcases Nat.lt_or_ge k23 p_more.length with hlt55 | hlt55
      ·refine CW.seq (CW.seq (CW.region (sd rfl (yl_move rfl rfl (sd rfl (yl_move rfl rfl (sd rfl (yl_slen un9 (a := p_more) rfl rfl (sd rfl (yl_lss rfl rfl rfl (dn ?_)))))))))))
       refine CW.cond_t rfl (lt_t hlt55) (CW.skip (tn (CW.seq (CW.block (bcase (x24) (fun hb56 => ?_) (fun hb56 => ?_))))))
       ·refine CW.drawsI 11 (vgetI ([.bool (x24), .bool (x24), undef, undef, undef, undef, undef, undef, undef, .bool (true), .bool (true)].map DetI)) Try.follows rfl rfl rfl rfl rfl rfl (vgetI_stable (stD _)) ⟨?_, ?_, ?_, ?_, ?_, ?_, ?_, ?_, ?_, ?_, ?_, trivial⟩ ?_
        ·exact oI rfl fun h => yl_move rfl (h.old 6 _ rfl rfl) kI
        ·exact oI rfl fun h => yl_move rfl (h.dt 0 42 rfl rfl rfl) kI
        ·exact oS rfl rfl rfl rfl rfl hb56
        ·exact oS rfl rfl rfl rfl rfl hb56
        ·exact oS rfl rfl rfl rfl rfl hb56
        ·exact oS rfl rfl rfl rfl rfl hb56
        ·exact oS rfl rfl rfl rfl rfl hb56
        ·exact oS rfl rfl rfl rfl rfl hb56
        ·exact oS rfl rfl rfl rfl rfl hb56
        ·exact oI rfl fun h => yl_pick_t rfl (h.dt 1 43 rfl rfl rfl) hb56 rfl kI
        ·exact oI rfl fun h => yl_assign rfl (h.dt 9 51 rfl rfl rfl) kI
        ·intro fl116 fh117 L113 w114 hp115
         have hE118 := hp115.ex
         have hE118z := Ex.size hE118
         refine SeqR.done (bn (tn (CW.sub (Sub.cons (d := 0) (hp115.old 0 _ rfl rfl) (Sub.cons (d := 1) (hp115.old 1 _ rfl rfl) (Sub.cons (d := 5) (hp115.old 5 _ rfl rfl) (Sub.cons (d := 6) (hp115.nt 10 6 rfl rfl rfl) (Sub.cons (d := 7) (hp115.old 7 _ rfl rfl) (Sub.cons (d := 19) (hp115.old 19 _ rfl rfl) (Sub.cons (d := 20) (hp115.old 20 _ rfl rfl) (Sub.cons (d := 21) (hp115.old 21 _ rfl rfl) (Sub.cons (d := 22) (hp115.old 22 _ rfl rfl) (Sub.cons (d := 25) (hp115.old 25 _ rfl rfl) (Sub.cons (d := 26) (hp115.old 26 _ rfl rfl) (Sub.cons (d := 27) (hp115.old 27 _ rfl rfl) (Sub.cons (d := 28) (hp115.old 28 _ rfl rfl) (Sub.cons (d := 29) (hp115.old 29 _ rfl rfl) (Sub.cons (d := 30) (hp115.old 30 _ rfl rfl) (Sub.cons (d := 31) (hp115.old 31 _ rfl rfl) (Sub.cons (d := 32) (hp115.old 32 _ rfl rfl) (Sub.cons (d := 33) (hp115.old 33 _ rfl rfl) (Sub.cons (d := 34) (hp115.old 34 _ rfl rfl) (Sub.cons (d := 44) (hp115.nt 2 44 rfl rfl rfl) (Sub.cons (d := 45) (hp115.nt 3 45 rfl rfl rfl) (Sub.cons (d := 46) (hp115.nt 4 46 rfl rfl rfl) (Sub.cons (d := 47) (hp115.nt 5 47 rfl rfl rfl) (Sub.cons (d := 48) (hp115.nt 6 48 rfl rfl rfl) (Sub.cons (d := 49) (hp115.nt 7 49 rfl rfl rfl) (Sub.cons (d := 50) (hp115.nt 8 50 rfl rfl rfl) (Sub.nil _))))))))))))))))))))))))))) (CW.region (sd rfl (yl_move rfl rfl (sd rfl (yl_inc rfl rfl rfl (by omega) (sd rfl (yl_assign rfl rfl (SeqR.done ?_)))))))))))
         refine tn ?_
         have hB145 : B_s_l3Bytes_1 p_s p_more k5 k23 (x24) = .cont (true) := by simp only [B_s_l3Bytes_1, hb21, hb22, hb56, cL]
         exact ⟨p_more.length - (k23 + 1), by omega, k23 + 1, true, rfl, hlt55, (by omega), rfl, rfl, rfl, rfl, rfl, rfl, rfl, rfl, rfl, rfl, rfl, rfl, rfl, rfl, rfl, rfl, rfl, rfl, rfl, (Ex.trans hf53 hE118), (loopM.cont hlt55 hB145).symm.trans hI32⟩
       ·refine CW.drawsI 11 (vgetI ([.bool (x24), .bool (x24), .string (bs (p_s)), .int .i64 ((k5 : Int)), .int .u8 (((p_s.getD k5 0).toNat : Int)), .string (bs (p_more)), .int .i64 ((k23 : Int)), .int .u8 (((p_more.getD k23 0).toNat : Int)), .bool (decide (((p_s.getD k5 0).toNat : Int) = ((p_more.getD k23 0).toNat : Int))), .bool (decide (((p_s.getD k5 0).toNat : Int) = ((p_more.getD k23 0).toNat : Int))), .bool (decide (((p_s.getD k5 0).toNat : Int) = ((p_more.getD k23 0).toNat : Int)))].map DetI)) Try.follows rfl rfl rfl rfl rfl rfl (vgetI_stable (stD _)) ⟨?_, ?_, ?_, ?_, ?_, ?_, ?_, ?_, ?_, ?_, ?_, trivial⟩ ?_
        ·exact oI rfl fun h => yl_move rfl (h.old 6 _ rfl rfl) kI
        ·exact oI rfl fun h => yl_move rfl (h.dt 0 42 rfl rfl rfl) kI
        ·exact oW rfl rfl rfl rfl hb56 fun h => yl_move rfl (h.old 0 _ rfl rfl) kI
        ·exact oW rfl rfl rfl rfl hb56 fun h => yl_move rfl (h.old 5 _ rfl rfl) kI
        ·intro L169 w170 hi171
         have hE172 := hi171.ex
         have hE172z := Ex.size hE172
         exact OpR.want rfl rfl (hi171.dt 1 43 rfl rfl rfl) hb56 (Yl.sameI (yl_sindexN un9 (a := p_s) rfl (hi171.dt 2 44 rfl rfl rfl) (hi171.dt 3 45 rfl rfl rfl) (by first | omega | assumption | (simp only [wI] at *; omega)) kI))
        ·exact oW rfl rfl rfl rfl hb56 fun h => yl_move rfl (h.old 1 _ rfl rfl) kI
        ·exact oW rfl rfl rfl rfl hb56 fun h => yl_move rfl (h.old 7 _ rfl rfl) kI
        ·intro L188 w189 hi190
         have hE191 := hi190.ex
         have hE191z := Ex.size hE191
         exact OpR.want rfl rfl (hi190.dt 1 43 rfl rfl rfl) hb56 (Yl.sameI (yl_sindexN un9 (a := p_more) rfl (hi190.dt 5 47 rfl rfl rfl) (hi190.dt 6 48 rfl rfl rfl) (by first | omega | assumption | (simp only [wI] at *; omega)) kI))
        ·exact oW rfl rfl rfl rfl hb56 fun h => yl_eql rfl (h.dt 4 46 rfl rfl rfl) (h.dt 7 49 rfl rfl rfl) kI
        ·exact oI rfl fun h => yl_pick_f rfl (h.dt 1 43 rfl rfl rfl) hb56 (h.dt 8 50 rfl rfl rfl) kI
        ·exact oI rfl fun h => yl_assign rfl (h.dt 9 51 rfl rfl rfl) kI
        ·intro fl216 fh217 L213 w214 hp215
         have hE218 := hp215.ex
         have hE218z := Ex.size hE218
         refine SeqR.done (bn (tn (CW.sub (Sub.cons (d := 0) (hp215.old 0 _ rfl rfl) (Sub.cons (d := 1) (hp215.old 1 _ rfl rfl) (Sub.cons (d := 5) (hp215.old 5 _ rfl rfl) (Sub.cons (d := 6) (hp215.nt 10 6 rfl rfl rfl) (Sub.cons (d := 7) (hp215.old 7 _ rfl rfl) (Sub.cons (d := 19) (hp215.old 19 _ rfl rfl) (Sub.cons (d := 20) (hp215.old 20 _ rfl rfl) (Sub.cons (d := 21) (hp215.old 21 _ rfl rfl) (Sub.cons (d := 22) (hp215.old 22 _ rfl rfl) (Sub.cons (d := 25) (hp215.old 25 _ rfl rfl) (Sub.cons (d := 26) (hp215.old 26 _ rfl rfl) (Sub.cons (d := 27) (hp215.old 27 _ rfl rfl) (Sub.cons (d := 28) (hp215.old 28 _ rfl rfl) (Sub.cons (d := 29) (hp215.old 29 _ rfl rfl) (Sub.cons (d := 30) (hp215.old 30 _ rfl rfl) (Sub.cons (d := 31) (hp215.old 31 _ rfl rfl) (Sub.cons (d := 32) (hp215.old 32 _ rfl rfl) (Sub.cons (d := 33) (hp215.old 33 _ rfl rfl) (Sub.cons (d := 34) (hp215.old 34 _ rfl rfl) (Sub.cons (d := 44) (hp215.nt 2 44 rfl rfl rfl) (Sub.cons (d := 45) (hp215.nt 3 45 rfl rfl rfl) (Sub.cons (d := 46) (hp215.nt 4 46 rfl rfl rfl) (Sub.cons (d := 47) (hp215.nt 5 47 rfl rfl rfl) (Sub.cons (d := 48) (hp215.nt 6 48 rfl rfl rfl) (Sub.cons (d := 49) (hp215.nt 7 49 rfl rfl rfl) (Sub.cons (d := 50) (hp215.nt 8 50 rfl rfl rfl) (Sub.nil _))))))))))))))))))))))))))) (CW.region (sd rfl (yl_move rfl rfl (sd rfl (yl_inc rfl rfl rfl (by omega) (sd rfl (yl_assign rfl rfl (SeqR.done ?_)))))))))))
         refine tn ?_
         have hB245 : B_s_l3Bytes_1 p_s p_more k5 k23 (x24) = .cont (decide (((p_s.getD k5 0).toNat : Int) = ((p_more.getD k23 0).toNat : Int))) := by simp only [B_s_l3Bytes_1, hb21, hb22, hb56, cL]
         exact ⟨p_more.length - (k23 + 1), by omega, k23 + 1, decide (((p_s.getD k5 0).toNat : Int) = ((p_more.getD k23 0).toNat : Int)), rfl, hlt55, (by omega), rfl, rfl, rfl, rfl, rfl, rfl, rfl, rfl, rfl, rfl, rfl, rfl, rfl, rfl, rfl, rfl, rfl, rfl, rfl, (Ex.trans hf53 hE218), (loopM.cont hlt55 hB245).symm.trans hI32⟩
      ·refine CW.seq (CW.seq (CW.region (sd rfl (yl_move rfl rfl (sd rfl (yl_move rfl rfl (sd rfl (yl_slen un9 (a := p_more) rfl rfl (sd rfl (yl_lss rfl rfl rfl (dn ?_)))))))))))
       refine CW.cond_f rfl (lt_f hlt55) (CW.exit (tx (tx ?_)))
       have hL247 : loopM (B_s_l3Bytes_1 p_s p_more k5) (p_more.length - 0) 0 (true) = .done (x24) := hI32.symm.trans (loopM.stop hlt55)
       refine bx (tn (CW.seq (CW.region (sd rfl (yl_move rfl rfl (sd rfl (yl_not rfl rfl (dn (bcase (x24) (fun hb248 => ?_) (fun hb248 => ?_))))))))))
       ·refine CW.cond_f rfl (not_t hb248) (CW.skip (bn (tn (CW.region (sd rfl (yl_move rfl rfl (sd rfl (yl_inc rfl rfl rfl (by omega) (sd rfl (yl_assign rfl rfl (SeqR.done ?_)))))))))))
        refine tn ?_
        have hB249 : B_s_l3Bytes_0 p_s p_more k5 () = .cont () := by simp only [B_s_l3Bytes_0, hb21, hb22, hb248, hL247, cL]
        exact ⟨p_s.length - (k5 + 1), by omega, k5 + 1, rfl, hlt20, (by omega), rfl, rfl, rfl, hf53, (loopM.cont hlt20 hB249).symm.trans hI13⟩
       ·refine CW.cond_t rfl (not_f hb248) (CW.seq (CW.region (sd rfl (yl_assign rfl rfl (dn (CW.ret (br (tr ?_))))))))
        refine tr ?_
        have hB251 : B_s_l3Bytes_0 p_s p_more k5 () = .ret false := by simp only [B_s_l3Bytes_0, hb21, hb22, hb248, hL247, cL]
        have hL250 : loopM (B_s_l3Bytes_0 p_s p_more) (p_s.length - 0) 0 () = .ret false := hI13.symm.trans (loopM.ret hlt20 hB251)
        refine br (tr (rr rfl (.cons rfl .nil) ?_))
        have hM252 : (s_l3Bytes p_s p_more) = (false) := by simp only [s_l3Bytes, hb21, hb22, hb248, hL247, hL250, cL]
        rw [hM252]
        exact ⟨rfl, hf53⟩
    ·have hb22p := dec_f hb22
     refine sy rfl rfl hb22 (yl_move rfl rfl (sy rfl rfl hb22 (yl_move rfl rfl (sy rfl rfl hb22 (yl_sindexN un9 (a := p_s) rfl rfl rfl (by first | omega | assumption | (simp only [wI] at *; omega)) (sy rfl rfl hb22 (yl_geq rfl rfl rfl (sy rfl rfl hb22 (yl_move rfl rfl (bcase (decide (48 ≤ ((p_s.getD k5 0).toNat : Int))) (fun hb253 => ?_) (fun hb253 => ?_)))))))))))
     ·have hb253p := dec_t hb253
      refine sy rfl rfl hb253 (yl_move rfl rfl (sy rfl rfl hb253 (yl_move rfl rfl (sy rfl rfl hb253 (yl_sindexN un9 (a := p_s) rfl rfl rfl (by first | omega | assumption | (simp only [wI] at *; omega)) (sy rfl rfl hb253 (yl_leq rfl rfl rfl (sy rfl rfl hb22 (yl_pick_t rfl rfl hb253 rfl (sd rfl (yl_pick_f rfl rfl hb22 rfl (sd rfl (yl_assign rfl rfl (dn ?_))))))))))))))
      refine CW.seq (CW.seq (CW.region (sd rfl (yl_assign rfl rfl (dn (CW.block (CW.loop (fun m256 L257 w258 => ∃ (k254 : Nat) (x255 : Bool), m256 = p_more.length - k254 ∧ k254 ≤ p_more.length ∧ w11.heap.size ≤ w258.heap.size ∧ lkp L257 0 = some (.string (bs (p_s))) ∧ lkp L257 1 = some (.string (bs (p_more))) ∧ lkp L257 5 = some (.int .i64 ((k5 : Int))) ∧ lkp L257 6 = some (.bool (x255)) ∧ lkp L257 7 = some (.int .i64 ((k254 : Int))) ∧ lkp L257 19 = some (.string (bs (p_s))) ∧ lkp L257 20 = some (.int .i64 ((k5 : Int))) ∧ lkp L257 21 = some (.int .u8 (((p_s.getD k5 0).toNat : Int))) ∧ lkp L257 22 = some (.bool (decide (((p_s.getD k5 0).toNat : Int) ≤ 122))) ∧ lkp L257 25 = some (.string (bs (p_s))) ∧ lkp L257 26 = some (.int .i64 ((k5 : Int))) ∧ lkp L257 27 = some (.int .u8 (((p_s.getD k5 0).toNat : Int))) ∧ lkp L257 28 = some (.bool (decide (48 ≤ ((p_s.getD k5 0).toNat : Int)))) ∧ lkp L257 29 = some (.bool (decide (48 ≤ ((p_s.getD k5 0).toNat : Int)))) ∧ lkp L257 30 = some (.string (bs (p_s))) ∧ lkp L257 31 = some (.int .i64 ((k5 : Int))) ∧ lkp L257 32 = some (.int .u8 (((p_s.getD k5 0).toNat : Int))) ∧ lkp L257 33 = some (.bool (decide (((p_s.getD k5 0).toNat : Int) ≤ 57))) ∧ lkp L257 34 = some (.bool (decide (((p_s.getD k5 0).toNat : Int) ≤ 57))) ∧ Ex w w258 ∧ loopM (B_s_l3Bytes_1 p_s p_more k5) (p_more.length - k254) k254 (x255) = loopM (B_s_l3Bytes_1 p_s p_more k5) (p_more.length - 0) 0 (decide (((p_s.getD k5 0).toNat : Int) ≤ 57))) (p_more.length - 0) ?_ ?_)))))))
      ·exact ⟨0, decide (((p_s.getD k5 0).toNat : Int) ≤ 57), rfl, (by omega), Nat.le_refl _, rfl, rfl, rfl, rfl, rfl, rfl, rfl, rfl, rfl, rfl, rfl, rfl, rfl, rfl, rfl, rfl, rfl, rfl, rfl, hf18, rfl⟩
      ·rintro m259 L260 w261 ⟨k254, x255, rfl, hk262, hsz264, hl265, hl266, hl267, hl268, hl269, hl270, hl271, hl272, hl273, hl274, hl275, hl276, hl277, hl278, hl279, hl280, hl281, hl282, hl283, hf284, hI263⟩
       refine CW.sub (Sub.cons hl265 (Sub.cons hl266 (Sub.cons hl267 (Sub.cons hl268 (Sub.cons hl269 (Sub.cons hl270 (Sub.cons hl271 (Sub.cons hl272 (Sub.cons hl273 (Sub.cons hl274 (Sub.cons hl275 (Sub.cons hl276 (Sub.cons hl277 (Sub.cons hl278 (Sub.cons hl279 (Sub.cons hl280 (Sub.cons hl281 (Sub.cons hl282 (Sub.cons hl283 (Sub.nil _)))))))))))))))))))) ?_
       have hf284z := Ex.size hf284
       have hbg285 : p_more.length ≤ 1073741824 := o2
       rcases Nat.lt_or_ge k254 p_more.length with hlt286 | hlt286
       ·refine CW.seq (CW.seq (CW.region (sd rfl (yl_move rfl rfl (sd rfl (yl_move rfl rfl (sd rfl (yl_slen un9 (a := p_more) rfl rfl (sd rfl (yl_lss rfl rfl rfl (dn ?_)))))))))))
        refine CW.cond_t rfl (lt_t hlt286) (CW.skip (tn (CW.seq (CW.block (bcase (x255) (fun hb287 => ?_) (fun hb287 => ?_))))))
        ·refine CW.drawsI 11 (vgetI ([.bool (x255), .bool (x255), undef, undef, undef, undef, undef, undef, undef, .bool (true), .bool (true)].map DetI)) Try.follows rfl rfl rfl rfl rfl rfl (vgetI_stable (stD _)) ⟨?_, ?_, ?_, ?_, ?_, ?_, ?_, ?_, ?_, ?_, ?_, trivial⟩ ?_
         ·exact oI rfl fun h => yl_move rfl (h.old 6 _ rfl rfl) kI
         ·exact oI rfl fun h => yl_move rfl (h.dt 0 42 rfl rfl rfl) kI
         ·exact oS rfl rfl rfl rfl rfl hb287
         ·exact oS rfl rfl rfl rfl rfl hb287
         ·exact oS rfl rfl rfl rfl rfl hb287
         ·exact oS rfl rfl rfl rfl rfl hb287
         ·exact oS rfl rfl rfl rfl rfl hb287
         ·exact oS rfl rfl rfl rfl rfl hb287
         ·exact oS rfl rfl rfl rfl rfl hb287
         ·exact oI rfl fun h => yl_pick_t rfl (h.dt 1 43 rfl rfl rfl) hb287 rfl kI
         ·exact oI rfl fun h => yl_assign rfl (h.dt 9 51 rfl rfl rfl) kI
         ·intro fl347 fh348 L344 w345 hp346
          have hE349 := hp346.ex
          have hE349z := Ex.size hE349
          refine SeqR.done (bn (tn (CW.sub (Sub.cons (d := 0) (hp346.old 0 _ rfl rfl) (Sub.cons (d := 1) (hp346.old 1 _ rfl rfl) (Sub.cons (d := 5) (hp346.old 5 _ rfl rfl) (Sub.cons (d := 6) (hp346.nt 10 6 rfl rfl rfl) (Sub.cons (d := 7) (hp346.old 7 _ rfl rfl) (Sub.cons (d := 19) (hp346.old 19 _ rfl rfl) (Sub.cons (d := 20) (hp346.old 20 _ rfl rfl) (Sub.cons (d := 21) (hp346.old 21 _ rfl rfl) (Sub.cons (d := 22) (hp346.old 22 _ rfl rfl) (Sub.cons (d := 25) (hp346.old 25 _ rfl rfl) (Sub.cons (d := 26) (hp346.old 26 _ rfl rfl) (Sub.cons (d := 27) (hp346.old 27 _ rfl rfl) (Sub.cons (d := 28) (hp346.old 28 _ rfl rfl) (Sub.cons (d := 29) (hp346.old 29 _ rfl rfl) (Sub.cons (d := 30) (hp346.old 30 _ rfl rfl) (Sub.cons (d := 31) (hp346.old 31 _ rfl rfl) (Sub.cons (d := 32) (hp346.old 32 _ rfl rfl) (Sub.cons (d := 33) (hp346.old 33 _ rfl rfl) (Sub.cons (d := 34) (hp346.old 34 _ rfl rfl) (Sub.cons (d := 44) (hp346.nt 2 44 rfl rfl rfl) (Sub.cons (d := 45) (hp346.nt 3 45 rfl rfl rfl) (Sub.cons (d := 46) (hp346.nt 4 46 rfl rfl rfl) (Sub.cons (d := 47) (hp346.nt 5 47 rfl rfl rfl) (Sub.cons (d := 48) (hp346.nt 6 48 rfl rfl rfl) (Sub.cons (d := 49) (hp346.nt 7 49 rfl rfl rfl) (Sub.cons (d := 50) (hp346.nt 8 50 rfl rfl rfl) (Sub.nil _))))))))))))))))))))))))))) (CW.region (sd rfl (yl_move rfl rfl (sd rfl (yl_inc rfl rfl rfl (by omega) (sd rfl (yl_assign rfl rfl (SeqR.done ?_)))))))))))
          refine tn ?_
          have hB376 : B_s_l3Bytes_1 p_s p_more k5 k254 (x255) = .cont (true) := by simp only [B_s_l3Bytes_1, hb21, hb22, hb253, hb287, cL]
          exact ⟨p_more.length - (k254 + 1), by omega, k254 + 1, true, rfl, hlt286, (by omega), rfl, rfl, rfl, rfl, rfl, rfl, rfl, rfl, rfl, rfl, rfl, rfl, rfl, rfl, rfl, rfl, rfl, rfl, rfl, (Ex.trans hf284 hE349), (loopM.cont hlt286 hB376).symm.trans hI263⟩
        ·refine CW.drawsI 11 (vgetI ([.bool (x255), .bool (x255), .string (bs (p_s)), .int .i64 ((k5 : Int)), .int .u8 (((p_s.getD k5 0).toNat : Int)), .string (bs (p_more)), .int .i64 ((k254 : Int)), .int .u8 (((p_more.getD k254 0).toNat : Int)), .bool (decide (((p_s.getD k5 0).toNat : Int) = ((p_more.getD k254 0).toNat : Int))), .bool (decide (((p_s.getD k5 0).toNat : Int) = ((p_more.getD k254 0).toNat : Int))), .bool (decide (((p_s.getD k5 0).toNat : Int) = ((p_more.getD k254 0).toNat : Int)))].map DetI)) Try.follows rfl rfl rfl rfl rfl rfl (vgetI_stable (stD _)) ⟨?_, ?_, ?_, ?_, ?_, ?_, ?_, ?_, ?_, ?_, ?_, trivial⟩ ?_
         ·exact oI rfl fun h => yl_move rfl (h.old 6 _ rfl rfl) kI
         ·exact oI rfl fun h => yl_move rfl (h.dt 0 42 rfl rfl rfl) kI
         ·exact oW rfl rfl rfl rfl hb287 fun h => yl_move rfl (h.old 0 _ rfl rfl) kI
         ·exact oW rfl rfl rfl rfl hb287 fun h => yl_move rfl (h.old 5 _ rfl rfl) kI
         ·intro L400 w401 hi402
          have hE403 := hi402.ex
          have hE403z := Ex.size hE403
          exact OpR.want rfl rfl (hi402.dt 1 43 rfl rfl rfl) hb287 (Yl.sameI (yl_sindexN un9 (a := p_s) rfl (hi402.dt 2 44 rfl rfl rfl) (hi402.dt 3 45 rfl rfl rfl) (by first | omega | assumption | (simp only [wI] at *; omega)) kI))
         ·exact oW rfl rfl rfl rfl hb287 fun h => yl_move rfl (h.old 1 _ rfl rfl) kI
         ·exact oW rfl rfl rfl rfl hb287 fun h => yl_move rfl (h.old 7 _ rfl rfl) kI
         ·intro L419 w420 hi421
          have hE422 := hi421.ex
          have hE422z := Ex.size hE422
          exact OpR.want rfl rfl (hi421.dt 1 43 rfl rfl rfl) hb287 (Yl.sameI (yl_sindexN un9 (a := p_more) rfl (hi421.dt 5 47 rfl rfl rfl) (hi421.dt 6 48 rfl rfl rfl) (by first | omega | assumption | (simp only [wI] at *; omega)) kI))
         ·exact oW rfl rfl rfl rfl hb287 fun h => yl_eql rfl (h.dt 4 46 rfl rfl rfl) (h.dt 7 49 rfl rfl rfl) kI
         ·exact oI rfl fun h => yl_pick_f rfl (h.dt 1 43 rfl rfl rfl) hb287 (h.dt 8 50 rfl rfl rfl) kI
         ·exact oI rfl fun h => yl_assign rfl (h.dt 9 51 rfl rfl rfl) kI
         ·intro fl447 fh448 L444 w445 hp446
          have hE449 := hp446.ex
          have hE449z := Ex.size hE449
          refine SeqR.done (bn (tn (CW.sub (Sub.cons (d := 0) (hp446.old 0 _ rfl rfl) (Sub.cons (d := 1) (hp446.old 1 _ rfl rfl) (Sub.cons (d := 5) (hp446.old 5 _ rfl rfl) (Sub.cons (d := 6) (hp446.nt 10 6 rfl rfl rfl) (Sub.cons (d := 7) (hp446.old 7 _ rfl rfl) (Sub.cons (d := 19) (hp446.old 19 _ rfl rfl) (Sub.cons (d := 20) (hp446.old 20 _ rfl rfl) (Sub.cons (d := 21) (hp446.old 21 _ rfl rfl) (Sub.cons (d := 22) (hp446.old 22 _ rfl rfl) (Sub.cons (d := 25) (hp446.old 25 _ rfl rfl) (Sub.cons (d := 26) (hp446.old 26 _ rfl rfl) (Sub.cons (d := 27) (hp446.old 27 _ rfl rfl) (Sub.cons (d := 28) (hp446.old 28 _ rfl rfl) (Sub.cons (d := 29) (hp446.old 29 _ rfl rfl) (Sub.cons (d := 30) (hp446.old 30 _ rfl rfl) (Sub.cons (d := 31) (hp446.old 31 _ rfl rfl) (Sub.cons (d := 32) (hp446.old 32 _ rfl rfl) (Sub.cons (d := 33) (hp446.old 33 _ rfl rfl) (Sub.cons (d := 34) (hp446.old 34 _ rfl rfl) (Sub.cons (d := 44) (hp446.nt 2 44 rfl rfl rfl) (Sub.cons (d := 45) (hp446.nt 3 45 rfl rfl rfl) (Sub.cons (d := 46) (hp446.nt 4 46 rfl rfl rfl) (Sub.cons (d := 47) (hp446.nt 5 47 rfl rfl rfl) (Sub.cons (d := 48) (hp446.nt 6 48 rfl rfl rfl) (Sub.cons (d := 49) (hp446.nt 7 49 rfl rfl rfl) (Sub.cons (d := 50) (hp446.nt 8 50 rfl rfl rfl) (Sub.nil _))))))))))))))))))))))))))) (CW.region (sd rfl (yl_move rfl rfl (sd rfl (yl_inc rfl rfl rfl (by omega) (sd rfl (yl_assign rfl rfl (SeqR.done ?_)))))))))))
          refine tn ?_
          have hB476 : B_s_l3Bytes_1 p_s p_more k5 k254 (x255) = .cont (decide (((p_s.getD k5 0).toNat : Int) = ((p_more.getD k254 0).toNat : Int))) := by simp only [B_s_l3Bytes_1, hb21, hb22, hb253, hb287, cL]
          exact ⟨p_more.length - (k254 + 1), by omega, k254 + 1, decide (((p_s.getD k5 0).toNat : Int) = ((p_more.getD k254 0).toNat : Int)), rfl, hlt286, (by omega), rfl, rfl, rfl, rfl, rfl, rfl, rfl, rfl, rfl, rfl, rfl, rfl, rfl, rfl, rfl, rfl, rfl, rfl, rfl, (Ex.trans hf284 hE449), (loopM.cont hlt286 hB476).symm.trans hI263⟩
       ·refine CW.seq (CW.seq (CW.region (sd rfl (yl_move rfl rfl (sd rfl (yl_move rfl rfl (sd rfl (yl_slen un9 (a := p_more) rfl rfl (sd rfl (yl_lss rfl rfl rfl (dn ?_)))))))))))
        refine CW.cond_f rfl (lt_f hlt286) (CW.exit (tx (tx ?_)))
        have hL478 : loopM (B_s_l3Bytes_1 p_s p_more k5) (p_more.length - 0) 0 (decide (((p_s.getD k5 0).toNat : Int) ≤ 57)) = .done (x255) := hI263.symm.trans (loopM.stop hlt286)
        refine bx (tn (CW.seq (CW.region (sd rfl (yl_move rfl rfl (sd rfl (yl_not rfl rfl (dn (bcase (x255) (fun hb479 => ?_) (fun hb479 => ?_))))))))))
        ·refine CW.cond_f rfl (not_t hb479) (CW.skip (bn (tn (CW.region (sd rfl (yl_move rfl rfl (sd rfl (yl_inc rfl rfl rfl (by omega) (sd rfl (yl_assign rfl rfl (SeqR.done ?_)))))))))))
         refine tn ?_
         have hB480 : B_s_l3Bytes_0 p_s p_more k5 () = .cont () := by simp only [B_s_l3Bytes_0, hb21, hb22, hb253, hb479, hL478, cL]
         exact ⟨p_s.length - (k5 + 1), by omega, k5 + 1, rfl, hlt20, (by omega), rfl, rfl, rfl, hf284, (loopM.cont hlt20 hB480).symm.trans hI13⟩
        ·refine CW.cond_t rfl (not_f hb479) (CW.seq (CW.region (sd rfl (yl_assign rfl rfl (dn (CW.ret (br (tr ?_))))))))
         refine tr ?_
         have hB482 : B_s_l3Bytes_0 p_s p_more k5 () = .ret false := by simp only [B_s_l3Bytes_0, hb21, hb22, hb253, hb479, hL478, cL]
         have hL481 : loopM (B_s_l3Bytes_0 p_s p_more) (p_s.length - 0) 0 () = .ret false := hI13.symm.trans (loopM.ret hlt20 hB482)
         refine br (tr (rr rfl (.cons rfl .nil) ?_))
         have hM483 : (s_l3Bytes p_s p_more) = (false) := by simp only [s_l3Bytes, hb21, hb22, hb253, hb479, hL478, hL481, cL]
         rw [hM483]
         exact ⟨rfl, hf284⟩
     ·have hb253p := dec_f hb253
      refine sz rfl rfl hb253 (sz rfl rfl hb253 (sz rfl rfl hb253 (sz rfl rfl hb253 (sy rfl rfl hb22 (yl_pick_f rfl rfl hb253 rfl (sd rfl (yl_pick_f rfl rfl hb22 rfl (sd rfl (yl_assign rfl rfl (dn ?_))))))))))
      refine CW.seq (CW.seq (CW.region (sd rfl (yl_assign rfl rfl (dn (CW.block (CW.loop (fun m486 L487 w488 => ∃ (k484 : Nat) (x485 : Bool), m486 = p_more.length - k484 ∧ k484 ≤ p_more.length ∧ w11.heap.size ≤ w488.heap.size ∧ lkp L487 0 = some (.string (bs (p_s))) ∧ lkp L487 1 = some (.string (bs (p_more))) ∧ lkp L487 5 = some (.int .i64 ((k5 : Int))) ∧ lkp L487 6 = some (.bool (x485)) ∧ lkp L487 7 = some (.int .i64 ((k484 : Int))) ∧ lkp L487 19 = some (.string (bs (p_s))) ∧ lkp L487 20 = some (.int .i64 ((k5 : Int))) ∧ lkp L487 21 = some (.int .u8 (((p_s.getD k5 0).toNat : Int))) ∧ lkp L487 22 = some (.bool (decide (((p_s.getD k5 0).toNat : Int) ≤ 122))) ∧ lkp L487 25 = some (.string (bs (p_s))) ∧ lkp L487 26 = some (.int .i64 ((k5 : Int))) ∧ lkp L487 27 = some (.int .u8 (((p_s.getD k5 0).toNat : Int))) ∧ lkp L487 28 = some (.bool (decide (48 ≤ ((p_s.getD k5 0).toNat : Int)))) ∧ lkp L487 29 = some (.bool (decide (48 ≤ ((p_s.getD k5 0).toNat : Int)))) ∧ lkp L487 30 = some (undef) ∧ lkp L487 31 = some (undef) ∧ lkp L487 32 = some (undef) ∧ lkp L487 33 = some (undef) ∧ lkp L487 34 = some (.bool (false)) ∧ Ex w w488 ∧ loopM (B_s_l3Bytes_1 p_s p_more k5) (p_more.length - k484) k484 (x485) = loopM (B_s_l3Bytes_1 p_s p_more k5) (p_more.length - 0) 0 (false)) (p_more.length - 0) ?_ ?_)))))))
      ·exact ⟨0, false, rfl, (by omega), Nat.le_refl _, rfl, rfl, rfl, rfl, rfl, rfl, rfl, rfl, rfl, rfl, rfl, rfl, rfl, rfl, rfl, rfl, rfl, rfl, rfl, hf18, rfl⟩
      ·rintro m489 L490 w491 ⟨k484, x485, rfl, hk492, hsz494, hl495, hl496, hl497, hl498, hl499, hl500, hl501, hl502, hl503, hl504, hl505, hl506, hl507, hl508, hl509, hl510, hl511, hl512, hl513, hf514, hI493⟩
       refine CW.sub (Sub.cons hl495 (Sub.cons hl496 (Sub.cons hl497 (Sub.cons hl498 (Sub.cons hl499 (Sub.cons hl500 (Sub.cons hl501 (Sub.cons hl502 (Sub.cons hl503 (Sub.cons hl504 (Sub.cons hl505 (Sub.cons hl506 (Sub.cons hl507 (Sub.cons hl508 (Sub.cons hl509 (Sub.cons hl510 (Sub.cons hl511 (Sub.cons hl512 (Sub.cons hl513 (Sub.nil _)))))))))))))))))))) ?_
       have hf514z := Ex.size hf514
       have hbg515 : p_more.length ≤ 1073741824 := o2
       rcases Nat.lt_or_ge k484 p_more.length with hlt516 | hlt516
       ·refine CW.seq (CW.seq (CW.region (sd rfl (yl_move rfl rfl (sd rfl (yl_move rfl rfl (sd rfl (yl_slen un9 (a := p_more) rfl rfl (sd rfl (yl_lss rfl rfl rfl (dn ?_)))))))))))
        refine CW.cond_t rfl (lt_t hlt516) (CW.skip (tn (CW.seq (CW.block (bcase (x485) (fun hb517 => ?_) (fun hb517 => ?_))))))
        ·refine CW.drawsI 11 (vgetI ([.bool (x485), .bool (x485), undef, undef, undef, undef, undef, undef, undef, .bool (true), .bool (true)].map DetI)) Try.follows rfl rfl rfl rfl rfl rfl (vgetI_stable (stD _)) ⟨?_, ?_, ?_, ?_, ?_, ?_, ?_, ?_, ?_, ?_, ?_, trivial⟩ ?_
         ·exact oI rfl fun h => yl_move rfl (h.old 6 _ rfl rfl) kI
         ·exact oI rfl fun h => yl_move rfl (h.dt 0 42 rfl rfl rfl) kI
         ·exact oS rfl rfl rfl rfl rfl hb517
         ·exact oS rfl rfl rfl rfl rfl hb517
         ·exact oS rfl rfl rfl rfl rfl hb517
         ·exact oS rfl rfl rfl rfl rfl hb517
         ·exact oS rfl rfl rfl rfl rfl hb517
         ·exact oS rfl rfl rfl rfl rfl hb517
         ·exact oS rfl rfl rfl rfl rfl hb517
         ·exact oI rfl fun h => yl_pick_t rfl (h.dt 1 43 rfl rfl rfl) hb517 rfl kI
         ·exact oI rfl fun h => yl_assign rfl (h.dt 9 51 rfl rfl rfl) kI
         ·intro fl577 fh578 L574 w575 hp576
          have hE579 := hp576.ex
          have hE579z := Ex.size hE579
          refine SeqR.done (bn (tn (CW.sub (Sub.cons (d := 0) (hp576.old 0 _ rfl rfl) (Sub.cons (d := 1) (hp576.old 1 _ rfl rfl) (Sub.cons (d := 5) (hp576.old 5 _ rfl rfl) (Sub.cons (d := 6) (hp576.nt 10 6 rfl rfl rfl) (Sub.cons (d := 7) (hp576.old 7 _ rfl rfl) (Sub.cons (d := 19) (hp576.old 19 _ rfl rfl) (Sub.cons (d := 20) (hp576.old 20 _ rfl rfl) (Sub.cons (d := 21) (hp576.old 21 _ rfl rfl) (Sub.cons (d := 22) (hp576.old 22 _ rfl rfl) (Sub.cons (d := 25) (hp576.old 25 _ rfl rfl) (Sub.cons (d := 26) (hp576.old 26 _ rfl rfl) (Sub.cons (d := 27) (hp576.old 27 _ rfl rfl) (Sub.cons (d := 28) (hp576.old 28 _ rfl rfl) (Sub.cons (d := 29) (hp576.old 29 _ rfl rfl) (Sub.cons (d := 30) (hp576.old 30 _ rfl rfl) (Sub.cons (d := 31) (hp576.old 31 _ rfl rfl) (Sub.cons (d := 32) (hp576.old 32 _ rfl rfl) (Sub.cons (d := 33) (hp576.old 33 _ rfl rfl) (Sub.cons (d := 34) (hp576.old 34 _ rfl rfl) (Sub.cons (d := 44) (hp576.nt 2 44 rfl rfl rfl) (Sub.cons (d := 45) (hp576.nt 3 45 rfl rfl rfl) (Sub.cons (d := 46) (hp576.nt 4 46 rfl rfl rfl) (Sub.cons (d := 47) (hp576.nt 5 47 rfl rfl rfl) (Sub.cons (d := 48) (hp576.nt 6 48 rfl rfl rfl) (Sub.cons (d := 49) (hp576.nt 7 49 rfl rfl rfl) (Sub.cons (d := 50) (hp576.nt 8 50 rfl rfl rfl) (Sub.nil _))))))))))))))))))))))))))) (CW.region (sd rfl (yl_move rfl rfl (sd rfl (yl_inc rfl rfl rfl (by omega) (sd rfl (yl_assign rfl rfl (SeqR.done ?_)))))))))))
          refine tn ?_
          have hB606 : B_s_l3Bytes_1 p_s p_more k5 k484 (x485) = .cont (true) := by simp only [B_s_l3Bytes_1, hb21, hb22, hb253, hb517, cL]
          exact ⟨p_more.length - (k484 + 1), by omega, k484 + 1, true, rfl, hlt516, (by omega), rfl, rfl, rfl, rfl, rfl, rfl, rfl, rfl, rfl, rfl, rfl, rfl, rfl, rfl, rfl, rfl, rfl, rfl, rfl, (Ex.trans hf514 hE579), (loopM.cont hlt516 hB606).symm.trans hI493⟩
        ·refine CW.drawsI 11 (vgetI ([.bool (x485), .bool (x485), .string (bs (p_s)), .int .i64 ((k5 : Int)), .int .u8 (((p_s.getD k5 0).toNat : Int)), .string (bs (p_more)), .int .i64 ((k484 : Int)), .int .u8 (((p_more.getD k484 0).toNat : Int)), .bool (decide (((p_s.getD k5 0).toNat : Int) = ((p_more.getD k484 0).toNat : Int))), .bool (decide (((p_s.getD k5 0).toNat : Int) = ((p_more.getD k484 0).toNat : Int))), .bool (decide (((p_s.getD k5 0).toNat : Int) = ((p_more.getD k484 0).toNat : Int)))].map DetI)) Try.follows rfl rfl rfl rfl rfl rfl (vgetI_stable (stD _)) ⟨?_, ?_, ?_, ?_, ?_, ?_, ?_, ?_, ?_, ?_, ?_, trivial⟩ ?_
         ·exact oI rfl fun h => yl_move rfl (h.old 6 _ rfl rfl) kI
         ·exact oI rfl fun h => yl_move rfl (h.dt 0 42 rfl rfl rfl) kI
         ·exact oW rfl rfl rfl rfl hb517 fun h => yl_move rfl (h.old 0 _ rfl rfl) kI
         ·exact oW rfl rfl rfl rfl hb517 fun h => yl_move rfl (h.old 5 _ rfl rfl) kI
         ·intro L630 w631 hi632
          have hE633 := hi632.ex
          have hE633z := Ex.size hE633
          exact OpR.want rfl rfl (hi632.dt 1 43 rfl rfl rfl) hb517 (Yl.sameI (yl_sindexN un9 (a := p_s) rfl (hi632.dt 2 44 rfl rfl rfl) (hi632.dt 3 45 rfl rfl rfl) (by first | omega | assumption | (simp only [wI] at *; omega)) kI))
         ·exact oW rfl rfl rfl rfl hb517 fun h => yl_move rfl (h.old 1 _ rfl rfl) kI
         ·exact oW rfl rfl rfl rfl hb517 fun h => yl_move rfl (h.old 7 _ rfl rfl) kI
         ·intro L649 w650 hi651
          have hE652 := hi651.ex
          have hE652z := Ex.size hE652
          exact OpR.want rfl rfl (hi651.dt 1 43 rfl rfl rfl) hb517 (Yl.sameI (yl_sindexN un9 (a := p_more) rfl (hi651.dt 5 47 rfl rfl rfl) (hi651.dt 6 48 rfl rfl rfl) (by first | omega | assumption | (simp only [wI] at *; omega)) kI))
         ·exact oW rfl rfl rfl rfl hb517 fun h => yl_eql rfl (h.dt 4 46 rfl rfl rfl) (h.dt 7 49 rfl rfl rfl) kI
         ·exact oI rfl fun h => yl_pick_f rfl (h.dt 1 43 rfl rfl rfl) hb517 (h.dt 8 50 rfl rfl rfl) kI
         ·exact oI rfl fun h => yl_assign rfl (h.dt 9 51 rfl rfl rfl) kI
         ·intro fl677 fh678 L674 w675 hp676
          have hE679 := hp676.ex
          have hE679z := Ex.size hE679
          refine SeqR.done (bn (tn (CW.sub (Sub.cons (d := 0) (hp676.old 0 _ rfl rfl) (Sub.cons (d := 1) (hp676.old 1 _ rfl rfl) (Sub.cons (d := 5) (hp676.old 5 _ rfl rfl) (Sub.cons (d := 6) (hp676.nt 10 6 rfl rfl rfl) (Sub.cons (d := 7) (hp676.old 7 _ rfl rfl) (Sub.cons (d := 19) (hp676.old 19 _ rfl rfl) (Sub.cons (d := 20) (hp676.old 20 _ rfl rfl) (Sub.cons (d := 21) (hp676.old 21 _ rfl rfl) (Sub.cons (d := 22) (hp676.old 22 _ rfl rfl) (Sub.cons (d := 25) (hp676.old 25 _ rfl rfl) (Sub.cons (d := 26) (hp676.old 26 _ rfl rfl) (Sub.cons (d := 27) (hp676.old 27 _ rfl rfl) (Sub.cons (d := 28) (hp676.old 28 _ rfl rfl) (Sub.cons (d := 29) (hp676.old 29 _ rfl rfl) (Sub.cons (d := 30) (hp676.old 30 _ rfl rfl) (Sub.cons (d := 31) (hp676.old 31 _ rfl rfl) (Sub.cons (d := 32) (hp676.old 32 _ rfl rfl) (Sub.cons (d := 33) (hp676.old 33 _ rfl rfl) (Sub.cons (d := 34) (hp676.old 34 _ rfl rfl) (Sub.cons (d := 44) (hp676.nt 2 44 rfl rfl rfl) (Sub.cons (d := 45) (hp676.nt 3 45 rfl rfl rfl) (Sub.cons (d := 46) (hp676.nt 4 46 rfl rfl rfl) (Sub.cons (d := 47) (hp676.nt 5 47 rfl rfl rfl) (Sub.cons (d := 48) (hp676.nt 6 48 rfl rfl rfl) (Sub.cons (d := 49) (hp676.nt 7 49 rfl rfl rfl) (Sub.cons (d := 50) (hp676.nt 8 50 rfl rfl rfl) (Sub.nil _))))))))))))))))))))))))))) (CW.region (sd rfl (yl_move rfl rfl (sd rfl (yl_inc rfl rfl rfl (by omega) (sd rfl (yl_assign rfl rfl (SeqR.done ?_)))))))))))
          refine tn ?_
          have hB706 : B_s_l3Bytes_1 p_s p_more k5 k484 (x485) = .cont (decide (((p_s.getD k5 0).toNat : Int) = ((p_more.getD k484 0).toNat : Int))) := by simp only [B_s_l3Bytes_1, hb21, hb22, hb253, hb517, cL]
          exact ⟨p_more.length - (k484 + 1), by omega, k484 + 1, decide (((p_s.getD k5 0).toNat : Int) = ((p_more.getD k484 0).toNat : Int)), rfl, hlt516, (by omega), rfl, rfl, rfl, rfl, rfl, rfl, rfl, rfl, rfl, rfl, rfl, rfl, rfl, rfl, rfl, rfl, rfl, rfl, rfl, (Ex.trans hf514 hE679), (loopM.cont hlt516 hB706).symm.trans hI493⟩
       ·refine CW.seq (CW.seq (CW.region (sd rfl (yl_move rfl rfl (sd rfl (yl_move rfl rfl (sd rfl (yl_slen un9 (a := p_more) rfl rfl (sd rfl (yl_lss rfl rfl rfl (dn ?_)))))))))))
        refine CW.cond_f rfl (lt_f hlt516) (CW.exit (tx (tx ?_)))
        have hL708 : loopM (B_s_l3Bytes_1 p_s p_more k5) (p_more.length - 0) 0 (false) = .done (x485) := hI493.symm.trans (loopM.stop hlt516)
        refine bx (tn (CW.seq (CW.region (sd rfl (yl_move rfl rfl (sd rfl (yl_not rfl rfl (dn (bcase (x485) (fun hb709 => ?_) (fun hb709 => ?_))))))))))
        ·refine CW.cond_f rfl (not_t hb709) (CW.skip (bn (tn (CW.region (sd rfl (yl_move rfl rfl (sd rfl (yl_inc rfl rfl rfl (by omega) (sd rfl (yl_assign rfl rfl (SeqR.done ?_)))))))))))
         refine tn ?_
         have hB710 : B_s_l3Bytes_0 p_s p_more k5 () = .cont () := by simp only [B_s_l3Bytes_0, hb21, hb22, hb253, hb709, hL708, cL]
         exact ⟨p_s.length - (k5 + 1), by omega, k5 + 1, rfl, hlt20, (by omega), rfl, rfl, rfl, hf514, (loopM.cont hlt20 hB710).symm.trans hI13⟩
        ·refine CW.cond_t rfl (not_f hb709) (CW.seq (CW.region (sd rfl (yl_assign rfl rfl (dn (CW.ret (br (tr ?_))))))))
         refine tr ?_
         have hB712 : B_s_l3Bytes_0 p_s p_more k5 () = .ret false := by simp only [B_s_l3Bytes_0, hb21, hb22, hb253, hb709, hL708, cL]
         have hL711 : loopM (B_s_l3Bytes_0 p_s p_more) (p_s.length - 0) 0 () = .ret false := hI13.symm.trans (loopM.ret hlt20 hB712)
         refine br (tr (rr rfl (.cons rfl .nil) ?_))
         have hM713 : (s_l3Bytes p_s p_more) = (false) := by simp only [s_l3Bytes, hb21, hb22, hb253, hb709, hL708, hL711, cL]
         rw [hM713]
         exact ⟨rfl, hf514⟩
   ·have hb21p := dec_f hb21
    refine sz rfl rfl hb21 (sz rfl rfl hb21 (sz rfl rfl hb21 (sz rfl rfl hb21 (sd rfl (yl_pick_f rfl rfl hb21 rfl (sd rfl (yl_move rfl rfl (sy rfl rfl rfl (yl_move rfl rfl (sy rfl rfl rfl (yl_move rfl rfl (sy rfl rfl rfl (yl_sindexN un9 (a := p_s) rfl rfl rfl (by first | omega | assumption | (simp only [wI] at *; omega)) ?_)))))))))))))
    refine sy rfl rfl rfl (yl_geq rfl rfl rfl (sy rfl rfl rfl (yl_move rfl rfl (bcase (decide (48 ≤ ((p_s.getD k5 0).toNat : Int))) (fun hb714 => ?_) (fun hb714 => ?_)))))
    ·have hb714p := dec_t hb714
     refine sy rfl rfl hb714 (yl_move rfl rfl (sy rfl rfl hb714 (yl_move rfl rfl (sy rfl rfl hb714 (yl_sindexN un9 (a := p_s) rfl rfl rfl (by first | omega | assumption | (simp only [wI] at *; omega)) (sy rfl rfl hb714 (yl_leq rfl rfl rfl (sy rfl rfl rfl (yl_pick_t rfl rfl hb714 rfl (sd rfl (yl_pick_f rfl rfl rfl rfl (sd rfl (yl_assign rfl rfl (dn ?_))))))))))))))
     refine CW.seq (CW.seq (CW.region (sd rfl (yl_assign rfl rfl (dn (CW.block (CW.loop (fun m717 L718 w719 => ∃ (k715 : Nat) (x716 : Bool), m717 = p_more.length - k715 ∧ k715 ≤ p_more.length ∧ w11.heap.size ≤ w719.heap.size ∧ lkp L718 0 = some (.string (bs (p_s))) ∧ lkp L718 1 = some (.string (bs (p_more))) ∧ lkp L718 5 = some (.int .i64 ((k5 : Int))) ∧ lkp L718 6 = some (.bool (x716)) ∧ lkp L718 7 = some (.int .i64 ((k715 : Int))) ∧ lkp L718 19 = some (undef) ∧ lkp L718 20 = some (undef) ∧ lkp L718 21 = some (undef) ∧ lkp L718 22 = some (undef) ∧ lkp L718 25 = some (.string (bs (p_s))) ∧ lkp L718 26 = some (.int .i64 ((k5 : Int))) ∧ lkp L718 27 = some (.int .u8 (((p_s.getD k5 0).toNat : Int))) ∧ lkp L718 28 = some (.bool (decide (48 ≤ ((p_s.getD k5 0).toNat : Int)))) ∧ lkp L718 29 = some (.bool (decide (48 ≤ ((p_s.getD k5 0).toNat : Int)))) ∧ lkp L718 30 = some (.string (bs (p_s))) ∧ lkp L718 31 = some (.int .i64 ((k5 : Int))) ∧ lkp L718 32 = some (.int .u8 (((p_s.getD k5 0).toNat : Int))) ∧ lkp L718 33 = some (.bool (decide (((p_s.getD k5 0).toNat : Int) ≤ 57))) ∧ lkp L718 34 = some (.bool (decide (((p_s.getD k5 0).toNat : Int) ≤ 57))) ∧ Ex w w719 ∧ loopM (B_s_l3Bytes_1 p_s p_more k5) (p_more.length - k715) k715 (x716) = loopM (B_s_l3Bytes_1 p_s p_more k5) (p_more.length - 0) 0 (decide (((p_s.getD k5 0).toNat : Int) ≤ 57))) (p_more.length - 0) ?_ ?_)))))))
     ·exact ⟨0, decide (((p_s.getD k5 0).toNat : Int) ≤ 57), rfl, (by omega), Nat.le_refl _, rfl, rfl, rfl, rfl, rfl, rfl, rfl, rfl, rfl, rfl, rfl, rfl, rfl, rfl, rfl, rfl, rfl, rfl, rfl, hf18, rfl⟩
     ·rintro m720 L721 w722 ⟨k715, x716, rfl, hk723, hsz725, hl726, hl727, hl728, hl729, hl730, hl731, hl732, hl733, hl734, hl735, hl736, hl737, hl738, hl739, hl740, hl741, hl742, hl743, hl744, hf745, hI724⟩
      refine CW.sub (Sub.cons hl726 (Sub.cons hl727 (Sub.cons hl728 (Sub.cons hl729 (Sub.cons hl730 (Sub.cons hl731 (Sub.cons hl732 (Sub.cons hl733 (Sub.cons hl734 (Sub.cons hl735 (Sub.cons hl736 (Sub.cons hl737 (Sub.cons hl738 (Sub.cons hl739 (Sub.cons hl740 (Sub.cons hl741 (Sub.cons hl742 (Sub.cons hl743 (Sub.cons hl744 (Sub.nil _)))))))))))))))))))) ?_
      have hf745z := Ex.size hf745
      have hbg746 : p_more.length ≤ 1073741824 := o2
      rcases Nat.lt_or_ge k715 p_more.length with hlt747 | hlt747
      ·refine CW.seq (CW.seq (CW.region (sd rfl (yl_move rfl rfl (sd rfl (yl_move rfl rfl (sd rfl (yl_slen un9 (a := p_more) rfl rfl (sd rfl (yl_lss rfl rfl rfl (dn ?_)))))))))))
       refine CW.cond_t rfl (lt_t hlt747) (CW.skip (tn (CW.seq (CW.block (bcase (x716) (fun hb748 => ?_) (fun hb748 => ?_))))))
       ·refine CW.drawsI 11 (vgetI ([.bool (x716), .bool (x716), undef, undef, undef, undef, undef, undef, undef, .bool (true), .bool (true)].map DetI)) Try.follows rfl rfl rfl rfl rfl rfl (vgetI_stable (stD _)) ⟨?_, ?_, ?_, ?_, ?_, ?_, ?_, ?_, ?_, ?_, ?_, trivial⟩ ?_
        ·exact oI rfl fun h => yl_move rfl (h.old 6 _ rfl rfl) kI
        ·exact oI rfl fun h => yl_move rfl (h.dt 0 42 rfl rfl rfl) kI
        ·exact oS rfl rfl rfl rfl rfl hb748
        ·exact oS rfl rfl rfl rfl rfl hb748
        ·exact oS rfl rfl rfl rfl rfl hb748
        ·exact oS rfl rfl rfl rfl rfl hb748
        ·exact oS rfl rfl rfl rfl rfl hb748
        ·exact oS rfl rfl rfl rfl rfl hb748
        ·exact oS rfl rfl rfl rfl rfl hb748
        ·exact oI rfl fun h => yl_pick_t rfl (h.dt 1 43 rfl rfl rfl) hb748 rfl kI
        ·exact oI rfl fun h => yl_assign rfl (h.dt 9 51 rfl rfl rfl) kI
        ·intro fl808 fh809 L805 w806 hp807
         have hE810 := hp807.ex
         have hE810z := Ex.size hE810
         refine SeqR.done (bn (tn (CW.sub (Sub.cons (d := 0) (hp807.old 0 _ rfl rfl) (Sub.cons (d := 1) (hp807.old 1 _ rfl rfl) (Sub.cons (d := 5) (hp807.old 5 _ rfl rfl) (Sub.cons (d := 6) (hp807.nt 10 6 rfl rfl rfl) (Sub.cons (d := 7) (hp807.old 7 _ rfl rfl) (Sub.cons (d := 19) (hp807.old 19 _ rfl rfl) (Sub.cons (d := 20) (hp807.old 20 _ rfl rfl) (Sub.cons (d := 21) (hp807.old 21 _ rfl rfl) (Sub.cons (d := 22) (hp807.old 22 _ rfl rfl) (Sub.cons (d := 25) (hp807.old 25 _ rfl rfl) (Sub.cons (d := 26) (hp807.old 26 _ rfl rfl) (Sub.cons (d := 27) (hp807.old 27 _ rfl rfl) (Sub.cons (d := 28) (hp807.old 28 _ rfl rfl) (Sub.cons (d := 29) (hp807.old 29 _ rfl rfl) (Sub.cons (d := 30) (hp807.old 30 _ rfl rfl) (Sub.cons (d := 31) (hp807.old 31 _ rfl rfl) (Sub.cons (d := 32) (hp807.old 32 _ rfl rfl) (Sub.cons (d := 33) (hp807.old 33 _ rfl rfl) (Sub.cons (d := 34) (hp807.old 34 _ rfl rfl) (Sub.cons (d := 44) (hp807.nt 2 44 rfl rfl rfl) (Sub.cons (d := 45) (hp807.nt 3 45 rfl rfl rfl) (Sub.cons (d := 46) (hp807.nt 4 46 rfl rfl rfl) (Sub.cons (d := 47) (hp807.nt 5 47 rfl rfl rfl) (Sub.cons (d := 48) (hp807.nt 6 48 rfl rfl rfl) (Sub.cons (d := 49) (hp807.nt 7 49 rfl rfl rfl) (Sub.cons (d := 50) (hp807.nt 8 50 rfl rfl rfl) (Sub.nil _))))))))))))))))))))))))))) (CW.region (sd rfl (yl_move rfl rfl (sd rfl (yl_inc rfl rfl rfl (by omega) (sd rfl (yl_assign rfl rfl (SeqR.done ?_)))))))))))
         refine tn ?_
         have hB837 : B_s_l3Bytes_1 p_s p_more k5 k715 (x716) = .cont (true) := by simp only [B_s_l3Bytes_1, hb21, hb714, hb748, cL]
         exact ⟨p_more.length - (k715 + 1), by omega, k715 + 1, true, rfl, hlt747, (by omega), rfl, rfl, rfl, rfl, rfl, rfl, rfl, rfl, rfl, rfl, rfl, rfl, rfl, rfl, rfl, rfl, rfl, rfl, rfl, (Ex.trans hf745 hE810), (loopM.cont hlt747 hB837).symm.trans hI724⟩
       ·refine CW.drawsI 11 (vgetI ([.bool (x716), .bool (x716), .string (bs (p_s)), .int .i64 ((k5 : Int)), .int .u8 (((p_s.getD k5 0).toNat : Int)), .string (bs (p_more)), .int .i64 ((k715 : Int)), .int .u8 (((p_more.getD k715 0).toNat : Int)), .bool (decide (((p_s.getD k5 0).toNat : Int) = ((p_more.getD k715 0).toNat : Int))), .bool (decide (((p_s.getD k5 0).toNat : Int) = ((p_more.getD k715 0).toNat : Int))), .bool (decide (((p_s.getD k5 0).toNat : Int) = ((p_more.getD k715 0).toNat : Int)))].map DetI)) Try.follows rfl rfl rfl rfl rfl rfl (vgetI_stable (stD _)) ⟨?_, ?_, ?_, ?_, ?_, ?_, ?_, ?_, ?_, ?_, ?_, trivial⟩ ?_
        ·exact oI rfl fun h => yl_move rfl (h.old 6 _ rfl rfl) kI
        ·exact oI rfl fun h => yl_move rfl (h.dt 0 42 rfl rfl rfl) kI
        ·exact oW rfl rfl rfl rfl hb748 fun h => yl_move rfl (h.old 0 _ rfl rfl) kI
        ·exact oW rfl rfl rfl rfl hb748 fun h => yl_move rfl (h.old 5 _ rfl rfl) kI
        ·intro L861 w862 hi863
         have hE864 := hi863.ex
         have hE864z := Ex.size hE864
         exact OpR.want rfl rfl (hi863.dt 1 43 rfl rfl rfl) hb748 (Yl.sameI (yl_sindexN un9 (a := p_s) rfl (hi863.dt 2 44 rfl rfl rfl) (hi863.dt 3 45 rfl rfl rfl) (by first | omega | assumption | (simp only [wI] at *; omega)) kI))
        ·exact oW rfl rfl rfl rfl hb748 fun h => yl_move rfl (h.old 1 _ rfl rfl) kI
        ·exact oW rfl rfl rfl rfl hb748 fun h => yl_move rfl (h.old 7 _ rfl rfl) kI
        ·intro L880 w881 hi882
         have hE883 := hi882.ex
         have hE883z := Ex.size hE883
         exact OpR.want rfl rfl (hi882.dt 1 43 rfl rfl rfl) hb748 (Yl.sameI (yl_sindexN un9 (a := p_more) rfl (hi882.dt 5 47 rfl rfl rfl) (hi882.dt 6 48 rfl rfl rfl) (by first | omega | assumption | (simp only [wI] at *; omega)) kI))
        ·exact oW rfl rfl rfl rfl hb748 fun h => yl_eql rfl (h.dt 4 46 rfl rfl rfl) (h.dt 7 49 rfl rfl rfl) kI
        ·exact oI rfl fun h => yl_pick_f rfl (h.dt 1 43 rfl rfl rfl) hb748 (h.dt 8 50 rfl rfl rfl) kI
        ·exact oI rfl fun h => yl_assign rfl (h.dt 9 51 rfl rfl rfl) kI
        ·intro fl908 fh909 L905 w906 hp907
         have hE910 := hp907.ex
         have hE910z := Ex.size hE910
         refine SeqR.done (bn (tn (CW.sub (Sub.cons (d := 0) (hp907.old 0 _ rfl rfl) (Sub.cons (d := 1) (hp907.old 1 _ rfl rfl) (Sub.cons (d := 5) (hp907.old 5 _ rfl rfl) (Sub.cons (d := 6) (hp907.nt 10 6 rfl rfl rfl) (Sub.cons (d := 7) (hp907.old 7 _ rfl rfl) (Sub.cons (d := 19) (hp907.old 19 _ rfl rfl) (Sub.cons (d := 20) (hp907.old 20 _ rfl rfl) (Sub.cons (d := 21) (hp907.old 21 _ rfl rfl) (Sub.cons (d := 22) (hp907.old 22 _ rfl rfl) (Sub.cons (d := 25) (hp907.old 25 _ rfl rfl) (Sub.cons (d := 26) (hp907.old 26 _ rfl rfl) (Sub.cons (d := 27) (hp907.old 27 _ rfl rfl) (Sub.cons (d := 28) (hp907.old 28 _ rfl rfl) (Sub.cons (d := 29) (hp907.old 29 _ rfl rfl) (Sub.cons (d := 30) (hp907.old 30 _ rfl rfl) (Sub.cons (d := 31) (hp907.old 31 _ rfl rfl) (Sub.cons (d := 32) (hp907.old 32 _ rfl rfl) (Sub.cons (d := 33) (hp907.old 33 _ rfl rfl) (Sub.cons (d := 34) (hp907.old 34 _ rfl rfl) (Sub.cons (d := 44) (hp907.nt 2 44 rfl rfl rfl) (Sub.cons (d := 45) (hp907.nt 3 45 rfl rfl rfl) (Sub.cons (d := 46) (hp907.nt 4 46 rfl rfl rfl) (Sub.cons (d := 47) (hp907.nt 5 47 rfl rfl rfl) (Sub.cons (d := 48) (hp907.nt 6 48 rfl rfl rfl) (Sub.cons (d := 49) (hp907.nt 7 49 rfl rfl rfl) (Sub.cons (d := 50) (hp907.nt 8 50 rfl rfl rfl) (Sub.nil _))))))))))))))))))))))))))) (CW.region (sd rfl (yl_move rfl rfl (sd rfl (yl_inc rfl rfl rfl (by omega) (sd rfl (yl_assign rfl rfl (SeqR.done ?_)))))))))))
         refine tn ?_
         have hB937 : B_s_l3Bytes_1 p_s p_more k5 k715 (x716) = .cont (decide (((p_s.getD k5 0).toNat : Int) = ((p_more.getD k715 0).toNat : Int))) := by simp only [B_s_l3Bytes_1, hb21, hb714, hb748, cL]
         exact ⟨p_more.length - (k715 + 1), by omega, k715 + 1, decide (((p_s.getD k5 0).toNat : Int) = ((p_more.getD k715 0).toNat : Int)), rfl, hlt747, (by omega), rfl, rfl, rfl, rfl, rfl, rfl, rfl, rfl, rfl, rfl, rfl, rfl, rfl, rfl, rfl, rfl, rfl, rfl, rfl, (Ex.trans hf745 hE910), (loopM.cont hlt747 hB937).symm.trans hI724⟩
      ·refine CW.seq (CW.seq (CW.region (sd rfl (yl_move rfl rfl (sd rfl (yl_move rfl rfl (sd rfl (yl_slen un9 (a := p_more) rfl rfl (sd rfl (yl_lss rfl rfl rfl (dn ?_)))))))))))
       refine CW.cond_f rfl (lt_f hlt747) (CW.exit (tx (tx ?_)))
       have hL939 : loopM (B_s_l3Bytes_1 p_s p_more k5) (p_more.length - 0) 0 (decide (((p_s.getD k5 0).toNat : Int) ≤ 57)) = .done (x716) := hI724.symm.trans (loopM.stop hlt747)
       refine bx (tn (CW.seq (CW.region (sd rfl (yl_move rfl rfl (sd rfl (yl_not rfl rfl (dn (bcase (x716) (fun hb940 => ?_) (fun hb940 => ?_))))))))))
       ·refine CW.cond_f rfl (not_t hb940) (CW.skip (bn (tn (CW.region (sd rfl (yl_move rfl rfl (sd rfl (yl_inc rfl rfl rfl (by omega) (sd rfl (yl_assign rfl rfl (SeqR.done ?_)))))))))))
        refine tn ?_
        have hB941 : B_s_l3Bytes_0 p_s p_more k5 () = .cont () := by simp only [B_s_l3Bytes_0, hb21, hb714, hb940, hL939, cL]
        exact ⟨p_s.length - (k5 + 1), by omega, k5 + 1, rfl, hlt20, (by omega), rfl, rfl, rfl, hf745, (loopM.cont hlt20 hB941).symm.trans hI13⟩
       ·refine CW.cond_t rfl (not_f hb940) (CW.seq (CW.region (sd rfl (yl_assign rfl rfl (dn (CW.ret (br (tr ?_))))))))
        refine tr ?_
        have hB943 : B_s_l3Bytes_0 p_s p_more k5 () = .ret false := by simp only [B_s_l3Bytes_0, hb21, hb714, hb940, hL939, cL]
        have hL942 : loopM (B_s_l3Bytes_0 p_s p_more) (p_s.length - 0) 0 () = .ret false := hI13.symm.trans (loopM.ret hlt20 hB943)
        refine br (tr (rr rfl (.cons rfl .nil) ?_))
        have hM944 : (s_l3Bytes p_s p_more) = (false) := by simp only [s_l3Bytes, hb21, hb714, hb940, hL939, hL942, cL]
        rw [hM944]
        exact ⟨rfl, hf745⟩
    ·have hb714p := dec_f hb714
     refine sz rfl rfl hb714 (sz rfl rfl hb714 (sz rfl rfl hb714 (sz rfl rfl hb714 (sy rfl rfl rfl (yl_pick_f rfl rfl hb714 rfl (sd rfl (yl_pick_f rfl rfl rfl rfl (sd rfl (yl_assign rfl rfl (dn ?_))))))))))
     refine CW.seq (CW.seq (CW.region (sd rfl (yl_assign rfl rfl (dn (CW.block (CW.loop (fun m947 L948 w949 => ∃ (k945 : Nat) (x946 : Bool), m947 = p_more.length - k945 ∧ k945 ≤ p_more.length ∧ w11.heap.size ≤ w949.heap.size ∧ lkp L948 0 = some (.string (bs (p_s))) ∧ lkp L948 1 = some (.string (bs (p_more))) ∧ lkp L948 5 = some (.int .i64 ((k5 : Int))) ∧ lkp L948 6 = some (.bool (x946)) ∧ lkp L948 7 = some (.int .i64 ((k945 : Int))) ∧ lkp L948 19 = some (undef) ∧ lkp L948 20 = some (undef) ∧ lkp L948 21 = some (undef) ∧ lkp L948 22 = some (undef) ∧ lkp L948 25 = some (.string (bs (p_s))) ∧ lkp L948 26 = some (.int .i64 ((k5 : Int))) ∧ lkp L948 27 = some (.int .u8 (((p_s.getD k5 0).toNat : Int))) ∧ lkp L948 28 = some (.bool (decide (48 ≤ ((p_s.getD k5 0).toNat : Int)))) ∧ lkp L948 29 = some (.bool (decide (48 ≤ ((p_s.getD k5 0).toNat : Int)))) ∧ lkp L948 30 = some (undef) ∧ lkp L948 31 = some (undef) ∧ lkp L948 32 = some (undef) ∧ lkp L948 33 = some (undef) ∧ lkp L948 34 = some (.bool (false)) ∧ Ex w w949 ∧ loopM (B_s_l3Bytes_1 p_s p_more k5) (p_more.length - k945) k945 (x946) = loopM (B_s_l3Bytes_1 p_s p_more k5) (p_more.length - 0) 0 (false)) (p_more.length - 0) ?_ ?_)))))))
     ·exact ⟨0, false, rfl, (by omega), Nat.le_refl _, rfl, rfl, rfl, rfl, rfl, rfl, rfl, rfl, rfl, rfl, rfl, rfl, rfl, rfl, rfl, rfl, rfl, rfl, rfl, hf18, rfl⟩
     ·rintro m950 L951 w952 ⟨k945, x946, rfl, hk953, hsz955, hl956, hl957, hl958, hl959, hl960, hl961, hl962, hl963, hl964, hl965, hl966, hl967, hl968, hl969, hl970, hl971, hl972, hl973, hl974, hf975, hI954⟩
      refine CW.sub (Sub.cons hl956 (Sub.cons hl957 (Sub.cons hl958 (Sub.cons hl959 (Sub.cons hl960 (Sub.cons hl961 (Sub.cons hl962 (Sub.cons hl963 (Sub.cons hl964 (Sub.cons hl965 (Sub.cons hl966 (Sub.cons hl967 (Sub.cons hl968 (Sub.cons hl969 (Sub.cons hl970 (Sub.cons hl971 (Sub.cons hl972 (Sub.cons hl973 (Sub.cons hl974 (Sub.nil _)))))))))))))))))))) ?_
      have hf975z := Ex.size hf975
      have hbg976 : p_more.length ≤ 1073741824 := o2
      rcases Nat.lt_or_ge k945 p_more.length with hlt977 | hlt977
      ·refine CW.seq (CW.seq (CW.region (sd rfl (yl_move rfl rfl (sd rfl (yl_move rfl rfl (sd rfl (yl_slen un9 (a := p_more) rfl rfl (sd rfl (yl_lss rfl rfl rfl (dn ?_)))))))))))
       refine CW.cond_t rfl (lt_t hlt977) (CW.skip (tn (CW.seq (CW.block (bcase (x946) (fun hb978 => ?_) (fun hb978 => ?_))))))
       ·refine CW.drawsI 11 (vgetI ([.bool (x946), .bool (x946), undef, undef, undef, undef, undef, undef, undef, .bool (true), .bool (true)].map DetI)) Try.follows rfl rfl rfl rfl rfl rfl (vgetI_stable (stD _)) ⟨?_, ?_, ?_, ?_, ?_, ?_, ?_, ?_, ?_, ?_, ?_, trivial⟩ ?_
        ·exact oI rfl fun h => yl_move rfl (h.old 6 _ rfl rfl) kI
        ·exact oI rfl fun h => yl_move rfl (h.dt 0 42 rfl rfl rfl) kI
        ·exact oS rfl rfl rfl rfl rfl hb978
        ·exact oS rfl rfl rfl rfl rfl hb978
        ·exact oS rfl rfl rfl rfl rfl hb978
        ·exact oS rfl rfl rfl rfl rfl hb978
        ·exact oS rfl rfl rfl rfl rfl hb978
        ·exact oS rfl rfl rfl rfl rfl hb978
        ·exact oS rfl rfl rfl rfl rfl hb978
        ·exact oI rfl fun h => yl_pick_t rfl (h.dt 1 43 rfl rfl rfl) hb978 rfl kI
        ·exact oI rfl fun h => yl_assign rfl (h.dt 9 51 rfl rfl rfl) kI
        ·intro fl1038 fh1039 L1035 w1036 hp1037
         have hE1040 := hp1037.ex
         have hE1040z := Ex.size hE1040
         refine SeqR.done (bn (tn (CW.sub (Sub.cons (d := 0) (hp1037.old 0 _ rfl rfl) (Sub.cons (d := 1) (hp1037.old 1 _ rfl rfl) (Sub.cons (d := 5) (hp1037.old 5 _ rfl rfl) (Sub.cons (d := 6) (hp1037.nt 10 6 rfl rfl rfl) (Sub.cons (d := 7) (hp1037.old 7 _ rfl rfl) (Sub.cons (d := 19) (hp1037.old 19 _ rfl rfl) (Sub.cons (d := 20) (hp1037.old 20 _ rfl rfl) (Sub.cons (d := 21) (hp1037.old 21 _ rfl rfl) (Sub.cons (d := 22) (hp1037.old 22 _ rfl rfl) (Sub.cons (d := 25) (hp1037.old 25 _ rfl rfl) (Sub.cons (d := 26) (hp1037.old 26 _ rfl rfl) (Sub.cons (d := 27) (hp1037.old 27 _ rfl rfl) (Sub.cons (d := 28) (hp1037.old 28 _ rfl rfl) (Sub.cons (d := 29) (hp1037.old 29 _ rfl rfl) (Sub.cons (d := 30) (hp1037.old 30 _ rfl rfl) (Sub.cons (d := 31) (hp1037.old 31 _ rfl rfl) (Sub.cons (d := 32) (hp1037.old 32 _ rfl rfl) (Sub.cons (d := 33) (hp1037.old 33 _ rfl rfl) (Sub.cons (d := 34) (hp1037.old 34 _ rfl rfl) (Sub.cons (d := 44) (hp1037.nt 2 44 rfl rfl rfl) (Sub.cons (d := 45) (hp1037.nt 3 45 rfl rfl rfl) (Sub.cons (d := 46) (hp1037.nt 4 46 rfl rfl rfl) (Sub.cons (d := 47) (hp1037.nt 5 47 rfl rfl rfl) (Sub.cons (d := 48) (hp1037.nt 6 48 rfl rfl rfl) (Sub.cons (d := 49) (hp1037.nt 7 49 rfl rfl rfl) (Sub.cons (d := 50) (hp1037.nt 8 50 rfl rfl rfl) (Sub.nil _))))))))))))))))))))))))))) (CW.region (sd rfl (yl_move rfl rfl (sd rfl (yl_inc rfl rfl rfl (by omega) (sd rfl (yl_assign rfl rfl (SeqR.done ?_)))))))))))
         refine tn ?_
         have hB1067 : B_s_l3Bytes_1 p_s p_more k5 k945 (x946) = .cont (true) := by simp only [B_s_l3Bytes_1, hb21, hb714, hb978, cL]
         exact ⟨p_more.length - (k945 + 1), by omega, k945 + 1, true, rfl, hlt977, (by omega), rfl, rfl, rfl, rfl, rfl, rfl, rfl, rfl, rfl, rfl, rfl, rfl, rfl, rfl, rfl, rfl, rfl, rfl, rfl, (Ex.trans hf975 hE1040), (loopM.cont hlt977 hB1067).symm.trans hI954⟩
       ·refine CW.drawsI 11 (vgetI ([.bool (x946), .bool (x946), .string (bs (p_s)), .int .i64 ((k5 : Int)), .int .u8 (((p_s.getD k5 0).toNat : Int)), .string (bs (p_more)), .int .i64 ((k945 : Int)), .int .u8 (((p_more.getD k945 0).toNat : Int)), .bool (decide (((p_s.getD k5 0).toNat : Int) = ((p_more.getD k945 0).toNat : Int))), .bool (decide (((p_s.getD k5 0).toNat : Int) = ((p_more.getD k945 0).toNat : Int))), .bool (decide (((p_s.getD k5 0).toNat : Int) = ((p_more.getD k945 0).toNat : Int)))].map DetI)) Try.follows rfl rfl rfl rfl rfl rfl (vgetI_stable (stD _)) ⟨?_, ?_, ?_, ?_, ?_, ?_, ?_, ?_, ?_, ?_, ?_, trivial⟩ ?_
        ·exact oI rfl fun h => yl_move rfl (h.old 6 _ rfl rfl) kI
        ·exact oI rfl fun h => yl_move rfl (h.dt 0 42 rfl rfl rfl) kI
        ·exact oW rfl rfl rfl rfl hb978 fun h => yl_move rfl (h.old 0 _ rfl rfl) kI
        ·exact oW rfl rfl rfl rfl hb978 fun h => yl_move rfl (h.old 5 _ rfl rfl) kI
        ·intro L1091 w1092 hi1093
         have hE1094 := hi1093.ex
         have hE1094z := Ex.size hE1094
         exact OpR.want rfl rfl (hi1093.dt 1 43 rfl rfl rfl) hb978 (Yl.sameI (yl_sindexN un9 (a := p_s) rfl (hi1093.dt 2 44 rfl rfl rfl) (hi1093.dt 3 45 rfl rfl rfl) (by first | omega | assumption | (simp only [wI] at *; omega)) kI))
        ·exact oW rfl rfl rfl rfl hb978 fun h => yl_move rfl (h.old 1 _ rfl rfl) kI
        ·exact oW rfl rfl rfl rfl hb978 fun h => yl_move rfl (h.old 7 _ rfl rfl) kI
        ·intro L1110 w1111 hi1112
         have hE1113 := hi1112.ex
         have hE1113z := Ex.size hE1113
         exact OpR.want rfl rfl (hi1112.dt 1 43 rfl rfl rfl) hb978 (Yl.sameI (yl_sindexN un9 (a := p_more) rfl (hi1112.dt 5 47 rfl rfl rfl) (hi1112.dt 6 48 rfl rfl rfl) (by first | omega | assumption | (simp only [wI] at *; omega)) kI))
        ·exact oW rfl rfl rfl rfl hb978 fun h => yl_eql rfl (h.dt 4 46 rfl rfl rfl) (h.dt 7 49 rfl rfl rfl) kI
        ·exact oI rfl fun h => yl_pick_f rfl (h.dt 1 43 rfl rfl rfl) hb978 (h.dt 8 50 rfl rfl rfl) kI
        ·exact oI rfl fun h => yl_assign rfl (h.dt 9 51 rfl rfl rfl) kI
        ·intro fl1138 fh1139 L1135 w1136 hp1137
         have hE1140 := hp1137.ex
         have hE1140z := Ex.size hE1140
         refine SeqR.done (bn (tn (CW.sub (Sub.cons (d := 0) (hp1137.old 0 _ rfl rfl) (Sub.cons (d := 1) (hp1137.old 1 _ rfl rfl) (Sub.cons (d := 5) (hp1137.old 5 _ rfl rfl) (Sub.cons (d := 6) (hp1137.nt 10 6 rfl rfl rfl) (Sub.cons (d := 7) (hp1137.old 7 _ rfl rfl) (Sub.cons (d := 19) (hp1137.old 19 _ rfl rfl) (Sub.cons (d := 20) (hp1137.old 20 _ rfl rfl) (Sub.cons (d := 21) (hp1137.old 21 _ rfl rfl) (Sub.cons (d := 22) (hp1137.old 22 _ rfl rfl) (Sub.cons (d := 25) (hp1137.old 25 _ rfl rfl) (Sub.cons (d := 26) (hp1137.old 26 _ rfl rfl) (Sub.cons (d := 27) (hp1137.old 27 _ rfl rfl) (Sub.cons (d := 28) (hp1137.old 28 _ rfl rfl) (Sub.cons (d := 29) (hp1137.old 29 _ rfl rfl) (Sub.cons (d := 30) (hp1137.old 30 _ rfl rfl) (Sub.cons (d := 31) (hp1137.old 31 _ rfl rfl) (Sub.cons (d := 32) (hp1137.old 32 _ rfl rfl) (Sub.cons (d := 33) (hp1137.old 33 _ rfl rfl) (Sub.cons (d := 34) (hp1137.old 34 _ rfl rfl) (Sub.cons (d := 44) (hp1137.nt 2 44 rfl rfl rfl) (Sub.cons (d := 45) (hp1137.nt 3 45 rfl rfl rfl) (Sub.cons (d := 46) (hp1137.nt 4 46 rfl rfl rfl) (Sub.cons (d := 47) (hp1137.nt 5 47 rfl rfl rfl) (Sub.cons (d := 48) (hp1137.nt 6 48 rfl rfl rfl) (Sub.cons (d := 49) (hp1137.nt 7 49 rfl rfl rfl) (Sub.cons (d := 50) (hp1137.nt 8 50 rfl rfl rfl) (Sub.nil _))))))))))))))))))))))))))) (CW.region (sd rfl (yl_move rfl rfl (sd rfl (yl_inc rfl rfl rfl (by omega) (sd rfl (yl_assign rfl rfl (SeqR.done ?_)))))))))))
         refine tn ?_
         have hB1167 : B_s_l3Bytes_1 p_s p_more k5 k945 (x946) = .cont (decide (((p_s.getD k5 0).toNat : Int) = ((p_more.getD k945 0).toNat : Int))) := by simp only [B_s_l3Bytes_1, hb21, hb714, hb978, cL]
         exact ⟨p_more.length - (k945 + 1), by omega, k945 + 1, decide (((p_s.getD k5 0).toNat : Int) = ((p_more.getD k945 0).toNat : Int)), rfl, hlt977, (by omega), rfl, rfl, rfl, rfl, rfl, rfl, rfl, rfl, rfl, rfl, rfl, rfl, rfl, rfl, rfl, rfl, rfl, rfl, rfl, (Ex.trans hf975 hE1140), (loopM.cont hlt977 hB1167).symm.trans hI954⟩
      ·refine CW.seq (CW.seq (CW.region (sd rfl (yl_move rfl rfl (sd rfl (yl_move rfl rfl (sd rfl (yl_slen un9 (a := p_more) rfl rfl (sd rfl (yl_lss rfl rfl rfl (dn ?_)))))))))))
       refine CW.cond_f rfl (lt_f hlt977) (CW.exit (tx (tx ?_)))
       have hL1169 : loopM (B_s_l3Bytes_1 p_s p_more k5) (p_more.length - 0) 0 (false) = .done (x946) := hI954.symm.trans (loopM.stop hlt977)
       refine bx (tn (CW.seq (CW.region (sd rfl (yl_move rfl rfl (sd rfl (yl_not rfl rfl (dn (bcase (x946) (fun hb1170 => ?_) (fun hb1170 => ?_))))))))))
       ·refine CW.cond_f rfl (not_t hb1170) (CW.skip (bn (tn (CW.region (sd rfl (yl_move rfl rfl (sd rfl (yl_inc rfl rfl rfl (by omega) (sd rfl (yl_assign rfl rfl (SeqR.done ?_)))))))))))
        refine tn ?_
        have hB1171 : B_s_l3Bytes_0 p_s p_more k5 () = .cont () := by simp only [B_s_l3Bytes_0, hb21, hb714, hb1170, hL1169, cL]
        exact ⟨p_s.length - (k5 + 1), by omega, k5 + 1, rfl, hlt20, (by omega), rfl, rfl, rfl, hf975, (loopM.cont hlt20 hB1171).symm.trans hI13⟩
       ·refine CW.cond_t rfl (not_f hb1170) (CW.seq (CW.region (sd rfl (yl_assign rfl rfl (dn (CW.ret (br (tr ?_))))))))
        refine tr ?_
        have hB1173 : B_s_l3Bytes_0 p_s p_more k5 () = .ret false := by simp only [B_s_l3Bytes_0, hb21, hb714, hb1170, hL1169, cL]
        have hL1172 : loopM (B_s_l3Bytes_0 p_s p_more) (p_s.length - 0) 0 () = .ret false := hI13.symm.trans (loopM.ret hlt20 hB1173)
        refine br (tr (rr rfl (.cons rfl .nil) ?_))
        have hM1174 : (s_l3Bytes p_s p_more) = (false) := by simp only [s_l3Bytes, hb21, hb714, hb1170, hL1169, hL1172, cL]
        rw [hM1174]
        exact ⟨rfl, hf975⟩
  ·refine CW.seq (CW.seq (CW.region (sd rfl (yl_move rfl rfl (sd rfl (yl_move rfl rfl (sd rfl (yl_slen un9 (a := p_s) rfl rfl (sd rfl (yl_lss rfl rfl rfl (dn ?_)))))))))))
   refine CW.cond_f rfl (lt_f hlt20) (CW.exit (tx (tx ?_)))
   have hL1175 : loopM (B_s_l3Bytes_0 p_s p_more) (p_s.length - 0) 0 () = .done () := hI13.symm.trans (loopM.stop hlt20)
   refine bx (tn (CW.seq (CW.region (sd rfl (yl_assign rfl rfl (dn (CW.ret (rr rfl (.cons rfl .nil) ?_))))))))
   have hM1176 : (s_l3Bytes p_s p_more) = (true) := by simp only [s_l3Bytes, hL1175, cL]
   rw [hM1176]
   exact ⟨rfl, hf18⟩
theorem c_s_l3Key {w : World} (p_s : Str) (o1 : okS p_s) : Cal Try.prog 109 #[.string (bs (p_s))] w fun v w' => v = .bool ((s_l3Key p_s)) ∧ Ex w w' := by
 refine Cal.of func109 rfl ntmps109 rfl (CW.seq (CW.region (sd rfl (yl_assign rfl rfl (dn (CW.seq (CW.region (sd rfl (yl_move rfl rfl ?_)))))))))
 refine sd rfl (yl_slen un9 (a := p_s) rfl rfl (sd rfl (yl_call en80 rfl (oc rfl (oc rfl (oc rfl oz))) (Cal.mono (c_s_l1In (p_s.length : Int) 1 12) ?_))))
 rintro v4 w3 ⟨rfl, hE5⟩
 refine sd rfl (yl_move rfl rfl (bcase (s_l1In (p_s.length : Int) 1 12) (fun hb6 => ?_) (fun hb6 => ?_)))
 ·have hb6p := f_l1In hb6
  refine sy rfl rfl hb6 (yl_move rfl rfl (sy rfl rfl hb6 (yl_call en117 rfl (oc rfl (oc rfl oz)) (Cal.mono (c_s_l3Bytes p_s ([46, 47] : Str) o1 (okS.lit rfl)) ?_))))
  rintro v8 w7 ⟨rfl, hE9⟩
  refine sd rfl (yl_pick_t rfl rfl hb6 rfl (sd rfl (yl_assign rfl rfl (dn (CW.ret (rr rfl (.cons rfl .nil) ?_))))))
  have hM10 : (s_l3Key p_s) = ((s_l3Bytes p_s ([46, 47] : Str))) := by simp only [s_l3Key, hb6, cL]
  rw [hM10]
  exact ⟨rfl, (Ex.trans (Ex.trans (Ex.refl w) hE5) hE9)⟩
 ·refine sz rfl rfl hb6 (sz rfl rfl hb6 (sd rfl (yl_pick_f rfl rfl hb6 rfl (sd rfl (yl_assign rfl rfl (dn (CW.ret (rr rfl (.cons rfl .nil) ?_))))))))
  have hM13 : (s_l3Key p_s) = (false) := by simp only [s_l3Key, hb6, cL]
  rw [hM13]
  exact ⟨rfl, (Ex.trans (Ex.refl w) hE5)⟩
theorem c_s_l3Val {w : World} (p_s : Str) (o1 : okS p_s) : Cal Try.prog 113 #[.string (bs (p_s))] w fun v w' => v = .bool ((s_l3Val p_s)) ∧ Ex w w' := by
 refine Cal.of func113 rfl ntmps113 rfl (CW.seq (CW.region (sd rfl (yl_assign rfl rfl (dn (CW.seq (CW.region (sd rfl (yl_move rfl rfl ?_)))))))))
 refine sd rfl (yl_slen un9 (a := p_s) rfl rfl (sd rfl (yl_leq rfl rfl rfl (sd rfl (yl_move rfl rfl (bcase (decide ((p_s.length : Int) ≤ 24)) (fun hb3 => ?_) (fun hb3 => ?_)))))))
 ·have hb3p := dec_t hb3
  refine sy rfl rfl hb3 (yl_move rfl rfl (sy rfl rfl hb3 (yl_call en117 rfl (oc rfl (oc rfl oz)) (Cal.mono (c_s_l3Bytes p_s ([46, 45, 44, 95] : Str) o1 (okS.lit rfl)) ?_))))
  rintro v5 w4 ⟨rfl, hE6⟩
  refine sd rfl (yl_pick_t rfl rfl hb3 rfl (sd rfl (yl_assign rfl rfl (dn (CW.ret (rr rfl (.cons rfl .nil) ?_))))))
  have hM7 : (s_l3Val p_s) = ((s_l3Bytes p_s ([46, 45, 44, 95] : Str))) := by simp only [s_l3Val, hb3, cL]
  rw [hM7]
  exact ⟨rfl, (Ex.trans (Ex.refl w) hE6)⟩
 ·have hb3p := dec_f hb3
  refine sz rfl rfl hb3 (sz rfl rfl hb3 (sd rfl (yl_pick_f rfl rfl hb3 rfl (sd rfl (yl_assign rfl rfl (dn (CW.ret (rr rfl (.cons rfl .nil) ?_))))))))
  have hM9 : (s_l3Val p_s) = (false) := by simp only [s_l3Val, hb3, cL]
  rw [hM9]
  exact ⟨rfl, (Ex.refl w)⟩
theorem c_s_l3Write {w : World} (p_key : Str) (p_val : Str) (p_gone : Bool) (o1 : okS p_key) (o2 : okS p_val) : Cal Try.prog 100 #[.string (bs (p_key)), .string (bs (p_val)), .bool (p_gone)] w fun v w' => v = .bool ((s_l3Write p_key p_val p_gone)) ∧ Ex w w' := by
 refine Cal.of func100 rfl ntmps100 rfl (CW.seq (CW.region (sd rfl (yl_assign rfl rfl (dn (CW.seq (CW.region (sd rfl (yl_move rfl rfl ?_)))))))))
 refine sd rfl (yl_call en109 rfl (oc rfl oz) (Cal.mono (c_s_l3Key p_key o1) ?_))
 rintro v6 w5 ⟨rfl, hE7⟩
 refine sd rfl (yl_move rfl rfl (bcase (s_l3Key p_key) (fun hb8 => ?_) (fun hb8 => ?_)))
 ·refine sy rfl rfl hb8 (yl_move rfl rfl (sy rfl rfl hb8 (yl_call en113 rfl (oc rfl oz) (Cal.mono (c_s_l3Val p_val o2) ?_))))
  rintro v10 w9 ⟨rfl, hE11⟩
  refine sd rfl (yl_pick_t rfl rfl hb8 rfl (sd rfl (yl_move rfl rfl (bcase (s_l3Val p_val) (fun hb12 => ?_) (fun hb12 => ?_)))))
  ·refine sy rfl rfl hb12 (yl_move rfl rfl (sy rfl rfl hb12 (yl_not rfl rfl (sy rfl rfl hb12 (yl_move rfl rfl (bcase (p_gone) (fun hb13 => ?_) (fun hb13 => ?_)))))))
   ·refine sy rfl rfl (not_t hb13) (yl_move rfl rfl (sy rfl rfl (not_t hb13) (yl_seql (a := p_val) (b := ([] : Str)) rfl rfl rfl (sy rfl rfl hb12 (yl_pick_f rfl rfl (not_t hb13) rfl (sd rfl (yl_pick_t rfl rfl hb12 rfl (sd rfl (yl_assign rfl rfl (dn (CW.ret (rr rfl (.cons rfl .nil) ?_))))))))))))
    have hM14 : (s_l3Write p_key p_val p_gone) = (p_val == ([] : Str)) := by simp only [s_l3Write, hb8, hb12, hb13, cL]
    rw [hM14]
    exact ⟨rfl, (Ex.trans (Ex.trans (Ex.refl w) hE7) hE11)⟩
   ·refine sz rfl rfl (not_f hb13) (sz rfl rfl (not_f hb13) (sy rfl rfl hb12 (yl_pick_t rfl rfl (not_f hb13) rfl (sd rfl (yl_pick_t rfl rfl hb12 rfl (sd rfl (yl_assign rfl rfl (dn (CW.ret (rr rfl (.cons rfl .nil) ?_))))))))))
    have hM17 : (s_l3Write p_key p_val p_gone) = (true) := by simp only [s_l3Write, hb8, hb12, hb13, cL]
    rw [hM17]
    exact ⟨rfl, (Ex.trans (Ex.trans (Ex.refl w) hE7) hE11)⟩
  ·refine sz rfl rfl hb12 (sz rfl rfl hb12 (sz rfl rfl hb12 (sq rfl rfl (sq rfl rfl (sz rfl rfl hb12 (sd rfl (yl_pick_f rfl rfl hb12 rfl (sd rfl (yl_assign rfl rfl (SeqR.done ?_))))))))))
   refine tn (CW.ret (rr rfl (.cons rfl .nil) ?_))
   have hM20 : (s_l3Write p_key p_val p_gone) = (false) := by simp only [s_l3Write, hb8, hb12, cL]
   rw [hM20]
   exact ⟨rfl, (Ex.trans (Ex.trans (Ex.refl w) hE7) hE11)⟩
 ·refine sz rfl rfl hb8 (sz rfl rfl hb8 (sd rfl (yl_pick_f rfl rfl hb8 rfl (sd rfl (yl_move rfl rfl (sz rfl rfl rfl (sz rfl rfl rfl (sz rfl rfl rfl (sq rfl rfl (sq rfl rfl ?_))))))))))
  refine sz rfl rfl rfl (sd rfl (yl_pick_f rfl rfl rfl rfl (sd rfl (yl_assign rfl rfl (dn (CW.ret (rr rfl (.cons rfl .nil) ?_)))))))
  have hM23 : (s_l3Write p_key p_val p_gone) = (false) := by simp only [s_l3Write, hb8, cL]
  rw [hM23]
  exact ⟨rfl, (Ex.trans (Ex.refl w) hE7)⟩
theorem c_s_l3Writes {A1 : Option Addr} {c1 : Nat} {w : World} (p_l : List DWrite) (h1 : RdS w (Iv 0 w.heap.size) (RF e_Write) 3 A1 p_l.length c1 p_l) (o2 : (okL ok_Write) p_l) : Cal Try.prog 81 #[.slice A1 p_l.length c1] w fun v w' => v = .bool ((s_l3Writes p_l)) ∧ Ex w w' := by
 have hol3 := o2.1
 refine Cal.of func81 rfl ntmps81 rfl (CW.seq (CW.region (sd rfl (yl_assign rfl rfl (dn (CW.seq (CW.seq (CW.region ?_))))))))
 refine sd rfl (yl_move rfl rfl (sd rfl (yl_len un22 rfl rfl (sd rfl (yl_move rfl rfl (dn (CW.block (CW.loop (fun m24 L25 w26 => ∃ (k4 : Nat), m24 = p_l.length - k4 ∧ k4 ≤ p_l.length ∧ w.heap.size ≤ w26.heap.size ∧ lkp L25 0 = some (.slice A1 p_l.length c1) ∧ lkp L25 5 = some (.slice A1 p_l.length c1) ∧ lkp L25 6 = some (.int .i64 ((p_l.length : Int))) ∧ lkp L25 7 = some (.int .i64 ((k4 : Int))) ∧ RdS w26 (Iv 0 w.heap.size) (RF e_Write) 3 A1 p_l.length c1 p_l ∧ Ex w w26 ∧ loopM (B_s_l3Writes_0 p_l) (p_l.length - k4) k4 () = loopM (B_s_l3Writes_0 p_l) (p_l.length - 0) 0 ()) (p_l.length - 0) ?_ ?_))))))))
 ·exact ⟨0, rfl, (by omega), Nat.le_refl _, rfl, rfl, rfl, rfl, h1, (Ex.refl w), rfl⟩
 ·rintro m27 L28 w29 ⟨k4, rfl, hk30, hsz32, hl33, hl34, hl35, hl36, hf37, hf38, hI31⟩
  refine CW.sub (Sub.cons hl33 (Sub.cons hl34 (Sub.cons hl35 (Sub.cons hl36 (Sub.nil _))))) ?_
  have hf38z := Ex.size hf38
  have hbg39 := RdS.big hf37
  rcases Nat.lt_or_ge k4 p_l.length with hlt40 | hlt40
  ·refine CW.seq (CW.region (sd rfl (yl_lss rfl rfl rfl (dn (CW.seq (CW.cond_t rfl (lt_t hlt40) (CW.skip (tn ?_))))))))
   refine CW.seq (CW.block (CW.seq (CW.region (sd rfl (yl_move rfl rfl ?_)))))
   obtain ⟨eb41, eo41, _, eA41, _, ebl41, _, eR41, eC41⟩ := RdS.aD hf37 d_Write (i := k4)
   obtain rfl := eR41
   have eC41 : Cells w29 eb41 (eo41 + k4 * 3) [.string (bs ((p_l.getD k4 d_Write).Key)), .string (bs ((p_l.getD k4 d_Write).Val)), .bool ((p_l.getD k4 d_Write).Gone)] := eC41
   refine sd rfl (yl_ixN un22 ty53 rfl rfl rfl eA41 (sd rfl (yl_loadN ty53 rfl rfl eC41 rfl (sd rfl (yl_alloc ty53 (cs := [.string (bs (([] : Str))), .string (bs (([] : Str))), .bool (false)]) rfl rfl ?_)))))
   intro b42 w43 hs44 hz45 hB46 hE47
   refine sd rfl (yl_assign rfl rfl (SeqR.u rfl rfl (yl_store (vs := [.string (bs ((p_l.getD k4 d_Write).Key)), .string (bs ((p_l.getD k4 d_Write).Val)), .bool ((p_l.getD k4 d_Write).Gone)]) ty53 rfl rfl rfl rfl rfl rfl hB46 (Nat.le_of_ble_eq_true rfl) ?_)))
   intro w48 hB49 hO50
   have hB49 : Box w48 b42 53 [.string (bs ((p_l.getD k4 d_Write).Key)), .string (bs ((p_l.getD k4 d_Write).Val)), .bool ((p_l.getD k4 d_Write).Gone)] := hB49
   have hO50z := hO50.size
   refine dn (CW.seq (bcase (s_l3Write ((p_l.getD k4 d_Write).Key) ((p_l.getD k4 d_Write).Val) ((p_l.getD k4 d_Write).Gone)) (fun hb52 => ?_) (fun hb52 => ?_)))
   ·refine bcase (decide (0 < (k4 : Int))) (fun hb54 => ?_) (fun hb54 => ?_)
    ·have hb54p := dec_t hb54
     have q57 := RdS.only good_Write (RdS.ex good_Write hf37 hE47) hO50 (by simp only [Iv]; omega)
     obtain ⟨eb58, eo58, _, eA58, _, ebl58, _, eR58, eC58⟩ := RdS.atD q57 d_Write (i := (IntKind.wrap .i64 ((k4 : Int) - 1)).toNat) (by first | omega | assumption | (simp only [wI] at *; omega))
     obtain rfl := eR58
     have eC58 : Cells w48 eb58 (eo58 + ((IntKind.wrap .i64 ((k4 : Int) - 1)).toNat) * 3) [.string (bs ((p_l.getD ((IntKind.wrap .i64 ((k4 : Int) - 1)).toNat) d_Write).Key)), .string (bs ((p_l.getD ((IntKind.wrap .i64 ((k4 : Int) - 1)).toNat) d_Write).Val)), .bool ((p_l.getD ((IntKind.wrap .i64 ((k4 : Int) - 1)).toNat) d_Write).Gone)] := eC58
     refine CW.drawsI 23 (vgetI ([.pointer (some ⟨b42, 0 + 0, none⟩), .string (bs ((p_l.getD k4 d_Write).Key)), .pointer (some ⟨b42, 0 + 1, none⟩), .string (bs ((p_l.getD k4 d_Write).Val)), .pointer (some ⟨b42, 0 + 2, none⟩), .bool ((p_l.getD k4 d_Write).Gone), .bool ((s_l3Write ((p_l.getD k4 d_Write).Key) ((p_l.getD k4 d_Write).Val) ((p_l.getD k4 d_Write).Gone))), .bool (!(s_l3Write ((p_l.getD k4 d_Write).Key) ((p_l.getD k4 d_Write).Val) ((p_l.getD k4 d_Write).Gone))), .bool (!(s_l3Write ((p_l.getD k4 d_Write).Key) ((p_l.getD k4 d_Write).Val) ((p_l.getD k4 d_Write).Gone))), .int .i64 ((k4 : Int)), .bool (decide (0 < (k4 : Int))), .bool (decide (0 < (k4 : Int))), .slice A1 p_l.length c1, .int .i64 ((k4 : Int)), .int .i64 (IntKind.wrap .i64 ((k4 : Int) - 1)), .pointer (some ⟨eb58, eo58 + ((IntKind.wrap .i64 ((k4 : Int) - 1)).toNat) * 3, none⟩), .pointer (some ⟨eb58, eo58 + ((IntKind.wrap .i64 ((k4 : Int) - 1)).toNat) * 3 + 0, none⟩), .string (bs ((p_l.getD ((IntKind.wrap .i64 ((k4 : Int) - 1)).toNat) d_Write).Key)), .pointer (some ⟨b42, 0 + 0, none⟩), .string (bs ((p_l.getD k4 d_Write).Key)), .bool (!(sLt ((p_l.getD ((IntKind.wrap .i64 ((k4 : Int) - 1)).toNat) d_Write).Key) ((p_l.getD k4 d_Write).Key))), .bool (!(sLt ((p_l.getD ((IntKind.wrap .i64 ((k4 : Int) - 1)).toNat) d_Write).Key) ((p_l.getD k4 d_Write).Key))), .bool (!(sLt ((p_l.getD ((IntKind.wrap .i64 ((k4 : Int) - 1)).toNat) d_Write).Key) ((p_l.getD k4 d_Write).Key)))].map DetI)) Try.follows rfl rfl rfl rfl rfl rfl (vgetI_stable (stD _)) ⟨?_, ?_, ?_, ?_, ?_, ?_, ?_, ?_, ?_, ?_, ?_, ?_, ?_, ?_, ?_, ?_, ?_, ?_, ?_, ?_, ?_, ?_, ?_, trivial⟩ ?_
     ·exact oI rfl fun h => yl_fieldAddr fd53_0 rfl (h.old 4 _ rfl rfl) kI
     ·exact oI rfl fun h => yl_load1 ty9 rfl (h.dt 0 12 rfl rfl rfl) (((Box.ex hB49 h.ex).cell 0).trans rfl) kI
     ·exact oI rfl fun h => yl_fieldAddr fd53_1 rfl (h.old 4 _ rfl rfl) kI
     ·exact oI rfl fun h => yl_load1 ty9 rfl (h.dt 2 14 rfl rfl rfl) (((Box.ex hB49 h.ex).cell 1).trans rfl) kI
     ·exact oI rfl fun h => yl_fieldAddr fd53_2 rfl (h.old 4 _ rfl rfl) kI
     ·exact oI rfl fun h => yl_load1 ty4 rfl (h.dt 4 16 rfl rfl rfl) (((Box.ex hB49 h.ex).cell 2).trans rfl) kI
     ·intro L92 w93 hi94
      exact OpR.op' rfl (yl_call en100 rfl (oc (hi94.dt 1 13 rfl rfl rfl) (oc (hi94.dt 3 15 rfl rfl rfl) (oc (hi94.dt 5 17 rfl rfl rfl) oz))) (Cal.mono (c_s_l3Write ((p_l.getD k4 d_Write).Key) ((p_l.getD k4 d_Write).Val) ((p_l.getD k4 d_Write).Gone) ((okL.getD o2 ok_d_Write _).1) ((okL.getD o2 ok_d_Write _).2)) fun _ _ h => h))
     ·exact oI rfl fun h => yl_not rfl (h.dt 6 18 rfl rfl rfl) kI
     ·exact oI rfl fun h => yl_move rfl (h.dt 7 19 rfl rfl rfl) kI
     ·exact oW rfl rfl rfl rfl (not_t hb52) fun h => yl_move rfl (h.old 3 _ rfl rfl) kI
     ·exact oW rfl rfl rfl rfl (not_t hb52) fun h => yl_gtr rfl (h.dt 9 21 rfl rfl rfl) rfl kI
     ·exact oW rfl rfl rfl rfl (not_t hb52) fun h => yl_move rfl (h.dt 10 22 rfl rfl rfl) kI
     ·exact oW rfl rfl rfl rfl hb54 fun h => yl_move rfl (h.old 0 _ rfl rfl) kI
     ·exact oW rfl rfl rfl rfl hb54 fun h => yl_move rfl (h.old 3 _ rfl rfl) kI
     ·exact oW rfl rfl rfl rfl hb54 fun h => yl_sub rfl (h.dt 13 25 rfl rfl rfl) rfl kI
     ·intro L148 w149 hi150
      have hE151 := hi150.ex
      have hE151z := Ex.size hE151
      exact OpR.want rfl rfl (hi150.dt 11 23 rfl rfl rfl) hb54 (Yl.sameI (yl_indexAddr un22 ty53 rfl (hi150.dt 12 24 rfl rfl rfl) (hi150.dt 14 26 rfl rfl rfl) eA58 (by first | omega | assumption | (simp only [wI] at *; omega)) (by first | omega | assumption | (simp only [wI] at *; omega)) kI))
     ·exact oW rfl rfl rfl rfl hb54 fun h => yl_fieldAddr fd53_0 rfl (h.dt 15 27 rfl rfl rfl) kI
     ·exact oW rfl rfl rfl rfl hb54 fun h => yl_load1 ty9 rfl (h.dt 16 28 rfl rfl rfl) ((Cells.ex eC58 h.ex) 0 _ rfl) kI
     ·exact oW rfl rfl rfl rfl hb54 fun h => yl_fieldAddr fd53_0 rfl (h.old 4 _ rfl rfl) kI
     ·exact oW rfl rfl rfl rfl hb54 fun h => yl_load1 ty9 rfl (h.dt 18 30 rfl rfl rfl) (((Box.ex hB49 h.ex).cell 0).trans rfl) kI
     ·exact oW rfl rfl rfl rfl hb54 fun h => yl_sgeq (a := ((p_l.getD ((IntKind.wrap .i64 ((k4 : Int) - 1)).toNat) d_Write).Key)) (b := ((p_l.getD k4 d_Write).Key)) rfl (h.dt 17 29 rfl rfl rfl) (h.dt 19 31 rfl rfl rfl) kI
     ·exact oW rfl rfl rfl rfl (not_t hb52) fun h => yl_pick_t rfl (h.dt 11 23 rfl rfl rfl) hb54 (h.dt 20 32 rfl rfl rfl) kI
     ·exact oI rfl fun h => yl_pick_f rfl (h.dt 8 20 rfl rfl rfl) (not_t hb52) (h.dt 21 33 rfl rfl rfl) kI
     ·intro fl204 fh205 L201 w202 hp203
      have hE206 := hp203.ex
      have hE206z := Ex.size hE206
      refine dn (CW.sub (Sub.cons (d := 0) (hp203.old 0 _ rfl rfl) (Sub.cons (d := 5) (hp203.old 5 _ rfl rfl) (Sub.cons (d := 6) (hp203.old 6 _ rfl rfl) (Sub.cons (d := 7) (hp203.old 7 _ rfl rfl) (Sub.cons (d := 21) (hp203.nt 9 21 rfl rfl rfl) (Sub.cons (d := 22) (hp203.nt 10 22 rfl rfl rfl) (Sub.cons (d := 23) (hp203.nt 11 23 rfl rfl rfl) (Sub.cons (d := 24) (hp203.nt 12 24 rfl rfl rfl) (Sub.cons (d := 25) (hp203.nt 13 25 rfl rfl rfl) (Sub.cons (d := 26) (hp203.nt 14 26 rfl rfl rfl) (Sub.cons (d := 27) (hp203.nt 15 27 rfl rfl rfl) (Sub.cons (d := 28) (hp203.nt 16 28 rfl rfl rfl) (Sub.cons (d := 29) (hp203.nt 17 29 rfl rfl rfl) (Sub.cons (d := 30) (hp203.nt 18 30 rfl rfl rfl) (Sub.cons (d := 31) (hp203.nt 19 31 rfl rfl rfl) (Sub.cons (d := 32) (hp203.nt 20 32 rfl rfl rfl) (Sub.cons (d := 33) (hp203.nt 21 33 rfl rfl rfl) (Sub.cons (d := 34) (hp203.nt 22 34 rfl rfl rfl) (Sub.nil _))))))))))))))))))) (bcase (sLt ((p_l.getD ((IntKind.wrap .i64 ((k4 : Int) - 1)).toNat) d_Write).Key) ((p_l.getD k4 d_Write).Key)) (fun hb225 => ?_) (fun hb225 => ?_)))
      ·refine CW.cond_f rfl (not_t hb225) (CW.skip (bn (tn (CW.region (sd rfl (yl_inc rfl rfl rfl (by omega) (sd rfl (yl_move rfl rfl (dn ?_)))))))))
       have hB226 : B_s_l3Writes_0 p_l k4 () = .cont () := by simp only [B_s_l3Writes_0, hb52, hb54, hb225, cL]
       exact ⟨p_l.length - (k4 + 1), by omega, k4 + 1, rfl, hlt40, (by omega), rfl, rfl, rfl, rfl, (RdS.ex good_Write q57 hE206), (Ex.trans (Below.only (Ex.trans hf38 hE47) hO50 (by omega)) hE206), (loopM.cont hlt40 hB226).symm.trans hI31⟩
      ·refine CW.cond_t rfl (not_f hb225) (CW.seq (CW.region (sd rfl (yl_assign rfl rfl (dn (CW.ret (br (tr ?_))))))))
       refine tr ?_
       have hB232 : B_s_l3Writes_0 p_l k4 () = .ret false := by simp only [B_s_l3Writes_0, hb52, hb54, hb225, cL]
       have hL231 : loopM (B_s_l3Writes_0 p_l) (p_l.length - 0) 0 () = .ret false := hI31.symm.trans (loopM.ret hlt40 hB232)
       refine br (tr (rr rfl (.cons rfl .nil) ?_))
       have hM233 : (s_l3Writes p_l) = (false) := by simp only [s_l3Writes, hb52, hb54, hb225, hL231, cL]
       rw [hM233]
       exact ⟨rfl, (Ex.trans (Below.only (Ex.trans hf38 hE47) hO50 (by omega)) hE206)⟩
    ·have hb54p := dec_f hb54
     refine CW.drawsI 23 (vgetI ([.pointer (some ⟨b42, 0 + 0, none⟩), .string (bs ((p_l.getD k4 d_Write).Key)), .pointer (some ⟨b42, 0 + 1, none⟩), .string (bs ((p_l.getD k4 d_Write).Val)), .pointer (some ⟨b42, 0 + 2, none⟩), .bool ((p_l.getD k4 d_Write).Gone), .bool ((s_l3Write ((p_l.getD k4 d_Write).Key) ((p_l.getD k4 d_Write).Val) ((p_l.getD k4 d_Write).Gone))), .bool (!(s_l3Write ((p_l.getD k4 d_Write).Key) ((p_l.getD k4 d_Write).Val) ((p_l.getD k4 d_Write).Gone))), .bool (!(s_l3Write ((p_l.getD k4 d_Write).Key) ((p_l.getD k4 d_Write).Val) ((p_l.getD k4 d_Write).Gone))), .int .i64 ((k4 : Int)), .bool (decide (0 < (k4 : Int))), .bool (decide (0 < (k4 : Int))), undef, undef, undef, undef, undef, undef, undef, undef, undef, .bool (false), .bool (false)].map DetI)) Try.follows rfl rfl rfl rfl rfl rfl (vgetI_stable (stD _)) ⟨?_, ?_, ?_, ?_, ?_, ?_, ?_, ?_, ?_, ?_, ?_, ?_, ?_, ?_, ?_, ?_, ?_, ?_, ?_, ?_, ?_, ?_, ?_, trivial⟩ ?_
     ·exact oI rfl fun h => yl_fieldAddr fd53_0 rfl (h.old 4 _ rfl rfl) kI
     ·exact oI rfl fun h => yl_load1 ty9 rfl (h.dt 0 12 rfl rfl rfl) (((Box.ex hB49 h.ex).cell 0).trans rfl) kI
     ·exact oI rfl fun h => yl_fieldAddr fd53_1 rfl (h.old 4 _ rfl rfl) kI
     ·exact oI rfl fun h => yl_load1 ty9 rfl (h.dt 2 14 rfl rfl rfl) (((Box.ex hB49 h.ex).cell 1).trans rfl) kI
     ·exact oI rfl fun h => yl_fieldAddr fd53_2 rfl (h.old 4 _ rfl rfl) kI
     ·exact oI rfl fun h => yl_load1 ty4 rfl (h.dt 4 16 rfl rfl rfl) (((Box.ex hB49 h.ex).cell 2).trans rfl) kI
     ·intro L271 w272 hi273
      exact OpR.op' rfl (yl_call en100 rfl (oc (hi273.dt 1 13 rfl rfl rfl) (oc (hi273.dt 3 15 rfl rfl rfl) (oc (hi273.dt 5 17 rfl rfl rfl) oz))) (Cal.mono (c_s_l3Write ((p_l.getD k4 d_Write).Key) ((p_l.getD k4 d_Write).Val) ((p_l.getD k4 d_Write).Gone) ((okL.getD o2 ok_d_Write _).1) ((okL.getD o2 ok_d_Write _).2)) fun _ _ h => h))
     ·exact oI rfl fun h => yl_not rfl (h.dt 6 18 rfl rfl rfl) kI
     ·exact oI rfl fun h => yl_move rfl (h.dt 7 19 rfl rfl rfl) kI
     ·exact oW rfl rfl rfl rfl (not_t hb52) fun h => yl_move rfl (h.old 3 _ rfl rfl) kI
     ·exact oW rfl rfl rfl rfl (not_t hb52) fun h => yl_gtr rfl (h.dt 9 21 rfl rfl rfl) rfl kI
     ·exact oW rfl rfl rfl rfl (not_t hb52) fun h => yl_move rfl (h.dt 10 22 rfl rfl rfl) kI
     ·exact oS rfl rfl rfl rfl rfl hb54
     ·exact oS rfl rfl rfl rfl rfl hb54
     ·exact oS rfl rfl rfl rfl rfl hb54
     ·exact oS rfl rfl rfl rfl rfl hb54
     ·exact oS rfl rfl rfl rfl rfl hb54
     ·exact oS rfl rfl rfl rfl rfl hb54
     ·exact oS rfl rfl rfl rfl rfl hb54
     ·exact oS rfl rfl rfl rfl rfl hb54
     ·exact oS rfl rfl rfl rfl rfl hb54
     ·exact oW rfl rfl rfl rfl (not_t hb52) fun h => yl_pick_f rfl (h.dt 11 23 rfl rfl rfl) hb54 rfl kI
     ·exact oI rfl fun h => yl_pick_f rfl (h.dt 8 20 rfl rfl rfl) (not_t hb52) (h.dt 21 33 rfl rfl rfl) kI
     ·intro fl370 fh371 L367 w368 hp369
      have hE372 := hp369.ex
      have hE372z := Ex.size hE372
      refine dn (CW.sub (Sub.cons (d := 0) (hp369.old 0 _ rfl rfl) (Sub.cons (d := 5) (hp369.old 5 _ rfl rfl) (Sub.cons (d := 6) (hp369.old 6 _ rfl rfl) (Sub.cons (d := 7) (hp369.old 7 _ rfl rfl) (Sub.cons (d := 21) (hp369.nt 9 21 rfl rfl rfl) (Sub.cons (d := 22) (hp369.nt 10 22 rfl rfl rfl) (Sub.cons (d := 23) (hp369.nt 11 23 rfl rfl rfl) (Sub.cons (d := 24) (hp369.nt 12 24 rfl rfl rfl) (Sub.cons (d := 25) (hp369.nt 13 25 rfl rfl rfl) (Sub.cons (d := 26) (hp369.nt 14 26 rfl rfl rfl) (Sub.cons (d := 27) (hp369.nt 15 27 rfl rfl rfl) (Sub.cons (d := 28) (hp369.nt 16 28 rfl rfl rfl) (Sub.cons (d := 29) (hp369.nt 17 29 rfl rfl rfl) (Sub.cons (d := 30) (hp369.nt 18 30 rfl rfl rfl) (Sub.cons (d := 31) (hp369.nt 19 31 rfl rfl rfl) (Sub.cons (d := 32) (hp369.nt 20 32 rfl rfl rfl) (Sub.cons (d := 33) (hp369.nt 21 33 rfl rfl rfl) (Sub.cons (d := 34) (hp369.nt 22 34 rfl rfl rfl) (Sub.nil _))))))))))))))))))) (CW.cond_f rfl rfl (CW.skip (bn (tn (CW.region (sd rfl (yl_inc rfl rfl rfl (by omega) ?_))))))))
      refine sd rfl (yl_move rfl rfl (dn ?_))
      have hB391 : B_s_l3Writes_0 p_l k4 () = .cont () := by simp only [B_s_l3Writes_0, hb52, hb54, cL]
      exact ⟨p_l.length - (k4 + 1), by omega, k4 + 1, rfl, hlt40, (by omega), rfl, rfl, rfl, rfl, (RdS.ex good_Write (RdS.only good_Write (RdS.ex good_Write hf37 hE47) hO50 (by simp only [Iv]; omega)) hE372), (Ex.trans (Below.only (Ex.trans hf38 hE47) hO50 (by omega)) hE372), (loopM.cont hlt40 hB391).symm.trans hI31⟩
   ·refine CW.drawsI 23 (vgetI ([.pointer (some ⟨b42, 0 + 0, none⟩), .string (bs ((p_l.getD k4 d_Write).Key)), .pointer (some ⟨b42, 0 + 1, none⟩), .string (bs ((p_l.getD k4 d_Write).Val)), .pointer (some ⟨b42, 0 + 2, none⟩), .bool ((p_l.getD k4 d_Write).Gone), .bool ((s_l3Write ((p_l.getD k4 d_Write).Key) ((p_l.getD k4 d_Write).Val) ((p_l.getD k4 d_Write).Gone))), .bool (!(s_l3Write ((p_l.getD k4 d_Write).Key) ((p_l.getD k4 d_Write).Val) ((p_l.getD k4 d_Write).Gone))), .bool (!(s_l3Write ((p_l.getD k4 d_Write).Key) ((p_l.getD k4 d_Write).Val) ((p_l.getD k4 d_Write).Gone))), undef, undef, undef, undef, undef, undef, undef, undef, undef, undef, undef, undef, undef, .bool (true)].map DetI)) Try.follows rfl rfl rfl rfl rfl rfl (vgetI_stable (stD _)) ⟨?_, ?_, ?_, ?_, ?_, ?_, ?_, ?_, ?_, ?_, ?_, ?_, ?_, ?_, ?_, ?_, ?_, ?_, ?_, ?_, ?_, ?_, ?_, trivial⟩ ?_
    ·exact oI rfl fun h => yl_fieldAddr fd53_0 rfl (h.old 4 _ rfl rfl) kI
    ·exact oI rfl fun h => yl_load1 ty9 rfl (h.dt 0 12 rfl rfl rfl) (((Box.ex hB49 h.ex).cell 0).trans rfl) kI
    ·exact oI rfl fun h => yl_fieldAddr fd53_1 rfl (h.old 4 _ rfl rfl) kI
    ·exact oI rfl fun h => yl_load1 ty9 rfl (h.dt 2 14 rfl rfl rfl) (((Box.ex hB49 h.ex).cell 1).trans rfl) kI
    ·exact oI rfl fun h => yl_fieldAddr fd53_2 rfl (h.old 4 _ rfl rfl) kI
    ·exact oI rfl fun h => yl_load1 ty4 rfl (h.dt 4 16 rfl rfl rfl) (((Box.ex hB49 h.ex).cell 2).trans rfl) kI
    ·intro L432 w433 hi434
     exact OpR.op' rfl (yl_call en100 rfl (oc (hi434.dt 1 13 rfl rfl rfl) (oc (hi434.dt 3 15 rfl rfl rfl) (oc (hi434.dt 5 17 rfl rfl rfl) oz))) (Cal.mono (c_s_l3Write ((p_l.getD k4 d_Write).Key) ((p_l.getD k4 d_Write).Val) ((p_l.getD k4 d_Write).Gone) ((okL.getD o2 ok_d_Write _).1) ((okL.getD o2 ok_d_Write _).2)) fun _ _ h => h))
    ·exact oI rfl fun h => yl_not rfl (h.dt 6 18 rfl rfl rfl) kI
    ·exact oI rfl fun h => yl_move rfl (h.dt 7 19 rfl rfl rfl) kI
    ·exact oS rfl rfl rfl rfl rfl (not_f hb52)
    ·exact oS rfl rfl rfl rfl rfl (not_f hb52)
    ·exact oS rfl rfl rfl rfl rfl (not_f hb52)
    ·exact oU rfl rfl rfl rfl rfl
    ·exact oU rfl rfl rfl rfl rfl
    ·exact oU rfl rfl rfl rfl rfl
    ·exact oU rfl rfl rfl rfl rfl
    ·exact oU rfl rfl rfl rfl rfl
    ·exact oU rfl rfl rfl rfl rfl
    ·exact oU rfl rfl rfl rfl rfl
    ·exact oU rfl rfl rfl rfl rfl
    ·exact oU rfl rfl rfl rfl rfl
    ·exact oS rfl rfl rfl rfl rfl (not_f hb52)
    ·exact oI rfl fun h => yl_pick_t rfl (h.dt 8 20 rfl rfl rfl) (not_f hb52) rfl kI
    ·intro fl526 fh527 L523 w524 hp525
     have hE528 := hp525.ex
     have hE528z := Ex.size hE528
     refine dn (CW.sub (Sub.cons (d := 0) (hp525.old 0 _ rfl rfl) (Sub.cons (d := 5) (hp525.old 5 _ rfl rfl) (Sub.cons (d := 6) (hp525.old 6 _ rfl rfl) (Sub.cons (d := 7) (hp525.old 7 _ rfl rfl) (Sub.cons (d := 21) (hp525.nt 9 21 rfl rfl rfl) (Sub.cons (d := 22) (hp525.nt 10 22 rfl rfl rfl) (Sub.cons (d := 23) (hp525.nt 11 23 rfl rfl rfl) (Sub.cons (d := 24) (hp525.nt 12 24 rfl rfl rfl) (Sub.cons (d := 25) (hp525.nt 13 25 rfl rfl rfl) (Sub.cons (d := 26) (hp525.nt 14 26 rfl rfl rfl) (Sub.cons (d := 27) (hp525.nt 15 27 rfl rfl rfl) (Sub.cons (d := 28) (hp525.nt 16 28 rfl rfl rfl) (Sub.cons (d := 29) (hp525.nt 17 29 rfl rfl rfl) (Sub.cons (d := 30) (hp525.nt 18 30 rfl rfl rfl) (Sub.cons (d := 31) (hp525.nt 19 31 rfl rfl rfl) (Sub.cons (d := 32) (hp525.nt 20 32 rfl rfl rfl) (Sub.cons (d := 33) (hp525.nt 21 33 rfl rfl rfl) (Sub.cons (d := 34) (hp525.nt 22 34 rfl rfl rfl) (Sub.nil _))))))))))))))))))) (CW.cond_t rfl rfl (CW.seq (CW.region (sd rfl (yl_assign rfl rfl (dn ?_)))))))
     refine CW.ret (br (tr (tr ?_)))
     have hB548 : B_s_l3Writes_0 p_l k4 () = .ret false := by simp only [B_s_l3Writes_0, hb52, cL]
     have hL547 : loopM (B_s_l3Writes_0 p_l) (p_l.length - 0) 0 () = .ret false := hI31.symm.trans (loopM.ret hlt40 hB548)
     refine br (tr (rr rfl (.cons rfl .nil) ?_))
     have hM549 : (s_l3Writes p_l) = (false) := by simp only [s_l3Writes, hb52, hL547, cL]
     rw [hM549]
     exact ⟨rfl, (Ex.trans (Below.only (Ex.trans hf38 hE47) hO50 (by omega)) hE528)⟩
  ·refine CW.seq (CW.region (sd rfl (yl_lss rfl rfl rfl (dn (CW.seq (CW.cond_f rfl (lt_f hlt40) (CW.exit (tx ?_))))))))
   refine tx ?_
   have hL553 : loopM (B_s_l3Writes_0 p_l) (p_l.length - 0) 0 () = .done () := hI31.symm.trans (loopM.stop hlt40)
   refine bx (tn (CW.seq (CW.region (sd rfl (yl_move rfl rfl (sd rfl (yl_len un22 rfl rfl (sd rfl (yl_leq rfl rfl rfl (sd rfl (yl_assign rfl rfl (SeqR.done ?_))))))))))))
   refine tn (CW.ret (rr rfl (.cons rfl .nil) ?_))
   have hM554 : (s_l3Writes p_l) = (decide ((p_l.length : Int) ≤ 24)) := by simp only [s_l3Writes, hL553, cL]
   rw [hM554]
   exact ⟨rfl, hf38⟩
theorem c_s_l31Copy {A1 : Option Addr} {c1 : Nat} {w : World} (p_c : DCopy) (h1 : RdS w (Iv 0 w.heap.size) (RF e_Write) 3 A1 p_c.Rows.length c1 p_c.Rows) (o2 : ok_Copy p_c) : Cal Try.prog 53 #[.agg #[.int .i64 (p_c.Time), .slice A1 p_c.Rows.length c1]] w fun v w' => v = .bool ((s_l31Copy p_c)) ∧ Ex w w' := by
 have hol3 := o2.1
 refine Cal.of func53 rfl ntmps53 rfl (CW.seq (CW.region (sd rfl (yl_box rfl rfl rfl ?_))))
 intro b4 w5 hs6 hz7 hB8 hE9
 refine sd rfl (yl_assign rfl rfl (dn (CW.seq (CW.seq (CW.region (sd rfl (yl_assign rfl rfl (dn ?_))))))))
 refine CW.block (CW.loop (fun m11 L12 w13 => ∃ (k10 : Nat), m11 = p_c.Rows.length - k10 ∧ k10 ≤ p_c.Rows.length ∧ w5.heap.size ≤ w13.heap.size ∧ lkp L12 1 = some (.pointer (some ⟨b4, 0, none⟩)) ∧ lkp L12 3 = some (.int .i64 ((k10 : Int))) ∧ Box w13 b4 24 [.int .i64 (p_c.Time), .slice A1 p_c.Rows.length c1] ∧ RdS w13 (Iv 0 w.heap.size) (RF e_Write) 3 A1 p_c.Rows.length c1 p_c.Rows ∧ Ex w w13 ∧ loopM (B_s_l31Copy_0 p_c) (p_c.Rows.length - k10) k10 () = loopM (B_s_l31Copy_0 p_c) (p_c.Rows.length - 0) 0 ()) (p_c.Rows.length - 0) ?_ ?_)
 ·exact ⟨0, rfl, (by omega), Nat.le_refl _, rfl, rfl, hB8, (RdS.ex good_Write h1 hE9), (Ex.trans (Ex.refl w) hE9), rfl⟩
 ·rintro m16 L17 w18 ⟨k10, rfl, hk19, hsz21, hl22, hl23, hf24, hf25, hf26, hI20⟩
  refine CW.sub (Sub.cons hl22 (Sub.cons hl23 (Sub.nil _))) ?_
  have hf24z := Box.lt hf24
  have hf26z := Ex.size hf26
  have hbg27 := RdS.big hf25
  rcases Nat.lt_or_ge k10 p_c.Rows.length with hlt28 | hlt28
  ·refine CW.seq (CW.seq (CW.region (sd rfl (yl_move rfl rfl (sd rfl (yl_fieldAddr fd24_1 rfl rfl (sd rfl (yl_load1 ty22 rfl rfl ((hf24.cell 1).trans rfl) (sd rfl (yl_len un22 rfl rfl (sd rfl (yl_lss rfl rfl rfl (SeqR.done ?_)))))))))))))
   refine tn (CW.cond_t rfl (lt_t hlt28) (CW.skip (tn (CW.seq (CW.block (CW.seq (CW.region (sd rfl (yl_fieldAddr fd24_1 rfl rfl ?_)))))))))
   refine sd rfl (yl_load1 ty22 rfl rfl ((hf24.cell 1).trans rfl) (sd rfl (yl_move rfl rfl ?_)))
   obtain ⟨eb29, eo29, _, eA29, _, ebl29, _, eR29, eC29⟩ := RdS.aD hf25 d_Write (i := k10)
   obtain rfl := eR29
   have eC29 : Cells w18 eb29 (eo29 + k10 * 3) [.string (bs ((p_c.Rows.getD k10 d_Write).Key)), .string (bs ((p_c.Rows.getD k10 d_Write).Val)), .bool ((p_c.Rows.getD k10 d_Write).Gone)] := eC29
   refine sd rfl (yl_ixN un22 ty53 rfl rfl rfl eA29 (sd rfl (yl_fieldAddr fd53_2 rfl rfl (sd rfl (yl_load1 ty4 rfl rfl (eC29 2 _ rfl) (dn (bcase ((p_c.Rows.getD k10 d_Write).Gone) (fun hb30 => ?_) (fun hb30 => ?_))))))))
   ·refine CW.cond_t rfl hb30 (CW.seq (CW.region (sd rfl (yl_assign rfl rfl (dn (CW.ret (br (tr ?_))))))))
    refine tr ?_
    have hB32 : B_s_l31Copy_0 p_c k10 () = .ret false := by simp only [B_s_l31Copy_0, hb30, cL]
    have hL31 : loopM (B_s_l31Copy_0 p_c) (p_c.Rows.length - 0) 0 () = .ret false := hI20.symm.trans (loopM.ret hlt28 hB32)
    refine br (tr (rr rfl (.cons rfl .nil) ?_))
    have hM33 : (s_l31Copy p_c) = (false) := by simp only [s_l31Copy, hb30, hL31, cL]
    rw [hM33]
    exact ⟨rfl, hf26⟩
   ·refine CW.cond_f rfl hb30 (CW.skip (bn (tn (CW.region (sd rfl (yl_move rfl rfl (sd rfl (yl_inc rfl rfl rfl (by omega) (sd rfl (yl_assign rfl rfl (SeqR.done ?_)))))))))))
    refine tn ?_
    have hB34 : B_s_l31Copy_0 p_c k10 () = .cont () := by simp only [B_s_l31Copy_0, hb30, cL]
    exact ⟨p_c.Rows.length - (k10 + 1), by omega, k10 + 1, rfl, hlt28, (by omega), rfl, rfl, hf24, hf25, hf26, (loopM.cont hlt28 hB34).symm.trans hI20⟩
  ·refine CW.seq (CW.seq (CW.region (sd rfl (yl_move rfl rfl (sd rfl (yl_fieldAddr fd24_1 rfl rfl (sd rfl (yl_load1 ty22 rfl rfl ((hf24.cell 1).trans rfl) (sd rfl (yl_len un22 rfl rfl (sd rfl (yl_lss rfl rfl rfl (SeqR.done ?_)))))))))))))
   refine tn (CW.cond_f rfl (lt_f hlt28) (CW.exit (tx (tx ?_))))
   have hL35 : loopM (B_s_l31Copy_0 p_c) (p_c.Rows.length - 0) 0 () = .done () := hI20.symm.trans (loopM.stop hlt28)
   refine bx (tn (CW.seq (CW.region (sd rfl (yl_fieldAddr fd24_0 rfl rfl (sd rfl (yl_load1 ty3 rfl rfl ((hf24.cell 0).trans rfl) (sd rfl (yl_call en80 rfl (oc rfl (oc rfl (oc rfl oz))) (Cal.mono (c_s_l1In p_c.Time 0 100000) ?_))))))))))
   rintro v37 w36 ⟨rfl, hE38⟩
   have hE38z := Ex.size hE38
   refine sd rfl (yl_move rfl rfl (bcase (s_l1In p_c.Time 0 100000) (fun hb39 => ?_) (fun hb39 => ?_)))
   ·have hb39p := f_l1In hb39
    refine sy rfl rfl hb39 (yl_fieldAddr fd24_1 rfl rfl ?_)
    have q40 := Box.ex hf24 hE38
    refine sy rfl rfl hb39 (yl_load1 ty22 rfl rfl ((q40.cell 1).trans rfl) (sy rfl rfl hb39 (yl_call en81 rfl (oc rfl oz) (Cal.mono (c_s_l3Writes p_c.Rows (RdS.up (RdS.ex good_Write hf25 hE38) good_Write) o2) ?_))))
    rintro v43 w42 ⟨rfl, hE44⟩
    have hE44z := Ex.size hE44
    refine sd rfl (yl_pick_t rfl rfl hb39 rfl (sd rfl (yl_move rfl rfl (bcase (s_l3Writes p_c.Rows) (fun hb45 => ?_) (fun hb45 => ?_)))))
    ·refine sy rfl rfl hb45 (yl_fieldAddr fd24_0 rfl rfl ?_)
     have q46 := Box.ex q40 hE44
     refine sy rfl rfl hb45 (yl_load1 ty3 rfl rfl ((q46.cell 0).trans rfl) (sy rfl rfl hb45 (yl_gtr rfl rfl rfl (sy rfl rfl hb45 (yl_move rfl rfl (bcase (decide (0 < p_c.Time)) (fun hb47 => ?_) (fun hb47 => ?_)))))))
     ·have hb47p := dec_t hb47
      refine sz rfl rfl hb47 (sz rfl rfl hb47 (sz rfl rfl hb47 (sz rfl rfl hb47 (sy rfl rfl hb45 (yl_pick_t rfl rfl hb47 rfl (sd rfl (yl_pick_t rfl rfl hb45 rfl (sd rfl (yl_assign rfl rfl (dn ?_))))))))))
      refine CW.ret (rr rfl (.cons rfl .nil) ?_)
      have hM48 : (s_l31Copy p_c) = (true) := by simp only [s_l31Copy, hb39, hb45, hb47, hL35, cL]
      rw [hM48]
      exact ⟨rfl, (Ex.trans (Ex.trans hf26 hE38) hE44)⟩
     ·have hb47p := dec_f hb47
      refine sy rfl rfl hb47 (yl_fieldAddr fd24_1 rfl rfl (sy rfl rfl hb47 (yl_load1 ty22 rfl rfl ((q46.cell 1).trans rfl) (sy rfl rfl hb47 (yl_len un22 rfl rfl (sy rfl rfl hb47 (yl_eql rfl rfl rfl (sy rfl rfl hb45 (yl_pick_f rfl rfl hb47 rfl (sd rfl (yl_pick_t rfl rfl hb45 rfl (sd rfl (yl_assign rfl rfl (dn ?_))))))))))))))
      refine CW.ret (rr rfl (.cons rfl .nil) ?_)
      have hM51 : (s_l31Copy p_c) = (decide ((p_c.Rows.length : Int) = 0)) := by simp only [s_l31Copy, hb39, hb45, hb47, hL35, cL]
      rw [hM51]
      exact ⟨rfl, (Ex.trans (Ex.trans hf26 hE38) hE44)⟩
    ·refine sz rfl rfl hb45 (sz rfl rfl hb45 (sz rfl rfl hb45 (sz rfl rfl hb45 (sq rfl rfl (sq rfl rfl (sq rfl rfl (sq rfl rfl (sz rfl rfl hb45 ?_))))))))
     refine sd rfl (yl_pick_f rfl rfl hb45 rfl (sd rfl (yl_assign rfl rfl (dn (CW.ret (rr rfl (.cons rfl .nil) ?_))))))
     have hM54 : (s_l31Copy p_c) = (false) := by simp only [s_l31Copy, hb39, hb45, hL35, cL]
     rw [hM54]
     exact ⟨rfl, (Ex.trans (Ex.trans hf26 hE38) hE44)⟩
   ·refine sz rfl rfl hb39 (sz rfl rfl hb39 (sz rfl rfl hb39 (sd rfl (yl_pick_f rfl rfl hb39 rfl (sd rfl (yl_move rfl rfl (sz rfl rfl rfl (sz rfl rfl rfl (sz rfl rfl rfl (sz rfl rfl rfl ?_))))))))))
    refine sq rfl rfl (sq rfl rfl (sq rfl rfl (sq rfl rfl (sz rfl rfl rfl (sd rfl (yl_pick_f rfl rfl rfl rfl (sd rfl (yl_assign rfl rfl (dn ?_)))))))))
    refine CW.ret (rr rfl (.cons rfl .nil) ?_)
    have hM57 : (s_l31Copy p_c) = (false) := by simp only [s_l31Copy, hb39, hL35, cL]
    rw [hM57]
    exact ⟨rfl, (Ex.trans hf26 hE38)⟩
theorem c_s_l1TextB {w : World} (p_s : Str) (o1 : okS p_s) : Cal Try.prog 54 #[.string (bs (p_s))] w fun v w' => v = .string (bs ((s_l1TextB p_s))) ∧ Ex w w' := by
 have hol2 : p_s.length ≤ 1073741824 := o1
 refine Cal.of func54 rfl ntmps54 rfl (CW.seq (CW.region (sd rfl (yl_assign rfl rfl (dn (CW.seq (CW.region (sd rfl (yl_move rfl rfl ?_)))))))))
 refine sd rfl (yl_slen un9 (a := p_s) rfl rfl (sd rfl (yl_call en52 rfl (oc rfl oz) (Cal.mono (c_s_l1NumB (p_s.length : Int) (by first | omega | assumption | (simp only [wI] at *; omega))) ?_))))
 rintro v4 w3 ⟨rfl, hE5⟩
 have hE5z := Ex.size hE5
 have hrf6 := rf_l1NumB (p_s.length : Int) (by first | omega | assumption | (simp only [wI] at *; omega))
 refine sd rfl (yl_move rfl rfl ?_)
 have hol7 : p_s.length ≤ 1073741824 := o1
 refine sd rfl (yl_sadd (a := (s_l1NumB (p_s.length : Int))) (b := p_s) rfl rfl rfl (by first | omega | (simp only [List.length_append, List.length_cons, List.length_nil, List.length_take, List.length_drop, toS_length]; omega)) (sd rfl (yl_assign rfl rfl (dn (CW.ret (rr rfl (.cons rfl .nil) ?_))))))
 have hM8 : (s_l1TextB p_s) = ((s_l1NumB (p_s.length : Int)) ++ p_s) := by simp only [s_l1TextB, cL]
 rw [hM8]
 exact ⟨rfl, (Ex.trans (Ex.refl w) hE5)⟩
theorem c_s_CopyBytes {A1 : Option Addr} {c1 : Nat} {w : World} (p_c : DCopy) (h1 : RdS w (Iv 0 w.heap.size) (RF e_Write) 3 A1 p_c.Rows.length c1 p_c.Rows) (o2 : ok_Copy p_c) : Cal Try.prog 25 #[.agg #[.int .i64 (p_c.Time), .slice A1 p_c.Rows.length c1]] w fun v w' => v = .tuple #[.string (bs ((s_CopyBytes p_c).1)), .bool ((s_CopyBytes p_c).2)] ∧ Ex w w' := by
 have hol3 := o2.1
 refine Cal.of func25 rfl ntmps25 rfl (CW.seq (CW.region (sd rfl (yl_box rfl rfl rfl ?_))))
 intro b4 w5 hs6 hz7 hB8 hE9
 refine sd rfl (yl_assign rfl rfl (sd rfl (yl_assign rfl rfl (dn (CW.seq (CW.seq (CW.region (sd rfl (yl_loadN ty24 rfl rfl (hB8.cells (n := 2) rfl) rfl ?_)))))))))
 have q10 := RdS.ex good_Write h1 hE9
 refine sd rfl (yl_call en53 rfl (oc rfl oz) (Cal.mono (c_s_l31Copy p_c (RdS.up q10 good_Write) o2) ?_))
 rintro v12 w11 ⟨rfl, hE13⟩
 have hE13z := Ex.size hE13
 refine sd rfl (yl_not rfl rfl (dn (bcase (s_l31Copy p_c) (fun hb14 => ?_) (fun hb14 => ?_))))
 ·obtain ⟨hb14p0, hb14p1⟩ := f_s_l31Copy hb14
  refine CW.cond_f rfl (not_t hb14) (CW.skip (tn (CW.seq ?_)))
  have q15 := Box.ex hB8 hE13
  have hrf18 := rf_l1NumB p_c.Time (by first | omega | assumption | (simp only [wI] at *; omega))
  have hrf19 := rf_l1NumB (p_c.Rows.length : Int) (by first | omega | assumption | (simp only [wI] at *; omega))
  refine CW.drawsI 9 (vgetI ([.pointer (some ⟨b4, 0 + 0, none⟩), .int .i64 (p_c.Time), .string (bs ((s_l1NumB p_c.Time))), .pointer (some ⟨b4, 0 + 1, none⟩), .slice A1 p_c.Rows.length c1, .int .i64 ((p_c.Rows.length : Int)), .string (bs ((s_l1NumB (p_c.Rows.length : Int)))), .string (bs ((s_l1NumB p_c.Time) ++ (s_l1NumB (p_c.Rows.length : Int)))), .string (bs ((s_l1NumB p_c.Time) ++ (s_l1NumB (p_c.Rows.length : Int))))].map DetI)) Try.follows rfl rfl rfl rfl rfl rfl (vgetI_stable (stD _)) ⟨?_, ?_, ?_, ?_, ?_, ?_, ?_, ?_, ?_, trivial⟩ ?_
  ·exact oI rfl fun h => yl_fieldAddr fd24_0 rfl (h.old 1 _ rfl rfl) kI
  ·exact oI rfl fun h => yl_load1 ty3 rfl (h.dt 0 9 rfl rfl rfl) (((Box.ex q15 h.ex).cell 0).trans rfl) kI
  ·intro L31 w32 hi33
   have hE34 := hi33.ex
   have hE34z := Ex.size hE34
   exact OpR.op' rfl (yl_call en52 rfl (oc (hi33.dt 1 10 rfl rfl rfl) oz) (Cal.mono (c_s_l1NumB p_c.Time (by first | omega | assumption | (simp only [wI] at *; omega))) fun _ _ h => h))
  ·exact oI rfl fun h => yl_fieldAddr fd24_1 rfl (h.old 1 _ rfl rfl) kI
  ·exact oI rfl fun h => yl_load1 ty22 rfl (h.dt 3 12 rfl rfl rfl) (((Box.ex q15 h.ex).cell 1).trans rfl) kI
  ·exact oI rfl fun h => yl_len un22 rfl (h.dt 4 13 rfl rfl rfl) kI
  ·intro L55 w56 hi57
   have hE58 := hi57.ex
   have hE58z := Ex.size hE58
   exact OpR.op' rfl (yl_call en52 rfl (oc (hi57.dt 5 14 rfl rfl rfl) oz) (Cal.mono (c_s_l1NumB (p_c.Rows.length : Int) (by first | omega | assumption | (simp only [wI] at *; omega))) fun _ _ h => h))
  ·intro L63 w64 hi65
   have hE66 := hi65.ex
   have hE66z := Ex.size hE66
   exact os rfl ((yl_sadd (a := (s_l1NumB p_c.Time)) (b := (s_l1NumB (p_c.Rows.length : Int))) rfl (hi65.dt 2 11 rfl rfl rfl) (hi65.dt 6 15 rfl rfl rfl) (by first | omega | (simp only [List.length_append, List.length_cons, List.length_nil, List.length_take, List.length_drop, toS_length]; omega)) kI))
  ·exact oI rfl fun h => yl_assign rfl (h.dt 7 16 rfl rfl rfl) kI
  ·intro fl77 fh78 L74 w75 hp76
   have hE79 := hp76.ex
   have hE79z := Ex.size hE79
   refine dn (CW.sub (Sub.cons (d := 1) (hp76.old 1 _ rfl rfl) (Sub.cons (d := 4) (hp76.nt 8 4 rfl rfl rfl) (Sub.nil _))) (CW.seq (CW.seq (CW.region (sd rfl (yl_assign rfl rfl (dn ?_)))))))
   refine CW.block (CW.loop (fun m90 L91 w92 => ∃ (k82 : Nat) (x89 : Str), m90 = p_c.Rows.length - k82 ∧ k82 ≤ p_c.Rows.length ∧ w75.heap.size ≤ w92.heap.size ∧ lkp L91 1 = some (.pointer (some ⟨b4, 0, none⟩)) ∧ lkp L91 4 = some (.string (bs (x89))) ∧ lkp L91 5 = some (.int .i64 ((k82 : Int))) ∧ Box w92 b4 24 [.int .i64 (p_c.Time), .slice A1 p_c.Rows.length c1] ∧ RdS w92 (Iv 0 w.heap.size) (RF e_Write) 3 A1 p_c.Rows.length c1 p_c.Rows ∧ Ex w w92 ∧ x89.length ≤ (s_l1NumB p_c.Time).length + (s_l1NumB (p_c.Rows.length : Int)).length + 46 * (k82 - 0) ∧ loopM (B_s_CopyBytes_0 p_c) (p_c.Rows.length - k82) k82 (x89) = loopM (B_s_CopyBytes_0 p_c) (p_c.Rows.length - 0) 0 ((s_l1NumB p_c.Time) ++ (s_l1NumB (p_c.Rows.length : Int)))) (p_c.Rows.length - 0) ?_ ?_)
   ·exact ⟨0, (s_l1NumB p_c.Time) ++ (s_l1NumB (p_c.Rows.length : Int)), rfl, (by omega), Nat.le_refl _, rfl, rfl, rfl, (Box.ex q15 hE79), (RdS.ex good_Write (RdS.ex good_Write q10 hE13) hE79), (Ex.trans (Ex.trans (Ex.trans (Ex.refl w) hE9) hE13) hE79), (by first | (simp; done) | (first | omega | (simp only [List.length_append, List.length_cons, List.length_nil, List.length_set, toS_length]; omega))), rfl⟩
   ·rintro m99 L100 w101 ⟨k82, x89, rfl, hk102, hsz104, hl105, hl106, hl107, hf108, hf109, hf110, hln111, hI103⟩
    refine CW.sub (Sub.cons hl105 (Sub.cons hl106 (Sub.cons hl107 (Sub.nil _)))) ?_
    have hf108z := Box.lt hf108
    have hf110z := Ex.size hf110
    have hbg112 := RdS.big hf109
    rcases Nat.lt_or_ge k82 p_c.Rows.length with hlt113 | hlt113
    ·have hcp3 := ‹copyShort _› k82 hlt113
     refine CW.seq (CW.seq (CW.region (sd rfl (yl_move rfl rfl (sd rfl (yl_fieldAddr fd24_1 rfl rfl (sd rfl (yl_load1 ty22 rfl rfl ((hf108.cell 1).trans rfl) (sd rfl (yl_len un22 rfl rfl (sd rfl (yl_lss rfl rfl rfl (SeqR.done ?_)))))))))))))
     refine tn (CW.cond_t rfl (lt_t hlt113) (CW.skip (tn (CW.seq (CW.block ?_)))))
     obtain ⟨eb114, eo114, _, eA114, _, ebl114, _, eR114, eC114⟩ := RdS.aD hf109 d_Write (i := k82)
     obtain rfl := eR114
     have eC114 : Cells w101 eb114 (eo114 + k82 * 3) [.string (bs ((p_c.Rows.getD k82 d_Write).Key)), .string (bs ((p_c.Rows.getD k82 d_Write).Val)), .bool ((p_c.Rows.getD k82 d_Write).Gone)] := eC114
     have hrf117 := rf_l1TextB ((p_c.Rows.getD k82 d_Write).Key) (by omega)
     have hrf118 := rf_l1TextB ((p_c.Rows.getD k82 d_Write).Val) (by omega)
     refine CW.drawsI 18 (vgetI ([.string (bs (x89)), .pointer (some ⟨b4, 0 + 1, none⟩), .slice A1 p_c.Rows.length c1, .int .i64 ((k82 : Int)), .pointer (some ⟨eb114, eo114 + k82 * 3, none⟩), .pointer (some ⟨eb114, eo114 + k82 * 3 + 0, none⟩), .string (bs ((p_c.Rows.getD k82 d_Write).Key)), .string (bs ((s_l1TextB ((p_c.Rows.getD k82 d_Write).Key)))), .string (bs (x89 ++ (s_l1TextB ((p_c.Rows.getD k82 d_Write).Key)))), .pointer (some ⟨b4, 0 + 1, none⟩), .slice A1 p_c.Rows.length c1, .int .i64 ((k82 : Int)), .pointer (some ⟨eb114, eo114 + k82 * 3, none⟩), .pointer (some ⟨eb114, eo114 + k82 * 3 + 1, none⟩), .string (bs ((p_c.Rows.getD k82 d_Write).Val)), .string (bs ((s_l1TextB ((p_c.Rows.getD k82 d_Write).Val)))), .string (bs ((x89 ++ (s_l1TextB ((p_c.Rows.getD k82 d_Write).Key))) ++ (s_l1TextB ((p_c.Rows.getD k82 d_Write).Val)))), .string (bs ((x89 ++ (s_l1TextB ((p_c.Rows.getD k82 d_Write).Key))) ++ (s_l1TextB ((p_c.Rows.getD k82 d_Write).Val))))].map DetI)) Try.follows rfl rfl rfl rfl rfl rfl (vgetI_stable (stD _)) ⟨?_, ?_, ?_, ?_, ?_, ?_, ?_, ?_, ?_, ?_, ?_, ?_, ?_, ?_, ?_, ?_, ?_, ?_, trivial⟩ ?_
     ·exact oI rfl fun h => yl_move rfl (h.old 4 _ rfl rfl) kI
     ·exact oI rfl fun h => yl_fieldAddr fd24_1 rfl (h.old 1 _ rfl rfl) kI
     ·exact oI rfl fun h => yl_load1 ty22 rfl (h.dt 1 25 rfl rfl rfl) (((Box.ex hf108 h.ex).cell 1).trans rfl) kI
     ·exact oI rfl fun h => yl_move rfl (h.old 5 _ rfl rfl) kI
     ·intro L140 w141 hi142
      have hE143 := hi142.ex
      have hE143z := Ex.size hE143
      exact os rfl ((yl_ixN un22 ty53 rfl (hi142.dt 2 26 rfl rfl rfl) (hi142.dt 3 27 rfl rfl rfl) eA114 kI))
     ·exact oI rfl fun h => yl_fieldAddr fd53_0 rfl (h.dt 4 28 rfl rfl rfl) kI
     ·exact oI rfl fun h => yl_load1 ty9 rfl (h.dt 5 29 rfl rfl rfl) ((Cells.ex eC114 h.ex) 0 _ rfl) kI
     ·intro L157 w158 hi159
      exact OpR.op' rfl (yl_call en54 rfl (oc (hi159.dt 6 30 rfl rfl rfl) oz) (Cal.mono (c_s_l1TextB ((p_c.Rows.getD k82 d_Write).Key) ((okL.getD o2 ok_d_Write _).1)) fun _ _ h => h))
     ·intro L165 w166 hi167
      have hE168 := hi167.ex
      have hE168z := Ex.size hE168
      exact os rfl ((yl_sadd (a := x89) (b := (s_l1TextB ((p_c.Rows.getD k82 d_Write).Key))) rfl (hi167.dt 0 24 rfl rfl rfl) (hi167.dt 7 31 rfl rfl rfl) (by first | omega | (simp only [List.length_append, List.length_cons, List.length_nil, List.length_take, List.length_drop, toS_length]; omega)) kI))
     ·exact oI rfl fun h => yl_fieldAddr fd24_1 rfl (h.old 1 _ rfl rfl) kI
     ·exact oI rfl fun h => yl_load1 ty22 rfl (h.dt 9 33 rfl rfl rfl) (((Box.ex hf108 h.ex).cell 1).trans rfl) kI
     ·exact oI rfl fun h => yl_move rfl (h.old 5 _ rfl rfl) kI
     ·intro L187 w188 hi189
      have hE190 := hi189.ex
      have hE190z := Ex.size hE190
      exact os rfl ((yl_ixN un22 ty53 rfl (hi189.dt 10 34 rfl rfl rfl) (hi189.dt 11 35 rfl rfl rfl) eA114 kI))
     ·exact oI rfl fun h => yl_fieldAddr fd53_1 rfl (h.dt 12 36 rfl rfl rfl) kI
     ·exact oI rfl fun h => yl_load1 ty9 rfl (h.dt 13 37 rfl rfl rfl) ((Cells.ex eC114 h.ex) 1 _ rfl) kI
     ·intro L204 w205 hi206
      exact OpR.op' rfl (yl_call en54 rfl (oc (hi206.dt 14 38 rfl rfl rfl) oz) (Cal.mono (c_s_l1TextB ((p_c.Rows.getD k82 d_Write).Val) ((okL.getD o2 ok_d_Write _).2)) fun _ _ h => h))
     ·intro L212 w213 hi214
      have hE215 := hi214.ex
      have hE215z := Ex.size hE215
      exact os rfl ((yl_sadd (a := (x89 ++ (s_l1TextB ((p_c.Rows.getD k82 d_Write).Key)))) (b := (s_l1TextB ((p_c.Rows.getD k82 d_Write).Val))) rfl (hi214.dt 8 32 rfl rfl rfl) (hi214.dt 15 39 rfl rfl rfl) (by first | omega | (simp only [List.length_append, List.length_cons, List.length_nil, List.length_take, List.length_drop, toS_length]; omega)) kI))
     ·exact oI rfl fun h => yl_assign rfl (h.dt 16 40 rfl rfl rfl) kI
     ·intro fl226 fh227 L223 w224 hp225
      have hE228 := hp225.ex
      have hE228z := Ex.size hE228
      refine SeqR.done (bn (tn (CW.sub (Sub.cons (d := 1) (hp225.old 1 _ rfl rfl) (Sub.cons (d := 4) (hp225.nt 17 4 rfl rfl rfl) (Sub.cons (d := 5) (hp225.old 5 _ rfl rfl) (Sub.nil _)))) (CW.region (sd rfl (yl_move rfl rfl (sd rfl (yl_inc rfl rfl rfl (by omega) (sd rfl (yl_assign rfl rfl (SeqR.done ?_)))))))))))
      refine tn ?_
      have hB232 : B_s_CopyBytes_0 p_c k82 (x89) = .cont ((x89 ++ (s_l1TextB ((p_c.Rows.getD k82 d_Write).Key))) ++ (s_l1TextB ((p_c.Rows.getD k82 d_Write).Val))) := by simp only [B_s_CopyBytes_0, hb14, cL]
      exact ⟨p_c.Rows.length - (k82 + 1), by omega, k82 + 1, (x89 ++ (s_l1TextB ((p_c.Rows.getD k82 d_Write).Key))) ++ (s_l1TextB ((p_c.Rows.getD k82 d_Write).Val)), rfl, hlt113, (by omega), rfl, rfl, rfl, (Box.ex hf108 hE228), (RdS.ex good_Write hf109 hE228), (Ex.trans hf110 hE228), (by first | omega | (simp only [List.length_append, List.length_cons, List.length_nil, List.length_set, toS_length]; omega)), (loopM.cont hlt113 hB232).symm.trans hI103⟩
    ·refine CW.seq (CW.seq (CW.region (sd rfl (yl_move rfl rfl (sd rfl (yl_fieldAddr fd24_1 rfl rfl (sd rfl (yl_load1 ty22 rfl rfl ((hf108.cell 1).trans rfl) (sd rfl (yl_len un22 rfl rfl (sd rfl (yl_lss rfl rfl rfl (SeqR.done ?_)))))))))))))
     refine tn (CW.cond_f rfl (lt_f hlt113) (CW.exit (tx (tx ?_))))
     have hL236 : loopM (B_s_CopyBytes_0 p_c) (p_c.Rows.length - 0) 0 ((s_l1NumB p_c.Time) ++ (s_l1NumB (p_c.Rows.length : Int))) = .done (x89) := hI103.symm.trans (loopM.stop hlt113)
     refine bx (tn (CW.seq (CW.region (sd rfl (yl_move rfl rfl (sd rfl (yl_call en51 rfl (oc rfl oz) (Cal.mono (c_s_l1Seal x89 (by unfold okS; omega)) ?_))))))))
     rintro v238 w237 ⟨rfl, hE239⟩
     have hE239z := Ex.size hE239
     have hrf240 := rf_l1Seal x89
     refine sd rfl (yl_assign rfl rfl (sd rfl (yl_assign rfl rfl (dn (CW.ret (rr rfl (.cons rfl (.cons rfl .nil)) ?_))))))
     have hM241 : (s_CopyBytes p_c) = (((s_l1Seal x89), true)) := by simp only [s_CopyBytes, hb14, hL236, cL]
     rw [hM241]
     exact ⟨rfl, (Ex.trans hf110 hE239)⟩
 ·refine CW.cond_t rfl (not_f hb14) (CW.seq (CW.region (sd rfl (yl_assign rfl rfl (sd rfl (yl_assign rfl rfl (dn (CW.ret (tr ?_)))))))))
  refine rr rfl (.cons rfl (.cons rfl .nil)) ?_
  have hM243 : (s_CopyBytes p_c) = ((([] : Str), false)) := by simp only [s_CopyBytes, hb14, cL]
  rw [hM243]
  exact ⟨rfl, (Ex.trans (Ex.trans (Ex.refl w) hE9) hE13)⟩
theorem c_s_ReadCopy {w : World} (p_0 : Str) (o1 : okS p_0) : Cal Try.prog 6 #[.string (bs (p_0))] w fun v w' => ∃ A_1 c_1 lo_1 hi_1, v = .tuple #[.agg #[.int .i64 ((s_ReadCopy p_0).1.Time), .slice A_1 (((s_ReadCopy p_0).1.Rows).length) c_1], .bool ((s_ReadCopy p_0).2)] ∧ OwnL w' lo_1 hi_1 53 3 (RF e_Write) A_1 (((s_ReadCopy p_0).1.Rows).length) c_1 ((s_ReadCopy p_0).1.Rows) ∧ ok_Copy ((s_ReadCopy p_0).1) ∧ (w.heap.size ≤ lo_1 ∧ lo_1 ≤ hi_1 ∧ hi_1 ≤ w'.heap.size) ∧ Ex w w' := by
 have hol2 : p_0.length ≤ 1073741824 := o1
 refine Cal.of func6 rfl ntmps6 rfl (CW.seq (CW.region (sd rfl (yl_alloc ty24 (cs := [.int .i64 (0), .slice none 0 0]) rfl rfl ?_))))
 intro b3 w4 hs5 hz6 hB7 hE8
 refine sd rfl (yl_assign rfl rfl (dn (CW.seq (CW.region (sd rfl (yl_move rfl rfl (sd rfl (yl_call en22 rfl (oc rfl oz) (Cal.mono (c_s_OpenSeal p_0 o1) ?_)))))))))
 rintro v11 w9 ⟨rfl, ho10, hE12⟩
 have hE12z := Ex.size hE12
 refine sd rfl (yl_move rfl rfl (sd rfl (yl_extract rfl rfl rfl (sd rfl (yl_extract rfl rfl rfl (sd rfl (yl_assign rfl rfl (sd rfl (yl_assign rfl rfl (dn (CW.seq (CW.region ?_))))))))))))
 refine sd rfl (yl_move rfl rfl (sd rfl (yl_build (cs := [.string (bs ((s_OpenSeal p_0).1)), .int .i64 (0), .bool (false)]) rfl (oc rfl oz) (by kernel_rfl) (sd rfl (yl_box rfl rfl rfl ?_)))))
 intro b13 w14 hs15 hz16 hB17 hE18
 refine sd rfl (yl_assign rfl rfl (dn (CW.seq (CW.region (sd rfl (yl_move rfl rfl (sd rfl (yl_call en23 rfl (oc rfl oz) (Cal.mono (c_s_l1R_num ((s_OpenSeal p_0).1) (0, false) hB17 ho10 (by first | omega | assumption | (simp only [wI] at *; omega))) ?_)))))))))
 rintro v20 w19 ⟨rfl, hB22, hc21⟩
 have hc21z := Chg.size hc21
 have hB22z := Box.lt hB22
 have hrf23 := rf_rnum ho10 (0, false)  (by first | omega | assumption | (simp only [wI] at *; omega))
 refine sd rfl (yl_buildSlice (cs := []) un22 ty53 (by decide) rfl opvs_nil (by kernel_rfl) ?_)
 intro b24 w25 hs26 hz27 hB28 hE29
 have hO30 : OwnL w25 b24 (b24 + 1) 53 3 (RF e_Write) (some ⟨b24, 0, none⟩) 0 0 ([] : List DWrite) := OwnL.of_box (S := fun _ => False) hB28 (Nat.le_refl _) (Nat.lt_succ_self _) EncL.nil (Nat.le_of_ble_eq_true rfl) (fun h => h) (fun _ h => False.elim h)
 refine sd rfl (yl_build (cs := [.int .i64 ((s_l1R_num ((s_OpenSeal p_0).1) (0, false)).1), .slice (some ⟨b24, 0, none⟩) 0 0]) rfl (oc rfl (oc rfl oz)) (by kernel_rfl) (sd rfl (yl_alloc ty24 (cs := [.int .i64 (0), .slice none 0 0]) rfl rfl ?_)))
 intro b31 w32 hs33 hz34 hB35 hE36
 refine SeqR.u rfl rfl (yl_store (vs := [.int .i64 ((s_l1R_num ((s_OpenSeal p_0).1) (0, false)).1), .slice (some ⟨b24, 0, none⟩) 0 0]) ty24 rfl rfl rfl rfl rfl rfl hB35 (Nat.le_of_ble_eq_true rfl) ?_)
 intro w37 hB38 hO39
 have hB38 : Box w37 b31 24 [.int .i64 ((s_l1R_num ((s_OpenSeal p_0).1) (0, false)).1), .slice (some ⟨b24, 0, none⟩) 0 0] := hB38
 have hO39z := hO39.size
 refine dn (CW.seq (CW.region (sd rfl (yl_move rfl rfl (sd rfl (yl_call en23 rfl (oc rfl oz) (Cal.mono (c_s_l1R_num ((s_OpenSeal p_0).1) ((s_l1R_num ((s_OpenSeal p_0).1) (0, false)).2) (Box.only (Box.ex (Box.ex hB22 hE29) hE36) hO39 (by omega)) ho10 (by first | omega | assumption | (simp only [wI] at *; omega))) ?_)))))))
 rintro v44 w43 ⟨rfl, hB46, hc45⟩
 have hc45z := Chg.size hc45
 have hB46z := Box.lt hB46
 have hrf47 := rf_rnum ho10 ((s_l1R_num ((s_OpenSeal p_0).1) (0, false)).2)  (by first | omega | assumption | (simp only [wI] at *; omega))
 refine sd rfl (yl_assign rfl rfl (dn (CW.seq (CW.seq (CW.region (sd rfl (yl_assign rfl rfl (dn ?_))))))))
 refine CW.block ?_
 have q90 := Box.ex (Box.ex hB7 hE12) hE18
 have q94 := Box.only (Box.ex (Box.ex (Box.chg q90 hc21 (by have := Box.lt q90; simp only [InR, or_false]; omega)) hE29) hE36) hO39 (by omega)
 refine CW.loop (fun m86 L87 w88 => ∃ (x79 : Int) (x80 : Int) (x81 : Bool) (x82 : List DWrite) (A83 : Option Addr) (c84 : Nat) (u85 : Nat), ((24 - (x79 : Int)).toNat) < m86 ∧ w43.heap.size ≤ w88.heap.size ∧ lkp L87 0 = some (.string (bs (p_0))) ∧ lkp L87 2 = some (.pointer (some ⟨b3, 0, none⟩)) ∧ lkp L87 5 = some (.bool ((s_OpenSeal p_0).2)) ∧ lkp L87 6 = some (.pointer (some ⟨b13, 0, none⟩)) ∧ lkp L87 7 = some (.pointer (some ⟨b31, 0, none⟩)) ∧ lkp L87 8 = some (.int .i64 ((s_l1R_num ((s_OpenSeal p_0).1) ((s_l1R_num ((s_OpenSeal p_0).1) (0, false)).2)).1)) ∧ lkp L87 9 = some (.int .i64 (x79)) ∧ Box w88 b3 24 [.int .i64 (0), .slice none 0 0] ∧ Box w88 b13 49 [.string (bs ((s_OpenSeal p_0).1)), .int .i64 (x80), .bool (x81)] ∧ Box w88 b31 24 [.int .i64 ((s_l1R_num ((s_OpenSeal p_0).1) (0, false)).1), .slice A83 x82.length c84] ∧ OwnL w88 w43.heap.size u85 53 3 (RF e_Write) A83 x82.length c84 x82 ∧ Ex w w88 ∧ (w43.heap.size ≤ u85 ∧ u85 ≤ w88.heap.size) ∧ x82.length + 1 * ((24 - (x79 : Int)).toNat) ≤ 0 + 1 * ((24 - (0 : Int)).toNat) ∧ (∀ y ∈ x82, ok_Write y) ∧ (0 ≤ x80 ∧ x80 ≤ ((s_OpenSeal p_0).1.length : Int)) ∧ (0 ≤ x79 ∧ x79 ≤ 24) ∧ loopW (B_s_ReadCopy_0 p_0) m86 (x79, x80, x81, x82) = loopW (B_s_ReadCopy_0 p_0) (((24 - (0 : Int)).toNat) + 1) (0, ((s_l1R_num ((s_OpenSeal p_0).1) ((s_l1R_num ((s_OpenSeal p_0).1) (0, false)).2)).2).1, ((s_l1R_num ((s_OpenSeal p_0).1) ((s_l1R_num ((s_OpenSeal p_0).1) (0, false)).2)).2).2, ([] : List DWrite))) (((24 - (0 : Int)).toNat) + 1) ?_ ?_
 ·exact ⟨0, ((s_l1R_num ((s_OpenSeal p_0).1) ((s_l1R_num ((s_OpenSeal p_0).1) (0, false)).2)).2).1, ((s_l1R_num ((s_OpenSeal p_0).1) ((s_l1R_num ((s_OpenSeal p_0).1) (0, false)).2)).2).2, ([] : List DWrite), (some ⟨b24, 0, none⟩), 0, w43.heap.size, Nat.lt_succ_self _, Nat.le_refl _, rfl, rfl, rfl, rfl, rfl, rfl, rfl, (Box.chg q94 hc45 (by have := Box.lt q94; simp only [InR, or_false]; omega)), hB46, (Box.chg hB38 hc45 (by have := Box.lt hB38; simp only [InR, or_false]; omega)), (OwnL.empty w43 w43.heap.size w43.heap.size 53 3 (RF e_Write) (some ⟨b24, 0, none⟩)), (Ex.chg (Below.only (Ex.trans (Ex.trans (Ex.chg (Ex.trans (Ex.trans (Ex.trans (Ex.refl w) hE8) hE12) hE18) hc21 (fun k hk => by simp only [InR, or_false] at hk; omega)) hE29) hE36) hO39 (by omega)) hc45 (fun k hk => by simp only [InR, or_false] at hk; omega)), (by omega), (by first | (simp; done) | (first | omega | (simp only [List.length_append, List.length_cons, List.length_nil, List.length_set, toS_length]; omega))), okE.nil, (by first | omega | assumption | (simp only [wI] at *; omega)), (by first | omega | assumption | (simp only [wI] at *; omega)), rfl⟩
 ·rintro m105 L106 w107 ⟨x79, x80, x81, x82, A83, c84, u85, hk108, hsz110, hl111, hl112, hl113, hl114, hl115, hl116, hl117, hf118, hf119, hf120, hf121, hf122, hu123, hln124, hok125, hv126, hv127, hI109⟩
  refine CW.sub (Sub.cons hl111 (Sub.cons hl112 (Sub.cons hl113 (Sub.cons hl114 (Sub.cons hl115 (Sub.cons hl116 (Sub.cons hl117 (Sub.nil _)))))))) ?_
  have hf118z := Box.lt hf118
  have hf119z := Box.lt hf119
  have hf120z := Box.lt hf120
  have hf122z := Ex.size hf122
  refine CW.seq (CW.seq (CW.region (sd rfl (yl_move rfl rfl (sd rfl (yl_move rfl rfl (sd rfl (yl_lss rfl rfl rfl (sd rfl (yl_move rfl rfl (bcase (decide (x79 < ((s_l1R_num ((s_OpenSeal p_0).1) ((s_l1R_num ((s_OpenSeal p_0).1) (0, false)).2)).1))) (fun hb128 => ?_) (fun hb128 => ?_))))))))))))
  ·have hb128p := dec_t hb128
   refine sy rfl rfl hb128 (yl_move rfl rfl (sy rfl rfl hb128 (yl_lss rfl rfl rfl (sd rfl (yl_pick_t rfl rfl hb128 rfl (sd rfl (yl_move rfl rfl (bcase (decide (x79 < 24)) (fun hb129 => ?_) (fun hb129 => ?_)))))))))
   ·have hb129p := dec_t hb129
    refine sy rfl rfl hb129 (yl_move rfl rfl (sy rfl rfl hb129 (yl_nil rfl rfl (sy rfl rfl hb129 (yl_fieldAddr fd49_2 rfl rfl (sy rfl rfl hb129 (yl_load1 ty4 rfl rfl ((hf119.cell 2).trans rfl) (sy rfl rfl hb129 (yl_not rfl rfl (sd rfl (yl_pick_t rfl rfl hb129 rfl (dn (bcase (x81) (fun hb130 => ?_) (fun hb130 => ?_))))))))))))))
    ·refine CW.cond_f rfl (not_t hb130) (CW.exit (tx (tx ?_)))
     have hB132 : B_s_ReadCopy_0 p_0 (x79, x80, x81, x82) = .brk (x79, x80, x81, x82) := by simp only [B_s_ReadCopy_0, hb128, hb129, hb130, cL]
     have hL131 : loopW (B_s_ReadCopy_0 p_0) (((24 - (0 : Int)).toNat) + 1) (0, ((s_l1R_num ((s_OpenSeal p_0).1) ((s_l1R_num ((s_OpenSeal p_0).1) (0, false)).2)).2).1, ((s_l1R_num ((s_OpenSeal p_0).1) ((s_l1R_num ((s_OpenSeal p_0).1) (0, false)).2)).2).2, ([] : List DWrite)) = .done (x79, x80, x81, x82) := hI109.symm.trans (loopW.brk hk108 hB132)
     refine bx (tn (CW.seq (CW.seq (CW.region (sd rfl (yl_loadN ty24 rfl rfl (hf120.cells (n := 2) rfl) rfl (sd rfl (yl_call en25 rfl (oc rfl oz) (Cal.mono (c_s_CopyBytes (⟨(s_l1R_num ((s_OpenSeal p_0).1) (0, false)).1, x82⟩ : DCopy) (RdS.up (OwnL.rd good_Write hf121) good_Write) (okL.mk (xs := x82) (by first | omega | (simp only [List.length_append, List.length_cons, List.length_nil, List.length_take, List.length_drop, List.length_replicate, List.length_set, toS_length]; omega)) hok125)) ?_)))))))))
     rintro v135 w134 ⟨rfl, hE136⟩
     have hE136z := Ex.size hE136
     refine sd rfl (yl_move rfl rfl (sd rfl (yl_extract rfl rfl rfl (sd rfl (yl_extract rfl rfl rfl (sd rfl (yl_assign rfl rfl (sd rfl (yl_assign rfl rfl (dn (CW.seq (CW.region ?_))))))))))))
     refine sd rfl (yl_move rfl rfl (sd rfl (yl_not rfl rfl (sd rfl (yl_move rfl rfl (bcase ((s_OpenSeal p_0).2) (fun hb137 => ?_) (fun hb137 => ?_)))))))
     ·refine sy rfl rfl (not_t hb137) (yl_move rfl rfl (sy rfl rfl (not_t hb137) (yl_nil rfl rfl (sy rfl rfl (not_t hb137) (yl_fieldAddr fd49_2 rfl rfl (sy rfl rfl (not_t hb137) (yl_load1 ty4 rfl rfl (((Box.ex hf119 hE136).cell 2).trans rfl) (sd rfl (yl_pick_f rfl rfl (not_t hb137) rfl (sd rfl (yl_move rfl rfl (sz rfl rfl hb130 (sz rfl rfl hb130 (sd rfl (yl_pick_t rfl rfl hb130 rfl ?_)))))))))))))))
      refine sd rfl (yl_move rfl rfl (sz rfl rfl rfl (sz rfl rfl rfl (sz rfl rfl rfl (sd rfl (yl_pick_t rfl rfl rfl rfl (dn (CW.cond_t rfl rfl (CW.seq ?_)))))))))
      refine CW.region (sd rfl (yl_build (cs := [.int .i64 (0), .slice none 0 0]) rfl opvs_nil (by kernel_rfl) (SeqR.u rfl rfl (yl_store (vs := [.int .i64 (0), .slice none 0 0]) ty24 rfl rfl rfl rfl rfl rfl (Box.ex hf118 hE136) (Nat.le_of_ble_eq_true rfl) ?_))))
      intro w140 hB141 hO142
      have hB141 : Box w140 b3 24 [.int .i64 (0), .slice none 0 0] := hB141
      have hO142z := hO142.size
      refine sd rfl (yl_assign rfl rfl (dn (CW.ret (tr (rr rfl (.cons ⟨_, rfl, run_loadN ty24 (cs := [.int .i64 (0), .slice none 0 0]) rfl (hB141.cells (n := 2) rfl)⟩ (.cons rfl .nil)) ?_)))))
      have hM143 : (s_ReadCopy p_0) = (((⟨0, []⟩ : DCopy), false)) := by simp only [s_ReadCopy, hb128, hb129, hb130, hb137, hL131, cL]
      rw [hM143]
      exact ⟨none, 0, w140.heap.size, w140.heap.size, rfl, (OwnL.nil _ _ _ _ _ _), (okL.nil _), (by omega), (Below.only (Ex.trans hf122 hE136) hO142 (by omega))⟩
     ·refine sz rfl rfl (not_f hb137) (sz rfl rfl (not_f hb137) (sz rfl rfl (not_f hb137) (sz rfl rfl (not_f hb137) (sd rfl (yl_pick_t rfl rfl (not_f hb137) rfl (sd rfl (yl_move rfl rfl (sz rfl rfl rfl (sz rfl rfl rfl (sd rfl (yl_pick_t rfl rfl rfl rfl ?_)))))))))))
      refine sd rfl (yl_move rfl rfl (sz rfl rfl rfl (sz rfl rfl rfl (sz rfl rfl rfl (sd rfl (yl_pick_t rfl rfl rfl rfl (dn (CW.cond_t rfl rfl (CW.seq ?_)))))))))
      refine CW.region (sd rfl (yl_build (cs := [.int .i64 (0), .slice none 0 0]) rfl opvs_nil (by kernel_rfl) (SeqR.u rfl rfl (yl_store (vs := [.int .i64 (0), .slice none 0 0]) ty24 rfl rfl rfl rfl rfl rfl (Box.ex hf118 hE136) (Nat.le_of_ble_eq_true rfl) ?_))))
      intro w147 hB148 hO149
      have hB148 : Box w147 b3 24 [.int .i64 (0), .slice none 0 0] := hB148
      have hO149z := hO149.size
      refine sd rfl (yl_assign rfl rfl (dn (CW.ret (tr (rr rfl (.cons ⟨_, rfl, run_loadN ty24 (cs := [.int .i64 (0), .slice none 0 0]) rfl (hB148.cells (n := 2) rfl)⟩ (.cons rfl .nil)) ?_)))))
      have hM150 : (s_ReadCopy p_0) = (((⟨0, []⟩ : DCopy), false)) := by simp only [s_ReadCopy, hb128, hb129, hb130, hb137, hL131, cL]
      rw [hM150]
      exact ⟨none, 0, w147.heap.size, w147.heap.size, rfl, (OwnL.nil _ _ _ _ _ _), (okL.nil _), (by omega), (Below.only (Ex.trans hf122 hE136) hO149 (by omega))⟩
    ·refine CW.cond_t rfl (not_f hb130) (CW.skip (tn (CW.seq (CW.block (CW.seq (CW.region (sd rfl (yl_move rfl rfl (sd rfl (yl_call en24 rfl (oc rfl oz) (Cal.mono (c_s_l1R_text ((s_OpenSeal p_0).1) (x80, x81) hf119 ho10 (by first | omega | assumption | (simp only [wI] at *; omega))) ?_)))))))))))
     rintro v155 w153 ⟨rfl, ho154, hB157, hc156⟩
     have hc156z := Chg.size hc156
     have hB157z := Box.lt hB157
     have hrf158 := rf_rtext ho10 (x80, x81)  (by first | omega | assumption | (simp only [wI] at *; omega))
     refine sd rfl (yl_assign rfl rfl (dn ?_))
     have q159 := Box.chg hf120 hc156 (by have := Box.lt hf120; simp only [InR, or_false]; omega)
     have hrf166 := rf_rtext ho10 ((s_l1R_text ((s_OpenSeal p_0).1) (x80, x81)).2)  (by first | omega | assumption | (simp only [wI] at *; omega))
     refine CW.drawsG 7 (fun G b => G.dn 4 = true ∧ InR [(b13, b13 + 1)] b) (fun i G b => (i = 4 ∧ b13 ≤ b ∧ b < b13 + 1)) (vgetG [DetG (.pointer (some ⟨b31, 0 + 1, none⟩)), DetG (.slice A83 x82.length c84), DetG (.string (bs ((s_l1R_text ((s_OpenSeal p_0).1) (x80, x81)).1))), DetG (.pointer (some ⟨b13, 0, none⟩)), fun G v wq => v = .string (bs ((s_l1R_text ((s_OpenSeal p_0).1) ((s_l1R_text ((s_OpenSeal p_0).1) (x80, x81)).2)).1)) ∧ okS ((s_l1R_text ((s_OpenSeal p_0).1) ((s_l1R_text ((s_OpenSeal p_0).1) (x80, x81)).2)).1) ∧ Box wq b13 49 [.string (bs ((s_OpenSeal p_0).1)), .int .i64 (((s_l1R_text ((s_OpenSeal p_0).1) ((s_l1R_text ((s_OpenSeal p_0).1) (x80, x81)).2)).2).1), .bool (((s_l1R_text ((s_OpenSeal p_0).1) ((s_l1R_text ((s_OpenSeal p_0).1) (x80, x81)).2)).2).2)], DetG (.agg #[.string (bs ((s_l1R_text ((s_OpenSeal p_0).1) (x80, x81)).1)), .string (bs ((s_l1R_text ((s_OpenSeal p_0).1) ((s_l1R_text ((s_OpenSeal p_0).1) (x80, x81)).2)).1)), .bool (false)]), fun G v wq => ∃ A163, v = .slice A163 1 1 ∧ OwnL wq (G.fl 6) (G.fh 6) 53 3 (RF e_Write) A163 1 1 ([(⟨(s_l1R_text ((s_OpenSeal p_0).1) (x80, x81)).1, (s_l1R_text ((s_OpenSeal p_0).1) ((s_l1R_text ((s_OpenSeal p_0).1) (x80, x81)).2)).1, false⟩ : DWrite)] : List DWrite)]) Try.follows rfl rfl rfl rfl rfl rfl (fun _ _ _ _ _ h => ⟨Gh.udn h.1, h.2⟩) (fun i G w lo hi b K hn hh hp => by exact (match hp with | ⟨e, q1, q2⟩ => by subst e; exact .inl ⟨Gh.sdn, .inl ⟨q1, q2⟩⟩)) (vgetG_kept ⟨(KeptG.det _), (KeptG.det _), (KeptG.det _), (KeptG.det _), (by rintro i G v w w' K hn hh hj ⟨hv, h0, h1⟩ e; exact ⟨hv, h0, (by exact Box.chg h1 e (fun hp => by obtain ⟨rfl, q1, q2⟩ := hp; rw [hj] at hn; cases hn))⟩), (KeptG.det _), (by rintro i G v w w' K hn hh hj ⟨A163, hv, h0⟩ e; have d6 : G.dn 6 = true := hj; have u6 := Gh.ufl (lo := w.heap.size) (hi := w'.heap.size) d6 hn; have t6 := Gh.ufh (lo := w.heap.size) (hi := w'.heap.size) d6 hn; exact ⟨A163, hv, (by simp only [u6, t6]; exact OwnL.chg good_Write h0 e (fun b hb hp => by obtain ⟨rfl, q1, q2⟩ := hp; rw [K.cl 6 4 hj rfl] at hn; cases hn))⟩), trivial⟩) ⟨?_, ?_, ?_, ?_, ?_, ?_, ?_, trivial⟩ ?_
     ·intro L168 w169 G167 hgk170
      have hE171 : Chg (fun b => InR [(b13, b13 + 1)] b ∨ w153.heap.size ≤ b) w153 w169 := hgk170.st.ex.imp (fun b _ h => h.imp (fun h => h.2) (fun h => h))
      have hE171z := Chg.size hE171
      exact OpR.op' rfl (Yl.sameG (yl_fieldAddr fd24_1 rfl (hgk170.old 7 _ rfl rfl) kI))
     ·intro L174 w175 G173 hgk176
      have hE177 : Chg (fun b => InR [(b13, b13 + 1)] b ∨ w153.heap.size ≤ b) w153 w175 := hgk176.st.ex.imp (fun b _ h => h.imp (fun h => h.2) (fun h => h))
      have hE177z := Chg.size hE177
      obtain ⟨_, hx178, rfl⟩ := hgk176.val 0 45 rfl rfl
      exact OpR.op' rfl (Yl.sameG (yl_load1 ty22 rfl hx178 (((Box.chg q159 hE177 (by have := Box.lt q159; simp only [InR, or_false]; omega)).cell 1).trans rfl) kI))
     ·intro L181 w182 G180 hgk183
      have hE184 : Chg (fun b => InR [(b13, b13 + 1)] b ∨ w153.heap.size ≤ b) w153 w182 := hgk183.st.ex.imp (fun b _ h => h.imp (fun h => h.2) (fun h => h))
      have hE184z := Chg.size hE184
      exact OpR.op' rfl (Yl.sameG (yl_move rfl (hgk183.old 10 _ rfl rfl) kI))
     ·intro L187 w188 G186 hgk189
      have hE190 := hgk189.st.ex.ex (fun b h => h.elim (fun h => (Bool.false_ne_true (hgk189.new.symm.trans (hgk189.st.cl 4 3 h.1 rfl))).elim) (fun h => h))
      have hE190z := Ex.size hE190
      exact OpR.op' rfl (Yl.sameG (yl_move rfl (hgk189.old 6 _ rfl rfl) kI))
     ·intro L193 w194 G192 hgk195
      have hE196 := hgk195.st.ex.ex (fun b h => h.elim (fun h => (Bool.false_ne_true (hgk195.new.symm.trans h.1)).elim) (fun h => h))
      have hE196z := Ex.size hE196
      obtain ⟨_, hx197, rfl⟩ := hgk195.val 3 48 rfl rfl
      refine OpR.op' rfl (yl_call en24 rfl (oc hx197 oz) (Cal.mono (c_s_l1R_text ((s_OpenSeal p_0).1) ((s_l1R_text ((s_OpenSeal p_0).1) (x80, x81)).2) (Box.ex hB157 hE196) ho10 (by first | omega | assumption | (simp only [wI] at *; omega))) ?_))
      rintro v201 w199 ⟨rfl, ho200, hB203, hE202⟩
      exact ⟨hE202.imp (fun k _ hk => hk.elim (fun hk => (⟨rfl, hk.1, hk.2⟩)) False.elim), rfl, ho200, hB203⟩
     ·intro L205 w206 G204 hgk207
      have hE208 : Chg (fun b => InR [(b13, b13 + 1)] b ∨ w153.heap.size ≤ b) w153 w206 := hgk207.st.ex.imp (fun b _ h => h.imp (fun h => h.2) (fun h => h))
      have hE208z := Chg.size hE208
      obtain ⟨_, hx209, rfl⟩ := hgk207.val 2 47 rfl rfl
      obtain ⟨_, hx210, rfl, h211, h212⟩ := hgk207.val 4 49 rfl rfl
      have hr213 := hgk207.st.rng 4 (hgk207.has 4 rfl)
      exact OpR.op' rfl (Yl.sameG (yl_build (cs := [.string (bs ((s_l1R_text ((s_OpenSeal p_0).1) (x80, x81)).1)), .string (bs ((s_l1R_text ((s_OpenSeal p_0).1) ((s_l1R_text ((s_OpenSeal p_0).1) (x80, x81)).2)).1)), .bool (false)]) rfl (oc hx209 (oc hx210 oz)) (by kernel_rfl) kI))
     ·intro L215 w216 G214 hgk217
      have hE218 : Chg (fun b => InR [(b13, b13 + 1)] b ∨ w153.heap.size ≤ b) w153 w216 := hgk217.st.ex.imp (fun b _ h => h.imp (fun h => h.2) (fun h => h))
      have hE218z := Chg.size hE218
      obtain ⟨_, hx219, rfl⟩ := hgk217.val 5 50 rfl rfl
      refine OpR.op' rfl (yl_buildSlice (cs := [.string (bs ((s_l1R_text ((s_OpenSeal p_0).1) (x80, x81)).1)), .string (bs ((s_l1R_text ((s_OpenSeal p_0).1) ((s_l1R_text ((s_OpenSeal p_0).1) (x80, x81)).2)).1)), .bool (false)]) un22 ty53 (by decide) rfl (oc hx219 oz) (by kernel_rfl) ?_)
      intro b220 w221 hs222 hz223 hB224 hE225
      have hO226 : OwnL w221 b220 (b220 + 1) 53 3 (RF e_Write) (some ⟨b220, 0, none⟩) 1 1 ([(⟨(s_l1R_text ((s_OpenSeal p_0).1) (x80, x81)).1, (s_l1R_text ((s_OpenSeal p_0).1) ((s_l1R_text ((s_OpenSeal p_0).1) (x80, x81)).2)).1, false⟩ : DWrite)] : List DWrite) := OwnL.of_box (S := fun _ => False) hB224 (Nat.le_refl _) (Nat.lt_succ_self _) (EncL.cons (c := [.string (bs ((s_l1R_text ((s_OpenSeal p_0).1) (x80, x81)).1)), .string (bs ((s_l1R_text ((s_OpenSeal p_0).1) ((s_l1R_text ((s_OpenSeal p_0).1) (x80, x81)).2)).1)), .bool (false)]) rfl rfl EncL.nil) (Nat.le_of_ble_eq_true rfl) (fun h => h) (fun _ h => False.elim h)
      exact ⟨Chg.of_ex hE225, (some ⟨b220, 0, none⟩), rfl, OwnL.more (lo' := w216.heap.size) (hi' := w221.heap.size) hO226 (by omega) (by omega)⟩
     ·intro G227 L228 w229 hgp230
      have hE231 : Chg (fun b => InR [(b13, b13 + 1)] b ∨ w153.heap.size ≤ b) w153 w229 := hgp230.st.ex.imp (fun b _ h => h.imp (fun h => h.2) (fun h => h))
      have hE231z := Chg.size hE231
      have hx236 := hgp230.old 7 _ rfl rfl
      obtain ⟨_, hx246, rfl⟩ := hgp230.val 1 46 rfl rfl
      obtain ⟨_, hx247, rfl, h248, h249⟩ := hgp230.val 4 49 rfl rfl
      obtain ⟨_, hx250, A163_251, rfl, h252⟩ := hgp230.val 6 51 rfl rfl
      have hbz253 := Box.lt h249
      have hr254 := hgp230.st.rng 4 (hgp230.has 4 rfl)
      have hr255 := hgp230.st.rng 6 (hgp230.has 6 rfl)
      have hsp256 := hgp230.st.ord 6 4 (hgp230.has 6 rfl) rfl
      have q259 := OwnL.rd good_Write h252
      obtain ⟨nw260, he261, hs262⟩ := RdS.src q259
      refine sd rfl (yl_appendL (S := (fun _ => False)) (lo := w43.heap.size) (hi := u85) (xs := x82) (ys := ([(⟨(s_l1R_text ((s_OpenSeal p_0).1) (x80, x81)).1, (s_l1R_text ((s_OpenSeal p_0).1) ((s_l1R_text ((s_OpenSeal p_0).1) (x80, x81)).2)).1, false⟩ : DWrite)] : List DWrite)) good_Write un22 ty53 rfl (Nat.le_of_ble_eq_true rfl) rfl hx246 hx250 (OwnL.chg good_Write (OwnL.chg good_Write hf121 hc156 (fun k hl hk => by simp only [InR, or_false] at hk; omega)) hE231 (fun k hl hk => by simp only [InR, or_false] at hk; omega)) he261 hs262 (RdS.len q259) (by first | omega | (simp only [List.length_append, List.length_cons, List.length_nil, List.length_take, List.length_drop, List.length_replicate, List.length_set, toS_length]; omega)) (by first | omega | (simp only [List.length_append, List.length_cons, List.length_nil, List.length_take, List.length_drop, List.length_replicate, List.length_set, toS_length]; omega)) (by omega) (by omega) (fun _ h _ => False.elim h) (by omega) ?_)
      intro A263 c264 w265 row266 hO267 hG268 hrg269
      have hG268z := hG268.size
      refine sd rfl (yl_fieldAddr fd24_1 rfl hx236 (SeqR.u rfl rfl (yl_store (vs := [.slice A263 ((x82 ++ ([(⟨(s_l1R_text ((s_OpenSeal p_0).1) (x80, x81)).1, (s_l1R_text ((s_OpenSeal p_0).1) ((s_l1R_text ((s_OpenSeal p_0).1) (x80, x81)).2)).1, false⟩ : DWrite)] : List DWrite)).length) c264]) ty22 rfl rfl rfl rfl rfl rfl (Box.grown (Box.chg q159 hE231 (by have := Box.lt q159; simp only [InR, or_false]; omega)) hG268 (fun k hk => by have := hrg269 k hk; omega)) (Nat.le_of_ble_eq_true rfl) ?_)))
      intro w272 hB273 hO274
      have hB273 : Box w272 b31 24 [.int .i64 ((s_l1R_num ((s_OpenSeal p_0).1) (0, false)).1), .slice A263 ((x82 ++ ([(⟨(s_l1R_text ((s_OpenSeal p_0).1) (x80, x81)).1, (s_l1R_text ((s_OpenSeal p_0).1) ((s_l1R_text ((s_OpenSeal p_0).1) (x80, x81)).2)).1, false⟩ : DWrite)] : List DWrite)).length) c264] := hB273
      have hO274z := hO274.size
      refine SeqR.done (bn (tn (CW.sub (Sub.cons (d := 0) (hgp230.old 0 _ rfl rfl) (Sub.cons (d := 2) (hgp230.old 2 _ rfl rfl) (Sub.cons (d := 5) (hgp230.old 5 _ rfl rfl) (Sub.cons (d := 6) (hgp230.old 6 _ rfl rfl) (Sub.cons (d := 7) hx236 (Sub.cons (d := 8) (hgp230.old 8 _ rfl rfl) (Sub.cons (d := 9) (hgp230.old 9 _ rfl rfl) (Sub.cons (d := 31) (hgp230.old 31 _ rfl rfl) (Sub.cons (d := 32) (hgp230.old 32 _ rfl rfl) (Sub.cons (d := 35) (hgp230.old 35 _ rfl rfl) (Sub.cons (d := 36) (hgp230.old 36 _ rfl rfl) (Sub.cons (d := 37) (hgp230.old 37 _ rfl rfl) (Sub.cons (d := 38) (hgp230.old 38 _ rfl rfl) (Sub.cons (d := 39) (hgp230.old 39 _ rfl rfl) (Sub.nil _))))))))))))))) (CW.region (sd rfl (yl_move rfl rfl (sd rfl (yl_add rfl rfl rfl (sd rfl (yl_assign rfl rfl (SeqR.done ?_)))))))))))
      refine tn ?_
      have hB275 : B_s_ReadCopy_0 p_0 (x79, x80, x81, x82) = .cont (IntKind.wrap .i64 (x79 + 1), ((s_l1R_text ((s_OpenSeal p_0).1) ((s_l1R_text ((s_OpenSeal p_0).1) (x80, x81)).2)).2).1, ((s_l1R_text ((s_OpenSeal p_0).1) ((s_l1R_text ((s_OpenSeal p_0).1) (x80, x81)).2)).2).2, (x82 ++ ([(⟨(s_l1R_text ((s_OpenSeal p_0).1) (x80, x81)).1, (s_l1R_text ((s_OpenSeal p_0).1) ((s_l1R_text ((s_OpenSeal p_0).1) (x80, x81)).2)).1, false⟩ : DWrite)] : List DWrite))) := by simp only [B_s_ReadCopy_0, hb128, hb129, hb130, cL]
      have q276 := Box.chg hf118 hc156 (by have := Box.lt hf118; simp only [InR, or_false]; omega)
      have hmu287 : ((24 - (IntKind.wrap .i64 (x79 + 1) : Int)).toNat) < ((24 - (x79 : Int)).toNat) := by first | omega | assumption | (simp only [wI] at *; omega)
      exact ⟨m105 - 1, by omega, IntKind.wrap .i64 (x79 + 1), ((s_l1R_text ((s_OpenSeal p_0).1) ((s_l1R_text ((s_OpenSeal p_0).1) (x80, x81)).2)).2).1, ((s_l1R_text ((s_OpenSeal p_0).1) ((s_l1R_text ((s_OpenSeal p_0).1) (x80, x81)).2)).2).2, (x82 ++ ([(⟨(s_l1R_text ((s_OpenSeal p_0).1) (x80, x81)).1, (s_l1R_text ((s_OpenSeal p_0).1) ((s_l1R_text ((s_OpenSeal p_0).1) (x80, x81)).2)).1, false⟩ : DWrite)] : List DWrite)), A263, c264, w265.heap.size, (by omega), (by omega), rfl, rfl, rfl, rfl, rfl, rfl, rfl, (Box.only (Box.grown (Box.chg q276 hE231 (by have := Box.lt q276; simp only [InR, or_false]; omega)) hG268 (fun k hk => by have := hrg269 k hk; omega)) hO274 (by omega)), (Box.only (Box.grown h249 hG268 (fun k hk => by have := hrg269 k hk; omega)) hO274 (by omega)), hB273, (OwnL.only good_Write hO267 hO274 (by omega)), (Below.only (Below.grown (Ex.chg (Ex.chg hf122 hc156 (fun k hk => by simp only [InR, or_false] at hk; omega)) hE231 (fun k hk => by simp only [InR, or_false] at hk; omega)) hG268 (by omega) (fun k hk => by have := hrg269 k hk; omega)) hO274 (by omega)), (by omega), (by first | omega | (simp only [List.length_append, List.length_cons, List.length_nil, List.length_set, toS_length]; omega)), (okE.append hok125 ((okL.mk (Nat.le_of_ble_eq_true rfl) (okE.cons ⟨ho154, h248⟩ okE.nil))).2), (by first | omega | assumption | (simp only [wI] at *; omega)), (by first | omega | assumption | (simp only [wI] at *; omega)), (loopW.cont hk108 hB275).symm.trans hI109⟩
   ·have hb129p := dec_f hb129
    refine sz rfl rfl hb129 (sz rfl rfl hb129 (sz rfl rfl hb129 (sz rfl rfl hb129 (sz rfl rfl hb129 (sd rfl (yl_pick_f rfl rfl hb129 rfl (dn (CW.cond_f rfl rfl ?_))))))))
    refine CW.exit (tx (tx ?_))
    have hB289 : B_s_ReadCopy_0 p_0 (x79, x80, x81, x82) = .brk (x79, x80, x81, x82) := by simp only [B_s_ReadCopy_0, hb128, hb129, cL]
    have hL288 : loopW (B_s_ReadCopy_0 p_0) (((24 - (0 : Int)).toNat) + 1) (0, ((s_l1R_num ((s_OpenSeal p_0).1) ((s_l1R_num ((s_OpenSeal p_0).1) (0, false)).2)).2).1, ((s_l1R_num ((s_OpenSeal p_0).1) ((s_l1R_num ((s_OpenSeal p_0).1) (0, false)).2)).2).2, ([] : List DWrite)) = .done (x79, x80, x81, x82) := hI109.symm.trans (loopW.brk hk108 hB289)
    refine bx (tn (CW.seq (CW.seq (CW.region (sd rfl (yl_loadN ty24 rfl rfl (hf120.cells (n := 2) rfl) rfl (sd rfl (yl_call en25 rfl (oc rfl oz) (Cal.mono (c_s_CopyBytes (⟨(s_l1R_num ((s_OpenSeal p_0).1) (0, false)).1, x82⟩ : DCopy) (RdS.up (OwnL.rd good_Write hf121) good_Write) (okL.mk (xs := x82) (by first | omega | (simp only [List.length_append, List.length_cons, List.length_nil, List.length_take, List.length_drop, List.length_replicate, List.length_set, toS_length]; omega)) hok125)) ?_)))))))))
    rintro v292 w291 ⟨rfl, hE293⟩
    have hE293z := Ex.size hE293
    refine sd rfl (yl_move rfl rfl (sd rfl (yl_extract rfl rfl rfl (sd rfl (yl_extract rfl rfl rfl (sd rfl (yl_assign rfl rfl (sd rfl (yl_assign rfl rfl (dn (CW.seq (CW.region ?_))))))))))))
    refine sd rfl (yl_move rfl rfl (sd rfl (yl_not rfl rfl (sd rfl (yl_move rfl rfl (bcase ((s_OpenSeal p_0).2) (fun hb294 => ?_) (fun hb294 => ?_)))))))
    ·refine sy rfl rfl (not_t hb294) (yl_move rfl rfl (sy rfl rfl (not_t hb294) (yl_nil rfl rfl (sy rfl rfl (not_t hb294) (yl_fieldAddr fd49_2 rfl rfl (sy rfl rfl (not_t hb294) (yl_load1 ty4 rfl rfl (((Box.ex hf119 hE293).cell 2).trans rfl) (sd rfl (yl_pick_f rfl rfl (not_t hb294) rfl (sd rfl (yl_move rfl rfl (bcase (x81) (fun hb296 => ?_) (fun hb296 => ?_)))))))))))))
     ·refine sz rfl rfl hb296 (sz rfl rfl hb296 (sd rfl (yl_pick_t rfl rfl hb296 rfl (sd rfl (yl_move rfl rfl (sz rfl rfl rfl (sz rfl rfl rfl (sz rfl rfl rfl (sd rfl (yl_pick_t rfl rfl rfl rfl (SeqR.done ?_)))))))))))
      refine tn (CW.cond_t rfl rfl (CW.seq (CW.region (sd rfl (yl_build (cs := [.int .i64 (0), .slice none 0 0]) rfl opvs_nil (by kernel_rfl) (SeqR.u rfl rfl (yl_store (vs := [.int .i64 (0), .slice none 0 0]) ty24 rfl rfl rfl rfl rfl rfl (Box.ex hf118 hE293) (Nat.le_of_ble_eq_true rfl) ?_)))))))
      intro w298 hB299 hO300
      have hB299 : Box w298 b3 24 [.int .i64 (0), .slice none 0 0] := hB299
      have hO300z := hO300.size
      refine sd rfl (yl_assign rfl rfl (dn (CW.ret (tr (rr rfl (.cons ⟨_, rfl, run_loadN ty24 (cs := [.int .i64 (0), .slice none 0 0]) rfl (hB299.cells (n := 2) rfl)⟩ (.cons rfl .nil)) ?_)))))
      have hM301 : (s_ReadCopy p_0) = (((⟨0, []⟩ : DCopy), false)) := by simp only [s_ReadCopy, hb128, hb129, hb294, hb296, hL288, cL]
      rw [hM301]
      exact ⟨none, 0, w298.heap.size, w298.heap.size, rfl, (OwnL.nil _ _ _ _ _ _), (okL.nil _), (by omega), (Below.only (Ex.trans hf122 hE293) hO300 (by omega))⟩
     ·refine sy rfl rfl hb296 (yl_move rfl rfl (sy rfl rfl hb296 (yl_not rfl rfl (sd rfl (yl_pick_f rfl rfl hb296 rfl (sd rfl (yl_move rfl rfl (bcase ((s_CopyBytes (⟨(s_l1R_num ((s_OpenSeal p_0).1) (0, false)).1, x82⟩ : DCopy)).2) (fun hb304 => ?_) (fun hb304 => ?_)))))))))
      ·refine sy rfl rfl (not_t hb304) (yl_move rfl rfl (sy rfl rfl (not_t hb304) (yl_move rfl rfl (sy rfl rfl (not_t hb304) (yl_sneq (a := ((s_CopyBytes (⟨(s_l1R_num ((s_OpenSeal p_0).1) (0, false)).1, x82⟩ : DCopy)).1)) (b := p_0) rfl rfl rfl (sd rfl (yl_pick_f rfl rfl (not_t hb304) rfl (dn (bcase (((s_CopyBytes (⟨(s_l1R_num ((s_OpenSeal p_0).1) (0, false)).1, x82⟩ : DCopy)).1) == p_0) (fun hb305 => ?_) (fun hb305 => ?_))))))))))
       ·refine CW.cond_f rfl (not_t hb305) (CW.skip (tn (CW.seq (CW.region (sd rfl (yl_loadN ty24 rfl rfl ((Box.ex hf120 hE293).cells (n := 2) rfl) rfl (SeqR.u rfl rfl (yl_store (vs := [.int .i64 ((s_l1R_num ((s_OpenSeal p_0).1) (0, false)).1), .slice A83 x82.length c84]) ty24 rfl rfl rfl rfl rfl rfl (Box.ex hf118 hE293) (Nat.le_of_ble_eq_true rfl) ?_))))))))
        intro w308 hB309 hO310
        have hB309 : Box w308 b3 24 [.int .i64 ((s_l1R_num ((s_OpenSeal p_0).1) (0, false)).1), .slice A83 x82.length c84] := hB309
        have hO310z := hO310.size
        refine sd rfl (yl_assign rfl rfl (dn (CW.ret (rr rfl (.cons ⟨_, rfl, run_loadN ty24 (cs := [.int .i64 ((s_l1R_num ((s_OpenSeal p_0).1) (0, false)).1), .slice A83 x82.length c84]) rfl (hB309.cells (n := 2) rfl)⟩ (.cons rfl .nil)) ?_))))
        have hM311 : (s_ReadCopy p_0) = (((⟨(s_l1R_num ((s_OpenSeal p_0).1) (0, false)).1, x82⟩ : DCopy), true)) := by simp only [s_ReadCopy, hb128, hb129, hb294, hb296, hb304, hb305, hL288, cL]
        rw [hM311]
        exact ⟨A83, c84, w43.heap.size, u85, rfl, (OwnL.only good_Write (OwnL.ex good_Write hf121 hE293) hO310 (by omega)), (okL.mk (xs := x82) (by first | omega | (simp only [List.length_append, List.length_cons, List.length_nil, List.length_take, List.length_drop, List.length_replicate, List.length_set, toS_length]; omega)) hok125), (by omega), (Below.only (Ex.trans hf122 hE293) hO310 (by omega))⟩
       ·refine CW.cond_t rfl (not_f hb305) (CW.seq (CW.region (sd rfl (yl_build (cs := [.int .i64 (0), .slice none 0 0]) rfl opvs_nil (by kernel_rfl) (SeqR.u rfl rfl (yl_store (vs := [.int .i64 (0), .slice none 0 0]) ty24 rfl rfl rfl rfl rfl rfl (Box.ex hf118 hE293) (Nat.le_of_ble_eq_true rfl) ?_))))))
        intro w317 hB318 hO319
        have hB318 : Box w317 b3 24 [.int .i64 (0), .slice none 0 0] := hB318
        have hO319z := hO319.size
        refine sd rfl (yl_assign rfl rfl (dn (CW.ret (tr (rr rfl (.cons ⟨_, rfl, run_loadN ty24 (cs := [.int .i64 (0), .slice none 0 0]) rfl (hB318.cells (n := 2) rfl)⟩ (.cons rfl .nil)) ?_)))))
        have hM320 : (s_ReadCopy p_0) = (((⟨0, []⟩ : DCopy), false)) := by simp only [s_ReadCopy, hb128, hb129, hb294, hb296, hb304, hb305, hL288, cL]
        rw [hM320]
        exact ⟨none, 0, w317.heap.size, w317.heap.size, rfl, (OwnL.nil _ _ _ _ _ _), (okL.nil _), (by omega), (Below.only (Ex.trans hf122 hE293) hO319 (by omega))⟩
      ·refine sz rfl rfl (not_f hb304) (sz rfl rfl (not_f hb304) (sz rfl rfl (not_f hb304) (sd rfl (yl_pick_t rfl rfl (not_f hb304) rfl (dn (CW.cond_t rfl rfl (CW.seq (CW.region ?_))))))))
       refine sd rfl (yl_build (cs := [.int .i64 (0), .slice none 0 0]) rfl opvs_nil (by kernel_rfl) (SeqR.u rfl rfl (yl_store (vs := [.int .i64 (0), .slice none 0 0]) ty24 rfl rfl rfl rfl rfl rfl (Box.ex hf118 hE293) (Nat.le_of_ble_eq_true rfl) ?_)))
       intro w324 hB325 hO326
       have hB325 : Box w324 b3 24 [.int .i64 (0), .slice none 0 0] := hB325
       have hO326z := hO326.size
       refine sd rfl (yl_assign rfl rfl (dn (CW.ret (tr (rr rfl (.cons ⟨_, rfl, run_loadN ty24 (cs := [.int .i64 (0), .slice none 0 0]) rfl (hB325.cells (n := 2) rfl)⟩ (.cons rfl .nil)) ?_)))))
       have hM327 : (s_ReadCopy p_0) = (((⟨0, []⟩ : DCopy), false)) := by simp only [s_ReadCopy, hb128, hb129, hb294, hb296, hb304, hL288, cL]
       rw [hM327]
       exact ⟨none, 0, w324.heap.size, w324.heap.size, rfl, (OwnL.nil _ _ _ _ _ _), (okL.nil _), (by omega), (Below.only (Ex.trans hf122 hE293) hO326 (by omega))⟩
    ·refine sz rfl rfl (not_f hb294) (sz rfl rfl (not_f hb294) (sz rfl rfl (not_f hb294) (sz rfl rfl (not_f hb294) (sd rfl (yl_pick_t rfl rfl (not_f hb294) rfl (sd rfl (yl_move rfl rfl (sz rfl rfl rfl (sz rfl rfl rfl (sd rfl (yl_pick_t rfl rfl rfl rfl ?_)))))))))))
     refine sd rfl (yl_move rfl rfl (sz rfl rfl rfl (sz rfl rfl rfl (sz rfl rfl rfl (sd rfl (yl_pick_t rfl rfl rfl rfl (dn (CW.cond_t rfl rfl (CW.seq ?_)))))))))
     refine CW.region (sd rfl (yl_build (cs := [.int .i64 (0), .slice none 0 0]) rfl opvs_nil (by kernel_rfl) (SeqR.u rfl rfl (yl_store (vs := [.int .i64 (0), .slice none 0 0]) ty24 rfl rfl rfl rfl rfl rfl (Box.ex hf118 hE293) (Nat.le_of_ble_eq_true rfl) ?_))))
     intro w331 hB332 hO333
     have hB332 : Box w331 b3 24 [.int .i64 (0), .slice none 0 0] := hB332
     have hO333z := hO333.size
     refine sd rfl (yl_assign rfl rfl (dn (CW.ret (tr (rr rfl (.cons ⟨_, rfl, run_loadN ty24 (cs := [.int .i64 (0), .slice none 0 0]) rfl (hB332.cells (n := 2) rfl)⟩ (.cons rfl .nil)) ?_)))))
     have hM334 : (s_ReadCopy p_0) = (((⟨0, []⟩ : DCopy), false)) := by simp only [s_ReadCopy, hb128, hb129, hb294, hL288, cL]
     rw [hM334]
     exact ⟨none, 0, w331.heap.size, w331.heap.size, rfl, (OwnL.nil _ _ _ _ _ _), (okL.nil _), (by omega), (Below.only (Ex.trans hf122 hE293) hO333 (by omega))⟩
  ·have hb128p := dec_f hb128
   refine sz rfl rfl hb128 (sz rfl rfl hb128 (sd rfl (yl_pick_f rfl rfl hb128 rfl (sd rfl (yl_move rfl rfl (sz rfl rfl rfl (sz rfl rfl rfl (sz rfl rfl rfl (sz rfl rfl rfl (sz rfl rfl rfl ?_))))))))))
   refine sd rfl (yl_pick_f rfl rfl rfl rfl (dn (CW.cond_f rfl rfl (CW.exit (tx (tx ?_))))))
   have hB338 : B_s_ReadCopy_0 p_0 (x79, x80, x81, x82) = .brk (x79, x80, x81, x82) := by simp only [B_s_ReadCopy_0, hb128, cL]
   have hL337 : loopW (B_s_ReadCopy_0 p_0) (((24 - (0 : Int)).toNat) + 1) (0, ((s_l1R_num ((s_OpenSeal p_0).1) ((s_l1R_num ((s_OpenSeal p_0).1) (0, false)).2)).2).1, ((s_l1R_num ((s_OpenSeal p_0).1) ((s_l1R_num ((s_OpenSeal p_0).1) (0, false)).2)).2).2, ([] : List DWrite)) = .done (x79, x80, x81, x82) := hI109.symm.trans (loopW.brk hk108 hB338)
   refine bx (tn (CW.seq (CW.seq (CW.region (sd rfl (yl_loadN ty24 rfl rfl (hf120.cells (n := 2) rfl) rfl (sd rfl (yl_call en25 rfl (oc rfl oz) (Cal.mono (c_s_CopyBytes (⟨(s_l1R_num ((s_OpenSeal p_0).1) (0, false)).1, x82⟩ : DCopy) (RdS.up (OwnL.rd good_Write hf121) good_Write) (okL.mk (xs := x82) (by first | omega | (simp only [List.length_append, List.length_cons, List.length_nil, List.length_take, List.length_drop, List.length_replicate, List.length_set, toS_length]; omega)) hok125)) ?_)))))))))
   rintro v341 w340 ⟨rfl, hE342⟩
   have hE342z := Ex.size hE342
   refine sd rfl (yl_move rfl rfl (sd rfl (yl_extract rfl rfl rfl (sd rfl (yl_extract rfl rfl rfl (sd rfl (yl_assign rfl rfl (sd rfl (yl_assign rfl rfl (dn (CW.seq (CW.region ?_))))))))))))
   refine sd rfl (yl_move rfl rfl (sd rfl (yl_not rfl rfl (sd rfl (yl_move rfl rfl (bcase ((s_OpenSeal p_0).2) (fun hb343 => ?_) (fun hb343 => ?_)))))))
   ·refine sy rfl rfl (not_t hb343) (yl_move rfl rfl (sy rfl rfl (not_t hb343) (yl_nil rfl rfl (sy rfl rfl (not_t hb343) (yl_fieldAddr fd49_2 rfl rfl (sy rfl rfl (not_t hb343) (yl_load1 ty4 rfl rfl (((Box.ex hf119 hE342).cell 2).trans rfl) (sd rfl (yl_pick_f rfl rfl (not_t hb343) rfl (sd rfl (yl_move rfl rfl (bcase (x81) (fun hb345 => ?_) (fun hb345 => ?_)))))))))))))
    ·refine sz rfl rfl hb345 (sz rfl rfl hb345 (sd rfl (yl_pick_t rfl rfl hb345 rfl (sd rfl (yl_move rfl rfl (sz rfl rfl rfl (sz rfl rfl rfl (sz rfl rfl rfl (sd rfl (yl_pick_t rfl rfl rfl rfl (SeqR.done ?_)))))))))))
     refine tn (CW.cond_t rfl rfl (CW.seq (CW.region (sd rfl (yl_build (cs := [.int .i64 (0), .slice none 0 0]) rfl opvs_nil (by kernel_rfl) (SeqR.u rfl rfl (yl_store (vs := [.int .i64 (0), .slice none 0 0]) ty24 rfl rfl rfl rfl rfl rfl (Box.ex hf118 hE342) (Nat.le_of_ble_eq_true rfl) ?_)))))))
     intro w347 hB348 hO349
     have hB348 : Box w347 b3 24 [.int .i64 (0), .slice none 0 0] := hB348
     have hO349z := hO349.size
     refine sd rfl (yl_assign rfl rfl (dn (CW.ret (tr (rr rfl (.cons ⟨_, rfl, run_loadN ty24 (cs := [.int .i64 (0), .slice none 0 0]) rfl (hB348.cells (n := 2) rfl)⟩ (.cons rfl .nil)) ?_)))))
     have hM350 : (s_ReadCopy p_0) = (((⟨0, []⟩ : DCopy), false)) := by simp only [s_ReadCopy, hb128, hb343, hb345, hL337, cL]
     rw [hM350]
     exact ⟨none, 0, w347.heap.size, w347.heap.size, rfl, (OwnL.nil _ _ _ _ _ _), (okL.nil _), (by omega), (Below.only (Ex.trans hf122 hE342) hO349 (by omega))⟩
    ·refine sy rfl rfl hb345 (yl_move rfl rfl (sy rfl rfl hb345 (yl_not rfl rfl (sd rfl (yl_pick_f rfl rfl hb345 rfl (sd rfl (yl_move rfl rfl (bcase ((s_CopyBytes (⟨(s_l1R_num ((s_OpenSeal p_0).1) (0, false)).1, x82⟩ : DCopy)).2) (fun hb353 => ?_) (fun hb353 => ?_)))))))))
     ·refine sy rfl rfl (not_t hb353) (yl_move rfl rfl (sy rfl rfl (not_t hb353) (yl_move rfl rfl (sy rfl rfl (not_t hb353) (yl_sneq (a := ((s_CopyBytes (⟨(s_l1R_num ((s_OpenSeal p_0).1) (0, false)).1, x82⟩ : DCopy)).1)) (b := p_0) rfl rfl rfl (sd rfl (yl_pick_f rfl rfl (not_t hb353) rfl (dn (bcase (((s_CopyBytes (⟨(s_l1R_num ((s_OpenSeal p_0).1) (0, false)).1, x82⟩ : DCopy)).1) == p_0) (fun hb354 => ?_) (fun hb354 => ?_))))))))))
      ·refine CW.cond_f rfl (not_t hb354) (CW.skip (tn (CW.seq (CW.region (sd rfl (yl_loadN ty24 rfl rfl ((Box.ex hf120 hE342).cells (n := 2) rfl) rfl (SeqR.u rfl rfl (yl_store (vs := [.int .i64 ((s_l1R_num ((s_OpenSeal p_0).1) (0, false)).1), .slice A83 x82.length c84]) ty24 rfl rfl rfl rfl rfl rfl (Box.ex hf118 hE342) (Nat.le_of_ble_eq_true rfl) ?_))))))))
       intro w357 hB358 hO359
       have hB358 : Box w357 b3 24 [.int .i64 ((s_l1R_num ((s_OpenSeal p_0).1) (0, false)).1), .slice A83 x82.length c84] := hB358
       have hO359z := hO359.size
       refine sd rfl (yl_assign rfl rfl (dn (CW.ret (rr rfl (.cons ⟨_, rfl, run_loadN ty24 (cs := [.int .i64 ((s_l1R_num ((s_OpenSeal p_0).1) (0, false)).1), .slice A83 x82.length c84]) rfl (hB358.cells (n := 2) rfl)⟩ (.cons rfl .nil)) ?_))))
       have hM360 : (s_ReadCopy p_0) = (((⟨(s_l1R_num ((s_OpenSeal p_0).1) (0, false)).1, x82⟩ : DCopy), true)) := by simp only [s_ReadCopy, hb128, hb343, hb345, hb353, hb354, hL337, cL]
       rw [hM360]
       exact ⟨A83, c84, w43.heap.size, u85, rfl, (OwnL.only good_Write (OwnL.ex good_Write hf121 hE342) hO359 (by omega)), (okL.mk (xs := x82) (by first | omega | (simp only [List.length_append, List.length_cons, List.length_nil, List.length_take, List.length_drop, List.length_replicate, List.length_set, toS_length]; omega)) hok125), (by omega), (Below.only (Ex.trans hf122 hE342) hO359 (by omega))⟩
      ·refine CW.cond_t rfl (not_f hb354) (CW.seq (CW.region (sd rfl (yl_build (cs := [.int .i64 (0), .slice none 0 0]) rfl opvs_nil (by kernel_rfl) (SeqR.u rfl rfl (yl_store (vs := [.int .i64 (0), .slice none 0 0]) ty24 rfl rfl rfl rfl rfl rfl (Box.ex hf118 hE342) (Nat.le_of_ble_eq_true rfl) ?_))))))
       intro w366 hB367 hO368
       have hB367 : Box w366 b3 24 [.int .i64 (0), .slice none 0 0] := hB367
       have hO368z := hO368.size
       refine sd rfl (yl_assign rfl rfl (dn (CW.ret (tr (rr rfl (.cons ⟨_, rfl, run_loadN ty24 (cs := [.int .i64 (0), .slice none 0 0]) rfl (hB367.cells (n := 2) rfl)⟩ (.cons rfl .nil)) ?_)))))
       have hM369 : (s_ReadCopy p_0) = (((⟨0, []⟩ : DCopy), false)) := by simp only [s_ReadCopy, hb128, hb343, hb345, hb353, hb354, hL337, cL]
       rw [hM369]
       exact ⟨none, 0, w366.heap.size, w366.heap.size, rfl, (OwnL.nil _ _ _ _ _ _), (okL.nil _), (by omega), (Below.only (Ex.trans hf122 hE342) hO368 (by omega))⟩
     ·refine sz rfl rfl (not_f hb353) (sz rfl rfl (not_f hb353) (sz rfl rfl (not_f hb353) (sd rfl (yl_pick_t rfl rfl (not_f hb353) rfl (dn (CW.cond_t rfl rfl (CW.seq (CW.region ?_))))))))
      refine sd rfl (yl_build (cs := [.int .i64 (0), .slice none 0 0]) rfl opvs_nil (by kernel_rfl) (SeqR.u rfl rfl (yl_store (vs := [.int .i64 (0), .slice none 0 0]) ty24 rfl rfl rfl rfl rfl rfl (Box.ex hf118 hE342) (Nat.le_of_ble_eq_true rfl) ?_)))
      intro w373 hB374 hO375
      have hB374 : Box w373 b3 24 [.int .i64 (0), .slice none 0 0] := hB374
      have hO375z := hO375.size
      refine sd rfl (yl_assign rfl rfl (dn (CW.ret (tr (rr rfl (.cons ⟨_, rfl, run_loadN ty24 (cs := [.int .i64 (0), .slice none 0 0]) rfl (hB374.cells (n := 2) rfl)⟩ (.cons rfl .nil)) ?_)))))
      have hM376 : (s_ReadCopy p_0) = (((⟨0, []⟩ : DCopy), false)) := by simp only [s_ReadCopy, hb128, hb343, hb345, hb353, hL337, cL]
      rw [hM376]
      exact ⟨none, 0, w373.heap.size, w373.heap.size, rfl, (OwnL.nil _ _ _ _ _ _), (okL.nil _), (by omega), (Below.only (Ex.trans hf122 hE342) hO375 (by omega))⟩
   ·refine sz rfl rfl (not_f hb343) (sz rfl rfl (not_f hb343) (sz rfl rfl (not_f hb343) (sz rfl rfl (not_f hb343) (sd rfl (yl_pick_t rfl rfl (not_f hb343) rfl (sd rfl (yl_move rfl rfl (sz rfl rfl rfl (sz rfl rfl rfl (sd rfl (yl_pick_t rfl rfl rfl rfl ?_)))))))))))
    refine sd rfl (yl_move rfl rfl (sz rfl rfl rfl (sz rfl rfl rfl (sz rfl rfl rfl (sd rfl (yl_pick_t rfl rfl rfl rfl (dn (CW.cond_t rfl rfl (CW.seq ?_)))))))))
    refine CW.region (sd rfl (yl_build (cs := [.int .i64 (0), .slice none 0 0]) rfl opvs_nil (by kernel_rfl) (SeqR.u rfl rfl (yl_store (vs := [.int .i64 (0), .slice none 0 0]) ty24 rfl rfl rfl rfl rfl rfl (Box.ex hf118 hE342) (Nat.le_of_ble_eq_true rfl) ?_))))
    intro w380 hB381 hO382
    have hB381 : Box w380 b3 24 [.int .i64 (0), .slice none 0 0] := hB381
    have hO382z := hO382.size
    refine sd rfl (yl_assign rfl rfl (dn (CW.ret (tr (rr rfl (.cons ⟨_, rfl, run_loadN ty24 (cs := [.int .i64 (0), .slice none 0 0]) rfl (hB381.cells (n := 2) rfl)⟩ (.cons rfl .nil)) ?_)))))
    have hM383 : (s_ReadCopy p_0) = (((⟨0, []⟩ : DCopy), false)) := by simp only [s_ReadCopy, hb128, hb343, hL337, cL]
    rw [hM383]
    exact ⟨none, 0, w380.heap.size, w380.heap.size, rfl, (OwnL.nil _ _ _ _ _ _), (okL.nil _), (by omega), (Below.only (Ex.trans hf122 hE342) hO382 (by omega))⟩
theorem c_i_within {w : World} (p_n : Int) (p_low : Int) (p_high : Int) : Cal Try.prog 55 #[.int .i64 (p_n), .int .i64 (p_low), .int .i64 (p_high)] w fun v w' => v = .bool ((i_within p_n p_low p_high)) ∧ Ex w w' := by
 refine Cal.of func55 rfl ntmps55 rfl (CW.seq (CW.region (sd rfl (yl_assign rfl rfl (dn (CW.seq (CW.region (sd rfl (yl_move rfl rfl ?_)))))))))
 refine sd rfl (yl_move rfl rfl (sd rfl (yl_geq rfl rfl rfl (sd rfl (yl_move rfl rfl (bcase (decide (p_low ≤ p_n)) (fun hb1 => ?_) (fun hb1 => ?_)))))))
 ·have hb1p := dec_t hb1
  refine sy rfl rfl hb1 (yl_move rfl rfl (sy rfl rfl hb1 (yl_move rfl rfl (sy rfl rfl hb1 (yl_leq rfl rfl rfl (sd rfl (yl_pick_t rfl rfl hb1 rfl (sd rfl (yl_assign rfl rfl (dn (CW.ret (rr rfl (.cons rfl .nil) ?_))))))))))))
  have hM2 : (i_within p_n p_low p_high) = (decide (p_n ≤ p_high)) := by simp only [i_within, hb1, cL]
  rw [hM2]
  exact ⟨rfl, (Ex.refl w)⟩
 ·have hb1p := dec_f hb1
  refine sz rfl rfl hb1 (sz rfl rfl hb1 (sz rfl rfl hb1 (sd rfl (yl_pick_f rfl rfl hb1 rfl (sd rfl (yl_assign rfl rfl (dn (CW.ret (rr rfl (.cons rfl .nil) ?_)))))))))
  have hM3 : (i_within p_n p_low p_high) = (false) := by simp only [i_within, hb1, cL]
  rw [hM3]
  exact ⟨rfl, (Ex.refl w)⟩
theorem c_i_sumOf {w : World} (p_b : Str) (o1 : okS p_b) : Cal Try.prog 82 #[.string (bs (p_b))] w fun v w' => v = .int .i64 ((i_sumOf p_b)) ∧ Ex w w' := by
 have hol2 : p_b.length ≤ 1073741824 := o1
 refine Cal.of func82 rfl ntmps82 rfl (CW.seq (CW.region (sd rfl (yl_assign rfl rfl (dn (CW.seq (CW.region (sd rfl (yl_assign rfl rfl ?_)))))))))
 refine dn (CW.seq (CW.seq (CW.region (sd rfl (yl_move rfl rfl (sd rfl (yl_slen un9 (a := p_b) rfl rfl (sd rfl (yl_move rfl rfl (SeqR.done ?_))))))))))
 refine tn (CW.block (CW.loop (fun m5 L6 w7 => ∃ (k3 : Nat) (x4 : Int), m5 = p_b.length - k3 ∧ k3 ≤ p_b.length ∧ w.heap.size ≤ w7.heap.size ∧ lkp L6 0 = some (.string (bs (p_b))) ∧ lkp L6 3 = some (.int .i64 (x4)) ∧ lkp L6 6 = some (.int .i64 ((p_b.length : Int))) ∧ lkp L6 7 = some (.int .i64 ((k3 : Int))) ∧ Ex w w7 ∧ loopM (B_i_sumOf_0 p_b) (p_b.length - k3) k3 (x4) = loopM (B_i_sumOf_0 p_b) (p_b.length - 0) 0 (7)) (p_b.length - 0) ?_ ?_))
 ·exact ⟨0, 7, rfl, (by omega), Nat.le_refl _, rfl, rfl, rfl, rfl, (Ex.refl w), rfl⟩
 ·rintro m8 L9 w10 ⟨k3, x4, rfl, hk11, hsz13, hl14, hl15, hl16, hl17, hf18, hI12⟩
  refine CW.sub (Sub.cons hl14 (Sub.cons hl15 (Sub.cons hl16 (Sub.cons hl17 (Sub.nil _))))) ?_
  have hf18z := Ex.size hf18
  have hbg19 : p_b.length ≤ 1073741824 := o1
  rcases Nat.lt_or_ge k3 p_b.length with hlt20 | hlt20
  ·refine CW.seq (CW.region (sd rfl (yl_lss rfl rfl rfl (dn (CW.seq (CW.cond_t rfl (lt_t hlt20) (CW.skip (tn ?_))))))))
   refine CW.seq (CW.block (CW.seq (CW.region (sd rfl (yl_move rfl rfl (sd rfl (yl_assign rfl rfl (dn (CW.region ?_)))))))))
   refine sd rfl (yl_move rfl rfl (sd rfl (yl_mul rfl rfl rfl (sd rfl (yl_move rfl rfl (sd rfl (yl_move rfl rfl (sd rfl (yl_sindexN un9 (a := p_b) rfl rfl rfl (by first | omega | assumption | (simp only [wI] at *; omega)) (sd rfl (yl_conv un5 un3 rfl rfl (sd rfl (yl_add rfl rfl rfl (sd rfl (yl_add rfl rfl rfl (sd rfl (yl_rem rfl rfl rfl (by decide) ?_)))))))))))))))))
   refine sd rfl (yl_assign rfl rfl (SeqR.done (bn (tn (CW.region (sd rfl (yl_inc rfl rfl rfl (by omega) (sd rfl (yl_move rfl rfl (dn ?_))))))))))
   have hB21 : B_i_sumOf_0 p_b k3 (x4) = .cont (Int.tmod (IntKind.wrap .i64 ((IntKind.wrap .i64 ((IntKind.wrap .i64 (31 * x4)) + (IntKind.wrap .i64 ((p_b.getD k3 0).toNat : Int)))) + 1)) 16000057) := by simp only [B_i_sumOf_0, cL]
   exact ⟨p_b.length - (k3 + 1), by omega, k3 + 1, Int.tmod (IntKind.wrap .i64 ((IntKind.wrap .i64 ((IntKind.wrap .i64 (31 * x4)) + (IntKind.wrap .i64 ((p_b.getD k3 0).toNat : Int)))) + 1)) 16000057, rfl, hlt20, (by omega), rfl, rfl, rfl, rfl, hf18, (loopM.cont hlt20 hB21).symm.trans hI12⟩
  ·refine CW.seq (CW.region (sd rfl (yl_lss rfl rfl rfl (dn (CW.seq (CW.cond_f rfl (lt_f hlt20) (CW.exit (tx ?_))))))))
   refine tx ?_
   have hL22 : loopM (B_i_sumOf_0 p_b) (p_b.length - 0) 0 (7) = .done (x4) := hI12.symm.trans (loopM.stop hlt20)
   refine bx (tn (CW.seq (CW.region (sd rfl (yl_move rfl rfl (sd rfl (yl_assign rfl rfl (dn (CW.ret ?_)))))))))
   refine rr rfl (.cons rfl .nil) ?_
   have hM23 : (i_sumOf p_b) = (x4) := by simp only [i_sumOf, hL22, cL]
   rw [hM23]
   exact ⟨rfl, hf18⟩
theorem c_i_seal {w : World} (p_b : Str) (o1 : okS p_b) : Cal Try.prog 56 #[.string (bs (p_b))] w fun v w' => v = .string (bs ((i_seal p_b))) ∧ Ex w w' := by
 have hol2 : p_b.length ≤ 1073741824 := o1
 refine Cal.of func56 rfl ntmps56 rfl (CW.seq (CW.region (sd rfl (yl_assign rfl rfl (dn (CW.seq (CW.region (sd rfl (yl_move rfl rfl ?_)))))))))
 refine sd rfl (yl_call en82 rfl (oc rfl oz) (Cal.mono (c_i_sumOf p_b o1) ?_))
 rintro v4 w3 ⟨rfl, hE5⟩
 have hE5z := Ex.size hE5
 refine sd rfl (yl_assign rfl rfl (dn (CW.seq (CW.region (sd rfl (yl_move rfl rfl (sd rfl (yl_move rfl rfl (sd rfl (yl_shr (q := 65536) rfl rfl rfl (by decide) (by decide) (by decide) (sd rfl (yl_conv un3 un5 rfl rfl ?_))))))))))))
 refine sd rfl (yl_move rfl rfl (sd rfl (yl_shr (q := 256) rfl rfl rfl (by decide) (by decide) (by decide) (sd rfl (yl_conv un3 un5 rfl rfl (sd rfl (yl_move rfl rfl (sd rfl (yl_conv un3 un5 rfl rfl (sd rfl (yl_buildSlice (cs := [.int .u8 (IntKind.wrap .u8 (Int.fdiv (i_sumOf p_b) 65536)), .int .u8 (IntKind.wrap .u8 (Int.fdiv (i_sumOf p_b) 256)), .int .u8 (IntKind.wrap .u8 (i_sumOf p_b))]) un101 ty5 (by decide) rfl (oc rfl (oc rfl (oc rfl oz))) (by kernel_rfl) ?_)))))))))))
 intro b6 w7 hs8 hz9 hB10 hE11
 have hO12 : OwnL w7 b6 (b6 + 1) 5 1 (RF e_U8) (some ⟨b6, 0, none⟩) 3 3 ([IntKind.wrap .u8 (Int.fdiv (i_sumOf p_b) 65536), IntKind.wrap .u8 (Int.fdiv (i_sumOf p_b) 256), IntKind.wrap .u8 (i_sumOf p_b)] : List Int) := OwnL.of_box (S := fun _ => False) hB10 (Nat.le_refl _) (Nat.lt_succ_self _) (EncL.cons (c := [.int .u8 (IntKind.wrap .u8 (Int.fdiv (i_sumOf p_b) 65536))]) rfl rfl (EncL.cons (c := [.int .u8 (IntKind.wrap .u8 (Int.fdiv (i_sumOf p_b) 256))]) rfl rfl (EncL.cons (c := [.int .u8 (IntKind.wrap .u8 (i_sumOf p_b))]) rfl rfl EncL.nil))) (Nat.le_of_ble_eq_true rfl) (fun h => h) (fun _ h => False.elim h)
 refine sd rfl (yl_toS un101 un5 un9 rfl rfl (OwnL.rd good_U8 hO12) ?_)
 have hol14 : p_b.length ≤ 1073741824 := o1
 have hol15 : (toS ([IntKind.wrap .u8 (Int.fdiv (i_sumOf p_b) 65536), IntKind.wrap .u8 (Int.fdiv (i_sumOf p_b) 256), IntKind.wrap .u8 (i_sumOf p_b)] : List Int)).length ≤ 1073741824 := (okS_toS (Nat.le_of_ble_eq_true rfl))
 refine sd rfl (yl_sadd (a := p_b) (b := (toS ([IntKind.wrap .u8 (Int.fdiv (i_sumOf p_b) 65536), IntKind.wrap .u8 (Int.fdiv (i_sumOf p_b) 256), IntKind.wrap .u8 (i_sumOf p_b)] : List Int))) rfl rfl rfl (by first | omega | (simp only [List.length_append, List.length_cons, List.length_nil, List.length_take, List.length_drop, toS_length]; omega)) (sd rfl (yl_assign rfl rfl (dn (CW.ret (rr rfl (.cons rfl .nil) ?_))))))
 have hM16 : (i_seal p_b) = (p_b ++ (toS ([IntKind.wrap .u8 (Int.fdiv (i_sumOf p_b) 65536), IntKind.wrap .u8 (Int.fdiv (i_sumOf p_b) 256), IntKind.wrap .u8 (i_sumOf p_b)] : List Int))) := by simp only [i_seal, cL]
 rw [hM16]
 exact ⟨rfl, (Ex.trans (Ex.trans (Ex.refl w) hE5) hE11)⟩
theorem c_i_OpenSeal {w : World} (p_b : Str) (o1 : okS p_b) : Cal Try.prog 26 #[.string (bs (p_b))] w fun v w' => v = .tuple #[.string (bs ((i_OpenSeal p_b).1)), .bool ((i_OpenSeal p_b).2)] ∧ okS ((i_OpenSeal p_b).1) ∧ Ex w w' := by
 have hol2 : p_b.length ≤ 1073741824 := o1
 refine Cal.of func26 rfl ntmps26 rfl (CW.seq (CW.region (sd rfl (yl_assign rfl rfl (sd rfl (yl_assign rfl rfl (dn (CW.seq (CW.seq ?_)))))))))
 refine CW.region (sd rfl (yl_move rfl rfl (sd rfl (yl_slen un9 (a := p_b) rfl rfl (sd rfl (yl_call en55 rfl (oc rfl (oc rfl (oc rfl oz))) (Cal.mono (c_i_within (p_b.length : Int) 3 6000) ?_)))))))
 rintro v4 w3 ⟨rfl, hE5⟩
 have hE5z := Ex.size hE5
 refine sd rfl (yl_not rfl rfl (sd rfl (yl_move rfl rfl (bcase (i_within (p_b.length : Int) 3 6000) (fun hb6 => ?_) (fun hb6 => ?_)))))
 ·have hb6p := f_within hb6
  refine sy rfl rfl (not_t hb6) (yl_move rfl rfl (sy rfl rfl (not_t hb6) (yl_move rfl rfl (sy rfl rfl (not_t hb6) (yl_slen un9 (a := p_b) rfl rfl (sy rfl rfl (not_t hb6) (yl_sub rfl rfl rfl (sy rfl rfl (not_t hb6) (yl_sslice_hi un9 (a := p_b) (h := (IntKind.wrap .i64 ((p_b.length : Int) - 3)).toNat) rfl rfl (toNat_op rfl (by first | omega | assumption | (simp only [wI] at *; omega))) (by first | omega | assumption | (simp only [wI] at *; omega)) (sy rfl rfl (not_t hb6) (yl_call en56 rfl (oc rfl oz) (Cal.mono (c_i_seal (p_b.take ((IntKind.wrap .i64 ((p_b.length : Int) - 3)).toNat)) (okS.take o1 _)) ?_))))))))))))
  rintro v8 w7 ⟨rfl, hE9⟩
  have hE9z := Ex.size hE9
  have hrf10 := rf_seal (p_b.take ((IntKind.wrap .i64 ((p_b.length : Int) - 3)).toNat))
  refine sy rfl rfl (not_t hb6) (yl_move rfl rfl (sy rfl rfl (not_t hb6) (yl_sneq (a := (i_seal (p_b.take ((IntKind.wrap .i64 ((p_b.length : Int) - 3)).toNat)))) (b := p_b) rfl rfl rfl (sd rfl (yl_pick_f rfl rfl (not_t hb6) rfl (dn (bcase ((i_seal (p_b.take ((IntKind.wrap .i64 ((p_b.length : Int) - 3)).toNat))) == p_b) (fun hb11 => ?_) (fun hb11 => ?_))))))))
  ·refine CW.cond_f rfl (not_t hb11) (CW.skip (tn (CW.seq (CW.region (sd rfl (yl_move rfl rfl (sd rfl (yl_move rfl rfl (sd rfl (yl_slen un9 (a := p_b) rfl rfl (sd rfl (yl_sub rfl rfl rfl ?_))))))))))))
   refine sd rfl (yl_sslice_hi un9 (a := p_b) (h := (IntKind.wrap .i64 ((p_b.length : Int) - 3)).toNat) rfl rfl (toNat_op rfl (by first | omega | assumption | (simp only [wI] at *; omega))) (by first | omega | assumption | (simp only [wI] at *; omega)) (sd rfl (yl_assign rfl rfl (sd rfl (yl_assign rfl rfl (dn (CW.ret (rr rfl (.cons rfl (.cons rfl .nil)) ?_))))))))
   have hM12 : (i_OpenSeal p_b) = (((p_b.take ((IntKind.wrap .i64 ((p_b.length : Int) - 3)).toNat)), true)) := by simp only [i_OpenSeal, hb6, hb11, cL]
   rw [hM12]
   exact ⟨rfl, (okS.take o1 _), (Ex.trans (Ex.trans (Ex.refl w) hE5) hE9)⟩
  ·refine CW.cond_t rfl (not_f hb11) (CW.seq (CW.region (sd rfl (yl_assign rfl rfl (sd rfl (yl_assign rfl rfl (dn (CW.ret (tr ?_)))))))))
   refine rr rfl (.cons rfl (.cons rfl .nil)) ?_
   have hM15 : (i_OpenSeal p_b) = ((([] : Str), false)) := by simp only [i_OpenSeal, hb6, hb11, cL]
   rw [hM15]
   exact ⟨rfl, (okS.lit rfl), (Ex.trans (Ex.trans (Ex.refl w) hE5) hE9)⟩
 ·refine sz rfl rfl (not_f hb6) (sz rfl rfl (not_f hb6) (sz rfl rfl (not_f hb6) (sz rfl rfl (not_f hb6) (sz rfl rfl (not_f hb6) (sz rfl rfl (not_f hb6) (sz rfl rfl (not_f hb6) (sz rfl rfl (not_f hb6) (sd rfl (yl_pick_t rfl rfl (not_f hb6) rfl ?_)))))))))
  refine dn (CW.cond_t rfl rfl (CW.seq (CW.region (sd rfl (yl_assign rfl rfl (sd rfl (yl_assign rfl rfl (dn ?_))))))))
  refine CW.ret (tr (rr rfl (.cons rfl (.cons rfl .nil)) ?_))
  have hM18 : (i_OpenSeal p_b) = ((([] : Str), false)) := by simp only [i_OpenSeal, hb6, cL]
  rw [hM18]
  exact ⟨rfl, (okS.lit rfl), (Ex.trans (Ex.refl w) hE5)⟩
theorem c_i_source_fail {b1 : Nat} {w : World} (p_r_b : Str) (p_r : Int × Bool) (h2 : Box w b1 57 [.string (bs (p_r_b)), .int .i64 (p_r.1), .bool (p_r.2)]) (o3 : okS p_r_b) : Cal Try.prog 57 #[.pointer (some ⟨b1, 0, none⟩)] w fun v w' => v = .tuple #[] ∧ Box w' b1 57 [.string (bs (p_r_b)), .int .i64 ((i_source_fail p_r_b p_r).1), .bool ((i_source_fail p_r_b p_r).2)] ∧ Chg (InR [(b1, b1 + 1)]) w w' := by
 have hol4 : p_r_b.length ≤ 1073741824 := o3
 have hbx5 := Box.lt h2
 refine Cal.of func57 rfl ntmps57 rfl (CW.region (sd rfl (yl_move rfl rfl (sd rfl (yl_nil rfl rfl (sd rfl (yl_fieldAddr fd57_2 rfl rfl (SeqR.u rfl rfl (yl_store (vs := [.bool (true)]) ty4 rfl rfl rfl rfl rfl rfl h2 (Nat.le_of_ble_eq_true rfl) ?_)))))))))
 intro w6 hB7 hO8
 have hB7 : Box w6 b1 57 [.string (bs (p_r_b)), .int .i64 (p_r.1), .bool (true)] := hB7
 have hO8z := hO8.size
 refine SeqR.done (rn rfl .nil ?_)
 have hM9 : (i_source_fail p_r_b p_r) = ((p_r.1, true)) := by first | (simp only [i_source_fail, cL]; done) | (simp only [i_source_fail, cond_true, cond_false, loopE_done, loopE_ret, pairE]; done) | exact (show (i_source_fail p_r_b p_r) = ((p_r.1, true)) from by simp only [i_source_fail, cond_true, cond_false, loopE_done, loopE_ret, pairE])
 rw [hM9]
 exact ⟨rfl, hB7, (Chg.tonly (Chg.refl (InR [(b1, b1 + 1)]) w) hO8 (by simp only [InR, or_false]; omega))⟩
theorem c_i_source_take {b1 : Nat} {w : World} (p_r_b : Str) (p_r : Int × Bool) (p_n : Int) (h2 : Box w b1 57 [.string (bs (p_r_b)), .int .i64 (p_r.1), .bool (p_r.2)]) (o3 : okS p_r_b) (pre0 : (0 ≤ p_r.1 ∧ p_r.1 ≤ (p_r_b.length : Int))) (pre1 : (0 ≤ p_n ∧ p_n ≤ 1073741824)) : Cal Try.prog 36 #[.pointer (some ⟨b1, 0, none⟩), .int .i64 (p_n)] w fun v w' => v = .string (bs ((i_source_take p_r_b p_r p_n).1)) ∧ okS ((i_source_take p_r_b p_r p_n).1) ∧ Box w' b1 57 [.string (bs (p_r_b)), .int .i64 (((i_source_take p_r_b p_r p_n).2).1), .bool (((i_source_take p_r_b p_r p_n).2).2)] ∧ Chg (InR [(b1, b1 + 1)]) w w' := by
 have hol4 : p_r_b.length ≤ 1073741824 := o3
 have hbx5 := Box.lt h2
 refine Cal.of func36 rfl ntmps36 rfl (CW.seq (CW.region (sd rfl (yl_assign rfl rfl (dn (CW.seq (CW.seq (bcase (p_r.2) (fun hb6 => ?_) (fun hb6 => ?_)))))))))
 ·refine CW.drawsI 18 (vgetI ([.pointer (some ⟨b1, 0, none⟩), .pointer (some ⟨b1, 0, none⟩), .pointer (some ⟨b1, 0 + 2, none⟩), .bool (p_r.2), .bool (p_r.2), undef, undef, undef, undef, undef, undef, undef, undef, undef, undef, undef, undef, .bool (true)].map DetI)) Try.follows rfl rfl rfl rfl rfl rfl (vgetI_stable (stD _)) ⟨?_, ?_, ?_, ?_, ?_, ?_, ?_, ?_, ?_, ?_, ?_, ?_, ?_, ?_, ?_, ?_, ?_, ?_, trivial⟩ ?_
  ·exact oI rfl fun h => yl_move rfl (h.old 0 _ rfl rfl) kI
  ·exact oI rfl fun h => yl_nil rfl (h.dt 0 5 rfl rfl rfl) kI
  ·exact oI rfl fun h => yl_fieldAddr fd57_2 rfl (h.dt 1 6 rfl rfl rfl) kI
  ·exact oI rfl fun h => yl_load1 ty4 rfl (h.dt 2 7 rfl rfl rfl) (((Box.ex h2 h.ex).cell 2).trans rfl) kI
  ·exact oI rfl fun h => yl_move rfl (h.dt 3 8 rfl rfl rfl) kI
  ·exact oS rfl rfl rfl rfl rfl hb6
  ·exact oS rfl rfl rfl rfl rfl hb6
  ·exact oS rfl rfl rfl rfl rfl hb6
  ·exact oS rfl rfl rfl rfl rfl hb6
  ·exact oS rfl rfl rfl rfl rfl hb6
  ·exact oS rfl rfl rfl rfl rfl hb6
  ·exact oS rfl rfl rfl rfl rfl hb6
  ·exact oS rfl rfl rfl rfl rfl hb6
  ·exact oS rfl rfl rfl rfl rfl hb6
  ·exact oS rfl rfl rfl rfl rfl hb6
  ·exact oS rfl rfl rfl rfl rfl hb6
  ·exact oS rfl rfl rfl rfl rfl hb6
  ·exact oI rfl fun h => yl_pick_t rfl (h.dt 4 9 rfl rfl rfl) hb6 rfl kI
  ·intro fl102 fh103 L99 w100 hp101
   have hE104 := hp101.ex
   have hE104z := Ex.size hE104
   refine dn (CW.sub (Sub.cons (d := 0) (hp101.old 0 _ rfl rfl) (Sub.cons (d := 1) (hp101.old 1 _ rfl rfl) (Sub.cons (d := 22) (hp101.nt 17 22 rfl rfl rfl) (Sub.nil _)))) (CW.cond_t rfl rfl (CW.seq (CW.region (sd rfl (yl_move rfl rfl (sd rfl (yl_call en57 rfl (oc rfl oz) (Cal.mono (c_i_source_fail p_r_b p_r (Box.ex h2 hE104) o3) ?_)))))))))
   rintro v110 w109 ⟨rfl, hB112, hc111⟩
   have hc111z := Chg.size hc111
   have hB112z := Box.lt hB112
   have hrf113 := rf_fail p_r_b p_r
   refine dn (CW.seq (CW.region (sd rfl (yl_assign rfl rfl (dn (CW.ret (tr ?_)))))))
   refine rr rfl (.cons rfl .nil) ?_
   have hM114 : (i_source_take p_r_b p_r p_n) = ((([] : Str), ((i_source_fail p_r_b p_r).1, (i_source_fail p_r_b p_r).2))) := by first | (simp only [i_source_take, hb6, cL]; done) | (simp only [i_source_take, hb6, cond_true, cond_false, loopE_done, loopE_ret, pairE]; done) | exact (show (i_source_take p_r_b p_r p_n) = ((([] : Str), (i_source_fail p_r_b p_r))) from by simp only [i_source_take, hb6, cond_true, cond_false, loopE_done, loopE_ret, pairE])
   rw [hM114]
   exact ⟨rfl, (okS.lit rfl), hB112, (Chg.tchg (Chg.tex (Chg.refl (InR [(b1, b1 + 1)]) w) hE104) hc111 (fun k hk => by simp only [InR, or_false] at hk ⊢; omega))⟩
 ·refine CW.drawsI 18 (vgetI ([.pointer (some ⟨b1, 0, none⟩), .pointer (some ⟨b1, 0, none⟩), .pointer (some ⟨b1, 0 + 2, none⟩), .bool (p_r.2), .bool (p_r.2), .int .i64 (p_n), .pointer (some ⟨b1, 0, none⟩), .pointer (some ⟨b1, 0, none⟩), .pointer (some ⟨b1, 0 + 0, none⟩), .string (bs (p_r_b)), .int .i64 ((p_r_b.length : Int)), .pointer (some ⟨b1, 0, none⟩), .pointer (some ⟨b1, 0, none⟩), .pointer (some ⟨b1, 0 + 1, none⟩), .int .i64 (p_r.1), .int .i64 (IntKind.wrap .i64 ((p_r_b.length : Int) - p_r.1)), .bool (decide ((IntKind.wrap .i64 ((p_r_b.length : Int) - p_r.1)) < p_n)), .bool (decide ((IntKind.wrap .i64 ((p_r_b.length : Int) - p_r.1)) < p_n))].map DetI)) Try.follows rfl rfl rfl rfl rfl rfl (vgetI_stable (stD _)) ⟨?_, ?_, ?_, ?_, ?_, ?_, ?_, ?_, ?_, ?_, ?_, ?_, ?_, ?_, ?_, ?_, ?_, ?_, trivial⟩ ?_
  ·exact oI rfl fun h => yl_move rfl (h.old 0 _ rfl rfl) kI
  ·exact oI rfl fun h => yl_nil rfl (h.dt 0 5 rfl rfl rfl) kI
  ·exact oI rfl fun h => yl_fieldAddr fd57_2 rfl (h.dt 1 6 rfl rfl rfl) kI
  ·exact oI rfl fun h => yl_load1 ty4 rfl (h.dt 2 7 rfl rfl rfl) (((Box.ex h2 h.ex).cell 2).trans rfl) kI
  ·exact oI rfl fun h => yl_move rfl (h.dt 3 8 rfl rfl rfl) kI
  ·exact oW rfl rfl rfl rfl hb6 fun h => yl_move rfl (h.old 1 _ rfl rfl) kI
  ·exact oW rfl rfl rfl rfl hb6 fun h => yl_move rfl (h.old 0 _ rfl rfl) kI
  ·exact oW rfl rfl rfl rfl hb6 fun h => yl_nil rfl (h.dt 6 11 rfl rfl rfl) kI
  ·exact oW rfl rfl rfl rfl hb6 fun h => yl_fieldAddr fd57_0 rfl (h.dt 7 12 rfl rfl rfl) kI
  ·exact oW rfl rfl rfl rfl hb6 fun h => yl_load1 ty9 rfl (h.dt 8 13 rfl rfl rfl) (((Box.ex h2 h.ex).cell 0).trans rfl) kI
  ·exact oW rfl rfl rfl rfl hb6 fun h => yl_slen un9 (a := p_r_b) rfl (h.dt 9 14 rfl rfl rfl) kI
  ·exact oW rfl rfl rfl rfl hb6 fun h => yl_move rfl (h.old 0 _ rfl rfl) kI
  ·exact oW rfl rfl rfl rfl hb6 fun h => yl_nil rfl (h.dt 11 16 rfl rfl rfl) kI
  ·exact oW rfl rfl rfl rfl hb6 fun h => yl_fieldAddr fd57_1 rfl (h.dt 12 17 rfl rfl rfl) kI
  ·exact oW rfl rfl rfl rfl hb6 fun h => yl_load1 ty3 rfl (h.dt 13 18 rfl rfl rfl) (((Box.ex h2 h.ex).cell 1).trans rfl) kI
  ·exact oW rfl rfl rfl rfl hb6 fun h => yl_sub rfl (h.dt 10 15 rfl rfl rfl) (h.dt 14 19 rfl rfl rfl) kI
  ·exact oW rfl rfl rfl rfl hb6 fun h => yl_gtr rfl (h.dt 5 10 rfl rfl rfl) (h.dt 15 20 rfl rfl rfl) kI
  ·exact oI rfl fun h => yl_pick_f rfl (h.dt 4 9 rfl rfl rfl) hb6 (h.dt 16 21 rfl rfl rfl) kI
  ·intro fl228 fh229 L225 w226 hp227
   have hE230 := hp227.ex
   have hE230z := Ex.size hE230
   refine dn (CW.sub (Sub.cons (d := 0) (hp227.old 0 _ rfl rfl) (Sub.cons (d := 1) (hp227.old 1 _ rfl rfl) (Sub.cons (d := 22) (hp227.nt 17 22 rfl rfl rfl) (Sub.nil _)))) (bcase (decide ((IntKind.wrap .i64 ((p_r_b.length : Int) - p_r.1)) < p_n)) (fun hb234 => ?_) (fun hb234 => ?_)))
   ·have hb234p := dec_t hb234
    refine CW.cond_t rfl hb234 (CW.seq (CW.region (sd rfl (yl_move rfl rfl (sd rfl (yl_call en57 rfl (oc rfl oz) (Cal.mono (c_i_source_fail p_r_b p_r (Box.ex h2 hE230) o3) ?_)))))))
    rintro v237 w236 ⟨rfl, hB239, hc238⟩
    have hc238z := Chg.size hc238
    have hB239z := Box.lt hB239
    have hrf240 := rf_fail p_r_b p_r
    refine dn (CW.seq (CW.region (sd rfl (yl_assign rfl rfl (dn (CW.ret (tr ?_)))))))
    refine rr rfl (.cons rfl .nil) ?_
    have hM241 : (i_source_take p_r_b p_r p_n) = ((([] : Str), ((i_source_fail p_r_b p_r).1, (i_source_fail p_r_b p_r).2))) := by first | (simp only [i_source_take, hb6, hb234, cL]; done) | (simp only [i_source_take, hb6, hb234, cond_true, cond_false, loopE_done, loopE_ret, pairE]; done) | exact (show (i_source_take p_r_b p_r p_n) = ((([] : Str), (i_source_fail p_r_b p_r))) from by simp only [i_source_take, hb6, hb234, cond_true, cond_false, loopE_done, loopE_ret, pairE])
    rw [hM241]
    exact ⟨rfl, (okS.lit rfl), hB239, (Chg.tchg (Chg.tex (Chg.refl (InR [(b1, b1 + 1)]) w) hE230) hc238 (fun k hk => by simp only [InR, or_false] at hk ⊢; omega))⟩
   ·have hb234p := dec_f hb234
    refine CW.cond_f rfl hb234 (CW.skip (tn (CW.seq (CW.region (sd rfl (yl_move rfl rfl (sd rfl (yl_nil rfl rfl (sd rfl (yl_fieldAddr fd57_1 rfl rfl ?_))))))))))
    have q244 := Box.ex h2 hE230
    refine sd rfl (yl_load1 ty3 rfl rfl ((q244.cell 1).trans rfl) (sd rfl (yl_move rfl rfl (sd rfl (yl_add rfl rfl rfl (sd rfl (yl_nil rfl rfl (sd rfl (yl_fieldAddr fd57_1 rfl rfl (SeqR.u rfl rfl (yl_store (vs := [.int .i64 (IntKind.wrap .i64 (p_r.1 + p_n))]) ty3 rfl rfl rfl rfl rfl rfl q244 (Nat.le_of_ble_eq_true rfl) ?_)))))))))))
    intro w245 hB246 hO247
    have hB246 : Box w245 b1 57 [.string (bs (p_r_b)), .int .i64 (IntKind.wrap .i64 (p_r.1 + p_n)), .bool (p_r.2)] := hB246
    have hO247z := hO247.size
    refine dn (CW.seq (CW.drawsI 14 (vgetI ([.pointer (some ⟨b1, 0, none⟩), .pointer (some ⟨b1, 0, none⟩), .pointer (some ⟨b1, 0 + 0, none⟩), .string (bs (p_r_b)), .pointer (some ⟨b1, 0, none⟩), .pointer (some ⟨b1, 0, none⟩), .pointer (some ⟨b1, 0 + 1, none⟩), .int .i64 (IntKind.wrap .i64 (p_r.1 + p_n)), .int .i64 (p_n), .int .i64 (IntKind.wrap .i64 ((IntKind.wrap .i64 (p_r.1 + p_n)) - p_n)), .pointer (some ⟨b1, 0, none⟩), .pointer (some ⟨b1, 0, none⟩), .pointer (some ⟨b1, 0 + 1, none⟩), .int .i64 (IntKind.wrap .i64 (p_r.1 + p_n))].map DetI)) Try.follows rfl rfl rfl rfl rfl rfl (vgetI_stable (stD _)) ⟨?_, ?_, ?_, ?_, ?_, ?_, ?_, ?_, ?_, ?_, ?_, ?_, ?_, ?_, trivial⟩ ?_))
    ·exact oI rfl fun h => yl_move rfl (h.old 0 _ rfl rfl) kI
    ·exact oI rfl fun h => yl_nil rfl (h.dt 0 33 rfl rfl rfl) kI
    ·exact oI rfl fun h => yl_fieldAddr fd57_0 rfl (h.dt 1 34 rfl rfl rfl) kI
    ·exact oI rfl fun h => yl_load1 ty9 rfl (h.dt 2 35 rfl rfl rfl) (((Box.ex hB246 h.ex).cell 0).trans rfl) kI
    ·exact oI rfl fun h => yl_move rfl (h.old 0 _ rfl rfl) kI
    ·exact oI rfl fun h => yl_nil rfl (h.dt 4 37 rfl rfl rfl) kI
    ·exact oI rfl fun h => yl_fieldAddr fd57_1 rfl (h.dt 5 38 rfl rfl rfl) kI
    ·exact oI rfl fun h => yl_load1 ty3 rfl (h.dt 6 39 rfl rfl rfl) (((Box.ex hB246 h.ex).cell 1).trans rfl) kI
    ·exact oI rfl fun h => yl_move rfl (h.old 1 _ rfl rfl) kI
    ·exact oI rfl fun h => yl_sub rfl (h.dt 7 40 rfl rfl rfl) (h.dt 8 41 rfl rfl rfl) kI
    ·exact oI rfl fun h => yl_move rfl (h.old 0 _ rfl rfl) kI
    ·exact oI rfl fun h => yl_nil rfl (h.dt 10 43 rfl rfl rfl) kI
    ·exact oI rfl fun h => yl_fieldAddr fd57_1 rfl (h.dt 11 44 rfl rfl rfl) kI
    ·exact oI rfl fun h => yl_load1 ty3 rfl (h.dt 12 45 rfl rfl rfl) (((Box.ex hB246 h.ex).cell 1).trans rfl) kI
    ·intro fl325 fh326 L322 w323 hp324
     have hE327 := hp324.ex
     have hE327z := Ex.size hE327
     refine sd rfl (yl_sslice_lh un9 (a := p_r_b) (l := (IntKind.wrap .i64 ((IntKind.wrap .i64 (p_r.1 + p_n)) - p_n)).toNat) (h := (IntKind.wrap .i64 (p_r.1 + p_n)).toNat) rfl (hp324.nt 3 36 rfl rfl rfl) (toNat_op (hp324.nt 9 42 rfl rfl rfl) (by first | omega | assumption | (simp only [wI] at *; omega))) (toNat_op (hp324.nt 13 46 rfl rfl rfl) (by first | omega | assumption | (simp only [wI] at *; omega))) (by first | omega | assumption | (simp only [wI] at *; omega)) (by first | omega | assumption | (simp only [wI] at *; omega)) (sd rfl (yl_assign rfl rfl (dn (CW.sub (Sub.cons (d := 4) rfl (Sub.nil _)) (CW.ret (rr rfl (.cons rfl .nil) ?_)))))))
     have hM331 : (i_source_take p_r_b p_r p_n) = ((((p_r_b.take ((IntKind.wrap .i64 (p_r.1 + p_n)).toNat)).drop ((IntKind.wrap .i64 ((IntKind.wrap .i64 (p_r.1 + p_n)) - p_n)).toNat)), (IntKind.wrap .i64 (p_r.1 + p_n), p_r.2))) := by first | (simp only [i_source_take, hb6, hb234, cL]; done) | (simp only [i_source_take, hb6, hb234, cond_true, cond_false, loopE_done, loopE_ret, pairE]; done) | exact (show (i_source_take p_r_b p_r p_n) = ((((p_r_b.take ((IntKind.wrap .i64 (p_r.1 + p_n)).toNat)).drop ((IntKind.wrap .i64 ((IntKind.wrap .i64 (p_r.1 + p_n)) - p_n)).toNat)), (IntKind.wrap .i64 (p_r.1 + p_n), p_r.2))) from by simp only [i_source_take, hb6, hb234, cond_true, cond_false, loopE_done, loopE_ret, pairE])
     rw [hM331]
     exact ⟨rfl, (okS.drop (okS.take o3 _) _), (Box.ex hB246 hE327), (Chg.tex (Chg.tonly (Chg.tex (Chg.refl (InR [(b1, b1 + 1)]) w) hE230) hO247 (by simp only [InR, or_false]; omega)) hE327)⟩
theorem c_i_numBytes {w : World} (p_n : Int) (pre0 : (0 ≤ p_n ∧ p_n ≤ 1073741824)) : Cal Try.prog 58 #[.int .i64 (p_n)] w fun v w' => v = .string (bs ((i_numBytes p_n))) ∧ Ex w w' := by
 refine Cal.of func58 rfl ntmps58 rfl (CW.seq (CW.region (sd rfl (yl_assign rfl rfl (dn (CW.seq (CW.region (sd rfl (yl_buildSlice (cs := []) un101 ty5 (by decide) rfl opvs_nil (by kernel_rfl) ?_)))))))))
 intro b1 w2 hs3 hz4 hB5 hE6
 have hO7 : OwnL w2 b1 (b1 + 1) 5 1 (RF e_U8) (some ⟨b1, 0, none⟩) 0 0 ([] : List Int) := OwnL.of_box (S := fun _ => False) hB5 (Nat.le_refl _) (Nat.lt_succ_self _) EncL.nil (Nat.le_of_ble_eq_true rfl) (fun h => h) (fun _ h => False.elim h)
 refine sd rfl (yl_assign rfl rfl (dn (CW.seq (CW.block (CW.loop (fun m32 L33 w34 => ∃ (x27 : Int) (x28 : List Int) (A29 : Option Addr) (c30 : Nat) (u31 : Nat), ((x27).toNat) < m32 ∧ w2.heap.size ≤ w34.heap.size ∧ lkp L33 0 = some (.int .i64 (x27)) ∧ lkp L33 3 = some (.slice A29 x28.length c30) ∧ OwnL w34 b1 u31 5 1 (RF e_U8) A29 x28.length c30 x28 ∧ Ex w w34 ∧ (b1 ≤ u31 ∧ u31 ≤ w34.heap.size) ∧ x28.length + 1 * ((x27).toNat) ≤ 0 + 1 * ((p_n).toNat) ∧ 0 ≤ x27 ∧ x27 ≤ 1073741824 ∧ loopW (B_i_numBytes_0 p_n) m32 (x27, x28) = loopW (B_i_numBytes_0 p_n) (((p_n).toNat) + 1) (p_n, ([] : List Int))) (((p_n).toNat) + 1) ?_ ?_)))))
 ·exact ⟨p_n, ([] : List Int), (some ⟨b1, 0, none⟩), 0, (b1 + 1), Nat.lt_succ_self _, Nat.le_refl _, rfl, rfl, hO7, (Ex.trans (Ex.refl w) hE6), (by omega), (by first | (simp; done) | (first | omega | (simp only [List.length_append, List.length_cons, List.length_nil, List.length_set, toS_length]; omega))), (by first | omega | assumption | (simp only [wI] at *; omega)), (by first | omega | assumption | (simp only [wI] at *; omega)), rfl⟩
 ·rintro m36 L37 w38 ⟨x27, x28, A29, c30, u31, hk39, hsz41, hl42, hl43, hf44, hf45, hu46, hln47, hv48, hv49, hI40⟩
  refine CW.sub (Sub.cons hl42 (Sub.cons hl43 (Sub.nil _))) ?_
  have hf45z := Ex.size hf45
  refine CW.seq (CW.seq (CW.region (sd rfl (yl_move rfl rfl (sd rfl (yl_geq rfl rfl rfl (dn (bcase (decide (128 ≤ x27)) (fun hb50 => ?_) (fun hb50 => ?_)))))))))
  ·have hb50p := dec_t hb50
   refine CW.cond_t rfl hb50 (CW.skip (tn (CW.block (CW.seq (CW.region (sd rfl (yl_move rfl rfl (sd rfl (yl_move rfl rfl (sd rfl (yl_rem rfl rfl rfl (by decide) ?_)))))))))))
   refine sd rfl (yl_conv un3 un5 rfl rfl (sd rfl (yl_add rfl rfl rfl (sd rfl (yl_buildSlice (cs := [.int .u8 (IntKind.wrap .u8 ((IntKind.wrap .u8 (Int.tmod x27 128)) + 128))]) un101 ty5 (by decide) rfl (oc rfl oz) (by kernel_rfl) ?_)))))
   intro b51 w52 hs53 hz54 hB55 hE56
   have hO57 : OwnL w52 b51 (b51 + 1) 5 1 (RF e_U8) (some ⟨b51, 0, none⟩) 1 1 ([IntKind.wrap .u8 ((IntKind.wrap .u8 (Int.tmod x27 128)) + 128)] : List Int) := OwnL.of_box (S := fun _ => False) hB55 (Nat.le_refl _) (Nat.lt_succ_self _) (EncL.cons (c := [.int .u8 (IntKind.wrap .u8 ((IntKind.wrap .u8 (Int.tmod x27 128)) + 128))]) rfl rfl EncL.nil) (Nat.le_of_ble_eq_true rfl) (fun h => h) (fun _ h => False.elim h)
   refine sd rfl (yl_appendL (S := (fun _ => False)) (lo := b1) (hi := u31) (xs := x28) (ys := ([IntKind.wrap .u8 ((IntKind.wrap .u8 (Int.tmod x27 128)) + 128)] : List Int)) good_U8 un101 ty5 rfl (Nat.le_of_ble_eq_true rfl) rfl rfl rfl (OwnL.ex good_U8 hf44 hE56) (EncL.cons (c := [.int .u8 (IntKind.wrap .u8 ((IntKind.wrap .u8 (Int.tmod x27 128)) + 128))]) rfl rfl EncL.nil) (Or.inr ⟨_, _, rfl, rfl, hB55.cells (o := 0) (n := 1) rfl⟩) rfl (by first | omega | (simp only [List.length_append, List.length_cons, List.length_nil, List.length_take, List.length_drop, List.length_replicate, List.length_set, toS_length]; omega)) (by first | omega | (simp only [List.length_append, List.length_cons, List.length_nil, List.length_take, List.length_drop, List.length_replicate, List.length_set, toS_length]; omega)) (by omega) (by omega) (fun _ h _ => False.elim h) (by omega) ?_)
   intro A59 c60 w61 row62 hO63 hG64 hrg65
   have hG64z := hG64.size
   refine sd rfl (yl_assign rfl rfl (dn (CW.region (sd rfl (yl_move rfl rfl (sd rfl (yl_quo rfl rfl rfl (by decide) (sd rfl (yl_assign rfl rfl (SeqR.done (bn ?_)))))))))))
   refine tn ?_
   have hB66 : B_i_numBytes_0 p_n (x27, x28) = .cont (IntKind.wrap .i64 (Int.tdiv x27 128), (x28 ++ ([IntKind.wrap .u8 ((IntKind.wrap .u8 (Int.tmod x27 128)) + 128)] : List Int))) := by simp only [B_i_numBytes_0, hb50, cL]
   have hmu69 : ((IntKind.wrap .i64 (Int.tdiv x27 128)).toNat) < ((x27).toNat) := by (have hq := wtd (n := x27) (c := 128) (by decide) (by omega) (by omega); omega)
   exact ⟨m36 - 1, by omega, IntKind.wrap .i64 (Int.tdiv x27 128), (x28 ++ ([IntKind.wrap .u8 ((IntKind.wrap .u8 (Int.tmod x27 128)) + 128)] : List Int)), A59, c60, w61.heap.size, (by omega), (by omega), rfl, rfl, hO63, (Below.grown (Ex.trans hf45 hE56) hG64 (by omega) (fun k hk => by have := hrg65 k hk; omega)), (by omega), (by first | omega | (simp only [List.length_append, List.length_cons, List.length_nil, List.length_set, toS_length]; omega)), (by (have hq := wtd (n := x27) (c := 128) (by decide) (by omega) (by omega); omega)), (by (have hq := wtd (n := x27) (c := 128) (by decide) (by omega) (by omega); omega)), (loopW.cont hk39 hB66).symm.trans hI40⟩
  ·have hb50p := dec_f hb50
   refine CW.cond_f rfl hb50 (CW.exit (tx (tx ?_)))
   have hB71 : B_i_numBytes_0 p_n (x27, x28) = .brk (x27, x28) := by simp only [B_i_numBytes_0, hb50, cL]
   have hL70 : loopW (B_i_numBytes_0 p_n) (((p_n).toNat) + 1) (p_n, ([] : List Int)) = .done (x27, x28) := hI40.symm.trans (loopW.brk hk39 hB71)
   refine bx (tn (CW.seq (CW.region (sd rfl (yl_move rfl rfl (sd rfl (yl_move rfl rfl (sd rfl (yl_conv un3 un5 rfl rfl (sd rfl (yl_buildSlice (cs := [.int .u8 (IntKind.wrap .u8 x27)]) un101 ty5 (by decide) rfl (oc rfl oz) (by kernel_rfl) ?_)))))))))))
   intro b72 w73 hs74 hz75 hB76 hE77
   have hO78 : OwnL w73 b72 (b72 + 1) 5 1 (RF e_U8) (some ⟨b72, 0, none⟩) 1 1 ([IntKind.wrap .u8 x27] : List Int) := OwnL.of_box (S := fun _ => False) hB76 (Nat.le_refl _) (Nat.lt_succ_self _) (EncL.cons (c := [.int .u8 (IntKind.wrap .u8 x27)]) rfl rfl EncL.nil) (Nat.le_of_ble_eq_true rfl) (fun h => h) (fun _ h => False.elim h)
   refine sd rfl (yl_appendL (S := (fun _ => False)) (lo := b1) (hi := u31) (xs := x28) (ys := ([IntKind.wrap .u8 x27] : List Int)) good_U8 un101 ty5 rfl (Nat.le_of_ble_eq_true rfl) rfl rfl rfl (OwnL.ex good_U8 hf44 hE77) (EncL.cons (c := [.int .u8 (IntKind.wrap .u8 x27)]) rfl rfl EncL.nil) (Or.inr ⟨_, _, rfl, rfl, hB76.cells (o := 0) (n := 1) rfl⟩) rfl (by first | omega | (simp only [List.length_append, List.length_cons, List.length_nil, List.length_take, List.length_drop, List.length_replicate, List.length_set, toS_length]; omega)) (by first | omega | (simp only [List.length_append, List.length_cons, List.length_nil, List.length_take, List.length_drop, List.length_replicate, List.length_set, toS_length]; omega)) (by omega) (by omega) (fun _ h _ => False.elim h) (by omega) ?_)
   intro A80 c81 w82 row83 hO84 hG85 hrg86
   have hG85z := hG85.size
   refine sd rfl (yl_toS un101 un5 un9 rfl rfl (OwnL.rd good_U8 hO84) (sd rfl (yl_assign rfl rfl (dn (CW.ret (rr rfl (.cons rfl .nil) ?_))))))
   have hM88 : (i_numBytes p_n) = (toS (x28 ++ ([IntKind.wrap .u8 x27] : List Int))) := by simp only [i_numBytes, hb50, hL70, cL]
   rw [hM88]
   exact ⟨rfl, (Below.grown (Ex.trans hf45 hE77) hG85 (by omega) (fun k hk => by have := hrg86 k hk; omega))⟩
end Go.Proofs.Ytbamdefifgkbgaa
