/- Clear Ops: what each call returns, part 2. -/
import Derived.Test.YtjeafbkejeallaaClearOpsC1
set_option linter.unusedVariables false
set_option linter.unusedSimpArgs false
namespace Go.Proofs.Ytjeafbkejeallaa
open Go.RowKit Go.X
set_option maxRecDepth 100000 in
set_option maxHeartbeats 2000000 in
theorem c_s_l3Bytes {w : World} (p_s : Str) (p_more : Str) (o1 : okS p_s) (o2 : okS p_more) : Cal Try.prog 208 #[.string (bs (p_s)), .string (bs (p_more))] w fun v w' => v = .bool ((s_l3Bytes p_s p_more)) ∧ Ex w w' := by
 have hol3 : p_s.length ≤ 1073741824 := o1
 have hol4 : p_more.length ≤ 1073741824 := o2
 refine Cal.of (vs := [.string (bs (p_s)), .string (bs (p_more))]) Try.func208 rfl Try.ntmps208 rfl (CW.seq (CW.region (sd rfl (yl_assign rfl rfl (SeqR.done (tn (CW.seq (CW.seq (CW.region ?_)))))))))
 refine sd rfl (yl_assign rfl rfl (SeqR.done (tn (CW.block (CW.loop (fun m6 L7 w8 => ∃ (k5 : Nat), m6 = p_s.length - k5 ∧ k5 ≤ p_s.length ∧ w.heap.size ≤ w8.heap.size ∧ lkp L7 0 = some (.string (bs (p_s))) ∧ lkp L7 1 = some (.string (bs (p_more))) ∧ lkp L7 5 = some (.int .i64 ((k5 : Int))) ∧ Ex w w8 ∧ loopM (B_s_l3Bytes_0 p_s p_more) (p_s.length - k5) k5 () = loopM (B_s_l3Bytes_0 p_s p_more) (p_s.length - 0) 0 ()) (p_s.length - 0) ?_ ?_)))))
 ·exact ⟨0, rfl, (by omega), Nat.le_refl _, rfl, rfl, rfl, (Ex.refl w), rfl⟩
 ·rintro m9 L10 w11 ⟨k5, rfl, hk12, hsz14, hl15, hl16, hl17, hf18, hI13⟩
  refine CW.sub (Sub.cons hl15 (Sub.cons hl16 (Sub.cons hl17 (Sub.nil _)))) ?_
  have hf18z := Ex.size hf18
  have hbg19 : p_s.length ≤ 1073741824 := o1
  rcases Nat.lt_or_ge k5 p_s.length with hlt20 | hlt20
  ·refine CW.seq (CW.seq (CW.region (sd rfl (yl_move rfl rfl (sd rfl (yl_move rfl rfl (sd rfl (yl_slen Try.un9 (a := p_s) rfl rfl (sd rfl (yl_lss rfl rfl rfl (SeqR.done (tn ?_))))))))))))
   refine CW.cond_t rfl (lt_t hlt20) (CW.skip (tn (CW.seq (CW.block (CW.seq (CW.region (sd rfl (yl_move rfl rfl (sd rfl (yl_move rfl rfl ?_))))))))))
   refine sd rfl (yl_sindexN Try.un9 (a := p_s) rfl rfl rfl (by first | omega | assumption | (simp only [IntKind.wrap_i64] at *; omega)) (sd rfl (yl_geq rfl rfl rfl (sd rfl (yl_move rfl rfl (bcase (decide (97 ≤ ((p_s.getD k5 0).toNat : Int))) (fun hb21 => ?_) (fun hb21 => ?_)))))))
   ·have hb21p := dec_t hb21
    refine sy rfl rfl hb21 (yl_move rfl rfl (sy rfl rfl hb21 (yl_move rfl rfl (sy rfl rfl hb21 (yl_sindexN Try.un9 (a := p_s) rfl rfl rfl (by first | omega | assumption | (simp only [IntKind.wrap_i64] at *; omega)) (sy rfl rfl hb21 (yl_leq rfl rfl rfl (sd rfl (yl_pick_t rfl rfl hb21 rfl (sd rfl (yl_move rfl rfl (bcase (decide (((p_s.getD k5 0).toNat : Int) ≤ 122)) (fun hb22 => ?_) (fun hb22 => ?_)))))))))))))
    ·have hb22p := dec_t hb22
     refine sz rfl rfl hb22 (sz rfl rfl hb22 (sz rfl rfl hb22 (sz rfl rfl hb22 (sz rfl rfl hb22 (sq rfl rfl (sq rfl rfl (sq rfl rfl (sq rfl rfl ?_))))))))
     refine sz rfl rfl hb22 (sd rfl (yl_pick_t rfl rfl hb22 rfl (sd rfl (yl_assign rfl rfl (SeqR.done (tn (CW.seq (CW.seq (CW.region (sd rfl (yl_assign rfl rfl ?_)))))))))))
     refine SeqR.done (tn (CW.block (CW.loop (fun m25 L26 w27 => ∃ (k23 : Nat) (x24 : Bool), m25 = p_more.length - k23 ∧ k23 ≤ p_more.length ∧ w11.heap.size ≤ w27.heap.size ∧ lkp L26 0 = some (.string (bs (p_s))) ∧ lkp L26 1 = some (.string (bs (p_more))) ∧ lkp L26 5 = some (.int .i64 ((k5 : Int))) ∧ lkp L26 6 = some (.bool (x24)) ∧ lkp L26 7 = some (.int .i64 ((k23 : Int))) ∧ lkp L26 19 = some (.string (bs (p_s))) ∧ lkp L26 20 = some (.int .i64 ((k5 : Int))) ∧ lkp L26 21 = some (.int .u8 (((p_s.getD k5 0).toNat : Int))) ∧ lkp L26 22 = some (.bool (decide (((p_s.getD k5 0).toNat : Int) ≤ 122))) ∧ lkp L26 25 = some (undef) ∧ lkp L26 26 = some (undef) ∧ lkp L26 27 = some (undef) ∧ lkp L26 28 = some (undef) ∧ lkp L26 29 = some (undef) ∧ lkp L26 30 = some (undef) ∧ lkp L26 31 = some (undef) ∧ lkp L26 32 = some (undef) ∧ lkp L26 33 = some (undef) ∧ lkp L26 34 = some (undef) ∧ Ex w w27 ∧ loopM (B_s_l3Bytes_1 p_s p_more k5) (p_more.length - k23) k23 (x24) = loopM (B_s_l3Bytes_1 p_s p_more k5) (p_more.length - 0) 0 (true)) (p_more.length - 0) ?_ ?_)))
     ·exact ⟨0, true, rfl, (by omega), Nat.le_refl _, rfl, rfl, rfl, rfl, rfl, rfl, rfl, rfl, rfl, rfl, rfl, rfl, rfl, rfl, rfl, rfl, rfl, rfl, rfl, hf18, rfl⟩
     ·rintro m28 L29 w30 ⟨k23, x24, rfl, hk31, hsz33, hl34, hl35, hl36, hl37, hl38, hl39, hl40, hl41, hl42, hl43, hl44, hl45, hl46, hl47, hl48, hl49, hl50, hl51, hl52, hf53, hI32⟩
      refine CW.sub (Sub.cons hl34 (Sub.cons hl35 (Sub.cons hl36 (Sub.cons hl37 (Sub.cons hl38 (Sub.cons hl39 (Sub.cons hl40 (Sub.cons hl41 (Sub.cons hl42 (Sub.cons hl43 (Sub.cons hl44 (Sub.cons hl45 (Sub.cons hl46 (Sub.cons hl47 (Sub.cons hl48 (Sub.cons hl49 (Sub.cons hl50 (Sub.cons hl51 (Sub.cons hl52 (Sub.nil _)))))))))))))))))))) ?_
      have hf53z := Ex.size hf53
      have hbg54 : p_more.length ≤ 1073741824 := o2
      rcases Nat.lt_or_ge k23 p_more.length with hlt55 | hlt55
      ·refine CW.seq (CW.seq (CW.region (sd rfl (yl_move rfl rfl (sd rfl (yl_move rfl rfl (sd rfl (yl_slen Try.un9 (a := p_more) rfl rfl (sd rfl (yl_lss rfl rfl rfl (SeqR.done (tn ?_))))))))))))
       refine CW.cond_t rfl (lt_t hlt55) (CW.skip (tn (CW.seq (CW.block (bcase (x24) (fun hb56 => ?_) (fun hb56 => ?_))))))
       ·refine CW.drawsI 11 (vgetI [DetI (.bool (x24)), DetI (.bool (x24)), DetI (undef), DetI (undef), DetI (undef), DetI (undef), DetI (undef), DetI (undef), DetI (undef), DetI (.bool (true)), DetI (.bool (true))]) Try.follows rfl rfl rfl rfl rfl rfl (vgetI_stable ⟨StableI.det _, StableI.det _, StableI.det _, StableI.det _, StableI.det _, StableI.det _, StableI.det _, StableI.det _, StableI.det _, StableI.det _, StableI.det _, trivial⟩) ⟨?_, ?_, ?_, ?_, ?_, ?_, ?_, ?_, ?_, ?_, ?_, trivial⟩ ?_
        ·exact fun _ _ h => os rfl ((yl_move rfl (h.old 6 _ rfl rfl) kI))
        ·exact fun _ _ h => os rfl ((yl_move rfl (h.dt 0 42 rfl rfl rfl) kI))
        ·exact fun _ _ h => OpR.skip rfl rfl (h.dt 1 43 rfl rfl rfl) hb56 ⟨rfl, Ex.refl _⟩
        ·exact fun _ _ h => OpR.skip rfl rfl (h.dt 1 43 rfl rfl rfl) hb56 ⟨rfl, Ex.refl _⟩
        ·exact fun _ _ h => OpR.skip rfl rfl (h.dt 1 43 rfl rfl rfl) hb56 ⟨rfl, Ex.refl _⟩
        ·exact fun _ _ h => OpR.skip rfl rfl (h.dt 1 43 rfl rfl rfl) hb56 ⟨rfl, Ex.refl _⟩
        ·exact fun _ _ h => OpR.skip rfl rfl (h.dt 1 43 rfl rfl rfl) hb56 ⟨rfl, Ex.refl _⟩
        ·exact fun _ _ h => OpR.skip rfl rfl (h.dt 1 43 rfl rfl rfl) hb56 ⟨rfl, Ex.refl _⟩
        ·exact fun _ _ h => OpR.skip rfl rfl (h.dt 1 43 rfl rfl rfl) hb56 ⟨rfl, Ex.refl _⟩
        ·exact fun _ _ h => os rfl ((yl_pick_t rfl (h.dt 1 43 rfl rfl rfl) hb56 rfl kI))
        ·exact fun _ _ h => os rfl ((yl_assign rfl (h.dt 9 51 rfl rfl rfl) kI))
        ·intro fl116 fh117 L113 w114 hp115
         have hE118 := hp115.ex
         have hE118z := Ex.size hE118
         refine SeqR.done (bn (tn (CW.sub (Sub.cons (d := 0) (hp115.old 0 _ rfl rfl) (Sub.cons (d := 1) (hp115.old 1 _ rfl rfl) (Sub.cons (d := 5) (hp115.old 5 _ rfl rfl) (Sub.cons (d := 6) (hp115.nt 10 6 rfl rfl rfl) (Sub.cons (d := 7) (hp115.old 7 _ rfl rfl) (Sub.cons (d := 19) (hp115.old 19 _ rfl rfl) (Sub.cons (d := 20) (hp115.old 20 _ rfl rfl) (Sub.cons (d := 21) (hp115.old 21 _ rfl rfl) (Sub.cons (d := 22) (hp115.old 22 _ rfl rfl) (Sub.cons (d := 25) (hp115.old 25 _ rfl rfl) (Sub.cons (d := 26) (hp115.old 26 _ rfl rfl) (Sub.cons (d := 27) (hp115.old 27 _ rfl rfl) (Sub.cons (d := 28) (hp115.old 28 _ rfl rfl) (Sub.cons (d := 29) (hp115.old 29 _ rfl rfl) (Sub.cons (d := 30) (hp115.old 30 _ rfl rfl) (Sub.cons (d := 31) (hp115.old 31 _ rfl rfl) (Sub.cons (d := 32) (hp115.old 32 _ rfl rfl) (Sub.cons (d := 33) (hp115.old 33 _ rfl rfl) (Sub.cons (d := 34) (hp115.old 34 _ rfl rfl) (Sub.cons (d := 44) (hp115.nt 2 44 rfl rfl rfl) (Sub.cons (d := 45) (hp115.nt 3 45 rfl rfl rfl) (Sub.cons (d := 46) (hp115.nt 4 46 rfl rfl rfl) (Sub.cons (d := 47) (hp115.nt 5 47 rfl rfl rfl) (Sub.cons (d := 48) (hp115.nt 6 48 rfl rfl rfl) (Sub.cons (d := 49) (hp115.nt 7 49 rfl rfl rfl) (Sub.cons (d := 50) (hp115.nt 8 50 rfl rfl rfl) (Sub.nil _))))))))))))))))))))))))))) (CW.region (sd rfl (yl_move rfl rfl (sd rfl (yl_inc rfl rfl rfl (by omega) (sd rfl (yl_assign rfl rfl (SeqR.done ?_)))))))))))
         refine tn ?_
         have hB145 : B_s_l3Bytes_1 p_s p_more k5 k23 (x24) = .cont (true) := by simp only [B_s_l3Bytes_1, hb21, hb22, hb56, cond_true, cond_false, loopE_done, loopE_ret]
         exact ⟨p_more.length - (k23 + 1), by omega, k23 + 1, true, rfl, hlt55, (by omega), rfl, rfl, rfl, rfl, rfl, rfl, rfl, rfl, rfl, rfl, rfl, rfl, rfl, rfl, rfl, rfl, rfl, rfl, rfl, (Ex.trans hf53 hE118), (loopM.cont hlt55 hB145).symm.trans hI32⟩
       ·refine CW.drawsI 11 (vgetI [DetI (.bool (x24)), DetI (.bool (x24)), DetI (.string (bs (p_s))), DetI (.int .i64 ((k5 : Int))), DetI (.int .u8 (((p_s.getD k5 0).toNat : Int))), DetI (.string (bs (p_more))), DetI (.int .i64 ((k23 : Int))), DetI (.int .u8 (((p_more.getD k23 0).toNat : Int))), DetI (.bool (decide (((p_s.getD k5 0).toNat : Int) = ((p_more.getD k23 0).toNat : Int)))), DetI (.bool (decide (((p_s.getD k5 0).toNat : Int) = ((p_more.getD k23 0).toNat : Int)))), DetI (.bool (decide (((p_s.getD k5 0).toNat : Int) = ((p_more.getD k23 0).toNat : Int))))]) Try.follows rfl rfl rfl rfl rfl rfl (vgetI_stable ⟨StableI.det _, StableI.det _, StableI.det _, StableI.det _, StableI.det _, StableI.det _, StableI.det _, StableI.det _, StableI.det _, StableI.det _, StableI.det _, trivial⟩) ⟨?_, ?_, ?_, ?_, ?_, ?_, ?_, ?_, ?_, ?_, ?_, trivial⟩ ?_
        ·exact fun _ _ h => os rfl ((yl_move rfl (h.old 6 _ rfl rfl) kI))
        ·exact fun _ _ h => os rfl ((yl_move rfl (h.dt 0 42 rfl rfl rfl) kI))
        ·exact fun _ _ h => OpR.want rfl rfl (h.dt 1 43 rfl rfl rfl) hb56 (Yl.sameI (yl_move rfl (h.old 0 _ rfl rfl) kI))
        ·exact fun _ _ h => OpR.want rfl rfl (h.dt 1 43 rfl rfl rfl) hb56 (Yl.sameI (yl_move rfl (h.old 5 _ rfl rfl) kI))
        ·intro L169 w170 hi171
         have hE172 := hi171.ex
         have hE172z := Ex.size hE172
         exact OpR.want rfl rfl (hi171.dt 1 43 rfl rfl rfl) hb56 (Yl.sameI (yl_sindexN Try.un9 (a := p_s) rfl (hi171.dt 2 44 rfl rfl rfl) (hi171.dt 3 45 rfl rfl rfl) (by first | omega | assumption | (simp only [IntKind.wrap_i64] at *; omega)) kI))
        ·exact fun _ _ h => OpR.want rfl rfl (h.dt 1 43 rfl rfl rfl) hb56 (Yl.sameI (yl_move rfl (h.old 1 _ rfl rfl) kI))
        ·exact fun _ _ h => OpR.want rfl rfl (h.dt 1 43 rfl rfl rfl) hb56 (Yl.sameI (yl_move rfl (h.old 7 _ rfl rfl) kI))
        ·intro L188 w189 hi190
         have hE191 := hi190.ex
         have hE191z := Ex.size hE191
         exact OpR.want rfl rfl (hi190.dt 1 43 rfl rfl rfl) hb56 (Yl.sameI (yl_sindexN Try.un9 (a := p_more) rfl (hi190.dt 5 47 rfl rfl rfl) (hi190.dt 6 48 rfl rfl rfl) (by first | omega | assumption | (simp only [IntKind.wrap_i64] at *; omega)) kI))
        ·exact fun _ _ h => OpR.want rfl rfl (h.dt 1 43 rfl rfl rfl) hb56 (Yl.sameI (yl_eql rfl (h.dt 4 46 rfl rfl rfl) (h.dt 7 49 rfl rfl rfl) kI))
        ·exact fun _ _ h => os rfl ((yl_pick_f rfl (h.dt 1 43 rfl rfl rfl) hb56 (h.dt 8 50 rfl rfl rfl) kI))
        ·exact fun _ _ h => os rfl ((yl_assign rfl (h.dt 9 51 rfl rfl rfl) kI))
        ·intro fl216 fh217 L213 w214 hp215
         have hE218 := hp215.ex
         have hE218z := Ex.size hE218
         refine SeqR.done (bn (tn (CW.sub (Sub.cons (d := 0) (hp215.old 0 _ rfl rfl) (Sub.cons (d := 1) (hp215.old 1 _ rfl rfl) (Sub.cons (d := 5) (hp215.old 5 _ rfl rfl) (Sub.cons (d := 6) (hp215.nt 10 6 rfl rfl rfl) (Sub.cons (d := 7) (hp215.old 7 _ rfl rfl) (Sub.cons (d := 19) (hp215.old 19 _ rfl rfl) (Sub.cons (d := 20) (hp215.old 20 _ rfl rfl) (Sub.cons (d := 21) (hp215.old 21 _ rfl rfl) (Sub.cons (d := 22) (hp215.old 22 _ rfl rfl) (Sub.cons (d := 25) (hp215.old 25 _ rfl rfl) (Sub.cons (d := 26) (hp215.old 26 _ rfl rfl) (Sub.cons (d := 27) (hp215.old 27 _ rfl rfl) (Sub.cons (d := 28) (hp215.old 28 _ rfl rfl) (Sub.cons (d := 29) (hp215.old 29 _ rfl rfl) (Sub.cons (d := 30) (hp215.old 30 _ rfl rfl) (Sub.cons (d := 31) (hp215.old 31 _ rfl rfl) (Sub.cons (d := 32) (hp215.old 32 _ rfl rfl) (Sub.cons (d := 33) (hp215.old 33 _ rfl rfl) (Sub.cons (d := 34) (hp215.old 34 _ rfl rfl) (Sub.cons (d := 44) (hp215.nt 2 44 rfl rfl rfl) (Sub.cons (d := 45) (hp215.nt 3 45 rfl rfl rfl) (Sub.cons (d := 46) (hp215.nt 4 46 rfl rfl rfl) (Sub.cons (d := 47) (hp215.nt 5 47 rfl rfl rfl) (Sub.cons (d := 48) (hp215.nt 6 48 rfl rfl rfl) (Sub.cons (d := 49) (hp215.nt 7 49 rfl rfl rfl) (Sub.cons (d := 50) (hp215.nt 8 50 rfl rfl rfl) (Sub.nil _))))))))))))))))))))))))))) (CW.region (sd rfl (yl_move rfl rfl (sd rfl (yl_inc rfl rfl rfl (by omega) (sd rfl (yl_assign rfl rfl (SeqR.done ?_)))))))))))
         refine tn ?_
         have hB245 : B_s_l3Bytes_1 p_s p_more k5 k23 (x24) = .cont (decide (((p_s.getD k5 0).toNat : Int) = ((p_more.getD k23 0).toNat : Int))) := by simp only [B_s_l3Bytes_1, hb21, hb22, hb56, cond_true, cond_false, loopE_done, loopE_ret]
         exact ⟨p_more.length - (k23 + 1), by omega, k23 + 1, decide (((p_s.getD k5 0).toNat : Int) = ((p_more.getD k23 0).toNat : Int)), rfl, hlt55, (by omega), rfl, rfl, rfl, rfl, rfl, rfl, rfl, rfl, rfl, rfl, rfl, rfl, rfl, rfl, rfl, rfl, rfl, rfl, rfl, (Ex.trans hf53 hE218), (loopM.cont hlt55 hB245).symm.trans hI32⟩
      ·refine CW.seq (CW.seq (CW.region (sd rfl (yl_move rfl rfl (sd rfl (yl_move rfl rfl (sd rfl (yl_slen Try.un9 (a := p_more) rfl rfl (sd rfl (yl_lss rfl rfl rfl (SeqR.done (tn ?_))))))))))))
       refine CW.cond_f rfl (lt_f hlt55) (CW.exit (tx (tx ?_)))
       have hL247 : loopM (B_s_l3Bytes_1 p_s p_more k5) (p_more.length - 0) 0 (true) = .done (x24) := hI32.symm.trans (loopM.stop hlt55)
       refine bx (tn (CW.seq (CW.region (sd rfl (yl_move rfl rfl (sd rfl (yl_not rfl rfl (SeqR.done (tn (bcase (x24) (fun hb248 => ?_) (fun hb248 => ?_)))))))))))
       ·refine CW.cond_f rfl (not_t hb248) (CW.skip (bn (tn (CW.region (sd rfl (yl_move rfl rfl (sd rfl (yl_inc rfl rfl rfl (by omega) (sd rfl (yl_assign rfl rfl (SeqR.done ?_)))))))))))
        refine tn ?_
        have hB249 : B_s_l3Bytes_0 p_s p_more k5 () = .cont () := by simp only [B_s_l3Bytes_0, hb21, hb22, hb248, hL247, cond_true, cond_false, loopE_done, loopE_ret]
        exact ⟨p_s.length - (k5 + 1), by omega, k5 + 1, rfl, hlt20, (by omega), rfl, rfl, rfl, hf53, (loopM.cont hlt20 hB249).symm.trans hI13⟩
       ·refine CW.cond_t rfl (not_f hb248) (CW.seq (CW.region (sd rfl (yl_assign rfl rfl (SeqR.done (tn (CW.ret (br (tr ?_)))))))))
        refine tr ?_
        have hB251 : B_s_l3Bytes_0 p_s p_more k5 () = .ret false := by simp only [B_s_l3Bytes_0, hb21, hb22, hb248, hL247, cond_true, cond_false, loopE_done, loopE_ret]
        have hL250 : loopM (B_s_l3Bytes_0 p_s p_more) (p_s.length - 0) 0 () = .ret false := hI13.symm.trans (loopM.ret hlt20 hB251)
        refine br (tr (rr rfl (.cons rfl .nil) ?_))
        have hM252 : (s_l3Bytes p_s p_more) = (false) := by simp only [s_l3Bytes, hb21, hb22, hb248, hL247, hL250, cond_true, cond_false, loopE_done, loopE_ret]
        rw [hM252]
        exact ⟨rfl, hf53⟩
    ·have hb22p := dec_f hb22
     refine sy rfl rfl hb22 (yl_move rfl rfl (sy rfl rfl hb22 (yl_move rfl rfl (sy rfl rfl hb22 (yl_sindexN Try.un9 (a := p_s) rfl rfl rfl (by first | omega | assumption | (simp only [IntKind.wrap_i64] at *; omega)) (sy rfl rfl hb22 (yl_geq rfl rfl rfl (sy rfl rfl hb22 (yl_move rfl rfl (bcase (decide (48 ≤ ((p_s.getD k5 0).toNat : Int))) (fun hb253 => ?_) (fun hb253 => ?_)))))))))))
     ·have hb253p := dec_t hb253
      refine sy rfl rfl hb253 (yl_move rfl rfl (sy rfl rfl hb253 (yl_move rfl rfl (sy rfl rfl hb253 (yl_sindexN Try.un9 (a := p_s) rfl rfl rfl (by first | omega | assumption | (simp only [IntKind.wrap_i64] at *; omega)) (sy rfl rfl hb253 (yl_leq rfl rfl rfl (sy rfl rfl hb22 (yl_pick_t rfl rfl hb253 rfl (sd rfl (yl_pick_f rfl rfl hb22 rfl (sd rfl (yl_assign rfl rfl (SeqR.done (tn ?_)))))))))))))))
      refine CW.seq (CW.seq (CW.region (sd rfl (yl_assign rfl rfl (SeqR.done (tn (CW.block (CW.loop (fun m256 L257 w258 => ∃ (k254 : Nat) (x255 : Bool), m256 = p_more.length - k254 ∧ k254 ≤ p_more.length ∧ w11.heap.size ≤ w258.heap.size ∧ lkp L257 0 = some (.string (bs (p_s))) ∧ lkp L257 1 = some (.string (bs (p_more))) ∧ lkp L257 5 = some (.int .i64 ((k5 : Int))) ∧ lkp L257 6 = some (.bool (x255)) ∧ lkp L257 7 = some (.int .i64 ((k254 : Int))) ∧ lkp L257 19 = some (.string (bs (p_s))) ∧ lkp L257 20 = some (.int .i64 ((k5 : Int))) ∧ lkp L257 21 = some (.int .u8 (((p_s.getD k5 0).toNat : Int))) ∧ lkp L257 22 = some (.bool (decide (((p_s.getD k5 0).toNat : Int) ≤ 122))) ∧ lkp L257 25 = some (.string (bs (p_s))) ∧ lkp L257 26 = some (.int .i64 ((k5 : Int))) ∧ lkp L257 27 = some (.int .u8 (((p_s.getD k5 0).toNat : Int))) ∧ lkp L257 28 = some (.bool (decide (48 ≤ ((p_s.getD k5 0).toNat : Int)))) ∧ lkp L257 29 = some (.bool (decide (48 ≤ ((p_s.getD k5 0).toNat : Int)))) ∧ lkp L257 30 = some (.string (bs (p_s))) ∧ lkp L257 31 = some (.int .i64 ((k5 : Int))) ∧ lkp L257 32 = some (.int .u8 (((p_s.getD k5 0).toNat : Int))) ∧ lkp L257 33 = some (.bool (decide (((p_s.getD k5 0).toNat : Int) ≤ 57))) ∧ lkp L257 34 = some (.bool (decide (((p_s.getD k5 0).toNat : Int) ≤ 57))) ∧ Ex w w258 ∧ loopM (B_s_l3Bytes_1 p_s p_more k5) (p_more.length - k254) k254 (x255) = loopM (B_s_l3Bytes_1 p_s p_more k5) (p_more.length - 0) 0 (decide (((p_s.getD k5 0).toNat : Int) ≤ 57))) (p_more.length - 0) ?_ ?_))))))))
      ·exact ⟨0, decide (((p_s.getD k5 0).toNat : Int) ≤ 57), rfl, (by omega), Nat.le_refl _, rfl, rfl, rfl, rfl, rfl, rfl, rfl, rfl, rfl, rfl, rfl, rfl, rfl, rfl, rfl, rfl, rfl, rfl, rfl, hf18, rfl⟩
      ·rintro m259 L260 w261 ⟨k254, x255, rfl, hk262, hsz264, hl265, hl266, hl267, hl268, hl269, hl270, hl271, hl272, hl273, hl274, hl275, hl276, hl277, hl278, hl279, hl280, hl281, hl282, hl283, hf284, hI263⟩
       refine CW.sub (Sub.cons hl265 (Sub.cons hl266 (Sub.cons hl267 (Sub.cons hl268 (Sub.cons hl269 (Sub.cons hl270 (Sub.cons hl271 (Sub.cons hl272 (Sub.cons hl273 (Sub.cons hl274 (Sub.cons hl275 (Sub.cons hl276 (Sub.cons hl277 (Sub.cons hl278 (Sub.cons hl279 (Sub.cons hl280 (Sub.cons hl281 (Sub.cons hl282 (Sub.cons hl283 (Sub.nil _)))))))))))))))))))) ?_
       have hf284z := Ex.size hf284
       have hbg285 : p_more.length ≤ 1073741824 := o2
       rcases Nat.lt_or_ge k254 p_more.length with hlt286 | hlt286
       ·refine CW.seq (CW.seq (CW.region (sd rfl (yl_move rfl rfl (sd rfl (yl_move rfl rfl (sd rfl (yl_slen Try.un9 (a := p_more) rfl rfl (sd rfl (yl_lss rfl rfl rfl (SeqR.done (tn ?_))))))))))))
        refine CW.cond_t rfl (lt_t hlt286) (CW.skip (tn (CW.seq (CW.block (bcase (x255) (fun hb287 => ?_) (fun hb287 => ?_))))))
        ·refine CW.drawsI 11 (vgetI [DetI (.bool (x255)), DetI (.bool (x255)), DetI (undef), DetI (undef), DetI (undef), DetI (undef), DetI (undef), DetI (undef), DetI (undef), DetI (.bool (true)), DetI (.bool (true))]) Try.follows rfl rfl rfl rfl rfl rfl (vgetI_stable ⟨StableI.det _, StableI.det _, StableI.det _, StableI.det _, StableI.det _, StableI.det _, StableI.det _, StableI.det _, StableI.det _, StableI.det _, StableI.det _, trivial⟩) ⟨?_, ?_, ?_, ?_, ?_, ?_, ?_, ?_, ?_, ?_, ?_, trivial⟩ ?_
         ·exact fun _ _ h => os rfl ((yl_move rfl (h.old 6 _ rfl rfl) kI))
         ·exact fun _ _ h => os rfl ((yl_move rfl (h.dt 0 42 rfl rfl rfl) kI))
         ·exact fun _ _ h => OpR.skip rfl rfl (h.dt 1 43 rfl rfl rfl) hb287 ⟨rfl, Ex.refl _⟩
         ·exact fun _ _ h => OpR.skip rfl rfl (h.dt 1 43 rfl rfl rfl) hb287 ⟨rfl, Ex.refl _⟩
         ·exact fun _ _ h => OpR.skip rfl rfl (h.dt 1 43 rfl rfl rfl) hb287 ⟨rfl, Ex.refl _⟩
         ·exact fun _ _ h => OpR.skip rfl rfl (h.dt 1 43 rfl rfl rfl) hb287 ⟨rfl, Ex.refl _⟩
         ·exact fun _ _ h => OpR.skip rfl rfl (h.dt 1 43 rfl rfl rfl) hb287 ⟨rfl, Ex.refl _⟩
         ·exact fun _ _ h => OpR.skip rfl rfl (h.dt 1 43 rfl rfl rfl) hb287 ⟨rfl, Ex.refl _⟩
         ·exact fun _ _ h => OpR.skip rfl rfl (h.dt 1 43 rfl rfl rfl) hb287 ⟨rfl, Ex.refl _⟩
         ·exact fun _ _ h => os rfl ((yl_pick_t rfl (h.dt 1 43 rfl rfl rfl) hb287 rfl kI))
         ·exact fun _ _ h => os rfl ((yl_assign rfl (h.dt 9 51 rfl rfl rfl) kI))
         ·intro fl347 fh348 L344 w345 hp346
          have hE349 := hp346.ex
          have hE349z := Ex.size hE349
          refine SeqR.done (bn (tn (CW.sub (Sub.cons (d := 0) (hp346.old 0 _ rfl rfl) (Sub.cons (d := 1) (hp346.old 1 _ rfl rfl) (Sub.cons (d := 5) (hp346.old 5 _ rfl rfl) (Sub.cons (d := 6) (hp346.nt 10 6 rfl rfl rfl) (Sub.cons (d := 7) (hp346.old 7 _ rfl rfl) (Sub.cons (d := 19) (hp346.old 19 _ rfl rfl) (Sub.cons (d := 20) (hp346.old 20 _ rfl rfl) (Sub.cons (d := 21) (hp346.old 21 _ rfl rfl) (Sub.cons (d := 22) (hp346.old 22 _ rfl rfl) (Sub.cons (d := 25) (hp346.old 25 _ rfl rfl) (Sub.cons (d := 26) (hp346.old 26 _ rfl rfl) (Sub.cons (d := 27) (hp346.old 27 _ rfl rfl) (Sub.cons (d := 28) (hp346.old 28 _ rfl rfl) (Sub.cons (d := 29) (hp346.old 29 _ rfl rfl) (Sub.cons (d := 30) (hp346.old 30 _ rfl rfl) (Sub.cons (d := 31) (hp346.old 31 _ rfl rfl) (Sub.cons (d := 32) (hp346.old 32 _ rfl rfl) (Sub.cons (d := 33) (hp346.old 33 _ rfl rfl) (Sub.cons (d := 34) (hp346.old 34 _ rfl rfl) (Sub.cons (d := 44) (hp346.nt 2 44 rfl rfl rfl) (Sub.cons (d := 45) (hp346.nt 3 45 rfl rfl rfl) (Sub.cons (d := 46) (hp346.nt 4 46 rfl rfl rfl) (Sub.cons (d := 47) (hp346.nt 5 47 rfl rfl rfl) (Sub.cons (d := 48) (hp346.nt 6 48 rfl rfl rfl) (Sub.cons (d := 49) (hp346.nt 7 49 rfl rfl rfl) (Sub.cons (d := 50) (hp346.nt 8 50 rfl rfl rfl) (Sub.nil _))))))))))))))))))))))))))) (CW.region (sd rfl (yl_move rfl rfl (sd rfl (yl_inc rfl rfl rfl (by omega) (sd rfl (yl_assign rfl rfl (SeqR.done ?_)))))))))))
          refine tn ?_
          have hB376 : B_s_l3Bytes_1 p_s p_more k5 k254 (x255) = .cont (true) := by simp only [B_s_l3Bytes_1, hb21, hb22, hb253, hb287, cond_true, cond_false, loopE_done, loopE_ret]
          exact ⟨p_more.length - (k254 + 1), by omega, k254 + 1, true, rfl, hlt286, (by omega), rfl, rfl, rfl, rfl, rfl, rfl, rfl, rfl, rfl, rfl, rfl, rfl, rfl, rfl, rfl, rfl, rfl, rfl, rfl, (Ex.trans hf284 hE349), (loopM.cont hlt286 hB376).symm.trans hI263⟩
        ·refine CW.drawsI 11 (vgetI [DetI (.bool (x255)), DetI (.bool (x255)), DetI (.string (bs (p_s))), DetI (.int .i64 ((k5 : Int))), DetI (.int .u8 (((p_s.getD k5 0).toNat : Int))), DetI (.string (bs (p_more))), DetI (.int .i64 ((k254 : Int))), DetI (.int .u8 (((p_more.getD k254 0).toNat : Int))), DetI (.bool (decide (((p_s.getD k5 0).toNat : Int) = ((p_more.getD k254 0).toNat : Int)))), DetI (.bool (decide (((p_s.getD k5 0).toNat : Int) = ((p_more.getD k254 0).toNat : Int)))), DetI (.bool (decide (((p_s.getD k5 0).toNat : Int) = ((p_more.getD k254 0).toNat : Int))))]) Try.follows rfl rfl rfl rfl rfl rfl (vgetI_stable ⟨StableI.det _, StableI.det _, StableI.det _, StableI.det _, StableI.det _, StableI.det _, StableI.det _, StableI.det _, StableI.det _, StableI.det _, StableI.det _, trivial⟩) ⟨?_, ?_, ?_, ?_, ?_, ?_, ?_, ?_, ?_, ?_, ?_, trivial⟩ ?_
         ·exact fun _ _ h => os rfl ((yl_move rfl (h.old 6 _ rfl rfl) kI))
         ·exact fun _ _ h => os rfl ((yl_move rfl (h.dt 0 42 rfl rfl rfl) kI))
         ·exact fun _ _ h => OpR.want rfl rfl (h.dt 1 43 rfl rfl rfl) hb287 (Yl.sameI (yl_move rfl (h.old 0 _ rfl rfl) kI))
         ·exact fun _ _ h => OpR.want rfl rfl (h.dt 1 43 rfl rfl rfl) hb287 (Yl.sameI (yl_move rfl (h.old 5 _ rfl rfl) kI))
         ·intro L400 w401 hi402
          have hE403 := hi402.ex
          have hE403z := Ex.size hE403
          exact OpR.want rfl rfl (hi402.dt 1 43 rfl rfl rfl) hb287 (Yl.sameI (yl_sindexN Try.un9 (a := p_s) rfl (hi402.dt 2 44 rfl rfl rfl) (hi402.dt 3 45 rfl rfl rfl) (by first | omega | assumption | (simp only [IntKind.wrap_i64] at *; omega)) kI))
         ·exact fun _ _ h => OpR.want rfl rfl (h.dt 1 43 rfl rfl rfl) hb287 (Yl.sameI (yl_move rfl (h.old 1 _ rfl rfl) kI))
         ·exact fun _ _ h => OpR.want rfl rfl (h.dt 1 43 rfl rfl rfl) hb287 (Yl.sameI (yl_move rfl (h.old 7 _ rfl rfl) kI))
         ·intro L419 w420 hi421
          have hE422 := hi421.ex
          have hE422z := Ex.size hE422
          exact OpR.want rfl rfl (hi421.dt 1 43 rfl rfl rfl) hb287 (Yl.sameI (yl_sindexN Try.un9 (a := p_more) rfl (hi421.dt 5 47 rfl rfl rfl) (hi421.dt 6 48 rfl rfl rfl) (by first | omega | assumption | (simp only [IntKind.wrap_i64] at *; omega)) kI))
         ·exact fun _ _ h => OpR.want rfl rfl (h.dt 1 43 rfl rfl rfl) hb287 (Yl.sameI (yl_eql rfl (h.dt 4 46 rfl rfl rfl) (h.dt 7 49 rfl rfl rfl) kI))
         ·exact fun _ _ h => os rfl ((yl_pick_f rfl (h.dt 1 43 rfl rfl rfl) hb287 (h.dt 8 50 rfl rfl rfl) kI))
         ·exact fun _ _ h => os rfl ((yl_assign rfl (h.dt 9 51 rfl rfl rfl) kI))
         ·intro fl447 fh448 L444 w445 hp446
          have hE449 := hp446.ex
          have hE449z := Ex.size hE449
          refine SeqR.done (bn (tn (CW.sub (Sub.cons (d := 0) (hp446.old 0 _ rfl rfl) (Sub.cons (d := 1) (hp446.old 1 _ rfl rfl) (Sub.cons (d := 5) (hp446.old 5 _ rfl rfl) (Sub.cons (d := 6) (hp446.nt 10 6 rfl rfl rfl) (Sub.cons (d := 7) (hp446.old 7 _ rfl rfl) (Sub.cons (d := 19) (hp446.old 19 _ rfl rfl) (Sub.cons (d := 20) (hp446.old 20 _ rfl rfl) (Sub.cons (d := 21) (hp446.old 21 _ rfl rfl) (Sub.cons (d := 22) (hp446.old 22 _ rfl rfl) (Sub.cons (d := 25) (hp446.old 25 _ rfl rfl) (Sub.cons (d := 26) (hp446.old 26 _ rfl rfl) (Sub.cons (d := 27) (hp446.old 27 _ rfl rfl) (Sub.cons (d := 28) (hp446.old 28 _ rfl rfl) (Sub.cons (d := 29) (hp446.old 29 _ rfl rfl) (Sub.cons (d := 30) (hp446.old 30 _ rfl rfl) (Sub.cons (d := 31) (hp446.old 31 _ rfl rfl) (Sub.cons (d := 32) (hp446.old 32 _ rfl rfl) (Sub.cons (d := 33) (hp446.old 33 _ rfl rfl) (Sub.cons (d := 34) (hp446.old 34 _ rfl rfl) (Sub.cons (d := 44) (hp446.nt 2 44 rfl rfl rfl) (Sub.cons (d := 45) (hp446.nt 3 45 rfl rfl rfl) (Sub.cons (d := 46) (hp446.nt 4 46 rfl rfl rfl) (Sub.cons (d := 47) (hp446.nt 5 47 rfl rfl rfl) (Sub.cons (d := 48) (hp446.nt 6 48 rfl rfl rfl) (Sub.cons (d := 49) (hp446.nt 7 49 rfl rfl rfl) (Sub.cons (d := 50) (hp446.nt 8 50 rfl rfl rfl) (Sub.nil _))))))))))))))))))))))))))) (CW.region (sd rfl (yl_move rfl rfl (sd rfl (yl_inc rfl rfl rfl (by omega) (sd rfl (yl_assign rfl rfl (SeqR.done ?_)))))))))))
          refine tn ?_
          have hB476 : B_s_l3Bytes_1 p_s p_more k5 k254 (x255) = .cont (decide (((p_s.getD k5 0).toNat : Int) = ((p_more.getD k254 0).toNat : Int))) := by simp only [B_s_l3Bytes_1, hb21, hb22, hb253, hb287, cond_true, cond_false, loopE_done, loopE_ret]
          exact ⟨p_more.length - (k254 + 1), by omega, k254 + 1, decide (((p_s.getD k5 0).toNat : Int) = ((p_more.getD k254 0).toNat : Int)), rfl, hlt286, (by omega), rfl, rfl, rfl, rfl, rfl, rfl, rfl, rfl, rfl, rfl, rfl, rfl, rfl, rfl, rfl, rfl, rfl, rfl, rfl, (Ex.trans hf284 hE449), (loopM.cont hlt286 hB476).symm.trans hI263⟩
       ·refine CW.seq (CW.seq (CW.region (sd rfl (yl_move rfl rfl (sd rfl (yl_move rfl rfl (sd rfl (yl_slen Try.un9 (a := p_more) rfl rfl (sd rfl (yl_lss rfl rfl rfl (SeqR.done (tn ?_))))))))))))
        refine CW.cond_f rfl (lt_f hlt286) (CW.exit (tx (tx ?_)))
        have hL478 : loopM (B_s_l3Bytes_1 p_s p_more k5) (p_more.length - 0) 0 (decide (((p_s.getD k5 0).toNat : Int) ≤ 57)) = .done (x255) := hI263.symm.trans (loopM.stop hlt286)
        refine bx (tn (CW.seq (CW.region (sd rfl (yl_move rfl rfl (sd rfl (yl_not rfl rfl (SeqR.done (tn (bcase (x255) (fun hb479 => ?_) (fun hb479 => ?_)))))))))))
        ·refine CW.cond_f rfl (not_t hb479) (CW.skip (bn (tn (CW.region (sd rfl (yl_move rfl rfl (sd rfl (yl_inc rfl rfl rfl (by omega) (sd rfl (yl_assign rfl rfl (SeqR.done ?_)))))))))))
         refine tn ?_
         have hB480 : B_s_l3Bytes_0 p_s p_more k5 () = .cont () := by simp only [B_s_l3Bytes_0, hb21, hb22, hb253, hb479, hL478, cond_true, cond_false, loopE_done, loopE_ret]
         exact ⟨p_s.length - (k5 + 1), by omega, k5 + 1, rfl, hlt20, (by omega), rfl, rfl, rfl, hf284, (loopM.cont hlt20 hB480).symm.trans hI13⟩
        ·refine CW.cond_t rfl (not_f hb479) (CW.seq (CW.region (sd rfl (yl_assign rfl rfl (SeqR.done (tn (CW.ret (br (tr ?_)))))))))
         refine tr ?_
         have hB482 : B_s_l3Bytes_0 p_s p_more k5 () = .ret false := by simp only [B_s_l3Bytes_0, hb21, hb22, hb253, hb479, hL478, cond_true, cond_false, loopE_done, loopE_ret]
         have hL481 : loopM (B_s_l3Bytes_0 p_s p_more) (p_s.length - 0) 0 () = .ret false := hI13.symm.trans (loopM.ret hlt20 hB482)
         refine br (tr (rr rfl (.cons rfl .nil) ?_))
         have hM483 : (s_l3Bytes p_s p_more) = (false) := by simp only [s_l3Bytes, hb21, hb22, hb253, hb479, hL478, hL481, cond_true, cond_false, loopE_done, loopE_ret]
         rw [hM483]
         exact ⟨rfl, hf284⟩
     ·have hb253p := dec_f hb253
      refine sz rfl rfl hb253 (sz rfl rfl hb253 (sz rfl rfl hb253 (sz rfl rfl hb253 (sy rfl rfl hb22 (yl_pick_f rfl rfl hb253 rfl (sd rfl (yl_pick_f rfl rfl hb22 rfl (sd rfl (yl_assign rfl rfl (SeqR.done (tn ?_)))))))))))
      refine CW.seq (CW.seq (CW.region (sd rfl (yl_assign rfl rfl (SeqR.done (tn (CW.block (CW.loop (fun m486 L487 w488 => ∃ (k484 : Nat) (x485 : Bool), m486 = p_more.length - k484 ∧ k484 ≤ p_more.length ∧ w11.heap.size ≤ w488.heap.size ∧ lkp L487 0 = some (.string (bs (p_s))) ∧ lkp L487 1 = some (.string (bs (p_more))) ∧ lkp L487 5 = some (.int .i64 ((k5 : Int))) ∧ lkp L487 6 = some (.bool (x485)) ∧ lkp L487 7 = some (.int .i64 ((k484 : Int))) ∧ lkp L487 19 = some (.string (bs (p_s))) ∧ lkp L487 20 = some (.int .i64 ((k5 : Int))) ∧ lkp L487 21 = some (.int .u8 (((p_s.getD k5 0).toNat : Int))) ∧ lkp L487 22 = some (.bool (decide (((p_s.getD k5 0).toNat : Int) ≤ 122))) ∧ lkp L487 25 = some (.string (bs (p_s))) ∧ lkp L487 26 = some (.int .i64 ((k5 : Int))) ∧ lkp L487 27 = some (.int .u8 (((p_s.getD k5 0).toNat : Int))) ∧ lkp L487 28 = some (.bool (decide (48 ≤ ((p_s.getD k5 0).toNat : Int)))) ∧ lkp L487 29 = some (.bool (decide (48 ≤ ((p_s.getD k5 0).toNat : Int)))) ∧ lkp L487 30 = some (undef) ∧ lkp L487 31 = some (undef) ∧ lkp L487 32 = some (undef) ∧ lkp L487 33 = some (undef) ∧ lkp L487 34 = some (.bool (false)) ∧ Ex w w488 ∧ loopM (B_s_l3Bytes_1 p_s p_more k5) (p_more.length - k484) k484 (x485) = loopM (B_s_l3Bytes_1 p_s p_more k5) (p_more.length - 0) 0 (false)) (p_more.length - 0) ?_ ?_))))))))
      ·exact ⟨0, false, rfl, (by omega), Nat.le_refl _, rfl, rfl, rfl, rfl, rfl, rfl, rfl, rfl, rfl, rfl, rfl, rfl, rfl, rfl, rfl, rfl, rfl, rfl, rfl, hf18, rfl⟩
      ·rintro m489 L490 w491 ⟨k484, x485, rfl, hk492, hsz494, hl495, hl496, hl497, hl498, hl499, hl500, hl501, hl502, hl503, hl504, hl505, hl506, hl507, hl508, hl509, hl510, hl511, hl512, hl513, hf514, hI493⟩
       refine CW.sub (Sub.cons hl495 (Sub.cons hl496 (Sub.cons hl497 (Sub.cons hl498 (Sub.cons hl499 (Sub.cons hl500 (Sub.cons hl501 (Sub.cons hl502 (Sub.cons hl503 (Sub.cons hl504 (Sub.cons hl505 (Sub.cons hl506 (Sub.cons hl507 (Sub.cons hl508 (Sub.cons hl509 (Sub.cons hl510 (Sub.cons hl511 (Sub.cons hl512 (Sub.cons hl513 (Sub.nil _)))))))))))))))))))) ?_
       have hf514z := Ex.size hf514
       have hbg515 : p_more.length ≤ 1073741824 := o2
       rcases Nat.lt_or_ge k484 p_more.length with hlt516 | hlt516
       ·refine CW.seq (CW.seq (CW.region (sd rfl (yl_move rfl rfl (sd rfl (yl_move rfl rfl (sd rfl (yl_slen Try.un9 (a := p_more) rfl rfl (sd rfl (yl_lss rfl rfl rfl (SeqR.done (tn ?_))))))))))))
        refine CW.cond_t rfl (lt_t hlt516) (CW.skip (tn (CW.seq (CW.block (bcase (x485) (fun hb517 => ?_) (fun hb517 => ?_))))))
        ·refine CW.drawsI 11 (vgetI [DetI (.bool (x485)), DetI (.bool (x485)), DetI (undef), DetI (undef), DetI (undef), DetI (undef), DetI (undef), DetI (undef), DetI (undef), DetI (.bool (true)), DetI (.bool (true))]) Try.follows rfl rfl rfl rfl rfl rfl (vgetI_stable ⟨StableI.det _, StableI.det _, StableI.det _, StableI.det _, StableI.det _, StableI.det _, StableI.det _, StableI.det _, StableI.det _, StableI.det _, StableI.det _, trivial⟩) ⟨?_, ?_, ?_, ?_, ?_, ?_, ?_, ?_, ?_, ?_, ?_, trivial⟩ ?_
         ·exact fun _ _ h => os rfl ((yl_move rfl (h.old 6 _ rfl rfl) kI))
         ·exact fun _ _ h => os rfl ((yl_move rfl (h.dt 0 42 rfl rfl rfl) kI))
         ·exact fun _ _ h => OpR.skip rfl rfl (h.dt 1 43 rfl rfl rfl) hb517 ⟨rfl, Ex.refl _⟩
         ·exact fun _ _ h => OpR.skip rfl rfl (h.dt 1 43 rfl rfl rfl) hb517 ⟨rfl, Ex.refl _⟩
         ·exact fun _ _ h => OpR.skip rfl rfl (h.dt 1 43 rfl rfl rfl) hb517 ⟨rfl, Ex.refl _⟩
         ·exact fun _ _ h => OpR.skip rfl rfl (h.dt 1 43 rfl rfl rfl) hb517 ⟨rfl, Ex.refl _⟩
         ·exact fun _ _ h => OpR.skip rfl rfl (h.dt 1 43 rfl rfl rfl) hb517 ⟨rfl, Ex.refl _⟩
         ·exact fun _ _ h => OpR.skip rfl rfl (h.dt 1 43 rfl rfl rfl) hb517 ⟨rfl, Ex.refl _⟩
         ·exact fun _ _ h => OpR.skip rfl rfl (h.dt 1 43 rfl rfl rfl) hb517 ⟨rfl, Ex.refl _⟩
         ·exact fun _ _ h => os rfl ((yl_pick_t rfl (h.dt 1 43 rfl rfl rfl) hb517 rfl kI))
         ·exact fun _ _ h => os rfl ((yl_assign rfl (h.dt 9 51 rfl rfl rfl) kI))
         ·intro fl577 fh578 L574 w575 hp576
          have hE579 := hp576.ex
          have hE579z := Ex.size hE579
          refine SeqR.done (bn (tn (CW.sub (Sub.cons (d := 0) (hp576.old 0 _ rfl rfl) (Sub.cons (d := 1) (hp576.old 1 _ rfl rfl) (Sub.cons (d := 5) (hp576.old 5 _ rfl rfl) (Sub.cons (d := 6) (hp576.nt 10 6 rfl rfl rfl) (Sub.cons (d := 7) (hp576.old 7 _ rfl rfl) (Sub.cons (d := 19) (hp576.old 19 _ rfl rfl) (Sub.cons (d := 20) (hp576.old 20 _ rfl rfl) (Sub.cons (d := 21) (hp576.old 21 _ rfl rfl) (Sub.cons (d := 22) (hp576.old 22 _ rfl rfl) (Sub.cons (d := 25) (hp576.old 25 _ rfl rfl) (Sub.cons (d := 26) (hp576.old 26 _ rfl rfl) (Sub.cons (d := 27) (hp576.old 27 _ rfl rfl) (Sub.cons (d := 28) (hp576.old 28 _ rfl rfl) (Sub.cons (d := 29) (hp576.old 29 _ rfl rfl) (Sub.cons (d := 30) (hp576.old 30 _ rfl rfl) (Sub.cons (d := 31) (hp576.old 31 _ rfl rfl) (Sub.cons (d := 32) (hp576.old 32 _ rfl rfl) (Sub.cons (d := 33) (hp576.old 33 _ rfl rfl) (Sub.cons (d := 34) (hp576.old 34 _ rfl rfl) (Sub.cons (d := 44) (hp576.nt 2 44 rfl rfl rfl) (Sub.cons (d := 45) (hp576.nt 3 45 rfl rfl rfl) (Sub.cons (d := 46) (hp576.nt 4 46 rfl rfl rfl) (Sub.cons (d := 47) (hp576.nt 5 47 rfl rfl rfl) (Sub.cons (d := 48) (hp576.nt 6 48 rfl rfl rfl) (Sub.cons (d := 49) (hp576.nt 7 49 rfl rfl rfl) (Sub.cons (d := 50) (hp576.nt 8 50 rfl rfl rfl) (Sub.nil _))))))))))))))))))))))))))) (CW.region (sd rfl (yl_move rfl rfl (sd rfl (yl_inc rfl rfl rfl (by omega) (sd rfl (yl_assign rfl rfl (SeqR.done ?_)))))))))))
          refine tn ?_
          have hB606 : B_s_l3Bytes_1 p_s p_more k5 k484 (x485) = .cont (true) := by simp only [B_s_l3Bytes_1, hb21, hb22, hb253, hb517, cond_true, cond_false, loopE_done, loopE_ret]
          exact ⟨p_more.length - (k484 + 1), by omega, k484 + 1, true, rfl, hlt516, (by omega), rfl, rfl, rfl, rfl, rfl, rfl, rfl, rfl, rfl, rfl, rfl, rfl, rfl, rfl, rfl, rfl, rfl, rfl, rfl, (Ex.trans hf514 hE579), (loopM.cont hlt516 hB606).symm.trans hI493⟩
        ·refine CW.drawsI 11 (vgetI [DetI (.bool (x485)), DetI (.bool (x485)), DetI (.string (bs (p_s))), DetI (.int .i64 ((k5 : Int))), DetI (.int .u8 (((p_s.getD k5 0).toNat : Int))), DetI (.string (bs (p_more))), DetI (.int .i64 ((k484 : Int))), DetI (.int .u8 (((p_more.getD k484 0).toNat : Int))), DetI (.bool (decide (((p_s.getD k5 0).toNat : Int) = ((p_more.getD k484 0).toNat : Int)))), DetI (.bool (decide (((p_s.getD k5 0).toNat : Int) = ((p_more.getD k484 0).toNat : Int)))), DetI (.bool (decide (((p_s.getD k5 0).toNat : Int) = ((p_more.getD k484 0).toNat : Int))))]) Try.follows rfl rfl rfl rfl rfl rfl (vgetI_stable ⟨StableI.det _, StableI.det _, StableI.det _, StableI.det _, StableI.det _, StableI.det _, StableI.det _, StableI.det _, StableI.det _, StableI.det _, StableI.det _, trivial⟩) ⟨?_, ?_, ?_, ?_, ?_, ?_, ?_, ?_, ?_, ?_, ?_, trivial⟩ ?_
         ·exact fun _ _ h => os rfl ((yl_move rfl (h.old 6 _ rfl rfl) kI))
         ·exact fun _ _ h => os rfl ((yl_move rfl (h.dt 0 42 rfl rfl rfl) kI))
         ·exact fun _ _ h => OpR.want rfl rfl (h.dt 1 43 rfl rfl rfl) hb517 (Yl.sameI (yl_move rfl (h.old 0 _ rfl rfl) kI))
         ·exact fun _ _ h => OpR.want rfl rfl (h.dt 1 43 rfl rfl rfl) hb517 (Yl.sameI (yl_move rfl (h.old 5 _ rfl rfl) kI))
         ·intro L630 w631 hi632
          have hE633 := hi632.ex
          have hE633z := Ex.size hE633
          exact OpR.want rfl rfl (hi632.dt 1 43 rfl rfl rfl) hb517 (Yl.sameI (yl_sindexN Try.un9 (a := p_s) rfl (hi632.dt 2 44 rfl rfl rfl) (hi632.dt 3 45 rfl rfl rfl) (by first | omega | assumption | (simp only [IntKind.wrap_i64] at *; omega)) kI))
         ·exact fun _ _ h => OpR.want rfl rfl (h.dt 1 43 rfl rfl rfl) hb517 (Yl.sameI (yl_move rfl (h.old 1 _ rfl rfl) kI))
         ·exact fun _ _ h => OpR.want rfl rfl (h.dt 1 43 rfl rfl rfl) hb517 (Yl.sameI (yl_move rfl (h.old 7 _ rfl rfl) kI))
         ·intro L649 w650 hi651
          have hE652 := hi651.ex
          have hE652z := Ex.size hE652
          exact OpR.want rfl rfl (hi651.dt 1 43 rfl rfl rfl) hb517 (Yl.sameI (yl_sindexN Try.un9 (a := p_more) rfl (hi651.dt 5 47 rfl rfl rfl) (hi651.dt 6 48 rfl rfl rfl) (by first | omega | assumption | (simp only [IntKind.wrap_i64] at *; omega)) kI))
         ·exact fun _ _ h => OpR.want rfl rfl (h.dt 1 43 rfl rfl rfl) hb517 (Yl.sameI (yl_eql rfl (h.dt 4 46 rfl rfl rfl) (h.dt 7 49 rfl rfl rfl) kI))
         ·exact fun _ _ h => os rfl ((yl_pick_f rfl (h.dt 1 43 rfl rfl rfl) hb517 (h.dt 8 50 rfl rfl rfl) kI))
         ·exact fun _ _ h => os rfl ((yl_assign rfl (h.dt 9 51 rfl rfl rfl) kI))
         ·intro fl677 fh678 L674 w675 hp676
          have hE679 := hp676.ex
          have hE679z := Ex.size hE679
          refine SeqR.done (bn (tn (CW.sub (Sub.cons (d := 0) (hp676.old 0 _ rfl rfl) (Sub.cons (d := 1) (hp676.old 1 _ rfl rfl) (Sub.cons (d := 5) (hp676.old 5 _ rfl rfl) (Sub.cons (d := 6) (hp676.nt 10 6 rfl rfl rfl) (Sub.cons (d := 7) (hp676.old 7 _ rfl rfl) (Sub.cons (d := 19) (hp676.old 19 _ rfl rfl) (Sub.cons (d := 20) (hp676.old 20 _ rfl rfl) (Sub.cons (d := 21) (hp676.old 21 _ rfl rfl) (Sub.cons (d := 22) (hp676.old 22 _ rfl rfl) (Sub.cons (d := 25) (hp676.old 25 _ rfl rfl) (Sub.cons (d := 26) (hp676.old 26 _ rfl rfl) (Sub.cons (d := 27) (hp676.old 27 _ rfl rfl) (Sub.cons (d := 28) (hp676.old 28 _ rfl rfl) (Sub.cons (d := 29) (hp676.old 29 _ rfl rfl) (Sub.cons (d := 30) (hp676.old 30 _ rfl rfl) (Sub.cons (d := 31) (hp676.old 31 _ rfl rfl) (Sub.cons (d := 32) (hp676.old 32 _ rfl rfl) (Sub.cons (d := 33) (hp676.old 33 _ rfl rfl) (Sub.cons (d := 34) (hp676.old 34 _ rfl rfl) (Sub.cons (d := 44) (hp676.nt 2 44 rfl rfl rfl) (Sub.cons (d := 45) (hp676.nt 3 45 rfl rfl rfl) (Sub.cons (d := 46) (hp676.nt 4 46 rfl rfl rfl) (Sub.cons (d := 47) (hp676.nt 5 47 rfl rfl rfl) (Sub.cons (d := 48) (hp676.nt 6 48 rfl rfl rfl) (Sub.cons (d := 49) (hp676.nt 7 49 rfl rfl rfl) (Sub.cons (d := 50) (hp676.nt 8 50 rfl rfl rfl) (Sub.nil _))))))))))))))))))))))))))) (CW.region (sd rfl (yl_move rfl rfl (sd rfl (yl_inc rfl rfl rfl (by omega) (sd rfl (yl_assign rfl rfl (SeqR.done ?_)))))))))))
          refine tn ?_
          have hB706 : B_s_l3Bytes_1 p_s p_more k5 k484 (x485) = .cont (decide (((p_s.getD k5 0).toNat : Int) = ((p_more.getD k484 0).toNat : Int))) := by simp only [B_s_l3Bytes_1, hb21, hb22, hb253, hb517, cond_true, cond_false, loopE_done, loopE_ret]
          exact ⟨p_more.length - (k484 + 1), by omega, k484 + 1, decide (((p_s.getD k5 0).toNat : Int) = ((p_more.getD k484 0).toNat : Int)), rfl, hlt516, (by omega), rfl, rfl, rfl, rfl, rfl, rfl, rfl, rfl, rfl, rfl, rfl, rfl, rfl, rfl, rfl, rfl, rfl, rfl, rfl, (Ex.trans hf514 hE679), (loopM.cont hlt516 hB706).symm.trans hI493⟩
       ·refine CW.seq (CW.seq (CW.region (sd rfl (yl_move rfl rfl (sd rfl (yl_move rfl rfl (sd rfl (yl_slen Try.un9 (a := p_more) rfl rfl (sd rfl (yl_lss rfl rfl rfl (SeqR.done (tn ?_))))))))))))
        refine CW.cond_f rfl (lt_f hlt516) (CW.exit (tx (tx ?_)))
        have hL708 : loopM (B_s_l3Bytes_1 p_s p_more k5) (p_more.length - 0) 0 (false) = .done (x485) := hI493.symm.trans (loopM.stop hlt516)
        refine bx (tn (CW.seq (CW.region (sd rfl (yl_move rfl rfl (sd rfl (yl_not rfl rfl (SeqR.done (tn (bcase (x485) (fun hb709 => ?_) (fun hb709 => ?_)))))))))))
        ·refine CW.cond_f rfl (not_t hb709) (CW.skip (bn (tn (CW.region (sd rfl (yl_move rfl rfl (sd rfl (yl_inc rfl rfl rfl (by omega) (sd rfl (yl_assign rfl rfl (SeqR.done ?_)))))))))))
         refine tn ?_
         have hB710 : B_s_l3Bytes_0 p_s p_more k5 () = .cont () := by simp only [B_s_l3Bytes_0, hb21, hb22, hb253, hb709, hL708, cond_true, cond_false, loopE_done, loopE_ret]
         exact ⟨p_s.length - (k5 + 1), by omega, k5 + 1, rfl, hlt20, (by omega), rfl, rfl, rfl, hf514, (loopM.cont hlt20 hB710).symm.trans hI13⟩
        ·refine CW.cond_t rfl (not_f hb709) (CW.seq (CW.region (sd rfl (yl_assign rfl rfl (SeqR.done (tn (CW.ret (br (tr ?_)))))))))
         refine tr ?_
         have hB712 : B_s_l3Bytes_0 p_s p_more k5 () = .ret false := by simp only [B_s_l3Bytes_0, hb21, hb22, hb253, hb709, hL708, cond_true, cond_false, loopE_done, loopE_ret]
         have hL711 : loopM (B_s_l3Bytes_0 p_s p_more) (p_s.length - 0) 0 () = .ret false := hI13.symm.trans (loopM.ret hlt20 hB712)
         refine br (tr (rr rfl (.cons rfl .nil) ?_))
         have hM713 : (s_l3Bytes p_s p_more) = (false) := by simp only [s_l3Bytes, hb21, hb22, hb253, hb709, hL708, hL711, cond_true, cond_false, loopE_done, loopE_ret]
         rw [hM713]
         exact ⟨rfl, hf514⟩
   ·have hb21p := dec_f hb21
    refine sz rfl rfl hb21 (sz rfl rfl hb21 (sz rfl rfl hb21 (sz rfl rfl hb21 (sd rfl (yl_pick_f rfl rfl hb21 rfl (sd rfl (yl_move rfl rfl (sy rfl rfl rfl (yl_move rfl rfl (sy rfl rfl rfl (yl_move rfl rfl (sy rfl rfl rfl (yl_sindexN Try.un9 (a := p_s) rfl rfl rfl (by first | omega | assumption | (simp only [IntKind.wrap_i64] at *; omega)) ?_)))))))))))))
    refine sy rfl rfl rfl (yl_geq rfl rfl rfl (sy rfl rfl rfl (yl_move rfl rfl (bcase (decide (48 ≤ ((p_s.getD k5 0).toNat : Int))) (fun hb714 => ?_) (fun hb714 => ?_)))))
    ·have hb714p := dec_t hb714
     refine sy rfl rfl hb714 (yl_move rfl rfl (sy rfl rfl hb714 (yl_move rfl rfl (sy rfl rfl hb714 (yl_sindexN Try.un9 (a := p_s) rfl rfl rfl (by first | omega | assumption | (simp only [IntKind.wrap_i64] at *; omega)) (sy rfl rfl hb714 (yl_leq rfl rfl rfl (sy rfl rfl rfl (yl_pick_t rfl rfl hb714 rfl (sd rfl (yl_pick_f rfl rfl rfl rfl (sd rfl (yl_assign rfl rfl (SeqR.done (tn ?_)))))))))))))))
     refine CW.seq (CW.seq (CW.region (sd rfl (yl_assign rfl rfl (SeqR.done (tn (CW.block (CW.loop (fun m717 L718 w719 => ∃ (k715 : Nat) (x716 : Bool), m717 = p_more.length - k715 ∧ k715 ≤ p_more.length ∧ w11.heap.size ≤ w719.heap.size ∧ lkp L718 0 = some (.string (bs (p_s))) ∧ lkp L718 1 = some (.string (bs (p_more))) ∧ lkp L718 5 = some (.int .i64 ((k5 : Int))) ∧ lkp L718 6 = some (.bool (x716)) ∧ lkp L718 7 = some (.int .i64 ((k715 : Int))) ∧ lkp L718 19 = some (undef) ∧ lkp L718 20 = some (undef) ∧ lkp L718 21 = some (undef) ∧ lkp L718 22 = some (undef) ∧ lkp L718 25 = some (.string (bs (p_s))) ∧ lkp L718 26 = some (.int .i64 ((k5 : Int))) ∧ lkp L718 27 = some (.int .u8 (((p_s.getD k5 0).toNat : Int))) ∧ lkp L718 28 = some (.bool (decide (48 ≤ ((p_s.getD k5 0).toNat : Int)))) ∧ lkp L718 29 = some (.bool (decide (48 ≤ ((p_s.getD k5 0).toNat : Int)))) ∧ lkp L718 30 = some (.string (bs (p_s))) ∧ lkp L718 31 = some (.int .i64 ((k5 : Int))) ∧ lkp L718 32 = some (.int .u8 (((p_s.getD k5 0).toNat : Int))) ∧ lkp L718 33 = some (.bool (decide (((p_s.getD k5 0).toNat : Int) ≤ 57))) ∧ lkp L718 34 = some (.bool (decide (((p_s.getD k5 0).toNat : Int) ≤ 57))) ∧ Ex w w719 ∧ loopM (B_s_l3Bytes_1 p_s p_more k5) (p_more.length - k715) k715 (x716) = loopM (B_s_l3Bytes_1 p_s p_more k5) (p_more.length - 0) 0 (decide (((p_s.getD k5 0).toNat : Int) ≤ 57))) (p_more.length - 0) ?_ ?_))))))))
     ·exact ⟨0, decide (((p_s.getD k5 0).toNat : Int) ≤ 57), rfl, (by omega), Nat.le_refl _, rfl, rfl, rfl, rfl, rfl, rfl, rfl, rfl, rfl, rfl, rfl, rfl, rfl, rfl, rfl, rfl, rfl, rfl, rfl, hf18, rfl⟩
     ·rintro m720 L721 w722 ⟨k715, x716, rfl, hk723, hsz725, hl726, hl727, hl728, hl729, hl730, hl731, hl732, hl733, hl734, hl735, hl736, hl737, hl738, hl739, hl740, hl741, hl742, hl743, hl744, hf745, hI724⟩
      refine CW.sub (Sub.cons hl726 (Sub.cons hl727 (Sub.cons hl728 (Sub.cons hl729 (Sub.cons hl730 (Sub.cons hl731 (Sub.cons hl732 (Sub.cons hl733 (Sub.cons hl734 (Sub.cons hl735 (Sub.cons hl736 (Sub.cons hl737 (Sub.cons hl738 (Sub.cons hl739 (Sub.cons hl740 (Sub.cons hl741 (Sub.cons hl742 (Sub.cons hl743 (Sub.cons hl744 (Sub.nil _)))))))))))))))))))) ?_
      have hf745z := Ex.size hf745
      have hbg746 : p_more.length ≤ 1073741824 := o2
      rcases Nat.lt_or_ge k715 p_more.length with hlt747 | hlt747
      ·refine CW.seq (CW.seq (CW.region (sd rfl (yl_move rfl rfl (sd rfl (yl_move rfl rfl (sd rfl (yl_slen Try.un9 (a := p_more) rfl rfl (sd rfl (yl_lss rfl rfl rfl (SeqR.done (tn ?_))))))))))))
       refine CW.cond_t rfl (lt_t hlt747) (CW.skip (tn (CW.seq (CW.block (bcase (x716) (fun hb748 => ?_) (fun hb748 => ?_))))))
       ·refine CW.drawsI 11 (vgetI [DetI (.bool (x716)), DetI (.bool (x716)), DetI (undef), DetI (undef), DetI (undef), DetI (undef), DetI (undef), DetI (undef), DetI (undef), DetI (.bool (true)), DetI (.bool (true))]) Try.follows rfl rfl rfl rfl rfl rfl (vgetI_stable ⟨StableI.det _, StableI.det _, StableI.det _, StableI.det _, StableI.det _, StableI.det _, StableI.det _, StableI.det _, StableI.det _, StableI.det _, StableI.det _, trivial⟩) ⟨?_, ?_, ?_, ?_, ?_, ?_, ?_, ?_, ?_, ?_, ?_, trivial⟩ ?_
        ·exact fun _ _ h => os rfl ((yl_move rfl (h.old 6 _ rfl rfl) kI))
        ·exact fun _ _ h => os rfl ((yl_move rfl (h.dt 0 42 rfl rfl rfl) kI))
        ·exact fun _ _ h => OpR.skip rfl rfl (h.dt 1 43 rfl rfl rfl) hb748 ⟨rfl, Ex.refl _⟩
        ·exact fun _ _ h => OpR.skip rfl rfl (h.dt 1 43 rfl rfl rfl) hb748 ⟨rfl, Ex.refl _⟩
        ·exact fun _ _ h => OpR.skip rfl rfl (h.dt 1 43 rfl rfl rfl) hb748 ⟨rfl, Ex.refl _⟩
        ·exact fun _ _ h => OpR.skip rfl rfl (h.dt 1 43 rfl rfl rfl) hb748 ⟨rfl, Ex.refl _⟩
        ·exact fun _ _ h => OpR.skip rfl rfl (h.dt 1 43 rfl rfl rfl) hb748 ⟨rfl, Ex.refl _⟩
        ·exact fun _ _ h => OpR.skip rfl rfl (h.dt 1 43 rfl rfl rfl) hb748 ⟨rfl, Ex.refl _⟩
        ·exact fun _ _ h => OpR.skip rfl rfl (h.dt 1 43 rfl rfl rfl) hb748 ⟨rfl, Ex.refl _⟩
        ·exact fun _ _ h => os rfl ((yl_pick_t rfl (h.dt 1 43 rfl rfl rfl) hb748 rfl kI))
        ·exact fun _ _ h => os rfl ((yl_assign rfl (h.dt 9 51 rfl rfl rfl) kI))
        ·intro fl808 fh809 L805 w806 hp807
         have hE810 := hp807.ex
         have hE810z := Ex.size hE810
         refine SeqR.done (bn (tn (CW.sub (Sub.cons (d := 0) (hp807.old 0 _ rfl rfl) (Sub.cons (d := 1) (hp807.old 1 _ rfl rfl) (Sub.cons (d := 5) (hp807.old 5 _ rfl rfl) (Sub.cons (d := 6) (hp807.nt 10 6 rfl rfl rfl) (Sub.cons (d := 7) (hp807.old 7 _ rfl rfl) (Sub.cons (d := 19) (hp807.old 19 _ rfl rfl) (Sub.cons (d := 20) (hp807.old 20 _ rfl rfl) (Sub.cons (d := 21) (hp807.old 21 _ rfl rfl) (Sub.cons (d := 22) (hp807.old 22 _ rfl rfl) (Sub.cons (d := 25) (hp807.old 25 _ rfl rfl) (Sub.cons (d := 26) (hp807.old 26 _ rfl rfl) (Sub.cons (d := 27) (hp807.old 27 _ rfl rfl) (Sub.cons (d := 28) (hp807.old 28 _ rfl rfl) (Sub.cons (d := 29) (hp807.old 29 _ rfl rfl) (Sub.cons (d := 30) (hp807.old 30 _ rfl rfl) (Sub.cons (d := 31) (hp807.old 31 _ rfl rfl) (Sub.cons (d := 32) (hp807.old 32 _ rfl rfl) (Sub.cons (d := 33) (hp807.old 33 _ rfl rfl) (Sub.cons (d := 34) (hp807.old 34 _ rfl rfl) (Sub.cons (d := 44) (hp807.nt 2 44 rfl rfl rfl) (Sub.cons (d := 45) (hp807.nt 3 45 rfl rfl rfl) (Sub.cons (d := 46) (hp807.nt 4 46 rfl rfl rfl) (Sub.cons (d := 47) (hp807.nt 5 47 rfl rfl rfl) (Sub.cons (d := 48) (hp807.nt 6 48 rfl rfl rfl) (Sub.cons (d := 49) (hp807.nt 7 49 rfl rfl rfl) (Sub.cons (d := 50) (hp807.nt 8 50 rfl rfl rfl) (Sub.nil _))))))))))))))))))))))))))) (CW.region (sd rfl (yl_move rfl rfl (sd rfl (yl_inc rfl rfl rfl (by omega) (sd rfl (yl_assign rfl rfl (SeqR.done ?_)))))))))))
         refine tn ?_
         have hB837 : B_s_l3Bytes_1 p_s p_more k5 k715 (x716) = .cont (true) := by simp only [B_s_l3Bytes_1, hb21, hb714, hb748, cond_true, cond_false, loopE_done, loopE_ret]
         exact ⟨p_more.length - (k715 + 1), by omega, k715 + 1, true, rfl, hlt747, (by omega), rfl, rfl, rfl, rfl, rfl, rfl, rfl, rfl, rfl, rfl, rfl, rfl, rfl, rfl, rfl, rfl, rfl, rfl, rfl, (Ex.trans hf745 hE810), (loopM.cont hlt747 hB837).symm.trans hI724⟩
       ·refine CW.drawsI 11 (vgetI [DetI (.bool (x716)), DetI (.bool (x716)), DetI (.string (bs (p_s))), DetI (.int .i64 ((k5 : Int))), DetI (.int .u8 (((p_s.getD k5 0).toNat : Int))), DetI (.string (bs (p_more))), DetI (.int .i64 ((k715 : Int))), DetI (.int .u8 (((p_more.getD k715 0).toNat : Int))), DetI (.bool (decide (((p_s.getD k5 0).toNat : Int) = ((p_more.getD k715 0).toNat : Int)))), DetI (.bool (decide (((p_s.getD k5 0).toNat : Int) = ((p_more.getD k715 0).toNat : Int)))), DetI (.bool (decide (((p_s.getD k5 0).toNat : Int) = ((p_more.getD k715 0).toNat : Int))))]) Try.follows rfl rfl rfl rfl rfl rfl (vgetI_stable ⟨StableI.det _, StableI.det _, StableI.det _, StableI.det _, StableI.det _, StableI.det _, StableI.det _, StableI.det _, StableI.det _, StableI.det _, StableI.det _, trivial⟩) ⟨?_, ?_, ?_, ?_, ?_, ?_, ?_, ?_, ?_, ?_, ?_, trivial⟩ ?_
        ·exact fun _ _ h => os rfl ((yl_move rfl (h.old 6 _ rfl rfl) kI))
        ·exact fun _ _ h => os rfl ((yl_move rfl (h.dt 0 42 rfl rfl rfl) kI))
        ·exact fun _ _ h => OpR.want rfl rfl (h.dt 1 43 rfl rfl rfl) hb748 (Yl.sameI (yl_move rfl (h.old 0 _ rfl rfl) kI))
        ·exact fun _ _ h => OpR.want rfl rfl (h.dt 1 43 rfl rfl rfl) hb748 (Yl.sameI (yl_move rfl (h.old 5 _ rfl rfl) kI))
        ·intro L861 w862 hi863
         have hE864 := hi863.ex
         have hE864z := Ex.size hE864
         exact OpR.want rfl rfl (hi863.dt 1 43 rfl rfl rfl) hb748 (Yl.sameI (yl_sindexN Try.un9 (a := p_s) rfl (hi863.dt 2 44 rfl rfl rfl) (hi863.dt 3 45 rfl rfl rfl) (by first | omega | assumption | (simp only [IntKind.wrap_i64] at *; omega)) kI))
        ·exact fun _ _ h => OpR.want rfl rfl (h.dt 1 43 rfl rfl rfl) hb748 (Yl.sameI (yl_move rfl (h.old 1 _ rfl rfl) kI))
        ·exact fun _ _ h => OpR.want rfl rfl (h.dt 1 43 rfl rfl rfl) hb748 (Yl.sameI (yl_move rfl (h.old 7 _ rfl rfl) kI))
        ·intro L880 w881 hi882
         have hE883 := hi882.ex
         have hE883z := Ex.size hE883
         exact OpR.want rfl rfl (hi882.dt 1 43 rfl rfl rfl) hb748 (Yl.sameI (yl_sindexN Try.un9 (a := p_more) rfl (hi882.dt 5 47 rfl rfl rfl) (hi882.dt 6 48 rfl rfl rfl) (by first | omega | assumption | (simp only [IntKind.wrap_i64] at *; omega)) kI))
        ·exact fun _ _ h => OpR.want rfl rfl (h.dt 1 43 rfl rfl rfl) hb748 (Yl.sameI (yl_eql rfl (h.dt 4 46 rfl rfl rfl) (h.dt 7 49 rfl rfl rfl) kI))
        ·exact fun _ _ h => os rfl ((yl_pick_f rfl (h.dt 1 43 rfl rfl rfl) hb748 (h.dt 8 50 rfl rfl rfl) kI))
        ·exact fun _ _ h => os rfl ((yl_assign rfl (h.dt 9 51 rfl rfl rfl) kI))
        ·intro fl908 fh909 L905 w906 hp907
         have hE910 := hp907.ex
         have hE910z := Ex.size hE910
         refine SeqR.done (bn (tn (CW.sub (Sub.cons (d := 0) (hp907.old 0 _ rfl rfl) (Sub.cons (d := 1) (hp907.old 1 _ rfl rfl) (Sub.cons (d := 5) (hp907.old 5 _ rfl rfl) (Sub.cons (d := 6) (hp907.nt 10 6 rfl rfl rfl) (Sub.cons (d := 7) (hp907.old 7 _ rfl rfl) (Sub.cons (d := 19) (hp907.old 19 _ rfl rfl) (Sub.cons (d := 20) (hp907.old 20 _ rfl rfl) (Sub.cons (d := 21) (hp907.old 21 _ rfl rfl) (Sub.cons (d := 22) (hp907.old 22 _ rfl rfl) (Sub.cons (d := 25) (hp907.old 25 _ rfl rfl) (Sub.cons (d := 26) (hp907.old 26 _ rfl rfl) (Sub.cons (d := 27) (hp907.old 27 _ rfl rfl) (Sub.cons (d := 28) (hp907.old 28 _ rfl rfl) (Sub.cons (d := 29) (hp907.old 29 _ rfl rfl) (Sub.cons (d := 30) (hp907.old 30 _ rfl rfl) (Sub.cons (d := 31) (hp907.old 31 _ rfl rfl) (Sub.cons (d := 32) (hp907.old 32 _ rfl rfl) (Sub.cons (d := 33) (hp907.old 33 _ rfl rfl) (Sub.cons (d := 34) (hp907.old 34 _ rfl rfl) (Sub.cons (d := 44) (hp907.nt 2 44 rfl rfl rfl) (Sub.cons (d := 45) (hp907.nt 3 45 rfl rfl rfl) (Sub.cons (d := 46) (hp907.nt 4 46 rfl rfl rfl) (Sub.cons (d := 47) (hp907.nt 5 47 rfl rfl rfl) (Sub.cons (d := 48) (hp907.nt 6 48 rfl rfl rfl) (Sub.cons (d := 49) (hp907.nt 7 49 rfl rfl rfl) (Sub.cons (d := 50) (hp907.nt 8 50 rfl rfl rfl) (Sub.nil _))))))))))))))))))))))))))) (CW.region (sd rfl (yl_move rfl rfl (sd rfl (yl_inc rfl rfl rfl (by omega) (sd rfl (yl_assign rfl rfl (SeqR.done ?_)))))))))))
         refine tn ?_
         have hB937 : B_s_l3Bytes_1 p_s p_more k5 k715 (x716) = .cont (decide (((p_s.getD k5 0).toNat : Int) = ((p_more.getD k715 0).toNat : Int))) := by simp only [B_s_l3Bytes_1, hb21, hb714, hb748, cond_true, cond_false, loopE_done, loopE_ret]
         exact ⟨p_more.length - (k715 + 1), by omega, k715 + 1, decide (((p_s.getD k5 0).toNat : Int) = ((p_more.getD k715 0).toNat : Int)), rfl, hlt747, (by omega), rfl, rfl, rfl, rfl, rfl, rfl, rfl, rfl, rfl, rfl, rfl, rfl, rfl, rfl, rfl, rfl, rfl, rfl, rfl, (Ex.trans hf745 hE910), (loopM.cont hlt747 hB937).symm.trans hI724⟩
      ·refine CW.seq (CW.seq (CW.region (sd rfl (yl_move rfl rfl (sd rfl (yl_move rfl rfl (sd rfl (yl_slen Try.un9 (a := p_more) rfl rfl (sd rfl (yl_lss rfl rfl rfl (SeqR.done (tn ?_))))))))))))
       refine CW.cond_f rfl (lt_f hlt747) (CW.exit (tx (tx ?_)))
       have hL939 : loopM (B_s_l3Bytes_1 p_s p_more k5) (p_more.length - 0) 0 (decide (((p_s.getD k5 0).toNat : Int) ≤ 57)) = .done (x716) := hI724.symm.trans (loopM.stop hlt747)
       refine bx (tn (CW.seq (CW.region (sd rfl (yl_move rfl rfl (sd rfl (yl_not rfl rfl (SeqR.done (tn (bcase (x716) (fun hb940 => ?_) (fun hb940 => ?_)))))))))))
       ·refine CW.cond_f rfl (not_t hb940) (CW.skip (bn (tn (CW.region (sd rfl (yl_move rfl rfl (sd rfl (yl_inc rfl rfl rfl (by omega) (sd rfl (yl_assign rfl rfl (SeqR.done ?_)))))))))))
        refine tn ?_
        have hB941 : B_s_l3Bytes_0 p_s p_more k5 () = .cont () := by simp only [B_s_l3Bytes_0, hb21, hb714, hb940, hL939, cond_true, cond_false, loopE_done, loopE_ret]
        exact ⟨p_s.length - (k5 + 1), by omega, k5 + 1, rfl, hlt20, (by omega), rfl, rfl, rfl, hf745, (loopM.cont hlt20 hB941).symm.trans hI13⟩
       ·refine CW.cond_t rfl (not_f hb940) (CW.seq (CW.region (sd rfl (yl_assign rfl rfl (SeqR.done (tn (CW.ret (br (tr ?_)))))))))
        refine tr ?_
        have hB943 : B_s_l3Bytes_0 p_s p_more k5 () = .ret false := by simp only [B_s_l3Bytes_0, hb21, hb714, hb940, hL939, cond_true, cond_false, loopE_done, loopE_ret]
        have hL942 : loopM (B_s_l3Bytes_0 p_s p_more) (p_s.length - 0) 0 () = .ret false := hI13.symm.trans (loopM.ret hlt20 hB943)
        refine br (tr (rr rfl (.cons rfl .nil) ?_))
        have hM944 : (s_l3Bytes p_s p_more) = (false) := by simp only [s_l3Bytes, hb21, hb714, hb940, hL939, hL942, cond_true, cond_false, loopE_done, loopE_ret]
        rw [hM944]
        exact ⟨rfl, hf745⟩
    ·have hb714p := dec_f hb714
     refine sz rfl rfl hb714 (sz rfl rfl hb714 (sz rfl rfl hb714 (sz rfl rfl hb714 (sy rfl rfl rfl (yl_pick_f rfl rfl hb714 rfl (sd rfl (yl_pick_f rfl rfl rfl rfl (sd rfl (yl_assign rfl rfl (SeqR.done (tn ?_)))))))))))
     refine CW.seq (CW.seq (CW.region (sd rfl (yl_assign rfl rfl (SeqR.done (tn (CW.block (CW.loop (fun m947 L948 w949 => ∃ (k945 : Nat) (x946 : Bool), m947 = p_more.length - k945 ∧ k945 ≤ p_more.length ∧ w11.heap.size ≤ w949.heap.size ∧ lkp L948 0 = some (.string (bs (p_s))) ∧ lkp L948 1 = some (.string (bs (p_more))) ∧ lkp L948 5 = some (.int .i64 ((k5 : Int))) ∧ lkp L948 6 = some (.bool (x946)) ∧ lkp L948 7 = some (.int .i64 ((k945 : Int))) ∧ lkp L948 19 = some (undef) ∧ lkp L948 20 = some (undef) ∧ lkp L948 21 = some (undef) ∧ lkp L948 22 = some (undef) ∧ lkp L948 25 = some (.string (bs (p_s))) ∧ lkp L948 26 = some (.int .i64 ((k5 : Int))) ∧ lkp L948 27 = some (.int .u8 (((p_s.getD k5 0).toNat : Int))) ∧ lkp L948 28 = some (.bool (decide (48 ≤ ((p_s.getD k5 0).toNat : Int)))) ∧ lkp L948 29 = some (.bool (decide (48 ≤ ((p_s.getD k5 0).toNat : Int)))) ∧ lkp L948 30 = some (undef) ∧ lkp L948 31 = some (undef) ∧ lkp L948 32 = some (undef) ∧ lkp L948 33 = some (undef) ∧ lkp L948 34 = some (.bool (false)) ∧ Ex w w949 ∧ loopM (B_s_l3Bytes_1 p_s p_more k5) (p_more.length - k945) k945 (x946) = loopM (B_s_l3Bytes_1 p_s p_more k5) (p_more.length - 0) 0 (false)) (p_more.length - 0) ?_ ?_))))))))
     ·exact ⟨0, false, rfl, (by omega), Nat.le_refl _, rfl, rfl, rfl, rfl, rfl, rfl, rfl, rfl, rfl, rfl, rfl, rfl, rfl, rfl, rfl, rfl, rfl, rfl, rfl, hf18, rfl⟩
     ·rintro m950 L951 w952 ⟨k945, x946, rfl, hk953, hsz955, hl956, hl957, hl958, hl959, hl960, hl961, hl962, hl963, hl964, hl965, hl966, hl967, hl968, hl969, hl970, hl971, hl972, hl973, hl974, hf975, hI954⟩
      refine CW.sub (Sub.cons hl956 (Sub.cons hl957 (Sub.cons hl958 (Sub.cons hl959 (Sub.cons hl960 (Sub.cons hl961 (Sub.cons hl962 (Sub.cons hl963 (Sub.cons hl964 (Sub.cons hl965 (Sub.cons hl966 (Sub.cons hl967 (Sub.cons hl968 (Sub.cons hl969 (Sub.cons hl970 (Sub.cons hl971 (Sub.cons hl972 (Sub.cons hl973 (Sub.cons hl974 (Sub.nil _)))))))))))))))))))) ?_
      have hf975z := Ex.size hf975
      have hbg976 : p_more.length ≤ 1073741824 := o2
      rcases Nat.lt_or_ge k945 p_more.length with hlt977 | hlt977
      ·refine CW.seq (CW.seq (CW.region (sd rfl (yl_move rfl rfl (sd rfl (yl_move rfl rfl (sd rfl (yl_slen Try.un9 (a := p_more) rfl rfl (sd rfl (yl_lss rfl rfl rfl (SeqR.done (tn ?_))))))))))))
       refine CW.cond_t rfl (lt_t hlt977) (CW.skip (tn (CW.seq (CW.block (bcase (x946) (fun hb978 => ?_) (fun hb978 => ?_))))))
       ·refine CW.drawsI 11 (vgetI [DetI (.bool (x946)), DetI (.bool (x946)), DetI (undef), DetI (undef), DetI (undef), DetI (undef), DetI (undef), DetI (undef), DetI (undef), DetI (.bool (true)), DetI (.bool (true))]) Try.follows rfl rfl rfl rfl rfl rfl (vgetI_stable ⟨StableI.det _, StableI.det _, StableI.det _, StableI.det _, StableI.det _, StableI.det _, StableI.det _, StableI.det _, StableI.det _, StableI.det _, StableI.det _, trivial⟩) ⟨?_, ?_, ?_, ?_, ?_, ?_, ?_, ?_, ?_, ?_, ?_, trivial⟩ ?_
        ·exact fun _ _ h => os rfl ((yl_move rfl (h.old 6 _ rfl rfl) kI))
        ·exact fun _ _ h => os rfl ((yl_move rfl (h.dt 0 42 rfl rfl rfl) kI))
        ·exact fun _ _ h => OpR.skip rfl rfl (h.dt 1 43 rfl rfl rfl) hb978 ⟨rfl, Ex.refl _⟩
        ·exact fun _ _ h => OpR.skip rfl rfl (h.dt 1 43 rfl rfl rfl) hb978 ⟨rfl, Ex.refl _⟩
        ·exact fun _ _ h => OpR.skip rfl rfl (h.dt 1 43 rfl rfl rfl) hb978 ⟨rfl, Ex.refl _⟩
        ·exact fun _ _ h => OpR.skip rfl rfl (h.dt 1 43 rfl rfl rfl) hb978 ⟨rfl, Ex.refl _⟩
        ·exact fun _ _ h => OpR.skip rfl rfl (h.dt 1 43 rfl rfl rfl) hb978 ⟨rfl, Ex.refl _⟩
        ·exact fun _ _ h => OpR.skip rfl rfl (h.dt 1 43 rfl rfl rfl) hb978 ⟨rfl, Ex.refl _⟩
        ·exact fun _ _ h => OpR.skip rfl rfl (h.dt 1 43 rfl rfl rfl) hb978 ⟨rfl, Ex.refl _⟩
        ·exact fun _ _ h => os rfl ((yl_pick_t rfl (h.dt 1 43 rfl rfl rfl) hb978 rfl kI))
        ·exact fun _ _ h => os rfl ((yl_assign rfl (h.dt 9 51 rfl rfl rfl) kI))
        ·intro fl1038 fh1039 L1035 w1036 hp1037
         have hE1040 := hp1037.ex
         have hE1040z := Ex.size hE1040
         refine SeqR.done (bn (tn (CW.sub (Sub.cons (d := 0) (hp1037.old 0 _ rfl rfl) (Sub.cons (d := 1) (hp1037.old 1 _ rfl rfl) (Sub.cons (d := 5) (hp1037.old 5 _ rfl rfl) (Sub.cons (d := 6) (hp1037.nt 10 6 rfl rfl rfl) (Sub.cons (d := 7) (hp1037.old 7 _ rfl rfl) (Sub.cons (d := 19) (hp1037.old 19 _ rfl rfl) (Sub.cons (d := 20) (hp1037.old 20 _ rfl rfl) (Sub.cons (d := 21) (hp1037.old 21 _ rfl rfl) (Sub.cons (d := 22) (hp1037.old 22 _ rfl rfl) (Sub.cons (d := 25) (hp1037.old 25 _ rfl rfl) (Sub.cons (d := 26) (hp1037.old 26 _ rfl rfl) (Sub.cons (d := 27) (hp1037.old 27 _ rfl rfl) (Sub.cons (d := 28) (hp1037.old 28 _ rfl rfl) (Sub.cons (d := 29) (hp1037.old 29 _ rfl rfl) (Sub.cons (d := 30) (hp1037.old 30 _ rfl rfl) (Sub.cons (d := 31) (hp1037.old 31 _ rfl rfl) (Sub.cons (d := 32) (hp1037.old 32 _ rfl rfl) (Sub.cons (d := 33) (hp1037.old 33 _ rfl rfl) (Sub.cons (d := 34) (hp1037.old 34 _ rfl rfl) (Sub.cons (d := 44) (hp1037.nt 2 44 rfl rfl rfl) (Sub.cons (d := 45) (hp1037.nt 3 45 rfl rfl rfl) (Sub.cons (d := 46) (hp1037.nt 4 46 rfl rfl rfl) (Sub.cons (d := 47) (hp1037.nt 5 47 rfl rfl rfl) (Sub.cons (d := 48) (hp1037.nt 6 48 rfl rfl rfl) (Sub.cons (d := 49) (hp1037.nt 7 49 rfl rfl rfl) (Sub.cons (d := 50) (hp1037.nt 8 50 rfl rfl rfl) (Sub.nil _))))))))))))))))))))))))))) (CW.region (sd rfl (yl_move rfl rfl (sd rfl (yl_inc rfl rfl rfl (by omega) (sd rfl (yl_assign rfl rfl (SeqR.done ?_)))))))))))
         refine tn ?_
         have hB1067 : B_s_l3Bytes_1 p_s p_more k5 k945 (x946) = .cont (true) := by simp only [B_s_l3Bytes_1, hb21, hb714, hb978, cond_true, cond_false, loopE_done, loopE_ret]
         exact ⟨p_more.length - (k945 + 1), by omega, k945 + 1, true, rfl, hlt977, (by omega), rfl, rfl, rfl, rfl, rfl, rfl, rfl, rfl, rfl, rfl, rfl, rfl, rfl, rfl, rfl, rfl, rfl, rfl, rfl, (Ex.trans hf975 hE1040), (loopM.cont hlt977 hB1067).symm.trans hI954⟩
       ·refine CW.drawsI 11 (vgetI [DetI (.bool (x946)), DetI (.bool (x946)), DetI (.string (bs (p_s))), DetI (.int .i64 ((k5 : Int))), DetI (.int .u8 (((p_s.getD k5 0).toNat : Int))), DetI (.string (bs (p_more))), DetI (.int .i64 ((k945 : Int))), DetI (.int .u8 (((p_more.getD k945 0).toNat : Int))), DetI (.bool (decide (((p_s.getD k5 0).toNat : Int) = ((p_more.getD k945 0).toNat : Int)))), DetI (.bool (decide (((p_s.getD k5 0).toNat : Int) = ((p_more.getD k945 0).toNat : Int)))), DetI (.bool (decide (((p_s.getD k5 0).toNat : Int) = ((p_more.getD k945 0).toNat : Int))))]) Try.follows rfl rfl rfl rfl rfl rfl (vgetI_stable ⟨StableI.det _, StableI.det _, StableI.det _, StableI.det _, StableI.det _, StableI.det _, StableI.det _, StableI.det _, StableI.det _, StableI.det _, StableI.det _, trivial⟩) ⟨?_, ?_, ?_, ?_, ?_, ?_, ?_, ?_, ?_, ?_, ?_, trivial⟩ ?_
        ·exact fun _ _ h => os rfl ((yl_move rfl (h.old 6 _ rfl rfl) kI))
        ·exact fun _ _ h => os rfl ((yl_move rfl (h.dt 0 42 rfl rfl rfl) kI))
        ·exact fun _ _ h => OpR.want rfl rfl (h.dt 1 43 rfl rfl rfl) hb978 (Yl.sameI (yl_move rfl (h.old 0 _ rfl rfl) kI))
        ·exact fun _ _ h => OpR.want rfl rfl (h.dt 1 43 rfl rfl rfl) hb978 (Yl.sameI (yl_move rfl (h.old 5 _ rfl rfl) kI))
        ·intro L1091 w1092 hi1093
         have hE1094 := hi1093.ex
         have hE1094z := Ex.size hE1094
         exact OpR.want rfl rfl (hi1093.dt 1 43 rfl rfl rfl) hb978 (Yl.sameI (yl_sindexN Try.un9 (a := p_s) rfl (hi1093.dt 2 44 rfl rfl rfl) (hi1093.dt 3 45 rfl rfl rfl) (by first | omega | assumption | (simp only [IntKind.wrap_i64] at *; omega)) kI))
        ·exact fun _ _ h => OpR.want rfl rfl (h.dt 1 43 rfl rfl rfl) hb978 (Yl.sameI (yl_move rfl (h.old 1 _ rfl rfl) kI))
        ·exact fun _ _ h => OpR.want rfl rfl (h.dt 1 43 rfl rfl rfl) hb978 (Yl.sameI (yl_move rfl (h.old 7 _ rfl rfl) kI))
        ·intro L1110 w1111 hi1112
         have hE1113 := hi1112.ex
         have hE1113z := Ex.size hE1113
         exact OpR.want rfl rfl (hi1112.dt 1 43 rfl rfl rfl) hb978 (Yl.sameI (yl_sindexN Try.un9 (a := p_more) rfl (hi1112.dt 5 47 rfl rfl rfl) (hi1112.dt 6 48 rfl rfl rfl) (by first | omega | assumption | (simp only [IntKind.wrap_i64] at *; omega)) kI))
        ·exact fun _ _ h => OpR.want rfl rfl (h.dt 1 43 rfl rfl rfl) hb978 (Yl.sameI (yl_eql rfl (h.dt 4 46 rfl rfl rfl) (h.dt 7 49 rfl rfl rfl) kI))
        ·exact fun _ _ h => os rfl ((yl_pick_f rfl (h.dt 1 43 rfl rfl rfl) hb978 (h.dt 8 50 rfl rfl rfl) kI))
        ·exact fun _ _ h => os rfl ((yl_assign rfl (h.dt 9 51 rfl rfl rfl) kI))
        ·intro fl1138 fh1139 L1135 w1136 hp1137
         have hE1140 := hp1137.ex
         have hE1140z := Ex.size hE1140
         refine SeqR.done (bn (tn (CW.sub (Sub.cons (d := 0) (hp1137.old 0 _ rfl rfl) (Sub.cons (d := 1) (hp1137.old 1 _ rfl rfl) (Sub.cons (d := 5) (hp1137.old 5 _ rfl rfl) (Sub.cons (d := 6) (hp1137.nt 10 6 rfl rfl rfl) (Sub.cons (d := 7) (hp1137.old 7 _ rfl rfl) (Sub.cons (d := 19) (hp1137.old 19 _ rfl rfl) (Sub.cons (d := 20) (hp1137.old 20 _ rfl rfl) (Sub.cons (d := 21) (hp1137.old 21 _ rfl rfl) (Sub.cons (d := 22) (hp1137.old 22 _ rfl rfl) (Sub.cons (d := 25) (hp1137.old 25 _ rfl rfl) (Sub.cons (d := 26) (hp1137.old 26 _ rfl rfl) (Sub.cons (d := 27) (hp1137.old 27 _ rfl rfl) (Sub.cons (d := 28) (hp1137.old 28 _ rfl rfl) (Sub.cons (d := 29) (hp1137.old 29 _ rfl rfl) (Sub.cons (d := 30) (hp1137.old 30 _ rfl rfl) (Sub.cons (d := 31) (hp1137.old 31 _ rfl rfl) (Sub.cons (d := 32) (hp1137.old 32 _ rfl rfl) (Sub.cons (d := 33) (hp1137.old 33 _ rfl rfl) (Sub.cons (d := 34) (hp1137.old 34 _ rfl rfl) (Sub.cons (d := 44) (hp1137.nt 2 44 rfl rfl rfl) (Sub.cons (d := 45) (hp1137.nt 3 45 rfl rfl rfl) (Sub.cons (d := 46) (hp1137.nt 4 46 rfl rfl rfl) (Sub.cons (d := 47) (hp1137.nt 5 47 rfl rfl rfl) (Sub.cons (d := 48) (hp1137.nt 6 48 rfl rfl rfl) (Sub.cons (d := 49) (hp1137.nt 7 49 rfl rfl rfl) (Sub.cons (d := 50) (hp1137.nt 8 50 rfl rfl rfl) (Sub.nil _))))))))))))))))))))))))))) (CW.region (sd rfl (yl_move rfl rfl (sd rfl (yl_inc rfl rfl rfl (by omega) (sd rfl (yl_assign rfl rfl (SeqR.done ?_)))))))))))
         refine tn ?_
         have hB1167 : B_s_l3Bytes_1 p_s p_more k5 k945 (x946) = .cont (decide (((p_s.getD k5 0).toNat : Int) = ((p_more.getD k945 0).toNat : Int))) := by simp only [B_s_l3Bytes_1, hb21, hb714, hb978, cond_true, cond_false, loopE_done, loopE_ret]
         exact ⟨p_more.length - (k945 + 1), by omega, k945 + 1, decide (((p_s.getD k5 0).toNat : Int) = ((p_more.getD k945 0).toNat : Int)), rfl, hlt977, (by omega), rfl, rfl, rfl, rfl, rfl, rfl, rfl, rfl, rfl, rfl, rfl, rfl, rfl, rfl, rfl, rfl, rfl, rfl, rfl, (Ex.trans hf975 hE1140), (loopM.cont hlt977 hB1167).symm.trans hI954⟩
      ·refine CW.seq (CW.seq (CW.region (sd rfl (yl_move rfl rfl (sd rfl (yl_move rfl rfl (sd rfl (yl_slen Try.un9 (a := p_more) rfl rfl (sd rfl (yl_lss rfl rfl rfl (SeqR.done (tn ?_))))))))))))
       refine CW.cond_f rfl (lt_f hlt977) (CW.exit (tx (tx ?_)))
       have hL1169 : loopM (B_s_l3Bytes_1 p_s p_more k5) (p_more.length - 0) 0 (false) = .done (x946) := hI954.symm.trans (loopM.stop hlt977)
       refine bx (tn (CW.seq (CW.region (sd rfl (yl_move rfl rfl (sd rfl (yl_not rfl rfl (SeqR.done (tn (bcase (x946) (fun hb1170 => ?_) (fun hb1170 => ?_)))))))))))
       ·refine CW.cond_f rfl (not_t hb1170) (CW.skip (bn (tn (CW.region (sd rfl (yl_move rfl rfl (sd rfl (yl_inc rfl rfl rfl (by omega) (sd rfl (yl_assign rfl rfl (SeqR.done ?_)))))))))))
        refine tn ?_
        have hB1171 : B_s_l3Bytes_0 p_s p_more k5 () = .cont () := by simp only [B_s_l3Bytes_0, hb21, hb714, hb1170, hL1169, cond_true, cond_false, loopE_done, loopE_ret]
        exact ⟨p_s.length - (k5 + 1), by omega, k5 + 1, rfl, hlt20, (by omega), rfl, rfl, rfl, hf975, (loopM.cont hlt20 hB1171).symm.trans hI13⟩
       ·refine CW.cond_t rfl (not_f hb1170) (CW.seq (CW.region (sd rfl (yl_assign rfl rfl (SeqR.done (tn (CW.ret (br (tr ?_)))))))))
        refine tr ?_
        have hB1173 : B_s_l3Bytes_0 p_s p_more k5 () = .ret false := by simp only [B_s_l3Bytes_0, hb21, hb714, hb1170, hL1169, cond_true, cond_false, loopE_done, loopE_ret]
        have hL1172 : loopM (B_s_l3Bytes_0 p_s p_more) (p_s.length - 0) 0 () = .ret false := hI13.symm.trans (loopM.ret hlt20 hB1173)
        refine br (tr (rr rfl (.cons rfl .nil) ?_))
        have hM1174 : (s_l3Bytes p_s p_more) = (false) := by simp only [s_l3Bytes, hb21, hb714, hb1170, hL1169, hL1172, cond_true, cond_false, loopE_done, loopE_ret]
        rw [hM1174]
        exact ⟨rfl, hf975⟩
  ·refine CW.seq (CW.seq (CW.region (sd rfl (yl_move rfl rfl (sd rfl (yl_move rfl rfl (sd rfl (yl_slen Try.un9 (a := p_s) rfl rfl (sd rfl (yl_lss rfl rfl rfl (SeqR.done (tn ?_))))))))))))
   refine CW.cond_f rfl (lt_f hlt20) (CW.exit (tx (tx ?_)))
   have hL1175 : loopM (B_s_l3Bytes_0 p_s p_more) (p_s.length - 0) 0 () = .done () := hI13.symm.trans (loopM.stop hlt20)
   refine bx (tn (CW.seq (CW.region (sd rfl (yl_assign rfl rfl (SeqR.done (tn (CW.ret (rr rfl (.cons rfl .nil) ?_)))))))))
   have hM1176 : (s_l3Bytes p_s p_more) = (true) := by simp only [s_l3Bytes, hL1175, cond_true, cond_false, loopE_done, loopE_ret]
   rw [hM1176]
   exact ⟨rfl, hf18⟩
set_option maxRecDepth 100000 in
set_option maxHeartbeats 2000000 in
theorem c_s_l25Field {w : World} (p_s : Str) (o1 : okS p_s) : Cal Try.prog 162 #[.string (bs (p_s))] w fun v w' => v = .bool ((s_l25Field p_s)) ∧ Ex w w' := by
 have hol2 : p_s.length ≤ 1073741824 := o1
 refine Cal.of (vs := [.string (bs (p_s))]) Try.func162 rfl Try.ntmps162 rfl (CW.seq (CW.region (sd rfl (yl_assign rfl rfl (SeqR.done (tn (CW.seq (CW.region (sd rfl (yl_move rfl rfl ?_))))))))))
 refine sd rfl (yl_slen Try.un9 (a := p_s) rfl rfl (sd rfl (yl_call Try.en130 rfl (opvs_cons rfl (opvs_cons rfl (opvs_cons rfl opvs_nil))) (Cal.mono (c_s_l1In (p_s.length : Int) 1 3) ?_))))
 rintro v4 w3 ⟨rfl, hE5⟩
 have hE5z := Ex.size hE5
 refine sd rfl (yl_move rfl rfl (bcase (s_l1In (p_s.length : Int) 1 3) (fun hb6 => ?_) (fun hb6 => ?_)))
 ·have hb6p := f_l1In hb6
  refine sy rfl rfl hb6 (yl_move rfl rfl (sy rfl rfl hb6 (yl_call Try.en208 rfl (opvs_cons rfl (opvs_cons rfl opvs_nil)) (Cal.mono (c_s_l3Bytes p_s ([] : Str) o1 (okS.lit rfl)) ?_))))
  rintro v8 w7 ⟨rfl, hE9⟩
  have hE9z := Ex.size hE9
  refine sd rfl (yl_pick_t rfl rfl hb6 rfl (sd rfl (yl_assign rfl rfl (SeqR.done (tn (CW.ret (rr rfl (.cons rfl .nil) ?_)))))))
  have hM10 : (s_l25Field p_s) = ((s_l3Bytes p_s ([] : Str))) := by simp only [s_l25Field, hb6, cond_true, cond_false, loopE_done, loopE_ret]
  rw [hM10]
  exact ⟨rfl, (Ex.trans (Ex.trans (Ex.refl w) hE5) hE9)⟩
 ·refine sz rfl rfl hb6 (sz rfl rfl hb6 (sd rfl (yl_pick_f rfl rfl hb6 rfl (sd rfl (yl_assign rfl rfl (SeqR.done (tn (CW.ret (rr rfl (.cons rfl .nil) ?_)))))))))
  have hM13 : (s_l25Field p_s) = (false) := by simp only [s_l25Field, hb6, cond_true, cond_false, loopE_done, loopE_ret]
  rw [hM13]
  exact ⟨rfl, (Ex.trans (Ex.refl w) hE5)⟩
set_option maxRecDepth 100000 in
set_option maxHeartbeats 2000000 in
theorem c_s_l1Split {w : World} (p_s : Str) (p_b : Int) (o1 : okS p_s) : Cal Try.prog 221 #[.string (bs (p_s)), .int .u8 (p_b)] w fun v w' => ∃ A_1 c_1 lo_1 hi_1, v = .slice A_1 ((s_l1Split p_s p_b).length) c_1 ∧ OwnL w' lo_1 hi_1 9 1 (RF e_Str) A_1 ((s_l1Split p_s p_b).length) c_1 (s_l1Split p_s p_b) ∧ (w.heap.size ≤ lo_1 ∧ lo_1 ≤ hi_1 ∧ hi_1 ≤ w'.heap.size) ∧ Ex w w' := by
 have hol2 : p_s.length ≤ 1073741824 := o1
 refine Cal.of (vs := [.string (bs (p_s)), .int .u8 (p_b)]) Try.func221 rfl Try.ntmps221 rfl (CW.seq (CW.region (sd rfl (yl_assign rfl rfl (SeqR.done (tn (CW.seq (CW.region (sd rfl (yl_assign rfl rfl ?_))))))))))
 refine SeqR.done (tn (CW.seq (CW.region (sd rfl (yl_assign rfl rfl (SeqR.done (tn (CW.seq (CW.seq ?_)))))))))
 refine CW.region (sd rfl (yl_assign rfl rfl (SeqR.done (tn (CW.block (CW.loop (fun m26 L27 w28 => ∃ (k3 : Nat) (x21 : List Str) (x25 : Int) (A22 : Option Addr) (c23 : Nat) (u24 : Nat), m26 = p_s.length - k3 ∧ k3 ≤ p_s.length ∧ w.heap.size ≤ w28.heap.size ∧ lkp L27 0 = some (.string (bs (p_s))) ∧ lkp L27 1 = some (.int .u8 (p_b)) ∧ lkp L27 5 = some (.slice A22 x21.length c23) ∧ lkp L27 6 = some (.int .i64 (x25)) ∧ lkp L27 7 = some (.int .i64 ((k3 : Int))) ∧ OwnL w28 w.heap.size u24 9 1 (RF e_Str) A22 x21.length c23 x21 ∧ Ex w w28 ∧ (w.heap.size ≤ u24 ∧ u24 ≤ w28.heap.size) ∧ x21.length ≤ 0 + 1 * (k3 - 0) ∧ (∀ y ∈ x21, okS y) ∧ 0 ≤ x25 ∧ x25 ≤ (k3 : Int) ∧ loopM (B_s_l1Split_0 p_s p_b) (p_s.length - k3) k3 (x21, x25) = loopM (B_s_l1Split_0 p_s p_b) (p_s.length - 0) 0 (([] : List Str), 0)) (p_s.length - 0) ?_ ?_))))))
 ·exact ⟨0, ([] : List Str), 0, none, 0, w.heap.size, rfl, (by omega), Nat.le_refl _, rfl, rfl, rfl, rfl, rfl, (OwnL.nil w w.heap.size w.heap.size 9 1 (RF e_Str)), (Ex.refl w), (by omega), (by first | (simp; done) | (first | omega | (simp only [List.length_append, List.length_cons, List.length_nil, List.length_set, toS_length]; omega))), okE.nil, (by first | omega | assumption | (simp only [IntKind.wrap_i64] at *; omega)), (by first | omega | assumption | (simp only [IntKind.wrap_i64] at *; omega)), rfl⟩
 ·rintro m29 L30 w31 ⟨k3, x21, x25, A22, c23, u24, rfl, hk32, hsz34, hl35, hl36, hl37, hl38, hl39, hf40, hf41, hu42, hln43, hok44, hv45, hv46, hI33⟩
  refine CW.sub (Sub.cons hl35 (Sub.cons hl36 (Sub.cons hl37 (Sub.cons hl38 (Sub.cons hl39 (Sub.nil _)))))) ?_
  have hf41z := Ex.size hf41
  have hbg47 : p_s.length ≤ 1073741824 := o1
  rcases Nat.lt_or_ge k3 p_s.length with hlt48 | hlt48
  ·refine CW.seq (CW.seq (CW.region (sd rfl (yl_move rfl rfl (sd rfl (yl_move rfl rfl (sd rfl (yl_slen Try.un9 (a := p_s) rfl rfl (sd rfl (yl_lss rfl rfl rfl (SeqR.done (tn ?_))))))))))))
   refine CW.cond_t rfl (lt_t hlt48) (CW.skip (tn (CW.seq (CW.block (CW.seq (CW.region (sd rfl (yl_move rfl rfl (sd rfl (yl_move rfl rfl ?_))))))))))
   refine sd rfl (yl_sindexN Try.un9 (a := p_s) rfl rfl rfl (by first | omega | assumption | (simp only [IntKind.wrap_i64] at *; omega)) (sd rfl (yl_move rfl rfl (sd rfl (yl_eql rfl rfl rfl (SeqR.done (tn (bcase (decide (((p_s.getD k3 0).toNat : Int) = p_b)) (fun hb49 => ?_) (fun hb49 => ?_)))))))))
   ·have hb49p := dec_t hb49
    refine CW.cond_t rfl hb49 (CW.seq (CW.region (sd rfl (yl_move rfl rfl (sd rfl (yl_move rfl rfl (sd rfl (yl_move rfl rfl (sd rfl (yl_move rfl rfl (sd rfl (yl_sslice_lh Try.un9 (a := p_s) (l := (x25).toNat) (h := k3) rfl rfl (toNat_op rfl (by omega)) rfl (by omega) (by omega) (sd rfl (yl_buildSlice (cs := [.string (bs (((p_s.take k3).drop ((x25).toNat))))]) Try.un52 Try.ty9 (by decide) rfl (opvs_cons rfl opvs_nil) (by kernel_rfl) ?_))))))))))))))
    intro b50 w51 hs52 hz53 hB54 hE55
    have hO56 : OwnL w51 b50 (b50 + 1) 9 1 (RF e_Str) (some ⟨b50, 0, none⟩) 1 1 ([((p_s.take k3).drop ((x25).toNat))] : List Str) := OwnL.of_box (S := fun _ => False) hB54 (Nat.le_refl _) (Nat.lt_succ_self _) (EncL.cons (c := [.string (bs (((p_s.take k3).drop ((x25).toNat))))]) rfl rfl EncL.nil) (Nat.le_of_ble_eq_true rfl) (fun h => h) (fun _ h => False.elim h)
    refine sd rfl (yl_appendL (S := (fun _ => False)) (lo := w.heap.size) (hi := u24) (xs := x21) (ys := ([((p_s.take k3).drop ((x25).toNat))] : List Str)) good_Str Try.un52 Try.ty9 rfl (Nat.le_of_ble_eq_true rfl) rfl rfl rfl (OwnL.ex good_Str hf40 hE55) (EncL.cons (c := [.string (bs (((p_s.take k3).drop ((x25).toNat))))]) rfl rfl EncL.nil) (Or.inr ⟨_, _, rfl, rfl, hB54.cells (o := 0) (n := 1) rfl⟩) rfl (by first | omega | (simp only [List.length_append, List.length_cons, List.length_nil, List.length_take, List.length_drop, List.length_replicate, List.length_set, toS_length]; omega)) (by first | omega | (simp only [List.length_append, List.length_cons, List.length_nil, List.length_take, List.length_drop, List.length_replicate, List.length_set, toS_length]; omega)) (by omega) (by omega) (fun _ h _ => False.elim h) (by omega) ?_)
    intro A58 c59 w60 row61 hO62 hG63 hrg64
    have hG63z := hG63.size
    refine sd rfl (yl_assign rfl rfl (SeqR.done (tn (CW.region (sd rfl (yl_move rfl rfl (sd rfl (yl_inc rfl rfl rfl (by omega) (sd rfl (yl_assign rfl rfl (SeqR.done (bn ?_))))))))))))
    refine tn (CW.region (sd rfl (yl_move rfl rfl (sd rfl (yl_inc rfl rfl rfl (by omega) (sd rfl (yl_assign rfl rfl (SeqR.done (tn ?_)))))))))
    have hB65 : B_s_l1Split_0 p_s p_b k3 (x21, x25) = .cont ((x21 ++ ([((p_s.take k3).drop ((x25).toNat))] : List Str)), ((k3 + 1 : Nat) : Int)) := by simp only [B_s_l1Split_0, hb49, cond_true, cond_false, loopE_done, loopE_ret]
    exact ⟨p_s.length - (k3 + 1), by omega, k3 + 1, (x21 ++ ([((p_s.take k3).drop ((x25).toNat))] : List Str)), ((k3 + 1 : Nat) : Int), A58, c59, w60.heap.size, rfl, hlt48, (by omega), rfl, rfl, rfl, rfl, rfl, hO62, (Below.grown (Ex.trans hf41 hE55) hG63 (by omega) (fun k hk => by have := hrg64 k hk; omega)), (by omega), (by first | omega | (simp only [List.length_append, List.length_cons, List.length_nil, List.length_set, toS_length]; omega)), (okE.append hok44 ((okL.mk (Nat.le_of_ble_eq_true rfl) (okE.cons (okS.drop (okS.take o1 _) _) okE.nil))).2), (by first | omega | assumption | (simp only [IntKind.wrap_i64] at *; omega)), (by first | omega | assumption | (simp only [IntKind.wrap_i64] at *; omega)), (loopM.cont hlt48 hB65).symm.trans hI33⟩
   ·have hb49p := dec_f hb49
    refine CW.cond_f rfl hb49 (CW.skip (bn (tn (CW.region (sd rfl (yl_move rfl rfl (sd rfl (yl_inc rfl rfl rfl (by omega) (sd rfl (yl_assign rfl rfl (SeqR.done ?_)))))))))))
    refine tn ?_
    have hB68 : B_s_l1Split_0 p_s p_b k3 (x21, x25) = .cont (x21, x25) := by simp only [B_s_l1Split_0, hb49, cond_true, cond_false, loopE_done, loopE_ret]
    exact ⟨p_s.length - (k3 + 1), by omega, k3 + 1, x21, x25, A22, c23, u24, rfl, hlt48, (by omega), rfl, rfl, rfl, rfl, rfl, hf40, hf41, (by omega), (by first | omega | (simp only [List.length_append, List.length_cons, List.length_nil, List.length_set, toS_length]; omega)), hok44, (by first | omega | assumption | (simp only [IntKind.wrap_i64] at *; omega)), (by first | omega | assumption | (simp only [IntKind.wrap_i64] at *; omega)), (loopM.cont hlt48 hB68).symm.trans hI33⟩
  ·refine CW.seq (CW.seq (CW.region (sd rfl (yl_move rfl rfl (sd rfl (yl_move rfl rfl (sd rfl (yl_slen Try.un9 (a := p_s) rfl rfl (sd rfl (yl_lss rfl rfl rfl (SeqR.done (tn ?_))))))))))))
   refine CW.cond_f rfl (lt_f hlt48) (CW.exit (tx (tx ?_)))
   have hL69 : loopM (B_s_l1Split_0 p_s p_b) (p_s.length - 0) 0 (([] : List Str), 0) = .done (x21, x25) := hI33.symm.trans (loopM.stop hlt48)
   refine bx (tn (CW.seq (CW.region (sd rfl (yl_move rfl rfl (sd rfl (yl_move rfl rfl (sd rfl (yl_move rfl rfl (sd rfl (yl_sslice_lo Try.un9 (a := p_s) (l := (x25).toNat) rfl rfl (toNat_op rfl (by omega)) (by omega) (sd rfl (yl_buildSlice (cs := [.string (bs ((p_s.drop ((x25).toNat))))]) Try.un52 Try.ty9 (by decide) rfl (opvs_cons rfl opvs_nil) (by kernel_rfl) ?_)))))))))))))
   intro b70 w71 hs72 hz73 hB74 hE75
   have hO76 : OwnL w71 b70 (b70 + 1) 9 1 (RF e_Str) (some ⟨b70, 0, none⟩) 1 1 ([(p_s.drop ((x25).toNat))] : List Str) := OwnL.of_box (S := fun _ => False) hB74 (Nat.le_refl _) (Nat.lt_succ_self _) (EncL.cons (c := [.string (bs ((p_s.drop ((x25).toNat))))]) rfl rfl EncL.nil) (Nat.le_of_ble_eq_true rfl) (fun h => h) (fun _ h => False.elim h)
   refine sd rfl (yl_appendL (S := (fun _ => False)) (lo := w.heap.size) (hi := u24) (xs := x21) (ys := ([(p_s.drop ((x25).toNat))] : List Str)) good_Str Try.un52 Try.ty9 rfl (Nat.le_of_ble_eq_true rfl) rfl rfl rfl (OwnL.ex good_Str hf40 hE75) (EncL.cons (c := [.string (bs ((p_s.drop ((x25).toNat))))]) rfl rfl EncL.nil) (Or.inr ⟨_, _, rfl, rfl, hB74.cells (o := 0) (n := 1) rfl⟩) rfl (by first | omega | (simp only [List.length_append, List.length_cons, List.length_nil, List.length_take, List.length_drop, List.length_replicate, List.length_set, toS_length]; omega)) (by first | omega | (simp only [List.length_append, List.length_cons, List.length_nil, List.length_take, List.length_drop, List.length_replicate, List.length_set, toS_length]; omega)) (by omega) (by omega) (fun _ h _ => False.elim h) (by omega) ?_)
   intro A78 c79 w80 row81 hO82 hG83 hrg84
   have hG83z := hG83.size
   refine sd rfl (yl_assign rfl rfl (SeqR.done (tn (CW.ret (rr rfl (.cons rfl .nil) ?_)))))
   have hM85 : (s_l1Split p_s p_b) = ((x21 ++ ([(p_s.drop ((x25).toNat))] : List Str))) := by simp only [s_l1Split, hL69, cond_true, cond_false, loopE_done, loopE_ret]
   rw [hM85]
   exact ⟨A78, c79, w.heap.size, w80.heap.size, rfl, hO82, (by omega), (Below.grown (Ex.trans hf41 hE75) hG83 (by omega) (fun k hk => by have := hrg84 k hk; omega))⟩
set_option maxRecDepth 100000 in
set_option maxHeartbeats 2000000 in
theorem c_s_l25ReadEntry {A1 : Option Addr} {c1 : Nat} {A2 : Option Addr} {c2 : Nat} {w : World} (p_t : DTable) (p_name : Str) (p_key : Str) (h1 : RdS w (Iv 0 w.heap.size) (RF e_Str) 1 A1 p_t.Cols.length c1 p_t.Cols) (h2 : RdS w (Iv 0 w.heap.size) (RF e_Idx) 3 A2 p_t.Idxs.length c2 p_t.Idxs) (o3 : ok_Table p_t) (o4 : okS p_name) (o5 : okS p_key) : Cal Try.prog 172 #[.agg #[.string (bs (p_t.Name)), .slice A1 p_t.Cols.length c1, .slice A2 p_t.Idxs.length c2], .string (bs (p_name)), .string (bs (p_key))] w fun v w' => v = .tuple #[.string (bs ((s_l25ReadEntry p_t p_name p_key).1)), .string (bs ((s_l25ReadEntry p_t p_name p_key).2.1)), .bool ((s_l25ReadEntry p_t p_name p_key).2.2)] ∧ okS ((s_l25ReadEntry p_t p_name p_key).1) ∧ okS ((s_l25ReadEntry p_t p_name p_key).2.1) ∧ Ex w w' := by
 have hol6 : p_t.Name.length ≤ 1073741824 := o3.1
 have hol7 := o3.2.1.1
 have hol8 := o3.2.2.1
 have hol9 : p_name.length ≤ 1073741824 := o4
 have hol10 : p_key.length ≤ 1073741824 := o5
 refine Cal.of (vs := [.agg #[.string (bs (p_t.Name)), .slice A1 p_t.Cols.length c1, .slice A2 p_t.Idxs.length c2], .string (bs (p_name)), .string (bs (p_key))]) Try.func172 rfl Try.ntmps172 rfl (CW.seq (CW.region (sd rfl (yl_box (cs := [.string (bs (p_t.Name)), .slice A1 p_t.Cols.length c1, .slice A2 p_t.Idxs.length c2]) rfl rfl rfl ?_))))
 intro b11 w12 hs13 hz14 hB15 hE16
 refine sd rfl (yl_assign rfl rfl (sd rfl (yl_assign rfl rfl (sd rfl (yl_assign rfl rfl (SeqR.done (tn (CW.seq (CW.region (sd rfl (yl_move rfl rfl (sd rfl (yl_call Try.en221 rfl (opvs_cons rfl (opvs_cons rfl opvs_nil)) (Cal.mono (c_s_l1Split p_key 47 o5) ?_))))))))))))))
 rintro v19 w17 ⟨A18, c18, lo18, hi18, rfl, h18, hrn21, hE20⟩
 have hE20z := Ex.size hE20
 refine sd rfl (yl_assign rfl rfl (SeqR.done (tn (CW.seq (CW.seq (bcase (decide (((s_l1Split p_key 47).length : Int) = 3)) (fun hb22 => ?_) (fun hb22 => ?_)))))))
 ·have hb22p := dec_t hb22
  obtain ⟨eb24, eo24, ec24, eA24, eS24, ebl24, el24, eR24, eC24⟩ := RdS.atD (OwnL.rd good_Str h18) d_Str (i := 0) (by first | omega | assumption)
  obtain rfl := eR24
  have eC24 : Cells w17 eb24 (eo24 + 0 * 1) [.string (bs (((s_l1Split p_key 47).getD 0 d_Str)))] := eC24
  have hol26 : p_t.Name.length ≤ 1073741824 := o3.1
  have hol27 : p_t.Name.length ≤ 1073741824 := o3.1
  have hol28 : p_name.length ≤ 1073741824 := o4
  refine CW.drawsI 12 (vgetI [DetI (.slice A18 ((s_l1Split p_key 47).length) c18), DetI (.int .i64 (((s_l1Split p_key 47).length : Int))), DetI (.bool (!(decide (((s_l1Split p_key 47).length : Int) = 3)))), DetI (.bool (!(decide (((s_l1Split p_key 47).length : Int) = 3)))), DetI (.slice A18 ((s_l1Split p_key 47).length) c18), DetI (.pointer (some ⟨eb24, eo24 + 0 * 1, none⟩)), DetI (.string (bs (((s_l1Split p_key 47).getD 0 d_Str)))), DetI (.pointer (some ⟨b11, 0 + 0, none⟩)), DetI (.string (bs (p_t.Name))), DetI (.string (bs (p_t.Name ++ ([46] : Str)))), DetI (.string (bs (p_name))), DetI (.string (bs ((p_t.Name ++ ([46] : Str)) ++ p_name)))]) Try.follows rfl rfl rfl rfl rfl rfl (vgetI_stable ⟨StableI.det _, StableI.det _, StableI.det _, StableI.det _, StableI.det _, StableI.det _, StableI.det _, StableI.det _, StableI.det _, StableI.det _, StableI.det _, StableI.det _, trivial⟩) ⟨?_, ?_, ?_, ?_, ?_, ?_, ?_, ?_, ?_, ?_, ?_, ?_, trivial⟩ ?_
  ·exact fun _ _ h => os rfl ((yl_move rfl (h.old 9 _ rfl rfl) kI))
  ·exact fun _ _ h => os rfl ((yl_len Try.un52 rfl (h.dt 0 12 rfl rfl rfl) kI))
  ·exact fun _ _ h => os rfl ((yl_neq rfl (h.dt 1 13 rfl rfl rfl) rfl kI))
  ·exact fun _ _ h => os rfl ((yl_move rfl (h.dt 2 14 rfl rfl rfl) kI))
  ·exact fun _ _ h => OpR.want rfl rfl (h.dt 3 15 rfl rfl rfl) (not_t hb22) (Yl.sameI (yl_move rfl (h.old 9 _ rfl rfl) kI))
  ·intro L55 w56 hi57
   have hE58 := hi57.ex
   have hE58z := Ex.size hE58
   exact OpR.want rfl rfl (hi57.dt 3 15 rfl rfl rfl) (not_t hb22) (Yl.sameI (yl_indexAddrN Try.un52 Try.ty9 rfl (hi57.dt 4 16 rfl rfl rfl) rfl eA24 (by first | omega | assumption | (simp only [IntKind.wrap_i64] at *; omega)) kI))
  ·exact fun _ _ h => OpR.want rfl rfl (h.dt 3 15 rfl rfl rfl) (not_t hb22) (Yl.sameI (yl_load1 Try.ty9 rfl (h.dt 5 17 rfl rfl rfl) ((Cells.ex eC24 h.ex) 0 _ rfl) kI))
  ·exact fun _ _ h => OpR.want rfl rfl (h.dt 3 15 rfl rfl rfl) (not_t hb22) (Yl.sameI (yl_fieldAddr Try.fd65_0 rfl (h.old 3 _ rfl rfl) kI))
  ·exact fun _ _ h => OpR.want rfl rfl (h.dt 3 15 rfl rfl rfl) (not_t hb22) (Yl.sameI (yl_load1 Try.ty9 rfl (h.dt 7 19 rfl rfl rfl) (((Box.ex (Box.ex hB15 hE20) h.ex).cell 0).trans rfl) kI))
  ·intro L81 w82 hi83
   have hE84 := hi83.ex
   have hE84z := Ex.size hE84
   have hol87 : p_t.Name.length ≤ 1073741824 := o3.1
   exact OpR.want rfl rfl (hi83.dt 3 15 rfl rfl rfl) (not_t hb22) (Yl.sameI (yl_sadd (a := p_t.Name) (b := ([46] : Str)) rfl (hi83.dt 8 20 rfl rfl rfl) rfl (by first | omega | (simp only [List.length_append, List.length_cons, List.length_nil, List.length_take, List.length_drop, toS_length]; omega)) kI))
  ·exact fun _ _ h => OpR.want rfl rfl (h.dt 3 15 rfl rfl rfl) (not_t hb22) (Yl.sameI (yl_move rfl (h.old 1 _ rfl rfl) kI))
  ·intro L94 w95 hi96
   have hE97 := hi96.ex
   have hE97z := Ex.size hE97
   have hol101 : p_t.Name.length ≤ 1073741824 := o3.1
   have hol102 : p_name.length ≤ 1073741824 := o4
   exact OpR.want rfl rfl (hi96.dt 3 15 rfl rfl rfl) (not_t hb22) (Yl.sameI (yl_sadd (a := (p_t.Name ++ ([46] : Str))) (b := p_name) rfl (hi96.dt 9 21 rfl rfl rfl) (hi96.dt 10 22 rfl rfl rfl) (by first | omega | (simp only [List.length_append, List.length_cons, List.length_nil, List.length_take, List.length_drop, toS_length]; omega)) kI))
  ·intro fl106 fh107 L103 w104 hp105
   have hE108 := hp105.ex
   have hE108z := Ex.size hE108
   have hx109 := hp105.old 9 _ rfl rfl
   have hx110 := hp105.nt 3 15 rfl rfl rfl
   refine sy rfl hx110 (not_t hb22) (yl_sneq (a := ((s_l1Split p_key 47).getD 0 d_Str)) (b := ((p_t.Name ++ ([46] : Str)) ++ p_name)) rfl (hp105.nt 6 18 rfl rfl rfl) (hp105.nt 11 23 rfl rfl rfl) (sd rfl (yl_pick_f rfl hx110 (not_t hb22) rfl (sd rfl (yl_move rfl rfl (bcase (((s_l1Split p_key 47).getD 0 d_Str) == ((p_t.Name ++ ([46] : Str)) ++ p_name)) (fun hb113 => ?_) (fun hb113 => ?_)))))))
   ·refine sy rfl rfl (not_t hb113) (yl_move rfl hx109 ?_)
    have q115 := OwnL.ex good_Str h18 hE108
    obtain ⟨eb116, eo116, ec116, eA116, eS116, ebl116, el116, eR116, eC116⟩ := RdS.atD (OwnL.rd good_Str q115) d_Str (i := 1) (by first | omega | assumption)
    obtain rfl := eR116
    have eC116 : Cells w104 eb116 (eo116 + 1 * 1) [.string (bs (((s_l1Split p_key 47).getD 1 d_Str)))] := eC116
    refine sy rfl rfl (not_t hb113) (yl_indexAddrN Try.un52 Try.ty9 rfl rfl rfl eA116 (by first | omega | assumption | (simp only [IntKind.wrap_i64] at *; omega)) (sy rfl rfl (not_t hb113) (yl_load1 Try.ty9 rfl rfl (eC116 0 _ rfl) (sy rfl rfl (not_t hb113) (yl_call Try.en162 rfl (opvs_cons rfl opvs_nil) (Cal.mono (c_s_l25Field ((s_l1Split p_key 47).getD 1 d_Str) (okS_l1Split o5 _ _)) ?_))))))
    rintro v118 w117 ⟨rfl, hE119⟩
    have hE119z := Ex.size hE119
    refine sy rfl rfl (not_t hb113) (yl_not rfl rfl (sd rfl (yl_pick_f rfl rfl (not_t hb113) rfl (sd rfl (yl_move rfl rfl (bcase (s_l25Field ((s_l1Split p_key 47).getD 1 d_Str)) (fun hb120 => ?_) (fun hb120 => ?_)))))))
    ·refine sy rfl rfl (not_t hb120) (yl_move rfl hx109 ?_)
     obtain ⟨eb123, eo123, ec123, eA123, eS123, ebl123, el123, eR123, eC123⟩ := RdS.atD (OwnL.rd good_Str (OwnL.ex good_Str q115 hE119)) d_Str (i := 2) (by first | omega | assumption)
     obtain rfl := eR123
     have eC123 : Cells w117 eb123 (eo123 + 2 * 1) [.string (bs (((s_l1Split p_key 47).getD 2 d_Str)))] := eC123
     refine sy rfl rfl (not_t hb120) (yl_indexAddrN Try.un52 Try.ty9 rfl rfl rfl eA123 (by first | omega | assumption | (simp only [IntKind.wrap_i64] at *; omega)) (sy rfl rfl (not_t hb120) (yl_load1 Try.ty9 rfl rfl (eC123 0 _ rfl) (sy rfl rfl (not_t hb120) (yl_call Try.en162 rfl (opvs_cons rfl opvs_nil) (Cal.mono (c_s_l25Field ((s_l1Split p_key 47).getD 2 d_Str) (okS_l1Split o5 _ _)) ?_))))))
     rintro v125 w124 ⟨rfl, hE126⟩
     have hE126z := Ex.size hE126
     refine sy rfl rfl (not_t hb120) (yl_not rfl rfl (sd rfl (yl_pick_f rfl rfl (not_t hb120) rfl (SeqR.done (tn (CW.sub (Sub.cons (d := 9) hx109 (Sub.cons (d := 39) rfl (Sub.nil _))) (bcase (s_l25Field ((s_l1Split p_key 47).getD 2 d_Str)) (fun hb127 => ?_) (fun hb127 => ?_))))))))
     ·refine CW.cond_f rfl (not_t hb127) (CW.skip (tn (CW.seq (CW.drawsI 9 (vgetI [DetI (.slice A18 ((s_l1Split p_key 47).length) c18), DetI (.pointer (some ⟨eb116, eo116 + 1 * 1, none⟩)), DetI (.string (bs (((s_l1Split p_key 47).getD 1 d_Str)))), DetI (.slice A18 ((s_l1Split p_key 47).length) c18), DetI (.pointer (some ⟨eb123, eo123 + 2 * 1, none⟩)), DetI (.string (bs (((s_l1Split p_key 47).getD 2 d_Str)))), DetI (.string (bs (((s_l1Split p_key 47).getD 1 d_Str)))), DetI (.string (bs (((s_l1Split p_key 47).getD 2 d_Str)))), DetI (.bool (true))]) Try.follows rfl rfl rfl rfl rfl rfl (vgetI_stable ⟨StableI.det _, StableI.det _, StableI.det _, StableI.det _, StableI.det _, StableI.det _, StableI.det _, StableI.det _, StableI.det _, trivial⟩) ⟨?_, ?_, ?_, ?_, ?_, ?_, ?_, ?_, ?_, trivial⟩ ?_))))
      ·exact fun _ _ h => os rfl ((yl_move rfl (h.old 9 _ rfl rfl) kI))
      ·intro L136 w137 hi138
       have hE139 := hi138.ex
       have hE139z := Ex.size hE139
       exact os rfl ((yl_indexAddrN Try.un52 Try.ty9 rfl (hi138.dt 0 40 rfl rfl rfl) rfl eA116 (by first | omega | assumption | (simp only [IntKind.wrap_i64] at *; omega)) kI))
      ·exact fun _ _ h => os rfl ((yl_load1 Try.ty9 rfl (h.dt 1 41 rfl rfl rfl) ((Cells.ex (Cells.ex (Cells.ex eC116 hE119) hE126) h.ex) 0 _ rfl) kI))
      ·exact fun _ _ h => os rfl ((yl_move rfl (h.old 9 _ rfl rfl) kI))
      ·intro L152 w153 hi154
       have hE155 := hi154.ex
       have hE155z := Ex.size hE155
       exact os rfl ((yl_indexAddrN Try.un52 Try.ty9 rfl (hi154.dt 3 43 rfl rfl rfl) rfl eA123 (by first | omega | assumption | (simp only [IntKind.wrap_i64] at *; omega)) kI))
      ·exact fun _ _ h => os rfl ((yl_load1 Try.ty9 rfl (h.dt 4 44 rfl rfl rfl) ((Cells.ex (Cells.ex eC123 hE126) h.ex) 0 _ rfl) kI))
      ·exact fun _ _ h => os rfl ((yl_assign rfl (h.dt 2 42 rfl rfl rfl) kI))
      ·exact fun _ _ h => os rfl ((yl_assign rfl (h.dt 5 45 rfl rfl rfl) kI))
      ·exact fun _ _ h => os rfl ((yl_assign rfl rfl kI))
      ·intro fl180 fh181 L177 w178 hp179
       have hE182 := hp179.ex
       have hE182z := Ex.size hE182
       refine SeqR.done (tn (CW.sub (Sub.cons (d := 6) (hp179.nt 6 6 rfl rfl rfl) (Sub.cons (d := 7) (hp179.nt 7 7 rfl rfl rfl) (Sub.cons (d := 8) (hp179.nt 8 8 rfl rfl rfl) (Sub.nil _)))) (CW.ret (rr rfl (.cons rfl (.cons rfl (.cons rfl .nil))) ?_))))
       have hM186 : (s_l25ReadEntry p_t p_name p_key) = ((((s_l1Split p_key 47).getD 1 d_Str), ((s_l1Split p_key 47).getD 2 d_Str), true)) := by simp only [s_l25ReadEntry, hb22, hb113, hb120, hb127, cond_true, cond_false, loopE_done, loopE_ret]
       rw [hM186]
       exact ⟨rfl, (okS_l1Split o5 _ _), (okS_l1Split o5 _ _), (Ex.trans (Ex.trans (Ex.trans (Ex.trans (Ex.trans (Ex.trans (Ex.refl w) hE16) hE20) hE108) hE119) hE126) hE182)⟩
     ·refine CW.cond_t rfl (not_f hb127) (CW.seq (CW.region (sd rfl (yl_assign rfl rfl (sd rfl (yl_assign rfl rfl (sd rfl (yl_assign rfl rfl (SeqR.done (tn (CW.ret ?_)))))))))))
      refine tr (rr rfl (.cons rfl (.cons rfl (.cons rfl .nil))) ?_)
      have hM193 : (s_l25ReadEntry p_t p_name p_key) = ((([] : Str), ([] : Str), false)) := by simp only [s_l25ReadEntry, hb22, hb113, hb120, hb127, cond_true, cond_false, loopE_done, loopE_ret]
      rw [hM193]
      exact ⟨rfl, (okS.lit rfl), (okS.lit rfl), (Ex.trans (Ex.trans (Ex.trans (Ex.trans (Ex.trans (Ex.refl w) hE16) hE20) hE108) hE119) hE126)⟩
    ·refine sz rfl rfl (not_f hb120) (sz rfl rfl (not_f hb120) (sz rfl rfl (not_f hb120) (sz rfl rfl (not_f hb120) (sz rfl rfl (not_f hb120) (sd rfl (yl_pick_t rfl rfl (not_f hb120) rfl (SeqR.done (tn (CW.sub (Sub.cons (d := 9) hx109 (Sub.cons (d := 39) rfl (Sub.nil _))) ?_)))))))))
     refine CW.cond_t rfl rfl (CW.seq (CW.region (sd rfl (yl_assign rfl rfl (sd rfl (yl_assign rfl rfl (sd rfl (yl_assign rfl rfl (SeqR.done (tn (CW.ret ?_)))))))))))
     refine tr (rr rfl (.cons rfl (.cons rfl (.cons rfl .nil))) ?_)
     have hM199 : (s_l25ReadEntry p_t p_name p_key) = ((([] : Str), ([] : Str), false)) := by simp only [s_l25ReadEntry, hb22, hb113, hb120, cond_true, cond_false, loopE_done, loopE_ret]
     rw [hM199]
     exact ⟨rfl, (okS.lit rfl), (okS.lit rfl), (Ex.trans (Ex.trans (Ex.trans (Ex.trans (Ex.refl w) hE16) hE20) hE108) hE119)⟩
   ·refine sz rfl rfl (not_f hb113) (sz rfl rfl (not_f hb113) (sz rfl rfl (not_f hb113) (sz rfl rfl (not_f hb113) (sz rfl rfl (not_f hb113) (sd rfl (yl_pick_t rfl rfl (not_f hb113) rfl (sd rfl (yl_move rfl rfl (sz rfl rfl rfl (sz rfl rfl rfl ?_))))))))))
    refine sz rfl rfl rfl (sz rfl rfl rfl (sz rfl rfl rfl (sd rfl (yl_pick_t rfl rfl rfl rfl (SeqR.done (tn (CW.sub (Sub.cons (d := 9) hx109 (Sub.cons (d := 39) rfl (Sub.nil _))) (CW.cond_t rfl rfl (CW.seq ?_)))))))))
    refine CW.region (sd rfl (yl_assign rfl rfl (sd rfl (yl_assign rfl rfl (sd rfl (yl_assign rfl rfl (SeqR.done (tn (CW.ret (tr (rr rfl (.cons rfl (.cons rfl (.cons rfl .nil))) ?_)))))))))))
    have hM204 : (s_l25ReadEntry p_t p_name p_key) = ((([] : Str), ([] : Str), false)) := by simp only [s_l25ReadEntry, hb22, hb113, cond_true, cond_false, loopE_done, loopE_ret]
    rw [hM204]
    exact ⟨rfl, (okS.lit rfl), (okS.lit rfl), (Ex.trans (Ex.trans (Ex.trans (Ex.refl w) hE16) hE20) hE108)⟩
 ·have hb22p := dec_f hb22
  refine CW.drawsI 12 (vgetI [DetI (.slice A18 ((s_l1Split p_key 47).length) c18), DetI (.int .i64 (((s_l1Split p_key 47).length : Int))), DetI (.bool (!(decide (((s_l1Split p_key 47).length : Int) = 3)))), DetI (.bool (!(decide (((s_l1Split p_key 47).length : Int) = 3)))), DetI (undef), DetI (undef), DetI (undef), DetI (undef), DetI (undef), DetI (undef), DetI (undef), DetI (undef)]) Try.follows rfl rfl rfl rfl rfl rfl (vgetI_stable ⟨StableI.det _, StableI.det _, StableI.det _, StableI.det _, StableI.det _, StableI.det _, StableI.det _, StableI.det _, StableI.det _, StableI.det _, StableI.det _, StableI.det _, trivial⟩) ⟨?_, ?_, ?_, ?_, ?_, ?_, ?_, ?_, ?_, ?_, ?_, ?_, trivial⟩ ?_
  ·exact fun _ _ h => os rfl ((yl_move rfl (h.old 9 _ rfl rfl) kI))
  ·exact fun _ _ h => os rfl ((yl_len Try.un52 rfl (h.dt 0 12 rfl rfl rfl) kI))
  ·exact fun _ _ h => os rfl ((yl_neq rfl (h.dt 1 13 rfl rfl rfl) rfl kI))
  ·exact fun _ _ h => os rfl ((yl_move rfl (h.dt 2 14 rfl rfl rfl) kI))
  ·exact fun _ _ h => OpR.skip rfl rfl (h.dt 3 15 rfl rfl rfl) (not_f hb22) ⟨rfl, Ex.refl _⟩
  ·exact fun _ _ h => OpR.skip rfl rfl (h.dt 3 15 rfl rfl rfl) (not_f hb22) ⟨rfl, Ex.refl _⟩
  ·exact fun _ _ h => OpR.skip rfl rfl (h.dt 3 15 rfl rfl rfl) (not_f hb22) ⟨rfl, Ex.refl _⟩
  ·exact fun _ _ h => OpR.skip rfl rfl (h.dt 3 15 rfl rfl rfl) (not_f hb22) ⟨rfl, Ex.refl _⟩
  ·exact fun _ _ h => OpR.skip rfl rfl (h.dt 3 15 rfl rfl rfl) (not_f hb22) ⟨rfl, Ex.refl _⟩
  ·exact fun _ _ h => OpR.skip rfl rfl (h.dt 3 15 rfl rfl rfl) (not_f hb22) ⟨rfl, Ex.refl _⟩
  ·exact fun _ _ h => OpR.skip rfl rfl (h.dt 3 15 rfl rfl rfl) (not_f hb22) ⟨rfl, Ex.refl _⟩
  ·exact fun _ _ h => OpR.skip rfl rfl (h.dt 3 15 rfl rfl rfl) (not_f hb22) ⟨rfl, Ex.refl _⟩
  ·intro fl271 fh272 L268 w269 hp270
   have hE273 := hp270.ex
   have hE273z := Ex.size hE273
   have hx275 := hp270.nt 3 15 rfl rfl rfl
   refine sz rfl hx275 (not_f hb22) (sd rfl (yl_pick_t rfl hx275 (not_f hb22) rfl (sd rfl (yl_move rfl rfl (sz rfl rfl rfl (sz rfl rfl rfl (sz rfl rfl rfl (sz rfl rfl rfl (sz rfl rfl rfl (sd rfl (yl_pick_t rfl rfl rfl rfl ?_)))))))))))
   refine sd rfl (yl_move rfl rfl (sz rfl rfl rfl (sz rfl rfl rfl (sz rfl rfl rfl (sz rfl rfl rfl (sz rfl rfl rfl (sd rfl (yl_pick_t rfl rfl rfl rfl (SeqR.done (tn ?_))))))))))
   refine CW.sub (Sub.cons (d := 9) (hp270.old 9 _ rfl rfl) (Sub.cons (d := 39) rfl (Sub.nil _))) (CW.cond_t rfl rfl (CW.seq (CW.region (sd rfl (yl_assign rfl rfl (sd rfl (yl_assign rfl rfl (sd rfl (yl_assign rfl rfl (SeqR.done (tn ?_)))))))))))
   refine CW.ret (tr (rr rfl (.cons rfl (.cons rfl (.cons rfl .nil))) ?_))
   have hM278 : (s_l25ReadEntry p_t p_name p_key) = ((([] : Str), ([] : Str), false)) := by simp only [s_l25ReadEntry, hb22, cond_true, cond_false, loopE_done, loopE_ret]
   rw [hM278]
   exact ⟨rfl, (okS.lit rfl), (okS.lit rfl), (Ex.trans (Ex.trans (Ex.trans (Ex.refl w) hE16) hE20) hE273)⟩
set_option maxRecDepth 100000 in
set_option maxHeartbeats 2000000 in
theorem c_s_ReadIdxKey {A1 : Option Addr} {c1 : Nat} {A2 : Option Addr} {c2 : Nat} {w : World} (p_t : DTable) (p_name : Str) (p_key : Str) (h1 : RdS w (Iv 0 w.heap.size) (RF e_Str) 1 A1 p_t.Cols.length c1 p_t.Cols) (h2 : RdS w (Iv 0 w.heap.size) (RF e_Idx) 3 A2 p_t.Idxs.length c2 p_t.Idxs) (o3 : ok_Table p_t) (o4 : okS p_name) (o5 : okS p_key) : Cal Try.prog 114 #[.agg #[.string (bs (p_t.Name)), .slice A1 p_t.Cols.length c1, .slice A2 p_t.Idxs.length c2], .string (bs (p_name)), .string (bs (p_key))] w fun v w' => v = .tuple #[.string (bs ((s_ReadIdxKey p_t p_name p_key).1)), .string (bs ((s_ReadIdxKey p_t p_name p_key).2.1)), .bool ((s_ReadIdxKey p_t p_name p_key).2.2)] ∧ okS ((s_ReadIdxKey p_t p_name p_key).1) ∧ okS ((s_ReadIdxKey p_t p_name p_key).2.1) ∧ Ex w w' := by
 have hol6 : p_t.Name.length ≤ 1073741824 := o3.1
 have hol7 := o3.2.1.1
 have hol8 := o3.2.2.1
 have hol9 : p_name.length ≤ 1073741824 := o4
 have hol10 : p_key.length ≤ 1073741824 := o5
 refine Cal.of (vs := [.agg #[.string (bs (p_t.Name)), .slice A1 p_t.Cols.length c1, .slice A2 p_t.Idxs.length c2], .string (bs (p_name)), .string (bs (p_key))]) Try.func114 rfl Try.ntmps114 rfl (CW.seq (CW.region (sd rfl (yl_box (cs := [.string (bs (p_t.Name)), .slice A1 p_t.Cols.length c1, .slice A2 p_t.Idxs.length c2]) rfl rfl rfl ?_))))
 intro b11 w12 hs13 hz14 hB15 hE16
 refine sd rfl (yl_assign rfl rfl (sd rfl (yl_assign rfl rfl (sd rfl (yl_assign rfl rfl (SeqR.done (tn (CW.seq (CW.region (sd rfl (yl_loadN (cs := [.string (bs (p_t.Name)), .slice A1 p_t.Cols.length c1, .slice A2 p_t.Idxs.length c2]) Try.ty65 rfl rfl (hB15.cells (n := 3) rfl) rfl (sd rfl (yl_move rfl rfl ?_)))))))))))))
 refine sd rfl (yl_move rfl rfl ?_)
 have q17 := RdS.ex good_Str h1 hE16
 have q18 := RdS.ex good_Idx h2 hE16
 refine sd rfl (yl_call Try.en172 rfl (opvs_cons rfl (opvs_cons rfl (opvs_cons rfl opvs_nil))) (Cal.mono (c_s_l25ReadEntry p_t p_name p_key (RdS.up q17 good_Str) (RdS.up q18 good_Idx) o3 o4 o5) ?_))
 rintro v22 w19 ⟨rfl, ho20, ho21, hE23⟩
 have hE23z := Ex.size hE23
 refine sd rfl (yl_move rfl rfl (sd rfl (yl_extract rfl rfl rfl (sd rfl (yl_extract rfl rfl rfl (sd rfl (yl_extract rfl rfl rfl (sd rfl (yl_assign rfl rfl (sd rfl (yl_assign rfl rfl (sd rfl (yl_assign rfl rfl (SeqR.done (tn ?_)))))))))))))))
 refine CW.seq (CW.seq (CW.region (sd rfl (yl_loadN (cs := [.string (bs (p_t.Name)), .slice A1 p_t.Cols.length c1, .slice A2 p_t.Idxs.length c2]) Try.ty65 rfl rfl ((Box.ex hB15 hE23).cells (n := 3) rfl) rfl (sd rfl (yl_move rfl rfl (sd rfl (yl_call Try.en103 rfl (opvs_cons rfl (opvs_cons rfl opvs_nil)) (Cal.mono (c_s_IdxAt p_t p_name (RdS.up (RdS.ex good_Str q17 hE23) good_Str) (RdS.up (RdS.ex good_Idx q18 hE23) good_Idx) o3 o4) ?_)))))))))
 rintro v29 w27 ⟨rfl, ho28, hE30⟩
 have hE30z := Ex.size hE30
 refine sd rfl (yl_move rfl rfl (sd rfl (yl_extract rfl rfl rfl (sd rfl (yl_extract rfl rfl rfl (sd rfl (yl_alloc Try.ty152 (cs := [.string (bs (([] : Str))), .int .i64 (0), .int .i64 (0)]) rfl rfl ?_)))))))
 intro b31 w32 hs33 hz34 hB35 hE36
 refine SeqR.u rfl rfl (yl_store (vs := [.string (bs ((s_IdxAt p_t p_name).1.Name)), .int .i64 ((s_IdxAt p_t p_name).1.Col), .int .i64 ((s_IdxAt p_t p_name).1.Stage)]) Try.ty152 rfl rfl rfl rfl rfl rfl hB35 (Nat.le_of_ble_eq_true rfl) ?_)
 intro w37 hB38 hO39
 have hB38 : Box w37 b31 152 [.string (bs ((s_IdxAt p_t p_name).1.Name)), .int .i64 ((s_IdxAt p_t p_name).1.Col), .int .i64 ((s_IdxAt p_t p_name).1.Stage)] := hB38
 have hO39z := hO39.size
 refine sd rfl (yl_assign rfl rfl (SeqR.done (tn (CW.seq (CW.region (sd rfl (yl_move rfl rfl (sd rfl (yl_not rfl rfl (sd rfl (yl_move rfl rfl (bcase ((s_IdxAt p_t p_name).2) (fun hb40 => ?_) (fun hb40 => ?_)))))))))))))
 ·obtain ⟨hb40p0, hb40p1, hb40p2, hb40p3⟩ := f_s_IdxAt hb40
  refine sy rfl rfl (not_t hb40) (yl_move rfl rfl (sy rfl rfl (not_t hb40) (yl_not rfl rfl (sd rfl (yl_pick_f rfl rfl (not_t hb40) rfl (SeqR.done (tn (bcase ((s_l25ReadEntry p_t p_name p_key).2.2) (fun hb41 => ?_) (fun hb41 => ?_)))))))))
  ·refine CW.cond_f rfl (not_t hb41) (CW.skip (tn (CW.seq (CW.region (sd rfl (yl_move rfl rfl (sd rfl (yl_move rfl rfl (sd rfl (yl_assign rfl rfl (sd rfl (yl_assign rfl rfl ?_))))))))))))
   refine sd rfl (yl_assign rfl rfl (SeqR.done (tn (CW.ret (rr rfl (.cons rfl (.cons rfl (.cons rfl .nil))) ?_)))))
   have hM42 : (s_ReadIdxKey p_t p_name p_key) = (((s_l25ReadEntry p_t p_name p_key).1, (s_l25ReadEntry p_t p_name p_key).2.1, true)) := by simp only [s_ReadIdxKey, hb40, hb41, cond_true, cond_false, loopE_done, loopE_ret]
   rw [hM42]
   exact ⟨rfl, ho20, ho21, (Below.only (Ex.trans (Ex.trans (Ex.trans (Ex.trans (Ex.refl w) hE16) hE23) hE30) hE36) hO39 (by omega))⟩
  ·refine CW.cond_t rfl (not_f hb41) (CW.seq (CW.region (sd rfl (yl_assign rfl rfl (sd rfl (yl_assign rfl rfl (sd rfl (yl_assign rfl rfl (SeqR.done (tn (CW.ret ?_)))))))))))
   refine tr (rr rfl (.cons rfl (.cons rfl (.cons rfl .nil))) ?_)
   have hM48 : (s_ReadIdxKey p_t p_name p_key) = ((([] : Str), ([] : Str), false)) := by simp only [s_ReadIdxKey, hb40, hb41, cond_true, cond_false, loopE_done, loopE_ret]
   rw [hM48]
   exact ⟨rfl, (okS.lit rfl), (okS.lit rfl), (Below.only (Ex.trans (Ex.trans (Ex.trans (Ex.trans (Ex.refl w) hE16) hE23) hE30) hE36) hO39 (by omega))⟩
 ·refine sz rfl rfl (not_f hb40) (sz rfl rfl (not_f hb40) (sd rfl (yl_pick_t rfl rfl (not_f hb40) rfl (SeqR.done (tn (CW.cond_t rfl rfl (CW.seq (CW.region (sd rfl (yl_assign rfl rfl ?_))))))))))
  refine sd rfl (yl_assign rfl rfl (sd rfl (yl_assign rfl rfl (SeqR.done (tn (CW.ret (tr (rr rfl (.cons rfl (.cons rfl (.cons rfl .nil))) ?_))))))))
  have hM54 : (s_ReadIdxKey p_t p_name p_key) = ((([] : Str), ([] : Str), false)) := by simp only [s_ReadIdxKey, hb40, cond_true, cond_false, loopE_done, loopE_ret]
  rw [hM54]
  exact ⟨rfl, (okS.lit rfl), (okS.lit rfl), (Below.only (Ex.trans (Ex.trans (Ex.trans (Ex.trans (Ex.refl w) hE16) hE23) hE30) hE36) hO39 (by omega))⟩
set_option maxRecDepth 100000 in
set_option maxHeartbeats 2000000 in
theorem c_s_ClearOps {A1 : Option Addr} {c1 : Nat} {A2 : Option Addr} {c2 : Nat} {w : World} (p_t : DTable) (p_name : Str) (p_key : Str) (h1 : RdS w (Iv 0 w.heap.size) (RF e_Str) 1 A1 p_t.Cols.length c1 p_t.Cols) (h2 : RdS w (Iv 0 w.heap.size) (RF e_Idx) 3 A2 p_t.Idxs.length c2 p_t.Idxs) (o3 : ok_Table p_t) (o4 : okS p_name) (o5 : okS p_key) : Cal Try.prog 45 #[.agg #[.string (bs (p_t.Name)), .slice A1 p_t.Cols.length c1, .slice A2 p_t.Idxs.length c2], .string (bs (p_name)), .string (bs (p_key))] w fun v w' => ∃ A_1 c_1 lo_1 hi_1, v = .tuple #[.slice A_1 (((s_ClearOps p_t p_name p_key).1).length) c_1, .bool ((s_ClearOps p_t p_name p_key).2)] ∧ OwnL w' lo_1 hi_1 163 4 (RF e_Op) A_1 (((s_ClearOps p_t p_name p_key).1).length) c_1 ((s_ClearOps p_t p_name p_key).1) ∧ (okL ok_Op) ((s_ClearOps p_t p_name p_key).1) ∧ (w.heap.size ≤ lo_1 ∧ lo_1 ≤ hi_1 ∧ hi_1 ≤ w'.heap.size) ∧ Ex w w' := by
 have hol6 : p_t.Name.length ≤ 1073741824 := o3.1
 have hol7 := o3.2.1.1
 have hol8 := o3.2.2.1
 have hol9 : p_name.length ≤ 1073741824 := o4
 have hol10 : p_key.length ≤ 1073741824 := o5
 refine Cal.of (vs := [.agg #[.string (bs (p_t.Name)), .slice A1 p_t.Cols.length c1, .slice A2 p_t.Idxs.length c2], .string (bs (p_name)), .string (bs (p_key))]) Try.func45 rfl Try.ntmps45 rfl (CW.seq (CW.region (sd rfl (yl_box (cs := [.string (bs (p_t.Name)), .slice A1 p_t.Cols.length c1, .slice A2 p_t.Idxs.length c2]) rfl rfl rfl ?_))))
 intro b11 w12 hs13 hz14 hB15 hE16
 refine sd rfl (yl_assign rfl rfl (sd rfl (yl_assign rfl rfl (SeqR.done (tn (CW.seq (CW.seq (CW.region (sd rfl (yl_loadN (cs := [.string (bs (p_t.Name)), .slice A1 p_t.Cols.length c1, .slice A2 p_t.Idxs.length c2]) Try.ty65 rfl rfl (hB15.cells (n := 3) rfl) rfl (sd rfl (yl_move rfl rfl ?_))))))))))))
 refine sd rfl (yl_move rfl rfl (sd rfl (yl_call Try.en114 rfl (opvs_cons rfl (opvs_cons rfl (opvs_cons rfl opvs_nil))) (Cal.mono (c_s_ReadIdxKey p_t p_name p_key (RdS.up (RdS.ex good_Str h1 hE16) good_Str) (RdS.up (RdS.ex good_Idx h2 hE16) good_Idx) o3 o4 o5) ?_))))
 rintro v22 w19 ⟨rfl, ho20, ho21, hE23⟩
 have hE23z := Ex.size hE23
 refine sd rfl (yl_move rfl rfl (sd rfl (yl_extract rfl rfl rfl (sd rfl (yl_extract rfl rfl rfl (sd rfl (yl_extract rfl rfl rfl (sd rfl (yl_assign rfl rfl (sd rfl (yl_assign rfl rfl (sd rfl (yl_assign rfl rfl (SeqR.done (tn ?_)))))))))))))))
 refine CW.seq (CW.region (sd rfl (yl_move rfl rfl (sd rfl (yl_not rfl rfl (SeqR.done (tn (bcase ((s_ReadIdxKey p_t p_name p_key).2.2) (fun hb24 => ?_) (fun hb24 => ?_)))))))))
 ·refine CW.cond_f rfl (not_t hb24) (CW.skip (tn (CW.seq (CW.region (sd rfl (yl_move rfl rfl (sd rfl (yl_build (cs := [.int .i64 (3), .string (bs (p_key)), .string (bs (([] : Str))), .int .i64 (0)]) rfl (opvs_cons rfl (opvs_cons rfl opvs_nil)) (by kernel_rfl) (sd rfl (yl_buildSlice (cs := [.int .i64 (3), .string (bs (p_key)), .string (bs (([] : Str))), .int .i64 (0)]) Try.un60 Try.ty163 (by decide) rfl (opvs_cons rfl opvs_nil) (by kernel_rfl) ?_))))))))))
  intro b25 w26 hs27 hz28 hB29 hE30
  have hO31 : OwnL w26 b25 (b25 + 1) 163 4 (RF e_Op) (some ⟨b25, 0, none⟩) 1 1 ([(⟨3, p_key, ([] : Str), 0⟩ : DOp)] : List DOp) := OwnL.of_box (S := fun _ => False) hB29 (Nat.le_refl _) (Nat.lt_succ_self _) (EncL.cons (c := [.int .i64 (3), .string (bs (p_key)), .string (bs (([] : Str))), .int .i64 (0)]) rfl rfl EncL.nil) (Nat.le_of_ble_eq_true rfl) (fun h => h) (fun _ h => False.elim h)
  refine sd rfl (yl_assign rfl rfl (sd rfl (yl_assign rfl rfl (SeqR.done (tn (CW.ret (rr rfl (.cons rfl (.cons rfl .nil)) ?_)))))))
  have hM32 : (s_ClearOps p_t p_name p_key) = ((([(⟨3, p_key, ([] : Str), 0⟩ : DOp)] : List DOp), true)) := by simp only [s_ClearOps, hb24, cond_true, cond_false, loopE_done, loopE_ret]
  have hfx33 := (hO31).1
  rw [hM32]
  exact ⟨(some ⟨b25, 0, none⟩), 1, b25, (b25 + 1), (by first | rfl | (simp only [List.length_replicate, List.length_set]; done) | (simp only [List.length_replicate, List.length_set]; rfl) | rw [hfx33]), (OwnL.fix hO31), (okL.mk (Nat.le_of_ble_eq_true rfl) (okE.cons ⟨o5, (okS.lit rfl)⟩ okE.nil)), (by omega), (Ex.trans (Ex.trans (Ex.trans (Ex.refl w) hE16) hE23) hE30)⟩
 ·refine CW.cond_t rfl (not_f hb24) (CW.seq (CW.region (sd rfl (yl_assign rfl rfl (sd rfl (yl_assign rfl rfl (SeqR.done (tn (CW.ret (tr ?_))))))))))
  refine rr rfl (.cons rfl (.cons rfl .nil)) ?_
  have hM37 : (s_ClearOps p_t p_name p_key) = ((([] : List DOp), false)) := by simp only [s_ClearOps, hb24, cond_true, cond_false, loopE_done, loopE_ret]
  rw [hM37]
  exact ⟨none, 0, w19.heap.size, w19.heap.size, rfl, (OwnL.nil _ _ _ _ _ _), (okL.nil _), (by omega), (Ex.trans (Ex.trans (Ex.refl w) hE16) hE23)⟩
set_option maxRecDepth 100000 in
set_option maxHeartbeats 2000000 in
theorem c_i_within {w : World} (p_n : Int) (p_low : Int) (p_high : Int) : Cal Try.prog 142 #[.int .i64 (p_n), .int .i64 (p_low), .int .i64 (p_high)] w fun v w' => v = .bool ((i_within p_n p_low p_high)) ∧ Ex w w' := by
 refine Cal.of (vs := [.int .i64 (p_n), .int .i64 (p_low), .int .i64 (p_high)]) Try.func142 rfl Try.ntmps142 rfl (CW.seq (CW.region (sd rfl (yl_assign rfl rfl (SeqR.done (tn (CW.seq (CW.region (sd rfl (yl_move rfl rfl ?_))))))))))
 refine sd rfl (yl_move rfl rfl (sd rfl (yl_geq rfl rfl rfl (sd rfl (yl_move rfl rfl (bcase (decide (p_low ≤ p_n)) (fun hb1 => ?_) (fun hb1 => ?_)))))))
 ·have hb1p := dec_t hb1
  refine sy rfl rfl hb1 (yl_move rfl rfl (sy rfl rfl hb1 (yl_move rfl rfl (sy rfl rfl hb1 (yl_leq rfl rfl rfl (sd rfl (yl_pick_t rfl rfl hb1 rfl (sd rfl (yl_assign rfl rfl (SeqR.done (tn (CW.ret (rr rfl (.cons rfl .nil) ?_)))))))))))))
  have hM2 : (i_within p_n p_low p_high) = (decide (p_n ≤ p_high)) := by simp only [i_within, hb1, cond_true, cond_false, loopE_done, loopE_ret]
  rw [hM2]
  exact ⟨rfl, (Ex.refl w)⟩
 ·have hb1p := dec_f hb1
  refine sz rfl rfl hb1 (sz rfl rfl hb1 (sz rfl rfl hb1 (sd rfl (yl_pick_f rfl rfl hb1 rfl (sd rfl (yl_assign rfl rfl (SeqR.done (tn (CW.ret (rr rfl (.cons rfl .nil) ?_))))))))))
  have hM3 : (i_within p_n p_low p_high) = (false) := by simp only [i_within, hb1, cond_true, cond_false, loopE_done, loopE_ret]
  rw [hM3]
  exact ⟨rfl, (Ex.refl w)⟩
set_option maxRecDepth 100000 in
set_option maxHeartbeats 2000000 in
theorem c_i_areLetters {w : World} (p_s : Str) (p_most : Int) (o1 : okS p_s) : Cal Try.prog 210 #[.string (bs (p_s)), .int .i64 (p_most)] w fun v w' => v = .bool ((i_areLetters p_s p_most)) ∧ Ex w w' := by
 have hol2 : p_s.length ≤ 1073741824 := o1
 refine Cal.of (vs := [.string (bs (p_s)), .int .i64 (p_most)]) Try.func210 rfl Try.ntmps210 rfl (CW.seq (CW.region (sd rfl (yl_assign rfl rfl (SeqR.done (tn (CW.seq (CW.seq (CW.region ?_)))))))))
 refine sd rfl (yl_move rfl rfl (sd rfl (yl_slen Try.un9 (a := p_s) rfl rfl (sd rfl (yl_move rfl rfl (SeqR.done (tn (CW.block (CW.loop (fun m4 L5 w6 => ∃ (k3 : Nat), m4 = p_s.length - k3 ∧ k3 ≤ p_s.length ∧ w.heap.size ≤ w6.heap.size ∧ lkp L5 0 = some (.string (bs (p_s))) ∧ lkp L5 1 = some (.int .i64 (p_most)) ∧ lkp L5 7 = some (.int .i64 ((p_s.length : Int))) ∧ lkp L5 8 = some (.int .i64 ((k3 : Int))) ∧ Ex w w6 ∧ loopM (B_i_areLetters_0 p_s p_most) (p_s.length - k3) k3 () = loopM (B_i_areLetters_0 p_s p_most) (p_s.length - 0) 0 ()) (p_s.length - 0) ?_ ?_)))))))))
 ·exact ⟨0, rfl, (by omega), Nat.le_refl _, rfl, rfl, rfl, rfl, (Ex.refl w), rfl⟩
 ·rintro m7 L8 w9 ⟨k3, rfl, hk10, hsz12, hl13, hl14, hl15, hl16, hf17, hI11⟩
  refine CW.sub (Sub.cons hl13 (Sub.cons hl14 (Sub.cons hl15 (Sub.cons hl16 (Sub.nil _))))) ?_
  have hf17z := Ex.size hf17
  have hbg18 : p_s.length ≤ 1073741824 := o1
  rcases Nat.lt_or_ge k3 p_s.length with hlt19 | hlt19
  ·refine CW.seq (CW.region (sd rfl (yl_lss rfl rfl rfl (SeqR.done (tn (CW.seq (CW.cond_t rfl (lt_t hlt19) (CW.skip (tn ?_)))))))))
   refine CW.seq (CW.block (CW.seq (CW.region (sd rfl (yl_move rfl rfl (sd rfl (yl_assign rfl rfl (SeqR.done (tn (CW.seq ?_))))))))))
   refine CW.region (sd rfl (yl_move rfl rfl (sd rfl (yl_move rfl rfl (sd rfl (yl_sindexN Try.un9 (a := p_s) rfl rfl rfl (by first | omega | assumption | (simp only [IntKind.wrap_i64] at *; omega)) (sd rfl (yl_lss rfl rfl rfl (sd rfl (yl_move rfl rfl (bcase (decide (((p_s.getD k3 0).toNat : Int) < 97)) (fun hb20 => ?_) (fun hb20 => ?_))))))))))))
   ·have hb20p := dec_t hb20
    refine sz rfl rfl hb20 (sz rfl rfl hb20 (sz rfl rfl hb20 (sz rfl rfl hb20 (sd rfl (yl_pick_t rfl rfl hb20 rfl (SeqR.done (tn (CW.cond_t rfl rfl (CW.seq ?_)))))))))
    refine CW.region (sd rfl (yl_assign rfl rfl (SeqR.done (tn (CW.ret (br (tr (tr ?_))))))))
    have hB22 : B_i_areLetters_0 p_s p_most k3 () = .ret false := by simp only [B_i_areLetters_0, hb20, cond_true, cond_false, loopE_done, loopE_ret]
    have hL21 : loopM (B_i_areLetters_0 p_s p_most) (p_s.length - 0) 0 () = .ret false := hI11.symm.trans (loopM.ret hlt19 hB22)
    refine br (tr (rr rfl (.cons rfl .nil) ?_))
    have hM23 : (i_areLetters p_s p_most) = (false) := by simp only [i_areLetters, hb20, hL21, cond_true, cond_false, loopE_done, loopE_ret]
    rw [hM23]
    exact ⟨rfl, hf17⟩
   ·have hb20p := dec_f hb20
    refine sy rfl rfl hb20 (yl_move rfl rfl (sy rfl rfl hb20 (yl_move rfl rfl (sy rfl rfl hb20 (yl_sindexN Try.un9 (a := p_s) rfl rfl rfl (by first | omega | assumption | (simp only [IntKind.wrap_i64] at *; omega)) (sy rfl rfl hb20 (yl_gtr rfl rfl rfl (sd rfl (yl_pick_f rfl rfl hb20 rfl (SeqR.done (tn (bcase (decide (122 < ((p_s.getD k3 0).toNat : Int))) (fun hb24 => ?_) (fun hb24 => ?_)))))))))))))
    ·have hb24p := dec_t hb24
     refine CW.cond_t rfl hb24 (CW.seq (CW.region (sd rfl (yl_assign rfl rfl (SeqR.done (tn (CW.ret (br (tr ?_)))))))))
     refine tr ?_
     have hB26 : B_i_areLetters_0 p_s p_most k3 () = .ret false := by simp only [B_i_areLetters_0, hb20, hb24, cond_true, cond_false, loopE_done, loopE_ret]
     have hL25 : loopM (B_i_areLetters_0 p_s p_most) (p_s.length - 0) 0 () = .ret false := hI11.symm.trans (loopM.ret hlt19 hB26)
     refine br (tr (rr rfl (.cons rfl .nil) ?_))
     have hM27 : (i_areLetters p_s p_most) = (false) := by simp only [i_areLetters, hb20, hb24, hL25, cond_true, cond_false, loopE_done, loopE_ret]
     rw [hM27]
     exact ⟨rfl, hf17⟩
    ·have hb24p := dec_f hb24
     refine CW.cond_f rfl hb24 (CW.skip (bn (tn (CW.region (sd rfl (yl_inc rfl rfl rfl (by omega) (sd rfl (yl_move rfl rfl (SeqR.done (tn ?_))))))))))
     have hB28 : B_i_areLetters_0 p_s p_most k3 () = .cont () := by simp only [B_i_areLetters_0, hb20, hb24, cond_true, cond_false, loopE_done, loopE_ret]
     exact ⟨p_s.length - (k3 + 1), by omega, k3 + 1, rfl, hlt19, (by omega), rfl, rfl, rfl, rfl, hf17, (loopM.cont hlt19 hB28).symm.trans hI11⟩
  ·refine CW.seq (CW.region (sd rfl (yl_lss rfl rfl rfl (SeqR.done (tn (CW.seq (CW.cond_f rfl (lt_f hlt19) (CW.exit (tx ?_)))))))))
   refine tx ?_
   have hL29 : loopM (B_i_areLetters_0 p_s p_most) (p_s.length - 0) 0 () = .done () := hI11.symm.trans (loopM.stop hlt19)
   refine bx (tn (CW.seq (CW.region (sd rfl (yl_move rfl rfl (sd rfl (yl_slen Try.un9 (a := p_s) rfl rfl (sd rfl (yl_move rfl rfl (sd rfl (yl_call Try.en142 rfl (opvs_cons rfl (opvs_cons rfl (opvs_cons rfl opvs_nil))) (Cal.mono (c_i_within (p_s.length : Int) 1 p_most) ?_))))))))))))
   rintro v31 w30 ⟨rfl, hE32⟩
   have hE32z := Ex.size hE32
   refine sd rfl (yl_assign rfl rfl (SeqR.done (tn (CW.ret (rr rfl (.cons rfl .nil) ?_)))))
   have hM33 : (i_areLetters p_s p_most) = ((i_within (p_s.length : Int) 1 p_most)) := by simp only [i_areLetters, hL29, cond_true, cond_false, loopE_done, loopE_ret]
   rw [hM33]
   exact ⟨rfl, (Ex.trans hf17 hE32)⟩
set_option maxRecDepth 100000 in
set_option maxHeartbeats 2000000 in
theorem c_g_slices_Index_string {A1 : Option Addr} {c1 : Nat} {w : World} (p_s : List Str) (p_v : Str) (h1 : RdS w (Iv 0 w.heap.size) (RF e_Str) 1 A1 p_s.length c1 p_s) (o2 : (okL okS) p_s) (o3 : okS p_v) : Cal Try.prog 238 #[.slice A1 p_s.length c1, .string (bs (p_v))] w fun v w' => v = .int .i64 ((g_slices_Index_string p_s p_v)) ∧ Ex w w' := by
 have hol4 := o2.1
 have hol5 : p_v.length ≤ 1073741824 := o3
 refine Cal.of (vs := [.slice A1 p_s.length c1, .string (bs (p_v))]) Try.func238 rfl Try.ntmps238 rfl (CW.seq (CW.region (sd rfl (yl_assign rfl rfl (SeqR.done (tn (CW.seq (CW.seq (CW.region ?_)))))))))
 refine sd rfl (yl_move rfl rfl (sd rfl (yl_len Try.un52 rfl rfl (sd rfl (yl_move rfl rfl (SeqR.done (tn (CW.block (CW.loop (fun m7 L8 w9 => ∃ (k6 : Nat), m7 = p_s.length - k6 ∧ k6 ≤ p_s.length ∧ w.heap.size ≤ w9.heap.size ∧ lkp L8 0 = some (.slice A1 p_s.length c1) ∧ lkp L8 1 = some (.string (bs (p_v))) ∧ lkp L8 7 = some (.int .i64 ((p_s.length : Int))) ∧ lkp L8 8 = some (.int .i64 ((k6 : Int))) ∧ RdS w9 (Iv 0 w.heap.size) (RF e_Str) 1 A1 p_s.length c1 p_s ∧ Ex w w9 ∧ loopM (B_g_slices_Index_string_0 p_s p_v) (p_s.length - k6) k6 () = loopM (B_g_slices_Index_string_0 p_s p_v) (p_s.length - 0) 0 ()) (p_s.length - 0) ?_ ?_)))))))))
 ·exact ⟨0, rfl, (by omega), Nat.le_refl _, rfl, rfl, rfl, rfl, h1, (Ex.refl w), rfl⟩
 ·rintro m10 L11 w12 ⟨k6, rfl, hk13, hsz15, hl16, hl17, hl18, hl19, hf20, hf21, hI14⟩
  refine CW.sub (Sub.cons hl16 (Sub.cons hl17 (Sub.cons hl18 (Sub.cons hl19 (Sub.nil _))))) ?_
  have hf21z := Ex.size hf21
  have hbg22 := RdS.big hf20
  rcases Nat.lt_or_ge k6 p_s.length with hlt23 | hlt23
  ·refine CW.seq (CW.region (sd rfl (yl_lss rfl rfl rfl (SeqR.done (tn (CW.seq (CW.cond_t rfl (lt_t hlt23) (CW.skip (tn ?_)))))))))
   refine CW.seq (CW.block (CW.seq (CW.region (sd rfl (yl_move rfl rfl (sd rfl (yl_assign rfl rfl (SeqR.done (tn (CW.seq ?_))))))))))
   refine CW.region (sd rfl (yl_move rfl rfl (sd rfl (yl_move rfl rfl (sd rfl (yl_move rfl rfl ?_))))))
   obtain ⟨eb24, eo24, ec24, eA24, eS24, ebl24, el24, eR24, eC24⟩ := RdS.atD hf20 d_Str (i := k6) (by first | omega | assumption)
   obtain rfl := eR24
   have eC24 : Cells w12 eb24 (eo24 + k6 * 1) [.string (bs ((p_s.getD k6 d_Str)))] := eC24
   refine sd rfl (yl_indexAddrN Try.un52 Try.ty9 rfl rfl rfl eA24 (by first | omega | assumption | (simp only [IntKind.wrap_i64] at *; omega)) (sd rfl (yl_load1 Try.ty9 rfl rfl (eC24 0 _ rfl) (sd rfl (yl_seql (a := p_v) (b := (p_s.getD k6 d_Str)) rfl rfl rfl (SeqR.done (tn (bcase (p_v == (p_s.getD k6 d_Str)) (fun hb25 => ?_) (fun hb25 => ?_)))))))))
   ·refine CW.cond_t rfl hb25 (CW.seq (CW.region (sd rfl (yl_move rfl rfl (sd rfl (yl_assign rfl rfl (SeqR.done (tn (CW.ret (br ?_))))))))))
    refine tr (tr ?_)
    have hB27 : B_g_slices_Index_string_0 p_s p_v k6 () = .ret (k6 : Int) := by simp only [B_g_slices_Index_string_0, hb25, cond_true, cond_false, loopE_done, loopE_ret]
    have hL26 : loopM (B_g_slices_Index_string_0 p_s p_v) (p_s.length - 0) 0 () = .ret (k6 : Int) := hI14.symm.trans (loopM.ret hlt23 hB27)
    refine br (tr (rr rfl (.cons rfl .nil) ?_))
    have hM28 : (g_slices_Index_string p_s p_v) = ((k6 : Int)) := by simp only [g_slices_Index_string, hb25, hL26, cond_true, cond_false, loopE_done, loopE_ret]
    rw [hM28]
    exact ⟨rfl, hf21⟩
   ·refine CW.cond_f rfl hb25 (CW.skip (bn (tn (CW.region (sd rfl (yl_inc rfl rfl rfl (by omega) (sd rfl (yl_move rfl rfl (SeqR.done (tn ?_))))))))))
    have hB29 : B_g_slices_Index_string_0 p_s p_v k6 () = .cont () := by simp only [B_g_slices_Index_string_0, hb25, cond_true, cond_false, loopE_done, loopE_ret]
    exact ⟨p_s.length - (k6 + 1), by omega, k6 + 1, rfl, hlt23, (by omega), rfl, rfl, rfl, rfl, hf20, hf21, (loopM.cont hlt23 hB29).symm.trans hI14⟩
  ·refine CW.seq (CW.region (sd rfl (yl_lss rfl rfl rfl (SeqR.done (tn (CW.seq (CW.cond_f rfl (lt_f hlt23) (CW.exit (tx ?_)))))))))
   refine tx ?_
   have hL30 : loopM (B_g_slices_Index_string_0 p_s p_v) (p_s.length - 0) 0 () = .done () := hI14.symm.trans (loopM.stop hlt23)
   refine bx (tn (CW.seq (CW.region (sd rfl (yl_assign rfl rfl (SeqR.done (tn (CW.ret (rr rfl (.cons rfl .nil) ?_)))))))))
   have hM31 : (g_slices_Index_string p_s p_v) = (-1) := by simp only [g_slices_Index_string, hL30, cond_true, cond_false, loopE_done, loopE_ret]
   rw [hM31]
   exact ⟨rfl, hf21⟩
set_option maxRecDepth 100000 in
set_option maxHeartbeats 2000000 in
theorem c_g_slices_Contains_string {A1 : Option Addr} {c1 : Nat} {w : World} (p_s : List Str) (p_v : Str) (h1 : RdS w (Iv 0 w.heap.size) (RF e_Str) 1 A1 p_s.length c1 p_s) (o2 : (okL okS) p_s) (o3 : okS p_v) : Cal Try.prog 211 #[.slice A1 p_s.length c1, .string (bs (p_v))] w fun v w' => v = .bool ((g_slices_Contains_string p_s p_v)) ∧ Ex w w' := by
 have hol4 := o2.1
 have hol5 : p_v.length ≤ 1073741824 := o3
 refine Cal.of (vs := [.slice A1 p_s.length c1, .string (bs (p_v))]) Try.func211 rfl Try.ntmps211 rfl (CW.seq (CW.region (sd rfl (yl_assign rfl rfl (SeqR.done (tn (CW.seq (CW.region (sd rfl (yl_move rfl rfl ?_))))))))))
 refine sd rfl (yl_move rfl rfl (sd rfl (yl_call Try.en238 rfl (opvs_cons rfl (opvs_cons rfl opvs_nil)) (Cal.mono (c_g_slices_Index_string p_s p_v (RdS.up h1 good_Str) o2 o3) ?_))))
 rintro v7 w6 ⟨rfl, hE8⟩
 have hE8z := Ex.size hE8
 refine sd rfl (yl_geq rfl rfl rfl (sd rfl (yl_assign rfl rfl (SeqR.done (tn (CW.ret (rr rfl (.cons rfl .nil) ?_)))))))
 have hM9 : (g_slices_Contains_string p_s p_v) = (decide (0 ≤ (g_slices_Index_string p_s p_v))) := by simp only [g_slices_Contains_string, cond_true, cond_false, loopE_done, loopE_ret]
 rw [hM9]
 exact ⟨rfl, (Ex.trans (Ex.refl w) hE8)⟩
set_option maxRecDepth 100000 in
set_option maxHeartbeats 2000000 in
theorem c_i_isStage {w : World} (p_stage : Int) : Cal Try.prog 212 #[.int .i64 (p_stage)] w fun v w' => v = .bool ((i_isStage p_stage)) ∧ Ex w w' := by
 refine Cal.of (vs := [.int .i64 (p_stage)]) Try.func212 rfl Try.ntmps212 rfl (CW.seq (CW.region (sd rfl (yl_assign rfl rfl (SeqR.done (tn (CW.seq (CW.region (sd rfl (yl_move rfl rfl ?_))))))))))
 refine sd rfl (yl_call Try.en142 rfl (opvs_cons rfl (opvs_cons rfl (opvs_cons rfl opvs_nil))) (Cal.mono (c_i_within p_stage 0 3) ?_))
 rintro v2 w1 ⟨rfl, hE3⟩
 have hE3z := Ex.size hE3
 refine sd rfl (yl_assign rfl rfl (SeqR.done (tn (CW.ret (rr rfl (.cons rfl .nil) ?_)))))
 have hM4 : (i_isStage p_stage) = ((i_within p_stage 0 3)) := by simp only [i_isStage, cond_true, cond_false, loopE_done, loopE_ret]
 rw [hM4]
 exact ⟨rfl, (Ex.trans (Ex.refl w) hE3)⟩
set_option maxRecDepth 100000 in
set_option maxHeartbeats 2000000 in
theorem c_i_GoodTable {A1 : Option Addr} {c1 : Nat} {A2 : Option Addr} {c2 : Nat} {w : World} (p_0 : DTable) (h1 : RdS w (Iv 0 w.heap.size) (RF e_Str) 1 A1 p_0.Cols.length c1 p_0.Cols) (h2 : RdS w (Iv 0 w.heap.size) (RF e_Idx) 3 A2 p_0.Idxs.length c2 p_0.Idxs) (o3 : ok_Table p_0) : Cal Try.prog 166 #[.agg #[.string (bs (p_0.Name)), .slice A1 p_0.Cols.length c1, .slice A2 p_0.Idxs.length c2]] w fun v w' => v = .bool ((i_GoodTable p_0)) ∧ Ex w w' := by
 have hol4 : p_0.Name.length ≤ 1073741824 := o3.1
 have hol5 := o3.2.1.1
 have hol6 := o3.2.2.1
 refine Cal.of (vs := [.agg #[.string (bs (p_0.Name)), .slice A1 p_0.Cols.length c1, .slice A2 p_0.Idxs.length c2]]) Try.func166 rfl Try.ntmps166 rfl (CW.seq (CW.region (sd rfl (yl_box (cs := [.string (bs (p_0.Name)), .slice A1 p_0.Cols.length c1, .slice A2 p_0.Idxs.length c2]) rfl rfl rfl ?_))))
 intro b7 w8 hs9 hz10 hB11 hE12
 refine sd rfl (yl_assign rfl rfl (SeqR.done (tn (CW.seq (CW.seq (CW.region (sd rfl (yl_fieldAddr Try.fd65_0 rfl rfl (sd rfl (yl_load1 Try.ty9 rfl rfl ((hB11.cell 0).trans rfl) (sd rfl (yl_call Try.en210 rfl (opvs_cons rfl (opvs_cons rfl opvs_nil)) (Cal.mono (c_i_areLetters p_0.Name 1 o3.1) ?_)))))))))))))
 rintro v14 w13 ⟨rfl, hE15⟩
 have hE15z := Ex.size hE15
 refine sd rfl (yl_not rfl rfl (sd rfl (yl_move rfl rfl (bcase (i_areLetters p_0.Name 1) (fun hb16 => ?_) (fun hb16 => ?_)))))
 ·refine sy rfl rfl (not_t hb16) (yl_fieldAddr Try.fd65_1 rfl rfl ?_)
  have q17 := Box.ex hB11 hE15
  refine sy rfl rfl (not_t hb16) (yl_load1 Try.ty52 rfl rfl ((q17.cell 1).trans rfl) (sy rfl rfl (not_t hb16) (yl_len Try.un52 rfl rfl (sy rfl rfl (not_t hb16) (yl_call Try.en142 rfl (opvs_cons rfl (opvs_cons rfl (opvs_cons rfl opvs_nil))) (Cal.mono (c_i_within (p_0.Cols.length : Int) 2 4) ?_))))))
  rintro v19 w18 ⟨rfl, hE20⟩
  have hE20z := Ex.size hE20
  refine sy rfl rfl (not_t hb16) (yl_not rfl rfl (sd rfl (yl_pick_f rfl rfl (not_t hb16) rfl (sd rfl (yl_move rfl rfl (bcase (i_within (p_0.Cols.length : Int) 2 4) (fun hb21 => ?_) (fun hb21 => ?_)))))))
  ·have hb21p := f_within hb21
   refine sy rfl rfl (not_t hb21) (yl_fieldAddr Try.fd65_2 rfl rfl ?_)
   have q22 := Box.ex q17 hE20
   refine sy rfl rfl (not_t hb21) (yl_load1 Try.ty63 rfl rfl ((q22.cell 2).trans rfl) (sy rfl rfl (not_t hb21) (yl_len Try.un63 rfl rfl (sy rfl rfl (not_t hb21) (yl_gtr rfl rfl rfl (sd rfl (yl_pick_f rfl rfl (not_t hb21) rfl (SeqR.done (tn (bcase (decide (3 < (p_0.Idxs.length : Int))) (fun hb23 => ?_) (fun hb23 => ?_)))))))))))
   ·have hb23p := dec_t hb23
    refine CW.cond_t rfl hb23 (CW.seq (CW.region (sd rfl (yl_assign rfl rfl (SeqR.done (tn (CW.ret (tr (rr rfl (.cons rfl .nil) ?_)))))))))
    have hM24 : (i_GoodTable p_0) = (false) := by simp only [i_GoodTable, hb16, hb21, hb23, cond_true, cond_false, loopE_done, loopE_ret]
    rw [hM24]
    exact ⟨rfl, (Ex.trans (Ex.trans (Ex.trans (Ex.refl w) hE12) hE15) hE20)⟩
   ·have hb23p := dec_f hb23
    refine CW.cond_f rfl hb23 (CW.skip (tn (CW.seq (CW.seq (CW.region (sd rfl (yl_fieldAddr Try.fd65_1 rfl rfl (sd rfl (yl_load1 Try.ty52 rfl rfl ((q22.cell 1).trans rfl) (sd rfl (yl_len Try.un52 rfl rfl ?_)))))))))))
    refine sd rfl (yl_move rfl rfl (SeqR.done (tn (CW.block (CW.loop (fun m29 L30 w31 => ∃ (k28 : Nat), m29 = p_0.Cols.length - k28 ∧ k28 ≤ p_0.Cols.length ∧ w18.heap.size ≤ w31.heap.size ∧ lkp L30 1 = some (.pointer (some ⟨b7, 0, none⟩)) ∧ lkp L30 25 = some (.slice A1 p_0.Cols.length c1) ∧ lkp L30 26 = some (.int .i64 ((p_0.Cols.length : Int))) ∧ lkp L30 27 = some (.int .i64 ((k28 : Int))) ∧ Box w31 b7 65 [.string (bs (p_0.Name)), .slice A1 p_0.Cols.length c1, .slice A2 p_0.Idxs.length c2] ∧ RdS w31 (Iv 0 w.heap.size) (RF e_Str) 1 A1 p_0.Cols.length c1 p_0.Cols ∧ RdS w31 (Iv 0 w.heap.size) (RF e_Idx) 3 A2 p_0.Idxs.length c2 p_0.Idxs ∧ Ex w w31 ∧ loopM (B_i_GoodTable_0 p_0) (p_0.Cols.length - k28) k28 () = loopM (B_i_GoodTable_0 p_0) (p_0.Cols.length - 0) 0 ()) (p_0.Cols.length - 0) ?_ ?_)))))
    ·exact ⟨0, rfl, (by omega), Nat.le_refl _, rfl, rfl, rfl, rfl, q22, (RdS.ex good_Str (RdS.ex good_Str (RdS.ex good_Str h1 hE12) hE15) hE20), (RdS.ex good_Idx (RdS.ex good_Idx (RdS.ex good_Idx h2 hE12) hE15) hE20), (Ex.trans (Ex.trans (Ex.trans (Ex.refl w) hE12) hE15) hE20), rfl⟩
    ·rintro m41 L42 w43 ⟨k28, rfl, hk44, hsz46, hl47, hl48, hl49, hl50, hf51, hf52, hf53, hf54, hI45⟩
     refine CW.sub (Sub.cons hl47 (Sub.cons hl48 (Sub.cons hl49 (Sub.cons hl50 (Sub.nil _))))) ?_
     have hf51z := Box.lt hf51
     have hf54z := Ex.size hf54
     have hbg55 := RdS.big hf52
     rcases Nat.lt_or_ge k28 p_0.Cols.length with hlt56 | hlt56
     ·refine CW.seq (CW.region (sd rfl (yl_lss rfl rfl rfl (SeqR.done (tn (CW.seq (CW.cond_t rfl (lt_t hlt56) (CW.skip (tn ?_)))))))))
      refine CW.seq (CW.block (CW.seq (CW.region (sd rfl (yl_move rfl rfl ?_)))))
      obtain ⟨eb57, eo57, ec57, eA57, eS57, ebl57, el57, eR57, eC57⟩ := RdS.atD hf52 d_Str (i := k28) (by first | omega | assumption)
      obtain rfl := eR57
      have eC57 : Cells w43 eb57 (eo57 + k28 * 1) [.string (bs ((p_0.Cols.getD k28 d_Str)))] := eC57
      refine sd rfl (yl_indexAddrN Try.un52 Try.ty9 rfl rfl rfl eA57 (by first | omega | assumption | (simp only [IntKind.wrap_i64] at *; omega)) (sd rfl (yl_load1 Try.ty9 rfl rfl (eC57 0 _ rfl) (sd rfl (yl_assign rfl rfl (sd rfl (yl_assign rfl rfl (SeqR.done (tn (CW.seq (CW.region (sd rfl (yl_move rfl rfl ?_)))))))))))))
      refine sd rfl (yl_call Try.en210 rfl (opvs_cons rfl (opvs_cons rfl opvs_nil)) (Cal.mono (c_i_areLetters (p_0.Cols.getD k28 d_Str) 3 (okL.getD o3.2.1 ok_d_Str _)) ?_))
      rintro v59 w58 ⟨rfl, hE60⟩
      have hE60z := Ex.size hE60
      refine sd rfl (yl_not rfl rfl (sd rfl (yl_move rfl rfl (bcase (i_areLetters (p_0.Cols.getD k28 d_Str) 3) (fun hb61 => ?_) (fun hb61 => ?_)))))
      ·refine sy rfl rfl (not_t hb61) (yl_fieldAddr Try.fd65_1 rfl rfl ?_)
       have q62 := Box.ex hf51 hE60
       refine sy rfl rfl (not_t hb61) (yl_load1 Try.ty52 rfl rfl ((q62.cell 1).trans rfl) (sy rfl rfl (not_t hb61) (yl_move rfl rfl ?_)))
       have q63 := RdS.ex good_Str hf52 hE60
       obtain ⟨A64, c65, he68, h67⟩ := RdS.sl (RdS.drop (RdS.take q63 (k := k28) (by omega)) (k := 0) (by omega))
       have hrc69 := (q63).2.1
       refine sy rfl rfl (not_t hb61) (yl_sliceR (kl := .i64) (l := 0) (h := k28) Try.un52 Try.ty9 rfl rfl (.inl ⟨rfl, rfl⟩) (.inr ⟨_, rfl, rfl⟩) (by omega) (by omega) he68 (sy rfl rfl (not_t hb61) (yl_move rfl rfl (sy rfl rfl (not_t hb61) (yl_call Try.en211 rfl (opvs_cons rfl (opvs_cons rfl opvs_nil)) (Cal.mono (c_g_slices_Contains_string (p_0.Cols.take k28) (p_0.Cols.getD k28 d_Str) (RdS.up h67 good_Str) (okL.take o3.2.1 _) (okL.getD o3.2.1 ok_d_Str _)) ?_))))))
       rintro v71 w70 ⟨rfl, hE72⟩
       have hE72z := Ex.size hE72
       refine sd rfl (yl_pick_f rfl rfl (not_t hb61) rfl (SeqR.done (tn (bcase (g_slices_Contains_string (p_0.Cols.take k28) (p_0.Cols.getD k28 d_Str)) (fun hb73 => ?_) (fun hb73 => ?_)))))
       ·refine CW.cond_t rfl hb73 (CW.seq (CW.region (sd rfl (yl_assign rfl rfl (SeqR.done (tn (CW.ret (br (tr ?_)))))))))
        refine tr ?_
        have hB75 : B_i_GoodTable_0 p_0 k28 () = .ret false := by simp only [B_i_GoodTable_0, hb16, hb21, hb23, hb61, hb73, cond_true, cond_false, loopE_done, loopE_ret]
        have hL74 : loopM (B_i_GoodTable_0 p_0) (p_0.Cols.length - 0) 0 () = .ret false := hI45.symm.trans (loopM.ret hlt56 hB75)
        refine br (tr (rr rfl (.cons rfl .nil) ?_))
        have hM76 : (i_GoodTable p_0) = (false) := by simp only [i_GoodTable, hb16, hb21, hb23, hb61, hb73, hL74, cond_true, cond_false, loopE_done, loopE_ret]
        rw [hM76]
        exact ⟨rfl, (Ex.trans (Ex.trans hf54 hE60) hE72)⟩
       ·refine CW.cond_f rfl hb73 (CW.skip (bn (tn (CW.region (sd rfl (yl_inc rfl rfl rfl (by omega) (sd rfl (yl_move rfl rfl (SeqR.done (tn ?_))))))))))
        have hB79 : B_i_GoodTable_0 p_0 k28 () = .cont () := by simp only [B_i_GoodTable_0, hb16, hb21, hb23, hb61, hb73, cond_true, cond_false, loopE_done, loopE_ret]
        exact ⟨p_0.Cols.length - (k28 + 1), by omega, k28 + 1, rfl, hlt56, (by omega), rfl, rfl, rfl, rfl, (Box.ex q62 hE72), (RdS.ex good_Str q63 hE72), (RdS.ex good_Idx (RdS.ex good_Idx hf53 hE60) hE72), (Ex.trans (Ex.trans hf54 hE60) hE72), (loopM.cont hlt56 hB79).symm.trans hI45⟩
      ·refine sz rfl rfl (not_f hb61) (sz rfl rfl (not_f hb61) (sz rfl rfl (not_f hb61) (sz rfl rfl (not_f hb61) (sz rfl rfl (not_f hb61) (sz rfl rfl (not_f hb61) (sd rfl (yl_pick_t rfl rfl (not_f hb61) rfl (SeqR.done (tn ?_)))))))))
       refine CW.cond_t rfl rfl (CW.seq (CW.region (sd rfl (yl_assign rfl rfl (SeqR.done (tn (CW.ret (br (tr ?_)))))))))
       refine tr ?_
       have hB87 : B_i_GoodTable_0 p_0 k28 () = .ret false := by simp only [B_i_GoodTable_0, hb16, hb21, hb23, hb61, cond_true, cond_false, loopE_done, loopE_ret]
       have hL86 : loopM (B_i_GoodTable_0 p_0) (p_0.Cols.length - 0) 0 () = .ret false := hI45.symm.trans (loopM.ret hlt56 hB87)
       refine br (tr (rr rfl (.cons rfl .nil) ?_))
       have hM88 : (i_GoodTable p_0) = (false) := by simp only [i_GoodTable, hb16, hb21, hb23, hb61, hL86, cond_true, cond_false, loopE_done, loopE_ret]
       rw [hM88]
       exact ⟨rfl, (Ex.trans hf54 hE60)⟩
     ·refine CW.seq (CW.region (sd rfl (yl_lss rfl rfl rfl (SeqR.done (tn (CW.seq (CW.cond_f rfl (lt_f hlt56) (CW.exit (tx ?_)))))))))
      refine tx ?_
      have hL90 : loopM (B_i_GoodTable_0 p_0) (p_0.Cols.length - 0) 0 () = .done () := hI45.symm.trans (loopM.stop hlt56)
      refine bx (tn (CW.seq (CW.seq (CW.region (sd rfl (yl_fieldAddr Try.fd65_2 rfl rfl (sd rfl (yl_load1 Try.ty63 rfl rfl ((hf51.cell 2).trans rfl) (sd rfl (yl_len Try.un63 rfl rfl (sd rfl (yl_move rfl rfl ?_))))))))))))
      refine SeqR.done (tn (CW.block (CW.loop (fun m129 L130 w131 => ∃ (k91 : Nat), m129 = p_0.Idxs.length - k91 ∧ k91 ≤ p_0.Idxs.length ∧ w43.heap.size ≤ w131.heap.size ∧ lkp L130 1 = some (.pointer (some ⟨b7, 0, none⟩)) ∧ lkp L130 45 = some (.slice A2 p_0.Idxs.length c2) ∧ lkp L130 46 = some (.int .i64 ((p_0.Idxs.length : Int))) ∧ lkp L130 47 = some (.int .i64 ((k91 : Int))) ∧ Box w131 b7 65 [.string (bs (p_0.Name)), .slice A1 p_0.Cols.length c1, .slice A2 p_0.Idxs.length c2] ∧ RdS w131 (Iv 0 w.heap.size) (RF e_Str) 1 A1 p_0.Cols.length c1 p_0.Cols ∧ RdS w131 (Iv 0 w.heap.size) (RF e_Idx) 3 A2 p_0.Idxs.length c2 p_0.Idxs ∧ Ex w w131 ∧ loopM (B_i_GoodTable_1 p_0) (p_0.Idxs.length - k91) k91 () = loopM (B_i_GoodTable_1 p_0) (p_0.Idxs.length - 0) 0 ()) (p_0.Idxs.length - 0) ?_ ?_)))
      ·exact ⟨0, rfl, (by omega), Nat.le_refl _, rfl, rfl, rfl, rfl, hf51, hf52, hf53, hf54, rfl⟩
      ·rintro m132 L133 w134 ⟨k91, rfl, hk135, hsz137, hl138, hl139, hl140, hl141, hf142, hf143, hf144, hf145, hI136⟩
       refine CW.sub (Sub.cons hl138 (Sub.cons hl139 (Sub.cons hl140 (Sub.cons hl141 (Sub.nil _))))) ?_
       have hf142z := Box.lt hf142
       have hf145z := Ex.size hf145
       have hbg146 := RdS.big hf144
       rcases Nat.lt_or_ge k91 p_0.Idxs.length with hlt147 | hlt147
       ·refine CW.seq (CW.region (sd rfl (yl_lss rfl rfl rfl (SeqR.done (tn (CW.seq (CW.cond_t rfl (lt_t hlt147) (CW.skip (tn ?_)))))))))
        refine CW.seq (CW.block (CW.seq (CW.region (sd rfl (yl_move rfl rfl ?_)))))
        obtain ⟨eb148, eo148, ec148, eA148, eS148, ebl148, el148, eR148, eC148⟩ := RdS.atD hf144 d_Idx (i := k91) (by first | omega | assumption)
        obtain rfl := eR148
        have eC148 : Cells w134 eb148 (eo148 + k91 * 3) [.string (bs ((p_0.Idxs.getD k91 d_Idx).Name)), .int .i64 ((p_0.Idxs.getD k91 d_Idx).Col), .int .i64 ((p_0.Idxs.getD k91 d_Idx).Stage)] := eC148
        refine sd rfl (yl_indexAddrN Try.un63 Try.ty152 rfl rfl rfl eA148 (by first | omega | assumption | (simp only [IntKind.wrap_i64] at *; omega)) (sd rfl (yl_loadN (cs := [.string (bs ((p_0.Idxs.getD k91 d_Idx).Name)), .int .i64 ((p_0.Idxs.getD k91 d_Idx).Col), .int .i64 ((p_0.Idxs.getD k91 d_Idx).Stage)]) Try.ty152 rfl rfl eC148 rfl (sd rfl (yl_alloc Try.ty152 (cs := [.string (bs (([] : Str))), .int .i64 (0), .int .i64 (0)]) rfl rfl ?_)))))
        intro b149 w150 hs151 hz152 hB153 hE154
        refine sd rfl (yl_assign rfl rfl (SeqR.u rfl rfl (yl_store (vs := [.string (bs ((p_0.Idxs.getD k91 d_Idx).Name)), .int .i64 ((p_0.Idxs.getD k91 d_Idx).Col), .int .i64 ((p_0.Idxs.getD k91 d_Idx).Stage)]) Try.ty152 rfl rfl rfl rfl rfl rfl hB153 (Nat.le_of_ble_eq_true rfl) ?_)))
        intro w155 hB156 hO157
        have hB156 : Box w155 b149 152 [.string (bs ((p_0.Idxs.getD k91 d_Idx).Name)), .int .i64 ((p_0.Idxs.getD k91 d_Idx).Col), .int .i64 ((p_0.Idxs.getD k91 d_Idx).Stage)] := hB156
        have hO157z := hO157.size
        refine SeqR.done (tn (CW.seq (bcase (i_areLetters ((p_0.Idxs.getD k91 d_Idx).Name) 1) (fun hb159 => ?_) (fun hb159 => ?_))))
        ·refine bcase (i_within ((p_0.Idxs.getD k91 d_Idx).Col) 1 (IntKind.wrap .i64 ((p_0.Cols.length : Int) - 1))) (fun hb164 => ?_) (fun hb164 => ?_)
         ·have hb164p := f_within hb164
          refine bcase (i_isStage ((p_0.Idxs.getD k91 d_Idx).Stage)) (fun hb170 => ?_) (fun hb170 => ?_)
          ·refine bcase (decide (0 < (k91 : Int))) (fun hb176 => ?_) (fun hb176 => ?_)
           ·have hb176p := dec_t hb176
            have q179 := Box.only (Box.ex hf142 hE154) hO157 (by omega)
            have q183 := RdS.only good_Idx (RdS.ex good_Idx hf144 hE154) hO157 (by simp only [Iv]; omega)
            obtain ⟨eb184, eo184, ec184, eA184, eS184, ebl184, el184, eR184, eC184⟩ := RdS.atD q183 d_Idx (i := (IntKind.wrap .i64 ((k91 : Int) - 1)).toNat) (by first | omega | assumption | (simp only [IntKind.wrap_i64] at *; omega))
            obtain rfl := eR184
            have eC184 : Cells w155 eb184 (eo184 + ((IntKind.wrap .i64 ((k91 : Int) - 1)).toNat) * 3) [.string (bs ((p_0.Idxs.getD ((IntKind.wrap .i64 ((k91 : Int) - 1)).toNat) d_Idx).Name)), .int .i64 ((p_0.Idxs.getD ((IntKind.wrap .i64 ((k91 : Int) - 1)).toNat) d_Idx).Col), .int .i64 ((p_0.Idxs.getD ((IntKind.wrap .i64 ((k91 : Int) - 1)).toNat) d_Idx).Stage)] := eC184
            refine CW.drawsI 36 (vgetI [DetI (.pointer (some ⟨b149, 0 + 0, none⟩)), DetI (.string (bs ((p_0.Idxs.getD k91 d_Idx).Name))), DetI (.bool ((i_areLetters ((p_0.Idxs.getD k91 d_Idx).Name) 1))), DetI (.bool (!(i_areLetters ((p_0.Idxs.getD k91 d_Idx).Name) 1))), DetI (.bool (!(i_areLetters ((p_0.Idxs.getD k91 d_Idx).Name) 1))), DetI (.pointer (some ⟨b149, 0 + 1, none⟩)), DetI (.int .i64 ((p_0.Idxs.getD k91 d_Idx).Col)), DetI (.pointer (some ⟨b7, 0 + 1, none⟩)), DetI (.slice A1 p_0.Cols.length c1), DetI (.int .i64 ((p_0.Cols.length : Int))), DetI (.int .i64 (IntKind.wrap .i64 ((p_0.Cols.length : Int) - 1))), DetI (.bool ((i_within ((p_0.Idxs.getD k91 d_Idx).Col) 1 (IntKind.wrap .i64 ((p_0.Cols.length : Int) - 1))))), DetI (.bool (!(i_within ((p_0.Idxs.getD k91 d_Idx).Col) 1 (IntKind.wrap .i64 ((p_0.Cols.length : Int) - 1))))), DetI (.bool (!(i_within ((p_0.Idxs.getD k91 d_Idx).Col) 1 (IntKind.wrap .i64 ((p_0.Cols.length : Int) - 1))))), DetI (.bool (!(i_within ((p_0.Idxs.getD k91 d_Idx).Col) 1 (IntKind.wrap .i64 ((p_0.Cols.length : Int) - 1))))), DetI (.pointer (some ⟨b149, 0 + 2, none⟩)), DetI (.int .i64 ((p_0.Idxs.getD k91 d_Idx).Stage)), DetI (.bool ((i_isStage ((p_0.Idxs.getD k91 d_Idx).Stage)))), DetI (.bool (!(i_isStage ((p_0.Idxs.getD k91 d_Idx).Stage)))), DetI (.bool (!(i_isStage ((p_0.Idxs.getD k91 d_Idx).Stage)))), DetI (.bool (!(i_isStage ((p_0.Idxs.getD k91 d_Idx).Stage)))), DetI (.int .i64 ((k91 : Int))), DetI (.bool (decide (0 < (k91 : Int)))), DetI (.bool (decide (0 < (k91 : Int)))), DetI (.pointer (some ⟨b149, 0 + 0, none⟩)), DetI (.string (bs ((p_0.Idxs.getD k91 d_Idx).Name))), DetI (.pointer (some ⟨b7, 0 + 2, none⟩)), DetI (.slice A2 p_0.Idxs.length c2), DetI (.int .i64 ((k91 : Int))), DetI (.int .i64 (IntKind.wrap .i64 ((k91 : Int) - 1))), DetI (.pointer (some ⟨eb184, eo184 + ((IntKind.wrap .i64 ((k91 : Int) - 1)).toNat) * 3, none⟩)), DetI (.pointer (some ⟨eb184, eo184 + ((IntKind.wrap .i64 ((k91 : Int) - 1)).toNat) * 3 + 0, none⟩)), DetI (.string (bs ((p_0.Idxs.getD ((IntKind.wrap .i64 ((k91 : Int) - 1)).toNat) d_Idx).Name))), DetI (.bool (sLe ((p_0.Idxs.getD k91 d_Idx).Name) ((p_0.Idxs.getD ((IntKind.wrap .i64 ((k91 : Int) - 1)).toNat) d_Idx).Name))), DetI (.bool (sLe ((p_0.Idxs.getD k91 d_Idx).Name) ((p_0.Idxs.getD ((IntKind.wrap .i64 ((k91 : Int) - 1)).toNat) d_Idx).Name))), DetI (.bool (sLe ((p_0.Idxs.getD k91 d_Idx).Name) ((p_0.Idxs.getD ((IntKind.wrap .i64 ((k91 : Int) - 1)).toNat) d_Idx).Name)))]) Try.follows rfl rfl rfl rfl rfl rfl (vgetI_stable ⟨StableI.det _, StableI.det _, StableI.det _, StableI.det _, StableI.det _, StableI.det _, StableI.det _, StableI.det _, StableI.det _, StableI.det _, StableI.det _, StableI.det _, StableI.det _, StableI.det _, StableI.det _, StableI.det _, StableI.det _, StableI.det _, StableI.det _, StableI.det _, StableI.det _, StableI.det _, StableI.det _, StableI.det _, StableI.det _, StableI.det _, StableI.det _, StableI.det _, StableI.det _, StableI.det _, StableI.det _, StableI.det _, StableI.det _, StableI.det _, StableI.det _, StableI.det _, trivial⟩) ⟨?_, ?_, ?_, ?_, ?_, ?_, ?_, ?_, ?_, ?_, ?_, ?_, ?_, ?_, ?_, ?_, ?_, ?_, ?_, ?_, ?_, ?_, ?_, ?_, ?_, ?_, ?_, ?_, ?_, ?_, ?_, ?_, ?_, ?_, ?_, ?_, trivial⟩ ?_
            ·exact fun _ _ h => os rfl ((yl_fieldAddr Try.fd152_0 rfl (h.old 6 _ rfl rfl) kI))
            ·exact fun _ _ h => os rfl ((yl_load1 Try.ty9 rfl (h.dt 0 52 rfl rfl rfl) (((Box.ex hB156 h.ex).cell 0).trans rfl) kI))
            ·intro L196 w197 hi198
             refine OpR.op' rfl (yl_call Try.en210 rfl (opvs_cons (hi198.dt 1 53 rfl rfl rfl) (opvs_cons rfl opvs_nil)) (Cal.mono (c_i_areLetters ((p_0.Idxs.getD k91 d_Idx).Name) 1 (okL.getD o3.2.2 ok_d_Idx _)) ?_))
             rintro v202 w201 ⟨rfl, hE203⟩
             exact ⟨rfl, hE203⟩
            ·exact fun _ _ h => os rfl ((yl_not rfl (h.dt 2 54 rfl rfl rfl) kI))
            ·exact fun _ _ h => os rfl ((yl_move rfl (h.dt 3 55 rfl rfl rfl) kI))
            ·exact fun _ _ h => OpR.want rfl rfl (h.dt 4 56 rfl rfl rfl) (not_t hb159) (Yl.sameI (yl_fieldAddr Try.fd152_1 rfl (h.old 6 _ rfl rfl) kI))
            ·exact fun _ _ h => OpR.want rfl rfl (h.dt 4 56 rfl rfl rfl) (not_t hb159) (Yl.sameI (yl_load1 Try.ty3 rfl (h.dt 5 57 rfl rfl rfl) (((Box.ex hB156 h.ex).cell 1).trans rfl) kI))
            ·exact fun _ _ h => OpR.want rfl rfl (h.dt 4 56 rfl rfl rfl) (not_t hb159) (Yl.sameI (yl_fieldAddr Try.fd65_1 rfl (h.old 1 _ rfl rfl) kI))
            ·exact fun _ _ h => OpR.want rfl rfl (h.dt 4 56 rfl rfl rfl) (not_t hb159) (Yl.sameI (yl_load1 Try.ty52 rfl (h.dt 7 59 rfl rfl rfl) (((Box.ex q179 h.ex).cell 1).trans rfl) kI))
            ·exact fun _ _ h => OpR.want rfl rfl (h.dt 4 56 rfl rfl rfl) (not_t hb159) (Yl.sameI (yl_len Try.un52 rfl (h.dt 8 60 rfl rfl rfl) kI))
            ·exact fun _ _ h => OpR.want rfl rfl (h.dt 4 56 rfl rfl rfl) (not_t hb159) (Yl.sameI (yl_sub rfl (h.dt 9 61 rfl rfl rfl) rfl kI))
            ·intro L252 w253 hi254
             refine OpR.want rfl rfl (hi254.dt 4 56 rfl rfl rfl) (not_t hb159) (yl_call Try.en142 rfl (opvs_cons (hi254.dt 6 58 rfl rfl rfl) (opvs_cons rfl (opvs_cons (hi254.dt 10 62 rfl rfl rfl) opvs_nil))) (Cal.mono (c_i_within ((p_0.Idxs.getD k91 d_Idx).Col) 1 (IntKind.wrap .i64 ((p_0.Cols.length : Int) - 1))) ?_))
             rintro v260 w259 ⟨rfl, hE261⟩
             exact ⟨rfl, hE261⟩
            ·exact fun _ _ h => OpR.want rfl rfl (h.dt 4 56 rfl rfl rfl) (not_t hb159) (Yl.sameI (yl_not rfl (h.dt 11 63 rfl rfl rfl) kI))
            ·exact fun _ _ h => os rfl ((yl_pick_f rfl (h.dt 4 56 rfl rfl rfl) (not_t hb159) (h.dt 12 64 rfl rfl rfl) kI))
            ·exact fun _ _ h => os rfl ((yl_move rfl (h.dt 13 65 rfl rfl rfl) kI))
            ·exact fun _ _ h => OpR.want rfl rfl (h.dt 14 66 rfl rfl rfl) (not_t hb164) (Yl.sameI (yl_fieldAddr Try.fd152_2 rfl (h.old 6 _ rfl rfl) kI))
            ·exact fun _ _ h => OpR.want rfl rfl (h.dt 14 66 rfl rfl rfl) (not_t hb164) (Yl.sameI (yl_load1 Try.ty3 rfl (h.dt 15 67 rfl rfl rfl) (((Box.ex hB156 h.ex).cell 2).trans rfl) kI))
            ·intro L292 w293 hi294
             refine OpR.want rfl rfl (hi294.dt 14 66 rfl rfl rfl) (not_t hb164) (yl_call Try.en212 rfl (opvs_cons (hi294.dt 16 68 rfl rfl rfl) opvs_nil) (Cal.mono (c_i_isStage ((p_0.Idxs.getD k91 d_Idx).Stage)) ?_))
             rintro v299 w298 ⟨rfl, hE300⟩
             exact ⟨rfl, hE300⟩
            ·exact fun _ _ h => OpR.want rfl rfl (h.dt 14 66 rfl rfl rfl) (not_t hb164) (Yl.sameI (yl_not rfl (h.dt 17 69 rfl rfl rfl) kI))
            ·exact fun _ _ h => os rfl ((yl_pick_f rfl (h.dt 14 66 rfl rfl rfl) (not_t hb164) (h.dt 18 70 rfl rfl rfl) kI))
            ·exact fun _ _ h => os rfl ((yl_move rfl (h.dt 19 71 rfl rfl rfl) kI))
            ·exact fun _ _ h => OpR.want rfl rfl (h.dt 20 72 rfl rfl rfl) (not_t hb170) (Yl.sameI (yl_move rfl (h.old 5 _ rfl rfl) kI))
            ·exact fun _ _ h => OpR.want rfl rfl (h.dt 20 72 rfl rfl rfl) (not_t hb170) (Yl.sameI (yl_gtr rfl (h.dt 21 73 rfl rfl rfl) rfl kI))
            ·exact fun _ _ h => OpR.want rfl rfl (h.dt 20 72 rfl rfl rfl) (not_t hb170) (Yl.sameI (yl_move rfl (h.dt 22 74 rfl rfl rfl) kI))
            ·exact fun _ _ h => OpR.want rfl rfl (h.dt 23 75 rfl rfl rfl) hb176 (Yl.sameI (yl_fieldAddr Try.fd152_0 rfl (h.old 6 _ rfl rfl) kI))
            ·exact fun _ _ h => OpR.want rfl rfl (h.dt 23 75 rfl rfl rfl) hb176 (Yl.sameI (yl_load1 Try.ty9 rfl (h.dt 24 76 rfl rfl rfl) (((Box.ex hB156 h.ex).cell 0).trans rfl) kI))
            ·exact fun _ _ h => OpR.want rfl rfl (h.dt 23 75 rfl rfl rfl) hb176 (Yl.sameI (yl_fieldAddr Try.fd65_2 rfl (h.old 1 _ rfl rfl) kI))
            ·exact fun _ _ h => OpR.want rfl rfl (h.dt 23 75 rfl rfl rfl) hb176 (Yl.sameI (yl_load1 Try.ty63 rfl (h.dt 26 78 rfl rfl rfl) (((Box.ex q179 h.ex).cell 2).trans rfl) kI))
            ·exact fun _ _ h => OpR.want rfl rfl (h.dt 23 75 rfl rfl rfl) hb176 (Yl.sameI (yl_move rfl (h.old 5 _ rfl rfl) kI))
            ·exact fun _ _ h => OpR.want rfl rfl (h.dt 23 75 rfl rfl rfl) hb176 (Yl.sameI (yl_sub rfl (h.dt 28 80 rfl rfl rfl) rfl kI))
            ·intro L374 w375 hi376
             have hE377 := hi376.ex
             have hE377z := Ex.size hE377
             exact OpR.want rfl rfl (hi376.dt 23 75 rfl rfl rfl) hb176 (Yl.sameI (yl_indexAddr Try.un63 Try.ty152 rfl (hi376.dt 27 79 rfl rfl rfl) (hi376.dt 29 81 rfl rfl rfl) eA184 (by first | omega | assumption | (simp only [IntKind.wrap_i64] at *; omega)) (by first | omega | assumption | (simp only [IntKind.wrap_i64] at *; omega)) kI))
            ·exact fun _ _ h => OpR.want rfl rfl (h.dt 23 75 rfl rfl rfl) hb176 (Yl.sameI (yl_fieldAddr Try.fd152_0 rfl (h.dt 30 82 rfl rfl rfl) kI))
            ·exact fun _ _ h => OpR.want rfl rfl (h.dt 23 75 rfl rfl rfl) hb176 (Yl.sameI (yl_load1 Try.ty9 rfl (h.dt 31 83 rfl rfl rfl) ((Cells.ex eC184 h.ex) 0 _ rfl) kI))
            ·exact fun _ _ h => OpR.want rfl rfl (h.dt 23 75 rfl rfl rfl) hb176 (Yl.sameI (yl_sleq (a := ((p_0.Idxs.getD k91 d_Idx).Name)) (b := ((p_0.Idxs.getD ((IntKind.wrap .i64 ((k91 : Int) - 1)).toNat) d_Idx).Name)) rfl (h.dt 25 77 rfl rfl rfl) (h.dt 32 84 rfl rfl rfl) kI))
            ·exact fun _ _ h => OpR.want rfl rfl (h.dt 20 72 rfl rfl rfl) (not_t hb170) (Yl.sameI (yl_pick_t rfl (h.dt 23 75 rfl rfl rfl) hb176 (h.dt 33 85 rfl rfl rfl) kI))
            ·exact fun _ _ h => os rfl ((yl_pick_f rfl (h.dt 20 72 rfl rfl rfl) (not_t hb170) (h.dt 34 86 rfl rfl rfl) kI))
            ·intro fl417 fh418 L414 w415 hp416
             have hE419 := hp416.ex
             have hE419z := Ex.size hE419
             refine SeqR.done (tn (CW.sub (Sub.cons (d := 1) (hp416.old 1 _ rfl rfl) (Sub.cons (d := 45) (hp416.old 45 _ rfl rfl) (Sub.cons (d := 46) (hp416.old 46 _ rfl rfl) (Sub.cons (d := 47) (hp416.old 47 _ rfl rfl) (Sub.cons (d := 57) (hp416.nt 5 57 rfl rfl rfl) (Sub.cons (d := 58) (hp416.nt 6 58 rfl rfl rfl) (Sub.cons (d := 59) (hp416.nt 7 59 rfl rfl rfl) (Sub.cons (d := 60) (hp416.nt 8 60 rfl rfl rfl) (Sub.cons (d := 61) (hp416.nt 9 61 rfl rfl rfl) (Sub.cons (d := 62) (hp416.nt 10 62 rfl rfl rfl) (Sub.cons (d := 63) (hp416.nt 11 63 rfl rfl rfl) (Sub.cons (d := 64) (hp416.nt 12 64 rfl rfl rfl) (Sub.cons (d := 67) (hp416.nt 15 67 rfl rfl rfl) (Sub.cons (d := 68) (hp416.nt 16 68 rfl rfl rfl) (Sub.cons (d := 69) (hp416.nt 17 69 rfl rfl rfl) (Sub.cons (d := 70) (hp416.nt 18 70 rfl rfl rfl) (Sub.cons (d := 73) (hp416.nt 21 73 rfl rfl rfl) (Sub.cons (d := 74) (hp416.nt 22 74 rfl rfl rfl) (Sub.cons (d := 75) (hp416.nt 23 75 rfl rfl rfl) (Sub.cons (d := 76) (hp416.nt 24 76 rfl rfl rfl) (Sub.cons (d := 77) (hp416.nt 25 77 rfl rfl rfl) (Sub.cons (d := 78) (hp416.nt 26 78 rfl rfl rfl) (Sub.cons (d := 79) (hp416.nt 27 79 rfl rfl rfl) (Sub.cons (d := 80) (hp416.nt 28 80 rfl rfl rfl) (Sub.cons (d := 81) (hp416.nt 29 81 rfl rfl rfl) (Sub.cons (d := 82) (hp416.nt 30 82 rfl rfl rfl) (Sub.cons (d := 83) (hp416.nt 31 83 rfl rfl rfl) (Sub.cons (d := 84) (hp416.nt 32 84 rfl rfl rfl) (Sub.cons (d := 85) (hp416.nt 33 85 rfl rfl rfl) (Sub.cons (d := 86) (hp416.nt 34 86 rfl rfl rfl) (Sub.cons (d := 87) (hp416.nt 35 87 rfl rfl rfl) (Sub.nil _)))))))))))))))))))))))))))))))) ?_))
             refine bcase (sLe ((p_0.Idxs.getD k91 d_Idx).Name) ((p_0.Idxs.getD ((IntKind.wrap .i64 ((k91 : Int) - 1)).toNat) d_Idx).Name)) (fun hb451 => ?_) (fun hb451 => ?_)
             ·refine CW.cond_t rfl hb451 (CW.seq (CW.region (sd rfl (yl_assign rfl rfl (SeqR.done (tn (CW.ret (br (tr ?_)))))))))
              refine tr ?_
              have hB453 : B_i_GoodTable_1 p_0 k91 () = .ret false := by simp only [B_i_GoodTable_1, hb16, hb21, hb23, hb159, hb164, hb170, hb176, hb451, hL90, cond_true, cond_false, loopE_done, loopE_ret]
              have hL452 : loopM (B_i_GoodTable_1 p_0) (p_0.Idxs.length - 0) 0 () = .ret false := hI136.symm.trans (loopM.ret hlt147 hB453)
              refine br (tr (rr rfl (.cons rfl .nil) ?_))
              have hM454 : (i_GoodTable p_0) = (false) := by simp only [i_GoodTable, hb16, hb21, hb23, hb159, hb164, hb170, hb176, hb451, hL90, hL452, cond_true, cond_false, loopE_done, loopE_ret]
              rw [hM454]
              exact ⟨rfl, (Ex.trans (Below.only (Ex.trans hf145 hE154) hO157 (by omega)) hE419)⟩
             ·refine CW.cond_f rfl hb451 (CW.skip (bn (tn (CW.region (sd rfl (yl_inc rfl rfl rfl (by omega) (sd rfl (yl_move rfl rfl (SeqR.done (tn ?_))))))))))
              have hB458 : B_i_GoodTable_1 p_0 k91 () = .cont () := by simp only [B_i_GoodTable_1, hb16, hb21, hb23, hb159, hb164, hb170, hb176, hb451, hL90, cond_true, cond_false, loopE_done, loopE_ret]
              exact ⟨p_0.Idxs.length - (k91 + 1), by omega, k91 + 1, rfl, hlt147, (by omega), rfl, rfl, rfl, rfl, (Box.ex q179 hE419), (RdS.ex good_Str (RdS.only good_Str (RdS.ex good_Str hf143 hE154) hO157 (by simp only [Iv]; omega)) hE419), (RdS.ex good_Idx q183 hE419), (Ex.trans (Below.only (Ex.trans hf145 hE154) hO157 (by omega)) hE419), (loopM.cont hlt147 hB458).symm.trans hI136⟩
           ·have hb176p := dec_f hb176
            have q469 := Box.only (Box.ex hf142 hE154) hO157 (by omega)
            refine CW.drawsI 36 (vgetI [DetI (.pointer (some ⟨b149, 0 + 0, none⟩)), DetI (.string (bs ((p_0.Idxs.getD k91 d_Idx).Name))), DetI (.bool ((i_areLetters ((p_0.Idxs.getD k91 d_Idx).Name) 1))), DetI (.bool (!(i_areLetters ((p_0.Idxs.getD k91 d_Idx).Name) 1))), DetI (.bool (!(i_areLetters ((p_0.Idxs.getD k91 d_Idx).Name) 1))), DetI (.pointer (some ⟨b149, 0 + 1, none⟩)), DetI (.int .i64 ((p_0.Idxs.getD k91 d_Idx).Col)), DetI (.pointer (some ⟨b7, 0 + 1, none⟩)), DetI (.slice A1 p_0.Cols.length c1), DetI (.int .i64 ((p_0.Cols.length : Int))), DetI (.int .i64 (IntKind.wrap .i64 ((p_0.Cols.length : Int) - 1))), DetI (.bool ((i_within ((p_0.Idxs.getD k91 d_Idx).Col) 1 (IntKind.wrap .i64 ((p_0.Cols.length : Int) - 1))))), DetI (.bool (!(i_within ((p_0.Idxs.getD k91 d_Idx).Col) 1 (IntKind.wrap .i64 ((p_0.Cols.length : Int) - 1))))), DetI (.bool (!(i_within ((p_0.Idxs.getD k91 d_Idx).Col) 1 (IntKind.wrap .i64 ((p_0.Cols.length : Int) - 1))))), DetI (.bool (!(i_within ((p_0.Idxs.getD k91 d_Idx).Col) 1 (IntKind.wrap .i64 ((p_0.Cols.length : Int) - 1))))), DetI (.pointer (some ⟨b149, 0 + 2, none⟩)), DetI (.int .i64 ((p_0.Idxs.getD k91 d_Idx).Stage)), DetI (.bool ((i_isStage ((p_0.Idxs.getD k91 d_Idx).Stage)))), DetI (.bool (!(i_isStage ((p_0.Idxs.getD k91 d_Idx).Stage)))), DetI (.bool (!(i_isStage ((p_0.Idxs.getD k91 d_Idx).Stage)))), DetI (.bool (!(i_isStage ((p_0.Idxs.getD k91 d_Idx).Stage)))), DetI (.int .i64 ((k91 : Int))), DetI (.bool (decide (0 < (k91 : Int)))), DetI (.bool (decide (0 < (k91 : Int)))), DetI (undef), DetI (undef), DetI (undef), DetI (undef), DetI (undef), DetI (undef), DetI (undef), DetI (undef), DetI (undef), DetI (undef), DetI (.bool (false)), DetI (.bool (false))]) Try.follows rfl rfl rfl rfl rfl rfl (vgetI_stable ⟨StableI.det _, StableI.det _, StableI.det _, StableI.det _, StableI.det _, StableI.det _, StableI.det _, StableI.det _, StableI.det _, StableI.det _, StableI.det _, StableI.det _, StableI.det _, StableI.det _, StableI.det _, StableI.det _, StableI.det _, StableI.det _, StableI.det _, StableI.det _, StableI.det _, StableI.det _, StableI.det _, StableI.det _, StableI.det _, StableI.det _, StableI.det _, StableI.det _, StableI.det _, StableI.det _, StableI.det _, StableI.det _, StableI.det _, StableI.det _, StableI.det _, StableI.det _, trivial⟩) ⟨?_, ?_, ?_, ?_, ?_, ?_, ?_, ?_, ?_, ?_, ?_, ?_, ?_, ?_, ?_, ?_, ?_, ?_, ?_, ?_, ?_, ?_, ?_, ?_, ?_, ?_, ?_, ?_, ?_, ?_, ?_, ?_, ?_, ?_, ?_, ?_, trivial⟩ ?_
            ·exact fun _ _ h => os rfl ((yl_fieldAddr Try.fd152_0 rfl (h.old 6 _ rfl rfl) kI))
            ·exact fun _ _ h => os rfl ((yl_load1 Try.ty9 rfl (h.dt 0 52 rfl rfl rfl) (((Box.ex hB156 h.ex).cell 0).trans rfl) kI))
            ·intro L483 w484 hi485
             refine OpR.op' rfl (yl_call Try.en210 rfl (opvs_cons (hi485.dt 1 53 rfl rfl rfl) (opvs_cons rfl opvs_nil)) (Cal.mono (c_i_areLetters ((p_0.Idxs.getD k91 d_Idx).Name) 1 (okL.getD o3.2.2 ok_d_Idx _)) ?_))
             rintro v489 w488 ⟨rfl, hE490⟩
             exact ⟨rfl, hE490⟩
            ·exact fun _ _ h => os rfl ((yl_not rfl (h.dt 2 54 rfl rfl rfl) kI))
            ·exact fun _ _ h => os rfl ((yl_move rfl (h.dt 3 55 rfl rfl rfl) kI))
            ·exact fun _ _ h => OpR.want rfl rfl (h.dt 4 56 rfl rfl rfl) (not_t hb159) (Yl.sameI (yl_fieldAddr Try.fd152_1 rfl (h.old 6 _ rfl rfl) kI))
            ·exact fun _ _ h => OpR.want rfl rfl (h.dt 4 56 rfl rfl rfl) (not_t hb159) (Yl.sameI (yl_load1 Try.ty3 rfl (h.dt 5 57 rfl rfl rfl) (((Box.ex hB156 h.ex).cell 1).trans rfl) kI))
            ·exact fun _ _ h => OpR.want rfl rfl (h.dt 4 56 rfl rfl rfl) (not_t hb159) (Yl.sameI (yl_fieldAddr Try.fd65_1 rfl (h.old 1 _ rfl rfl) kI))
            ·exact fun _ _ h => OpR.want rfl rfl (h.dt 4 56 rfl rfl rfl) (not_t hb159) (Yl.sameI (yl_load1 Try.ty52 rfl (h.dt 7 59 rfl rfl rfl) (((Box.ex q469 h.ex).cell 1).trans rfl) kI))
            ·exact fun _ _ h => OpR.want rfl rfl (h.dt 4 56 rfl rfl rfl) (not_t hb159) (Yl.sameI (yl_len Try.un52 rfl (h.dt 8 60 rfl rfl rfl) kI))
            ·exact fun _ _ h => OpR.want rfl rfl (h.dt 4 56 rfl rfl rfl) (not_t hb159) (Yl.sameI (yl_sub rfl (h.dt 9 61 rfl rfl rfl) rfl kI))
            ·intro L539 w540 hi541
             refine OpR.want rfl rfl (hi541.dt 4 56 rfl rfl rfl) (not_t hb159) (yl_call Try.en142 rfl (opvs_cons (hi541.dt 6 58 rfl rfl rfl) (opvs_cons rfl (opvs_cons (hi541.dt 10 62 rfl rfl rfl) opvs_nil))) (Cal.mono (c_i_within ((p_0.Idxs.getD k91 d_Idx).Col) 1 (IntKind.wrap .i64 ((p_0.Cols.length : Int) - 1))) ?_))
             rintro v547 w546 ⟨rfl, hE548⟩
             exact ⟨rfl, hE548⟩
            ·exact fun _ _ h => OpR.want rfl rfl (h.dt 4 56 rfl rfl rfl) (not_t hb159) (Yl.sameI (yl_not rfl (h.dt 11 63 rfl rfl rfl) kI))
            ·exact fun _ _ h => os rfl ((yl_pick_f rfl (h.dt 4 56 rfl rfl rfl) (not_t hb159) (h.dt 12 64 rfl rfl rfl) kI))
            ·exact fun _ _ h => os rfl ((yl_move rfl (h.dt 13 65 rfl rfl rfl) kI))
            ·exact fun _ _ h => OpR.want rfl rfl (h.dt 14 66 rfl rfl rfl) (not_t hb164) (Yl.sameI (yl_fieldAddr Try.fd152_2 rfl (h.old 6 _ rfl rfl) kI))
            ·exact fun _ _ h => OpR.want rfl rfl (h.dt 14 66 rfl rfl rfl) (not_t hb164) (Yl.sameI (yl_load1 Try.ty3 rfl (h.dt 15 67 rfl rfl rfl) (((Box.ex hB156 h.ex).cell 2).trans rfl) kI))
            ·intro L579 w580 hi581
             refine OpR.want rfl rfl (hi581.dt 14 66 rfl rfl rfl) (not_t hb164) (yl_call Try.en212 rfl (opvs_cons (hi581.dt 16 68 rfl rfl rfl) opvs_nil) (Cal.mono (c_i_isStage ((p_0.Idxs.getD k91 d_Idx).Stage)) ?_))
             rintro v586 w585 ⟨rfl, hE587⟩
             exact ⟨rfl, hE587⟩
            ·exact fun _ _ h => OpR.want rfl rfl (h.dt 14 66 rfl rfl rfl) (not_t hb164) (Yl.sameI (yl_not rfl (h.dt 17 69 rfl rfl rfl) kI))
            ·exact fun _ _ h => os rfl ((yl_pick_f rfl (h.dt 14 66 rfl rfl rfl) (not_t hb164) (h.dt 18 70 rfl rfl rfl) kI))
            ·exact fun _ _ h => os rfl ((yl_move rfl (h.dt 19 71 rfl rfl rfl) kI))
            ·exact fun _ _ h => OpR.want rfl rfl (h.dt 20 72 rfl rfl rfl) (not_t hb170) (Yl.sameI (yl_move rfl (h.old 5 _ rfl rfl) kI))
            ·exact fun _ _ h => OpR.want rfl rfl (h.dt 20 72 rfl rfl rfl) (not_t hb170) (Yl.sameI (yl_gtr rfl (h.dt 21 73 rfl rfl rfl) rfl kI))
            ·exact fun _ _ h => OpR.want rfl rfl (h.dt 20 72 rfl rfl rfl) (not_t hb170) (Yl.sameI (yl_move rfl (h.dt 22 74 rfl rfl rfl) kI))
            ·exact fun _ _ h => OpR.skip rfl rfl (h.dt 23 75 rfl rfl rfl) hb176 ⟨rfl, Ex.refl _⟩
            ·exact fun _ _ h => OpR.skip rfl rfl (h.dt 23 75 rfl rfl rfl) hb176 ⟨rfl, Ex.refl _⟩
            ·exact fun _ _ h => OpR.skip rfl rfl (h.dt 23 75 rfl rfl rfl) hb176 ⟨rfl, Ex.refl _⟩
            ·exact fun _ _ h => OpR.skip rfl rfl (h.dt 23 75 rfl rfl rfl) hb176 ⟨rfl, Ex.refl _⟩
            ·exact fun _ _ h => OpR.skip rfl rfl (h.dt 23 75 rfl rfl rfl) hb176 ⟨rfl, Ex.refl _⟩
            ·exact fun _ _ h => OpR.skip rfl rfl (h.dt 23 75 rfl rfl rfl) hb176 ⟨rfl, Ex.refl _⟩
            ·exact fun _ _ h => OpR.skip rfl rfl (h.dt 23 75 rfl rfl rfl) hb176 ⟨rfl, Ex.refl _⟩
            ·exact fun _ _ h => OpR.skip rfl rfl (h.dt 23 75 rfl rfl rfl) hb176 ⟨rfl, Ex.refl _⟩
            ·exact fun _ _ h => OpR.skip rfl rfl (h.dt 23 75 rfl rfl rfl) hb176 ⟨rfl, Ex.refl _⟩
            ·exact fun _ _ h => OpR.skip rfl rfl (h.dt 23 75 rfl rfl rfl) hb176 ⟨rfl, Ex.refl _⟩
            ·exact fun _ _ h => OpR.want rfl rfl (h.dt 20 72 rfl rfl rfl) (not_t hb170) (Yl.sameI (yl_pick_f rfl (h.dt 23 75 rfl rfl rfl) hb176 rfl kI))
            ·exact fun _ _ h => os rfl ((yl_pick_f rfl (h.dt 20 72 rfl rfl rfl) (not_t hb170) (h.dt 34 86 rfl rfl rfl) kI))
            ·intro fl689 fh690 L686 w687 hp688
             have hE691 := hp688.ex
             have hE691z := Ex.size hE691
             refine SeqR.done (tn (CW.sub (Sub.cons (d := 1) (hp688.old 1 _ rfl rfl) (Sub.cons (d := 45) (hp688.old 45 _ rfl rfl) (Sub.cons (d := 46) (hp688.old 46 _ rfl rfl) (Sub.cons (d := 47) (hp688.old 47 _ rfl rfl) (Sub.cons (d := 57) (hp688.nt 5 57 rfl rfl rfl) (Sub.cons (d := 58) (hp688.nt 6 58 rfl rfl rfl) (Sub.cons (d := 59) (hp688.nt 7 59 rfl rfl rfl) (Sub.cons (d := 60) (hp688.nt 8 60 rfl rfl rfl) (Sub.cons (d := 61) (hp688.nt 9 61 rfl rfl rfl) (Sub.cons (d := 62) (hp688.nt 10 62 rfl rfl rfl) (Sub.cons (d := 63) (hp688.nt 11 63 rfl rfl rfl) (Sub.cons (d := 64) (hp688.nt 12 64 rfl rfl rfl) (Sub.cons (d := 67) (hp688.nt 15 67 rfl rfl rfl) (Sub.cons (d := 68) (hp688.nt 16 68 rfl rfl rfl) (Sub.cons (d := 69) (hp688.nt 17 69 rfl rfl rfl) (Sub.cons (d := 70) (hp688.nt 18 70 rfl rfl rfl) (Sub.cons (d := 73) (hp688.nt 21 73 rfl rfl rfl) (Sub.cons (d := 74) (hp688.nt 22 74 rfl rfl rfl) (Sub.cons (d := 75) (hp688.nt 23 75 rfl rfl rfl) (Sub.cons (d := 76) (hp688.nt 24 76 rfl rfl rfl) (Sub.cons (d := 77) (hp688.nt 25 77 rfl rfl rfl) (Sub.cons (d := 78) (hp688.nt 26 78 rfl rfl rfl) (Sub.cons (d := 79) (hp688.nt 27 79 rfl rfl rfl) (Sub.cons (d := 80) (hp688.nt 28 80 rfl rfl rfl) (Sub.cons (d := 81) (hp688.nt 29 81 rfl rfl rfl) (Sub.cons (d := 82) (hp688.nt 30 82 rfl rfl rfl) (Sub.cons (d := 83) (hp688.nt 31 83 rfl rfl rfl) (Sub.cons (d := 84) (hp688.nt 32 84 rfl rfl rfl) (Sub.cons (d := 85) (hp688.nt 33 85 rfl rfl rfl) (Sub.cons (d := 86) (hp688.nt 34 86 rfl rfl rfl) (Sub.cons (d := 87) (hp688.nt 35 87 rfl rfl rfl) (Sub.nil _)))))))))))))))))))))))))))))))) ?_))
             refine CW.cond_f rfl rfl (CW.skip (bn (tn (CW.region (sd rfl (yl_inc rfl rfl rfl (by omega) (sd rfl (yl_move rfl rfl (SeqR.done (tn ?_))))))))))
             have hB723 : B_i_GoodTable_1 p_0 k91 () = .cont () := by simp only [B_i_GoodTable_1, hb16, hb21, hb23, hb159, hb164, hb170, hb176, hL90, cond_true, cond_false, loopE_done, loopE_ret]
             exact ⟨p_0.Idxs.length - (k91 + 1), by omega, k91 + 1, rfl, hlt147, (by omega), rfl, rfl, rfl, rfl, (Box.ex q469 hE691), (RdS.ex good_Str (RdS.only good_Str (RdS.ex good_Str hf143 hE154) hO157 (by simp only [Iv]; omega)) hE691), (RdS.ex good_Idx (RdS.only good_Idx (RdS.ex good_Idx hf144 hE154) hO157 (by simp only [Iv]; omega)) hE691), (Ex.trans (Below.only (Ex.trans hf145 hE154) hO157 (by omega)) hE691), (loopM.cont hlt147 hB723).symm.trans hI136⟩
          ·refine CW.drawsI 36 (vgetI [DetI (.pointer (some ⟨b149, 0 + 0, none⟩)), DetI (.string (bs ((p_0.Idxs.getD k91 d_Idx).Name))), DetI (.bool ((i_areLetters ((p_0.Idxs.getD k91 d_Idx).Name) 1))), DetI (.bool (!(i_areLetters ((p_0.Idxs.getD k91 d_Idx).Name) 1))), DetI (.bool (!(i_areLetters ((p_0.Idxs.getD k91 d_Idx).Name) 1))), DetI (.pointer (some ⟨b149, 0 + 1, none⟩)), DetI (.int .i64 ((p_0.Idxs.getD k91 d_Idx).Col)), DetI (.pointer (some ⟨b7, 0 + 1, none⟩)), DetI (.slice A1 p_0.Cols.length c1), DetI (.int .i64 ((p_0.Cols.length : Int))), DetI (.int .i64 (IntKind.wrap .i64 ((p_0.Cols.length : Int) - 1))), DetI (.bool ((i_within ((p_0.Idxs.getD k91 d_Idx).Col) 1 (IntKind.wrap .i64 ((p_0.Cols.length : Int) - 1))))), DetI (.bool (!(i_within ((p_0.Idxs.getD k91 d_Idx).Col) 1 (IntKind.wrap .i64 ((p_0.Cols.length : Int) - 1))))), DetI (.bool (!(i_within ((p_0.Idxs.getD k91 d_Idx).Col) 1 (IntKind.wrap .i64 ((p_0.Cols.length : Int) - 1))))), DetI (.bool (!(i_within ((p_0.Idxs.getD k91 d_Idx).Col) 1 (IntKind.wrap .i64 ((p_0.Cols.length : Int) - 1))))), DetI (.pointer (some ⟨b149, 0 + 2, none⟩)), DetI (.int .i64 ((p_0.Idxs.getD k91 d_Idx).Stage)), DetI (.bool ((i_isStage ((p_0.Idxs.getD k91 d_Idx).Stage)))), DetI (.bool (!(i_isStage ((p_0.Idxs.getD k91 d_Idx).Stage)))), DetI (.bool (!(i_isStage ((p_0.Idxs.getD k91 d_Idx).Stage)))), DetI (.bool (!(i_isStage ((p_0.Idxs.getD k91 d_Idx).Stage)))), DetI (undef), DetI (undef), DetI (undef), DetI (undef), DetI (undef), DetI (undef), DetI (undef), DetI (undef), DetI (undef), DetI (undef), DetI (undef), DetI (undef), DetI (undef), DetI (undef), DetI (.bool (true))]) Try.follows rfl rfl rfl rfl rfl rfl (vgetI_stable ⟨StableI.det _, StableI.det _, StableI.det _, StableI.det _, StableI.det _, StableI.det _, StableI.det _, StableI.det _, StableI.det _, StableI.det _, StableI.det _, StableI.det _, StableI.det _, StableI.det _, StableI.det _, StableI.det _, StableI.det _, StableI.det _, StableI.det _, StableI.det _, StableI.det _, StableI.det _, StableI.det _, StableI.det _, StableI.det _, StableI.det _, StableI.det _, StableI.det _, StableI.det _, StableI.det _, StableI.det _, StableI.det _, StableI.det _, StableI.det _, StableI.det _, StableI.det _, trivial⟩) ⟨?_, ?_, ?_, ?_, ?_, ?_, ?_, ?_, ?_, ?_, ?_, ?_, ?_, ?_, ?_, ?_, ?_, ?_, ?_, ?_, ?_, ?_, ?_, ?_, ?_, ?_, ?_, ?_, ?_, ?_, ?_, ?_, ?_, ?_, ?_, ?_, trivial⟩ ?_
           ·exact fun _ _ h => os rfl ((yl_fieldAddr Try.fd152_0 rfl (h.old 6 _ rfl rfl) kI))
           ·exact fun _ _ h => os rfl ((yl_load1 Try.ty9 rfl (h.dt 0 52 rfl rfl rfl) (((Box.ex hB156 h.ex).cell 0).trans rfl) kI))
           ·intro L750 w751 hi752
            refine OpR.op' rfl (yl_call Try.en210 rfl (opvs_cons (hi752.dt 1 53 rfl rfl rfl) (opvs_cons rfl opvs_nil)) (Cal.mono (c_i_areLetters ((p_0.Idxs.getD k91 d_Idx).Name) 1 (okL.getD o3.2.2 ok_d_Idx _)) ?_))
            rintro v756 w755 ⟨rfl, hE757⟩
            exact ⟨rfl, hE757⟩
           ·exact fun _ _ h => os rfl ((yl_not rfl (h.dt 2 54 rfl rfl rfl) kI))
           ·exact fun _ _ h => os rfl ((yl_move rfl (h.dt 3 55 rfl rfl rfl) kI))
           ·exact fun _ _ h => OpR.want rfl rfl (h.dt 4 56 rfl rfl rfl) (not_t hb159) (Yl.sameI (yl_fieldAddr Try.fd152_1 rfl (h.old 6 _ rfl rfl) kI))
           ·exact fun _ _ h => OpR.want rfl rfl (h.dt 4 56 rfl rfl rfl) (not_t hb159) (Yl.sameI (yl_load1 Try.ty3 rfl (h.dt 5 57 rfl rfl rfl) (((Box.ex hB156 h.ex).cell 1).trans rfl) kI))
           ·exact fun _ _ h => OpR.want rfl rfl (h.dt 4 56 rfl rfl rfl) (not_t hb159) (Yl.sameI (yl_fieldAddr Try.fd65_1 rfl (h.old 1 _ rfl rfl) kI))
           ·intro L787 w788 hi789
            have hE790 := hi789.ex
            have hE790z := Ex.size hE790
            exact OpR.want rfl rfl (hi789.dt 4 56 rfl rfl rfl) (not_t hb159) (Yl.sameI (yl_load1 Try.ty52 rfl (hi789.dt 7 59 rfl rfl rfl) (((Box.ex (Box.only (Box.ex hf142 hE154) hO157 (by omega)) hE790).cell 1).trans rfl) kI))
           ·exact fun _ _ h => OpR.want rfl rfl (h.dt 4 56 rfl rfl rfl) (not_t hb159) (Yl.sameI (yl_len Try.un52 rfl (h.dt 8 60 rfl rfl rfl) kI))
           ·exact fun _ _ h => OpR.want rfl rfl (h.dt 4 56 rfl rfl rfl) (not_t hb159) (Yl.sameI (yl_sub rfl (h.dt 9 61 rfl rfl rfl) rfl kI))
           ·intro L806 w807 hi808
            refine OpR.want rfl rfl (hi808.dt 4 56 rfl rfl rfl) (not_t hb159) (yl_call Try.en142 rfl (opvs_cons (hi808.dt 6 58 rfl rfl rfl) (opvs_cons rfl (opvs_cons (hi808.dt 10 62 rfl rfl rfl) opvs_nil))) (Cal.mono (c_i_within ((p_0.Idxs.getD k91 d_Idx).Col) 1 (IntKind.wrap .i64 ((p_0.Cols.length : Int) - 1))) ?_))
            rintro v814 w813 ⟨rfl, hE815⟩
            exact ⟨rfl, hE815⟩
           ·exact fun _ _ h => OpR.want rfl rfl (h.dt 4 56 rfl rfl rfl) (not_t hb159) (Yl.sameI (yl_not rfl (h.dt 11 63 rfl rfl rfl) kI))
           ·exact fun _ _ h => os rfl ((yl_pick_f rfl (h.dt 4 56 rfl rfl rfl) (not_t hb159) (h.dt 12 64 rfl rfl rfl) kI))
           ·exact fun _ _ h => os rfl ((yl_move rfl (h.dt 13 65 rfl rfl rfl) kI))
           ·exact fun _ _ h => OpR.want rfl rfl (h.dt 14 66 rfl rfl rfl) (not_t hb164) (Yl.sameI (yl_fieldAddr Try.fd152_2 rfl (h.old 6 _ rfl rfl) kI))
           ·exact fun _ _ h => OpR.want rfl rfl (h.dt 14 66 rfl rfl rfl) (not_t hb164) (Yl.sameI (yl_load1 Try.ty3 rfl (h.dt 15 67 rfl rfl rfl) (((Box.ex hB156 h.ex).cell 2).trans rfl) kI))
           ·intro L846 w847 hi848
            refine OpR.want rfl rfl (hi848.dt 14 66 rfl rfl rfl) (not_t hb164) (yl_call Try.en212 rfl (opvs_cons (hi848.dt 16 68 rfl rfl rfl) opvs_nil) (Cal.mono (c_i_isStage ((p_0.Idxs.getD k91 d_Idx).Stage)) ?_))
            rintro v853 w852 ⟨rfl, hE854⟩
            exact ⟨rfl, hE854⟩
           ·exact fun _ _ h => OpR.want rfl rfl (h.dt 14 66 rfl rfl rfl) (not_t hb164) (Yl.sameI (yl_not rfl (h.dt 17 69 rfl rfl rfl) kI))
           ·exact fun _ _ h => os rfl ((yl_pick_f rfl (h.dt 14 66 rfl rfl rfl) (not_t hb164) (h.dt 18 70 rfl rfl rfl) kI))
           ·exact fun _ _ h => os rfl ((yl_move rfl (h.dt 19 71 rfl rfl rfl) kI))
           ·exact fun _ _ h => OpR.skip rfl rfl (h.dt 20 72 rfl rfl rfl) (not_f hb170) ⟨rfl, Ex.refl _⟩
           ·exact fun _ _ h => OpR.skip rfl rfl (h.dt 20 72 rfl rfl rfl) (not_f hb170) ⟨rfl, Ex.refl _⟩
           ·exact fun _ _ h => OpR.skip rfl rfl (h.dt 20 72 rfl rfl rfl) (not_f hb170) ⟨rfl, Ex.refl _⟩
           ·exact fun _ _ h => OpR.undef rfl rfl (h.dt 23 75 rfl rfl rfl) ⟨rfl, Ex.refl _⟩
           ·exact fun _ _ h => OpR.undef rfl rfl (h.dt 23 75 rfl rfl rfl) ⟨rfl, Ex.refl _⟩
           ·exact fun _ _ h => OpR.undef rfl rfl (h.dt 23 75 rfl rfl rfl) ⟨rfl, Ex.refl _⟩
           ·exact fun _ _ h => OpR.undef rfl rfl (h.dt 23 75 rfl rfl rfl) ⟨rfl, Ex.refl _⟩
           ·exact fun _ _ h => OpR.undef rfl rfl (h.dt 23 75 rfl rfl rfl) ⟨rfl, Ex.refl _⟩
           ·exact fun _ _ h => OpR.undef rfl rfl (h.dt 23 75 rfl rfl rfl) ⟨rfl, Ex.refl _⟩
           ·exact fun _ _ h => OpR.undef rfl rfl (h.dt 23 75 rfl rfl rfl) ⟨rfl, Ex.refl _⟩
           ·exact fun _ _ h => OpR.undef rfl rfl (h.dt 23 75 rfl rfl rfl) ⟨rfl, Ex.refl _⟩
           ·exact fun _ _ h => OpR.undef rfl rfl (h.dt 23 75 rfl rfl rfl) ⟨rfl, Ex.refl _⟩
           ·exact fun _ _ h => OpR.undef rfl rfl (h.dt 23 75 rfl rfl rfl) ⟨rfl, Ex.refl _⟩
           ·exact fun _ _ h => OpR.skip rfl rfl (h.dt 20 72 rfl rfl rfl) (not_f hb170) ⟨rfl, Ex.refl _⟩
           ·exact fun _ _ h => os rfl ((yl_pick_t rfl (h.dt 20 72 rfl rfl rfl) (not_f hb170) rfl kI))
           ·intro fl951 fh952 L948 w949 hp950
            have hE953 := hp950.ex
            have hE953z := Ex.size hE953
            refine SeqR.done (tn (CW.sub (Sub.cons (d := 1) (hp950.old 1 _ rfl rfl) (Sub.cons (d := 45) (hp950.old 45 _ rfl rfl) (Sub.cons (d := 46) (hp950.old 46 _ rfl rfl) (Sub.cons (d := 47) (hp950.old 47 _ rfl rfl) (Sub.cons (d := 57) (hp950.nt 5 57 rfl rfl rfl) (Sub.cons (d := 58) (hp950.nt 6 58 rfl rfl rfl) (Sub.cons (d := 59) (hp950.nt 7 59 rfl rfl rfl) (Sub.cons (d := 60) (hp950.nt 8 60 rfl rfl rfl) (Sub.cons (d := 61) (hp950.nt 9 61 rfl rfl rfl) (Sub.cons (d := 62) (hp950.nt 10 62 rfl rfl rfl) (Sub.cons (d := 63) (hp950.nt 11 63 rfl rfl rfl) (Sub.cons (d := 64) (hp950.nt 12 64 rfl rfl rfl) (Sub.cons (d := 67) (hp950.nt 15 67 rfl rfl rfl) (Sub.cons (d := 68) (hp950.nt 16 68 rfl rfl rfl) (Sub.cons (d := 69) (hp950.nt 17 69 rfl rfl rfl) (Sub.cons (d := 70) (hp950.nt 18 70 rfl rfl rfl) (Sub.cons (d := 73) (hp950.nt 21 73 rfl rfl rfl) (Sub.cons (d := 74) (hp950.nt 22 74 rfl rfl rfl) (Sub.cons (d := 75) (hp950.nt 23 75 rfl rfl rfl) (Sub.cons (d := 76) (hp950.nt 24 76 rfl rfl rfl) (Sub.cons (d := 77) (hp950.nt 25 77 rfl rfl rfl) (Sub.cons (d := 78) (hp950.nt 26 78 rfl rfl rfl) (Sub.cons (d := 79) (hp950.nt 27 79 rfl rfl rfl) (Sub.cons (d := 80) (hp950.nt 28 80 rfl rfl rfl) (Sub.cons (d := 81) (hp950.nt 29 81 rfl rfl rfl) (Sub.cons (d := 82) (hp950.nt 30 82 rfl rfl rfl) (Sub.cons (d := 83) (hp950.nt 31 83 rfl rfl rfl) (Sub.cons (d := 84) (hp950.nt 32 84 rfl rfl rfl) (Sub.cons (d := 85) (hp950.nt 33 85 rfl rfl rfl) (Sub.cons (d := 86) (hp950.nt 34 86 rfl rfl rfl) (Sub.cons (d := 87) (hp950.nt 35 87 rfl rfl rfl) (Sub.nil _)))))))))))))))))))))))))))))))) ?_))
            refine CW.cond_t rfl rfl (CW.seq (CW.region (sd rfl (yl_assign rfl rfl (SeqR.done (tn (CW.ret (br (tr ?_)))))))))
            refine tr ?_
            have hB986 : B_i_GoodTable_1 p_0 k91 () = .ret false := by simp only [B_i_GoodTable_1, hb16, hb21, hb23, hb159, hb164, hb170, hL90, cond_true, cond_false, loopE_done, loopE_ret]
            have hL985 : loopM (B_i_GoodTable_1 p_0) (p_0.Idxs.length - 0) 0 () = .ret false := hI136.symm.trans (loopM.ret hlt147 hB986)
            refine br (tr (rr rfl (.cons rfl .nil) ?_))
            have hM987 : (i_GoodTable p_0) = (false) := by simp only [i_GoodTable, hb16, hb21, hb23, hb159, hb164, hb170, hL90, hL985, cond_true, cond_false, loopE_done, loopE_ret]
            rw [hM987]
            exact ⟨rfl, (Ex.trans (Below.only (Ex.trans hf145 hE154) hO157 (by omega)) hE953)⟩
         ·refine CW.drawsI 36 (vgetI [DetI (.pointer (some ⟨b149, 0 + 0, none⟩)), DetI (.string (bs ((p_0.Idxs.getD k91 d_Idx).Name))), DetI (.bool ((i_areLetters ((p_0.Idxs.getD k91 d_Idx).Name) 1))), DetI (.bool (!(i_areLetters ((p_0.Idxs.getD k91 d_Idx).Name) 1))), DetI (.bool (!(i_areLetters ((p_0.Idxs.getD k91 d_Idx).Name) 1))), DetI (.pointer (some ⟨b149, 0 + 1, none⟩)), DetI (.int .i64 ((p_0.Idxs.getD k91 d_Idx).Col)), DetI (.pointer (some ⟨b7, 0 + 1, none⟩)), DetI (.slice A1 p_0.Cols.length c1), DetI (.int .i64 ((p_0.Cols.length : Int))), DetI (.int .i64 (IntKind.wrap .i64 ((p_0.Cols.length : Int) - 1))), DetI (.bool ((i_within ((p_0.Idxs.getD k91 d_Idx).Col) 1 (IntKind.wrap .i64 ((p_0.Cols.length : Int) - 1))))), DetI (.bool (!(i_within ((p_0.Idxs.getD k91 d_Idx).Col) 1 (IntKind.wrap .i64 ((p_0.Cols.length : Int) - 1))))), DetI (.bool (!(i_within ((p_0.Idxs.getD k91 d_Idx).Col) 1 (IntKind.wrap .i64 ((p_0.Cols.length : Int) - 1))))), DetI (.bool (!(i_within ((p_0.Idxs.getD k91 d_Idx).Col) 1 (IntKind.wrap .i64 ((p_0.Cols.length : Int) - 1))))), DetI (undef), DetI (undef), DetI (undef), DetI (undef), DetI (.bool (true)), DetI (.bool (true)), DetI (undef), DetI (undef), DetI (undef), DetI (undef), DetI (undef), DetI (undef), DetI (undef), DetI (undef), DetI (undef), DetI (undef), DetI (undef), DetI (undef), DetI (undef), DetI (undef), DetI (.bool (true))]) Try.follows rfl rfl rfl rfl rfl rfl (vgetI_stable ⟨StableI.det _, StableI.det _, StableI.det _, StableI.det _, StableI.det _, StableI.det _, StableI.det _, StableI.det _, StableI.det _, StableI.det _, StableI.det _, StableI.det _, StableI.det _, StableI.det _, StableI.det _, StableI.det _, StableI.det _, StableI.det _, StableI.det _, StableI.det _, StableI.det _, StableI.det _, StableI.det _, StableI.det _, StableI.det _, StableI.det _, StableI.det _, StableI.det _, StableI.det _, StableI.det _, StableI.det _, StableI.det _, StableI.det _, StableI.det _, StableI.det _, StableI.det _, trivial⟩) ⟨?_, ?_, ?_, ?_, ?_, ?_, ?_, ?_, ?_, ?_, ?_, ?_, ?_, ?_, ?_, ?_, ?_, ?_, ?_, ?_, ?_, ?_, ?_, ?_, ?_, ?_, ?_, ?_, ?_, ?_, ?_, ?_, ?_, ?_, ?_, ?_, trivial⟩ ?_
          ·exact fun _ _ h => os rfl ((yl_fieldAddr Try.fd152_0 rfl (h.old 6 _ rfl rfl) kI))
          ·exact fun _ _ h => os rfl ((yl_load1 Try.ty9 rfl (h.dt 0 52 rfl rfl rfl) (((Box.ex hB156 h.ex).cell 0).trans rfl) kI))
          ·intro L1006 w1007 hi1008
           refine OpR.op' rfl (yl_call Try.en210 rfl (opvs_cons (hi1008.dt 1 53 rfl rfl rfl) (opvs_cons rfl opvs_nil)) (Cal.mono (c_i_areLetters ((p_0.Idxs.getD k91 d_Idx).Name) 1 (okL.getD o3.2.2 ok_d_Idx _)) ?_))
           rintro v1012 w1011 ⟨rfl, hE1013⟩
           exact ⟨rfl, hE1013⟩
          ·exact fun _ _ h => os rfl ((yl_not rfl (h.dt 2 54 rfl rfl rfl) kI))
          ·exact fun _ _ h => os rfl ((yl_move rfl (h.dt 3 55 rfl rfl rfl) kI))
          ·exact fun _ _ h => OpR.want rfl rfl (h.dt 4 56 rfl rfl rfl) (not_t hb159) (Yl.sameI (yl_fieldAddr Try.fd152_1 rfl (h.old 6 _ rfl rfl) kI))
          ·exact fun _ _ h => OpR.want rfl rfl (h.dt 4 56 rfl rfl rfl) (not_t hb159) (Yl.sameI (yl_load1 Try.ty3 rfl (h.dt 5 57 rfl rfl rfl) (((Box.ex hB156 h.ex).cell 1).trans rfl) kI))
          ·exact fun _ _ h => OpR.want rfl rfl (h.dt 4 56 rfl rfl rfl) (not_t hb159) (Yl.sameI (yl_fieldAddr Try.fd65_1 rfl (h.old 1 _ rfl rfl) kI))
          ·intro L1043 w1044 hi1045
           have hE1046 := hi1045.ex
           have hE1046z := Ex.size hE1046
           exact OpR.want rfl rfl (hi1045.dt 4 56 rfl rfl rfl) (not_t hb159) (Yl.sameI (yl_load1 Try.ty52 rfl (hi1045.dt 7 59 rfl rfl rfl) (((Box.ex (Box.only (Box.ex hf142 hE154) hO157 (by omega)) hE1046).cell 1).trans rfl) kI))
          ·exact fun _ _ h => OpR.want rfl rfl (h.dt 4 56 rfl rfl rfl) (not_t hb159) (Yl.sameI (yl_len Try.un52 rfl (h.dt 8 60 rfl rfl rfl) kI))
          ·exact fun _ _ h => OpR.want rfl rfl (h.dt 4 56 rfl rfl rfl) (not_t hb159) (Yl.sameI (yl_sub rfl (h.dt 9 61 rfl rfl rfl) rfl kI))
          ·intro L1062 w1063 hi1064
           refine OpR.want rfl rfl (hi1064.dt 4 56 rfl rfl rfl) (not_t hb159) (yl_call Try.en142 rfl (opvs_cons (hi1064.dt 6 58 rfl rfl rfl) (opvs_cons rfl (opvs_cons (hi1064.dt 10 62 rfl rfl rfl) opvs_nil))) (Cal.mono (c_i_within ((p_0.Idxs.getD k91 d_Idx).Col) 1 (IntKind.wrap .i64 ((p_0.Cols.length : Int) - 1))) ?_))
           rintro v1070 w1069 ⟨rfl, hE1071⟩
           exact ⟨rfl, hE1071⟩
          ·exact fun _ _ h => OpR.want rfl rfl (h.dt 4 56 rfl rfl rfl) (not_t hb159) (Yl.sameI (yl_not rfl (h.dt 11 63 rfl rfl rfl) kI))
          ·exact fun _ _ h => os rfl ((yl_pick_f rfl (h.dt 4 56 rfl rfl rfl) (not_t hb159) (h.dt 12 64 rfl rfl rfl) kI))
          ·exact fun _ _ h => os rfl ((yl_move rfl (h.dt 13 65 rfl rfl rfl) kI))
          ·exact fun _ _ h => OpR.skip rfl rfl (h.dt 14 66 rfl rfl rfl) (not_f hb164) ⟨rfl, Ex.refl _⟩
          ·exact fun _ _ h => OpR.skip rfl rfl (h.dt 14 66 rfl rfl rfl) (not_f hb164) ⟨rfl, Ex.refl _⟩
          ·exact fun _ _ h => OpR.skip rfl rfl (h.dt 14 66 rfl rfl rfl) (not_f hb164) ⟨rfl, Ex.refl _⟩
          ·exact fun _ _ h => OpR.skip rfl rfl (h.dt 14 66 rfl rfl rfl) (not_f hb164) ⟨rfl, Ex.refl _⟩
          ·exact fun _ _ h => os rfl ((yl_pick_t rfl (h.dt 14 66 rfl rfl rfl) (not_f hb164) rfl kI))
          ·exact fun _ _ h => os rfl ((yl_move rfl (h.dt 19 71 rfl rfl rfl) kI))
          ·exact fun _ _ h => OpR.skip rfl rfl (h.dt 20 72 rfl rfl rfl) rfl ⟨rfl, Ex.refl _⟩
          ·exact fun _ _ h => OpR.skip rfl rfl (h.dt 20 72 rfl rfl rfl) rfl ⟨rfl, Ex.refl _⟩
          ·exact fun _ _ h => OpR.skip rfl rfl (h.dt 20 72 rfl rfl rfl) rfl ⟨rfl, Ex.refl _⟩
          ·exact fun _ _ h => OpR.undef rfl rfl (h.dt 23 75 rfl rfl rfl) ⟨rfl, Ex.refl _⟩
          ·exact fun _ _ h => OpR.undef rfl rfl (h.dt 23 75 rfl rfl rfl) ⟨rfl, Ex.refl _⟩
          ·exact fun _ _ h => OpR.undef rfl rfl (h.dt 23 75 rfl rfl rfl) ⟨rfl, Ex.refl _⟩
          ·exact fun _ _ h => OpR.undef rfl rfl (h.dt 23 75 rfl rfl rfl) ⟨rfl, Ex.refl _⟩
          ·exact fun _ _ h => OpR.undef rfl rfl (h.dt 23 75 rfl rfl rfl) ⟨rfl, Ex.refl _⟩
          ·exact fun _ _ h => OpR.undef rfl rfl (h.dt 23 75 rfl rfl rfl) ⟨rfl, Ex.refl _⟩
          ·exact fun _ _ h => OpR.undef rfl rfl (h.dt 23 75 rfl rfl rfl) ⟨rfl, Ex.refl _⟩
          ·exact fun _ _ h => OpR.undef rfl rfl (h.dt 23 75 rfl rfl rfl) ⟨rfl, Ex.refl _⟩
          ·exact fun _ _ h => OpR.undef rfl rfl (h.dt 23 75 rfl rfl rfl) ⟨rfl, Ex.refl _⟩
          ·exact fun _ _ h => OpR.undef rfl rfl (h.dt 23 75 rfl rfl rfl) ⟨rfl, Ex.refl _⟩
          ·exact fun _ _ h => OpR.skip rfl rfl (h.dt 20 72 rfl rfl rfl) rfl ⟨rfl, Ex.refl _⟩
          ·exact fun _ _ h => os rfl ((yl_pick_t rfl (h.dt 20 72 rfl rfl rfl) rfl rfl kI))
          ·intro fl1199 fh1200 L1196 w1197 hp1198
           have hE1201 := hp1198.ex
           have hE1201z := Ex.size hE1201
           refine SeqR.done (tn (CW.sub (Sub.cons (d := 1) (hp1198.old 1 _ rfl rfl) (Sub.cons (d := 45) (hp1198.old 45 _ rfl rfl) (Sub.cons (d := 46) (hp1198.old 46 _ rfl rfl) (Sub.cons (d := 47) (hp1198.old 47 _ rfl rfl) (Sub.cons (d := 57) (hp1198.nt 5 57 rfl rfl rfl) (Sub.cons (d := 58) (hp1198.nt 6 58 rfl rfl rfl) (Sub.cons (d := 59) (hp1198.nt 7 59 rfl rfl rfl) (Sub.cons (d := 60) (hp1198.nt 8 60 rfl rfl rfl) (Sub.cons (d := 61) (hp1198.nt 9 61 rfl rfl rfl) (Sub.cons (d := 62) (hp1198.nt 10 62 rfl rfl rfl) (Sub.cons (d := 63) (hp1198.nt 11 63 rfl rfl rfl) (Sub.cons (d := 64) (hp1198.nt 12 64 rfl rfl rfl) (Sub.cons (d := 67) (hp1198.nt 15 67 rfl rfl rfl) (Sub.cons (d := 68) (hp1198.nt 16 68 rfl rfl rfl) (Sub.cons (d := 69) (hp1198.nt 17 69 rfl rfl rfl) (Sub.cons (d := 70) (hp1198.nt 18 70 rfl rfl rfl) (Sub.cons (d := 73) (hp1198.nt 21 73 rfl rfl rfl) (Sub.cons (d := 74) (hp1198.nt 22 74 rfl rfl rfl) (Sub.cons (d := 75) (hp1198.nt 23 75 rfl rfl rfl) (Sub.cons (d := 76) (hp1198.nt 24 76 rfl rfl rfl) (Sub.cons (d := 77) (hp1198.nt 25 77 rfl rfl rfl) (Sub.cons (d := 78) (hp1198.nt 26 78 rfl rfl rfl) (Sub.cons (d := 79) (hp1198.nt 27 79 rfl rfl rfl) (Sub.cons (d := 80) (hp1198.nt 28 80 rfl rfl rfl) (Sub.cons (d := 81) (hp1198.nt 29 81 rfl rfl rfl) (Sub.cons (d := 82) (hp1198.nt 30 82 rfl rfl rfl) (Sub.cons (d := 83) (hp1198.nt 31 83 rfl rfl rfl) (Sub.cons (d := 84) (hp1198.nt 32 84 rfl rfl rfl) (Sub.cons (d := 85) (hp1198.nt 33 85 rfl rfl rfl) (Sub.cons (d := 86) (hp1198.nt 34 86 rfl rfl rfl) (Sub.cons (d := 87) (hp1198.nt 35 87 rfl rfl rfl) (Sub.nil _)))))))))))))))))))))))))))))))) ?_))
           refine CW.cond_t rfl rfl (CW.seq (CW.region (sd rfl (yl_assign rfl rfl (SeqR.done (tn (CW.ret (br (tr ?_)))))))))
           refine tr ?_
           have hB1234 : B_i_GoodTable_1 p_0 k91 () = .ret false := by simp only [B_i_GoodTable_1, hb16, hb21, hb23, hb159, hb164, hL90, cond_true, cond_false, loopE_done, loopE_ret]
           have hL1233 : loopM (B_i_GoodTable_1 p_0) (p_0.Idxs.length - 0) 0 () = .ret false := hI136.symm.trans (loopM.ret hlt147 hB1234)
           refine br (tr (rr rfl (.cons rfl .nil) ?_))
           have hM1235 : (i_GoodTable p_0) = (false) := by simp only [i_GoodTable, hb16, hb21, hb23, hb159, hb164, hL90, hL1233, cond_true, cond_false, loopE_done, loopE_ret]
           rw [hM1235]
           exact ⟨rfl, (Ex.trans (Below.only (Ex.trans hf145 hE154) hO157 (by omega)) hE1201)⟩
        ·refine CW.drawsI 36 (vgetI [DetI (.pointer (some ⟨b149, 0 + 0, none⟩)), DetI (.string (bs ((p_0.Idxs.getD k91 d_Idx).Name))), DetI (.bool ((i_areLetters ((p_0.Idxs.getD k91 d_Idx).Name) 1))), DetI (.bool (!(i_areLetters ((p_0.Idxs.getD k91 d_Idx).Name) 1))), DetI (.bool (!(i_areLetters ((p_0.Idxs.getD k91 d_Idx).Name) 1))), DetI (undef), DetI (undef), DetI (undef), DetI (undef), DetI (undef), DetI (undef), DetI (undef), DetI (undef), DetI (.bool (true)), DetI (.bool (true)), DetI (undef), DetI (undef), DetI (undef), DetI (undef), DetI (.bool (true)), DetI (.bool (true)), DetI (undef), DetI (undef), DetI (undef), DetI (undef), DetI (undef), DetI (undef), DetI (undef), DetI (undef), DetI (undef), DetI (undef), DetI (undef), DetI (undef), DetI (undef), DetI (undef), DetI (.bool (true))]) Try.follows rfl rfl rfl rfl rfl rfl (vgetI_stable ⟨StableI.det _, StableI.det _, StableI.det _, StableI.det _, StableI.det _, StableI.det _, StableI.det _, StableI.det _, StableI.det _, StableI.det _, StableI.det _, StableI.det _, StableI.det _, StableI.det _, StableI.det _, StableI.det _, StableI.det _, StableI.det _, StableI.det _, StableI.det _, StableI.det _, StableI.det _, StableI.det _, StableI.det _, StableI.det _, StableI.det _, StableI.det _, StableI.det _, StableI.det _, StableI.det _, StableI.det _, StableI.det _, StableI.det _, StableI.det _, StableI.det _, StableI.det _, trivial⟩) ⟨?_, ?_, ?_, ?_, ?_, ?_, ?_, ?_, ?_, ?_, ?_, ?_, ?_, ?_, ?_, ?_, ?_, ?_, ?_, ?_, ?_, ?_, ?_, ?_, ?_, ?_, ?_, ?_, ?_, ?_, ?_, ?_, ?_, ?_, ?_, ?_, trivial⟩ ?_
         ·exact fun _ _ h => os rfl ((yl_fieldAddr Try.fd152_0 rfl (h.old 6 _ rfl rfl) kI))
         ·exact fun _ _ h => os rfl ((yl_load1 Try.ty9 rfl (h.dt 0 52 rfl rfl rfl) (((Box.ex hB156 h.ex).cell 0).trans rfl) kI))
         ·intro L1251 w1252 hi1253
          refine OpR.op' rfl (yl_call Try.en210 rfl (opvs_cons (hi1253.dt 1 53 rfl rfl rfl) (opvs_cons rfl opvs_nil)) (Cal.mono (c_i_areLetters ((p_0.Idxs.getD k91 d_Idx).Name) 1 (okL.getD o3.2.2 ok_d_Idx _)) ?_))
          rintro v1257 w1256 ⟨rfl, hE1258⟩
          exact ⟨rfl, hE1258⟩
         ·exact fun _ _ h => os rfl ((yl_not rfl (h.dt 2 54 rfl rfl rfl) kI))
         ·exact fun _ _ h => os rfl ((yl_move rfl (h.dt 3 55 rfl rfl rfl) kI))
         ·exact fun _ _ h => OpR.skip rfl rfl (h.dt 4 56 rfl rfl rfl) (not_f hb159) ⟨rfl, Ex.refl _⟩
         ·exact fun _ _ h => OpR.skip rfl rfl (h.dt 4 56 rfl rfl rfl) (not_f hb159) ⟨rfl, Ex.refl _⟩
         ·exact fun _ _ h => OpR.skip rfl rfl (h.dt 4 56 rfl rfl rfl) (not_f hb159) ⟨rfl, Ex.refl _⟩
         ·exact fun _ _ h => OpR.skip rfl rfl (h.dt 4 56 rfl rfl rfl) (not_f hb159) ⟨rfl, Ex.refl _⟩
         ·exact fun _ _ h => OpR.skip rfl rfl (h.dt 4 56 rfl rfl rfl) (not_f hb159) ⟨rfl, Ex.refl _⟩
         ·exact fun _ _ h => OpR.skip rfl rfl (h.dt 4 56 rfl rfl rfl) (not_f hb159) ⟨rfl, Ex.refl _⟩
         ·exact fun _ _ h => OpR.skip rfl rfl (h.dt 4 56 rfl rfl rfl) (not_f hb159) ⟨rfl, Ex.refl _⟩
         ·exact fun _ _ h => OpR.skip rfl rfl (h.dt 4 56 rfl rfl rfl) (not_f hb159) ⟨rfl, Ex.refl _⟩
         ·exact fun _ _ h => os rfl ((yl_pick_t rfl (h.dt 4 56 rfl rfl rfl) (not_f hb159) rfl kI))
         ·exact fun _ _ h => os rfl ((yl_move rfl (h.dt 13 65 rfl rfl rfl) kI))
         ·exact fun _ _ h => OpR.skip rfl rfl (h.dt 14 66 rfl rfl rfl) rfl ⟨rfl, Ex.refl _⟩
         ·exact fun _ _ h => OpR.skip rfl rfl (h.dt 14 66 rfl rfl rfl) rfl ⟨rfl, Ex.refl _⟩
         ·exact fun _ _ h => OpR.skip rfl rfl (h.dt 14 66 rfl rfl rfl) rfl ⟨rfl, Ex.refl _⟩
         ·exact fun _ _ h => OpR.skip rfl rfl (h.dt 14 66 rfl rfl rfl) rfl ⟨rfl, Ex.refl _⟩
         ·exact fun _ _ h => os rfl ((yl_pick_t rfl (h.dt 14 66 rfl rfl rfl) rfl rfl kI))
         ·exact fun _ _ h => os rfl ((yl_move rfl (h.dt 19 71 rfl rfl rfl) kI))
         ·exact fun _ _ h => OpR.skip rfl rfl (h.dt 20 72 rfl rfl rfl) rfl ⟨rfl, Ex.refl _⟩
         ·exact fun _ _ h => OpR.skip rfl rfl (h.dt 20 72 rfl rfl rfl) rfl ⟨rfl, Ex.refl _⟩
         ·exact fun _ _ h => OpR.skip rfl rfl (h.dt 20 72 rfl rfl rfl) rfl ⟨rfl, Ex.refl _⟩
         ·exact fun _ _ h => OpR.undef rfl rfl (h.dt 23 75 rfl rfl rfl) ⟨rfl, Ex.refl _⟩
         ·exact fun _ _ h => OpR.undef rfl rfl (h.dt 23 75 rfl rfl rfl) ⟨rfl, Ex.refl _⟩
         ·exact fun _ _ h => OpR.undef rfl rfl (h.dt 23 75 rfl rfl rfl) ⟨rfl, Ex.refl _⟩
         ·exact fun _ _ h => OpR.undef rfl rfl (h.dt 23 75 rfl rfl rfl) ⟨rfl, Ex.refl _⟩
         ·exact fun _ _ h => OpR.undef rfl rfl (h.dt 23 75 rfl rfl rfl) ⟨rfl, Ex.refl _⟩
         ·exact fun _ _ h => OpR.undef rfl rfl (h.dt 23 75 rfl rfl rfl) ⟨rfl, Ex.refl _⟩
         ·exact fun _ _ h => OpR.undef rfl rfl (h.dt 23 75 rfl rfl rfl) ⟨rfl, Ex.refl _⟩
         ·exact fun _ _ h => OpR.undef rfl rfl (h.dt 23 75 rfl rfl rfl) ⟨rfl, Ex.refl _⟩
         ·exact fun _ _ h => OpR.undef rfl rfl (h.dt 23 75 rfl rfl rfl) ⟨rfl, Ex.refl _⟩
         ·exact fun _ _ h => OpR.undef rfl rfl (h.dt 23 75 rfl rfl rfl) ⟨rfl, Ex.refl _⟩
         ·exact fun _ _ h => OpR.skip rfl rfl (h.dt 20 72 rfl rfl rfl) rfl ⟨rfl, Ex.refl _⟩
         ·exact fun _ _ h => os rfl ((yl_pick_t rfl (h.dt 20 72 rfl rfl rfl) rfl rfl kI))
         ·intro fl1430 fh1431 L1427 w1428 hp1429
          have hE1432 := hp1429.ex
          have hE1432z := Ex.size hE1432
          refine SeqR.done (tn (CW.sub (Sub.cons (d := 1) (hp1429.old 1 _ rfl rfl) (Sub.cons (d := 45) (hp1429.old 45 _ rfl rfl) (Sub.cons (d := 46) (hp1429.old 46 _ rfl rfl) (Sub.cons (d := 47) (hp1429.old 47 _ rfl rfl) (Sub.cons (d := 57) (hp1429.nt 5 57 rfl rfl rfl) (Sub.cons (d := 58) (hp1429.nt 6 58 rfl rfl rfl) (Sub.cons (d := 59) (hp1429.nt 7 59 rfl rfl rfl) (Sub.cons (d := 60) (hp1429.nt 8 60 rfl rfl rfl) (Sub.cons (d := 61) (hp1429.nt 9 61 rfl rfl rfl) (Sub.cons (d := 62) (hp1429.nt 10 62 rfl rfl rfl) (Sub.cons (d := 63) (hp1429.nt 11 63 rfl rfl rfl) (Sub.cons (d := 64) (hp1429.nt 12 64 rfl rfl rfl) (Sub.cons (d := 67) (hp1429.nt 15 67 rfl rfl rfl) (Sub.cons (d := 68) (hp1429.nt 16 68 rfl rfl rfl) (Sub.cons (d := 69) (hp1429.nt 17 69 rfl rfl rfl) (Sub.cons (d := 70) (hp1429.nt 18 70 rfl rfl rfl) (Sub.cons (d := 73) (hp1429.nt 21 73 rfl rfl rfl) (Sub.cons (d := 74) (hp1429.nt 22 74 rfl rfl rfl) (Sub.cons (d := 75) (hp1429.nt 23 75 rfl rfl rfl) (Sub.cons (d := 76) (hp1429.nt 24 76 rfl rfl rfl) (Sub.cons (d := 77) (hp1429.nt 25 77 rfl rfl rfl) (Sub.cons (d := 78) (hp1429.nt 26 78 rfl rfl rfl) (Sub.cons (d := 79) (hp1429.nt 27 79 rfl rfl rfl) (Sub.cons (d := 80) (hp1429.nt 28 80 rfl rfl rfl) (Sub.cons (d := 81) (hp1429.nt 29 81 rfl rfl rfl) (Sub.cons (d := 82) (hp1429.nt 30 82 rfl rfl rfl) (Sub.cons (d := 83) (hp1429.nt 31 83 rfl rfl rfl) (Sub.cons (d := 84) (hp1429.nt 32 84 rfl rfl rfl) (Sub.cons (d := 85) (hp1429.nt 33 85 rfl rfl rfl) (Sub.cons (d := 86) (hp1429.nt 34 86 rfl rfl rfl) (Sub.cons (d := 87) (hp1429.nt 35 87 rfl rfl rfl) (Sub.nil _)))))))))))))))))))))))))))))))) ?_))
          refine CW.cond_t rfl rfl (CW.seq (CW.region (sd rfl (yl_assign rfl rfl (SeqR.done (tn (CW.ret (br (tr ?_)))))))))
          refine tr ?_
          have hB1465 : B_i_GoodTable_1 p_0 k91 () = .ret false := by simp only [B_i_GoodTable_1, hb16, hb21, hb23, hb159, hL90, cond_true, cond_false, loopE_done, loopE_ret]
          have hL1464 : loopM (B_i_GoodTable_1 p_0) (p_0.Idxs.length - 0) 0 () = .ret false := hI136.symm.trans (loopM.ret hlt147 hB1465)
          refine br (tr (rr rfl (.cons rfl .nil) ?_))
          have hM1466 : (i_GoodTable p_0) = (false) := by simp only [i_GoodTable, hb16, hb21, hb23, hb159, hL90, hL1464, cond_true, cond_false, loopE_done, loopE_ret]
          rw [hM1466]
          exact ⟨rfl, (Ex.trans (Below.only (Ex.trans hf145 hE154) hO157 (by omega)) hE1432)⟩
       ·refine CW.seq (CW.region (sd rfl (yl_lss rfl rfl rfl (SeqR.done (tn (CW.seq (CW.cond_f rfl (lt_f hlt147) (CW.exit (tx ?_)))))))))
        refine tx ?_
        have hL1470 : loopM (B_i_GoodTable_1 p_0) (p_0.Idxs.length - 0) 0 () = .done () := hI136.symm.trans (loopM.stop hlt147)
        refine bx (tn (CW.seq (CW.region (sd rfl (yl_assign rfl rfl (SeqR.done (tn (CW.ret (rr rfl (.cons rfl .nil) ?_)))))))))
        have hM1471 : (i_GoodTable p_0) = (true) := by simp only [i_GoodTable, hb16, hb21, hb23, hL90, hL1470, cond_true, cond_false, loopE_done, loopE_ret]
        rw [hM1471]
        exact ⟨rfl, hf145⟩
  ·refine sz rfl rfl (not_f hb21) (sz rfl rfl (not_f hb21) (sz rfl rfl (not_f hb21) (sz rfl rfl (not_f hb21) (sd rfl (yl_pick_t rfl rfl (not_f hb21) rfl (SeqR.done (tn (CW.cond_t rfl rfl (CW.seq ?_)))))))))
   refine CW.region (sd rfl (yl_assign rfl rfl (SeqR.done (tn (CW.ret (tr (rr rfl (.cons rfl .nil) ?_)))))))
   have hM1472 : (i_GoodTable p_0) = (false) := by simp only [i_GoodTable, hb16, hb21, cond_true, cond_false, loopE_done, loopE_ret]
   rw [hM1472]
   exact ⟨rfl, (Ex.trans (Ex.trans (Ex.trans (Ex.refl w) hE12) hE15) hE20)⟩
 ·refine sz rfl rfl (not_f hb16) (sz rfl rfl (not_f hb16) (sz rfl rfl (not_f hb16) (sz rfl rfl (not_f hb16) (sz rfl rfl (not_f hb16) (sd rfl (yl_pick_t rfl rfl (not_f hb16) rfl (sd rfl (yl_move rfl rfl (sz rfl rfl rfl (sz rfl rfl rfl ?_))))))))))
  refine sz rfl rfl rfl (sz rfl rfl rfl (sd rfl (yl_pick_t rfl rfl rfl rfl (SeqR.done (tn (CW.cond_t rfl rfl (CW.seq (CW.region (sd rfl (yl_assign rfl rfl ?_))))))))))
  refine SeqR.done (tn (CW.ret (tr (rr rfl (.cons rfl .nil) ?_))))
  have hM1476 : (i_GoodTable p_0) = (false) := by simp only [i_GoodTable, hb16, cond_true, cond_false, loopE_done, loopE_ret]
  rw [hM1476]
  exact ⟨rfl, (Ex.trans (Ex.trans (Ex.refl w) hE12) hE15)⟩
set_option maxRecDepth 100000 in
set_option maxHeartbeats 2000000 in
theorem c_g_slices_IndexFunc_Idx {A1 : Option Addr} {c1 : Nat} {g3 : Nat} {cp4 : List Value} {w : World} (p_s : List DIdx) (p_f : DIdx → Bool) (h1 : RdS w (Iv 0 w.heap.size) (RF e_Idx) 3 A1 p_s.length c1 p_s) (hen5 : Enters Try.prog g3) (hfn6 : ∀ (w1 : World) (y0 : DIdx), Ex w w1 → y0 ∈ p_s → ok_Idx y0 → Cal Try.prog g3 (([.agg #[.string (bs (y0.Name)), .int .i64 (y0.Col), .int .i64 (y0.Stage)]] : List Value) ++ cp4).toArray w1 fun v w2 => v = .bool (p_f y0) ∧ Ex w1 w2) (o2 : (okL ok_Idx) p_s) : Cal Try.prog 216 #[.slice A1 p_s.length c1, .func (.func g3) #[] cp4.toArray] w fun v w' => v = .int .i64 ((g_slices_IndexFunc_Idx p_s p_f)) ∧ Ex w w' := by
 have hol7 := o2.1
 refine Cal.of (vs := [.slice A1 p_s.length c1, .func (.func g3) #[] cp4.toArray]) Try.func216 rfl Try.ntmps216 rfl (CW.seq (CW.region (sd rfl (yl_assign rfl rfl (SeqR.done (tn (CW.seq (CW.seq (CW.region ?_)))))))))
 refine sd rfl (yl_move rfl rfl (sd rfl (yl_len Try.un63 rfl rfl (sd rfl (yl_move rfl rfl (SeqR.done (tn (CW.block (CW.loop (fun m9 L10 w11 => ∃ (k8 : Nat), m9 = p_s.length - k8 ∧ k8 ≤ p_s.length ∧ w.heap.size ≤ w11.heap.size ∧ lkp L10 0 = some (.slice A1 p_s.length c1) ∧ lkp L10 1 = some (.func (.func g3) #[] cp4.toArray) ∧ lkp L10 7 = some (.int .i64 ((p_s.length : Int))) ∧ lkp L10 8 = some (.int .i64 ((k8 : Int))) ∧ RdS w11 (Iv 0 w.heap.size) (RF e_Idx) 3 A1 p_s.length c1 p_s ∧ Ex w w11 ∧ loopM (B_g_slices_IndexFunc_Idx_0 p_s p_f) (p_s.length - k8) k8 () = loopM (B_g_slices_IndexFunc_Idx_0 p_s p_f) (p_s.length - 0) 0 ()) (p_s.length - 0) ?_ ?_)))))))))
 ·exact ⟨0, rfl, (by omega), Nat.le_refl _, rfl, rfl, rfl, rfl, h1, (Ex.refl w), rfl⟩
 ·rintro m12 L13 w14 ⟨k8, rfl, hk15, hsz17, hl18, hl19, hl20, hl21, hf22, hf23, hI16⟩
  refine CW.sub (Sub.cons hl18 (Sub.cons hl19 (Sub.cons hl20 (Sub.cons hl21 (Sub.nil _))))) ?_
  have hf23z := Ex.size hf23
  have hbg24 := RdS.big hf22
  rcases Nat.lt_or_ge k8 p_s.length with hlt25 | hlt25
  ·refine CW.seq (CW.region (sd rfl (yl_lss rfl rfl rfl (SeqR.done (tn (CW.seq (CW.cond_t rfl (lt_t hlt25) (CW.skip (tn ?_)))))))))
   refine CW.seq (CW.block (CW.seq (CW.region (sd rfl (yl_move rfl rfl (sd rfl (yl_assign rfl rfl (SeqR.done (tn (CW.seq ?_))))))))))
   refine CW.region (sd rfl (yl_move rfl rfl (sd rfl (yl_move rfl rfl (sd rfl (yl_move rfl rfl ?_))))))
   obtain ⟨eb26, eo26, ec26, eA26, eS26, ebl26, el26, eR26, eC26⟩ := RdS.atD hf22 d_Idx (i := k8) (by first | omega | assumption)
   obtain rfl := eR26
   have eC26 : Cells w14 eb26 (eo26 + k8 * 3) [.string (bs ((p_s.getD k8 d_Idx).Name)), .int .i64 ((p_s.getD k8 d_Idx).Col), .int .i64 ((p_s.getD k8 d_Idx).Stage)] := eC26
   refine sd rfl (yl_indexAddrN Try.un63 Try.ty152 rfl rfl rfl eA26 (by first | omega | assumption | (simp only [IntKind.wrap_i64] at *; omega)) (sd rfl (yl_loadN (cs := [.string (bs ((p_s.getD k8 d_Idx).Name)), .int .i64 ((p_s.getD k8 d_Idx).Col), .int .i64 ((p_s.getD k8 d_Idx).Stage)]) Try.ty152 rfl rfl eC26 rfl (sd rfl (yl_callv hen5 rfl rfl (opvs_cons rfl opvs_nil) (Cal.mono (hfn6 w14 (p_s.getD k8 d_Idx) hf23 (getD_mem (by omega)) (okL.getD o2 ok_d_Idx _)) ?_))))))
   rintro v28 w27 ⟨rfl, hE29⟩
   have hE29z := Ex.size hE29
   refine SeqR.done (tn (bcase (p_f (p_s.getD k8 d_Idx)) (fun hb30 => ?_) (fun hb30 => ?_)))
   ·refine CW.cond_t rfl hb30 (CW.seq (CW.region (sd rfl (yl_move rfl rfl (sd rfl (yl_assign rfl rfl (SeqR.done (tn (CW.ret (br ?_))))))))))
    refine tr (tr ?_)
    have hB32 : B_g_slices_IndexFunc_Idx_0 p_s p_f k8 () = .ret (k8 : Int) := by simp only [B_g_slices_IndexFunc_Idx_0, hb30, cond_true, cond_false, loopE_done, loopE_ret]
    have hL31 : loopM (B_g_slices_IndexFunc_Idx_0 p_s p_f) (p_s.length - 0) 0 () = .ret (k8 : Int) := hI16.symm.trans (loopM.ret hlt25 hB32)
    refine br (tr (rr rfl (.cons rfl .nil) ?_))
    have hM33 : (g_slices_IndexFunc_Idx p_s p_f) = ((k8 : Int)) := by simp only [g_slices_IndexFunc_Idx, hb30, hL31, cond_true, cond_false, loopE_done, loopE_ret]
    rw [hM33]
    exact ⟨rfl, (Ex.trans hf23 hE29)⟩
   ·refine CW.cond_f rfl hb30 (CW.skip (bn (tn (CW.region (sd rfl (yl_inc rfl rfl rfl (by omega) (sd rfl (yl_move rfl rfl (SeqR.done (tn ?_))))))))))
    have hB35 : B_g_slices_IndexFunc_Idx_0 p_s p_f k8 () = .cont () := by simp only [B_g_slices_IndexFunc_Idx_0, hb30, cond_true, cond_false, loopE_done, loopE_ret]
    exact ⟨p_s.length - (k8 + 1), by omega, k8 + 1, rfl, hlt25, (by omega), rfl, rfl, rfl, rfl, (RdS.ex good_Idx hf22 hE29), (Ex.trans hf23 hE29), (loopM.cont hlt25 hB35).symm.trans hI16⟩
  ·refine CW.seq (CW.region (sd rfl (yl_lss rfl rfl rfl (SeqR.done (tn (CW.seq (CW.cond_f rfl (lt_f hlt25) (CW.exit (tx ?_)))))))))
   refine tx ?_
   have hL38 : loopM (B_g_slices_IndexFunc_Idx_0 p_s p_f) (p_s.length - 0) 0 () = .done () := hI16.symm.trans (loopM.stop hlt25)
   refine bx (tn (CW.seq (CW.region (sd rfl (yl_assign rfl rfl (SeqR.done (tn (CW.ret (rr rfl (.cons rfl .nil) ?_)))))))))
   have hM39 : (g_slices_IndexFunc_Idx p_s p_f) = (-1) := by simp only [g_slices_IndexFunc_Idx, hL38, cond_true, cond_false, loopE_done, loopE_ret]
   rw [hM39]
   exact ⟨rfl, hf23⟩
set_option maxRecDepth 100000 in
set_option maxHeartbeats 2000000 in
theorem c_i_Table_findIdx_c1 {b2 : Nat} {w : World} (p_x : DIdx) (p_cap0 : Str) (h3 : Box w b2 9 [.string (bs (p_cap0))]) (o1 : ok_Idx p_x) (o4 : okS p_cap0) : Cal Try.prog 217 #[.agg #[.string (bs (p_x.Name)), .int .i64 (p_x.Col), .int .i64 (p_x.Stage)], .pointer (some ⟨b2, 0, none⟩)] w fun v w' => v = .bool ((i_Table_findIdx_c1 p_x p_cap0)) ∧ Ex w w' := by
 have hol5 : p_x.Name.length ≤ 1073741824 := o1
 have hol6 : p_cap0.length ≤ 1073741824 := o4
 refine Cal.of (vs := [.agg #[.string (bs (p_x.Name)), .int .i64 (p_x.Col), .int .i64 (p_x.Stage)], .pointer (some ⟨b2, 0, none⟩)]) Try.func217 rfl Try.ntmps217 rfl (CW.seq (CW.region (sd rfl (yl_box (cs := [.string (bs (p_x.Name)), .int .i64 (p_x.Col), .int .i64 (p_x.Stage)]) rfl rfl rfl ?_))))
 intro b7 w8 hs9 hz10 hB11 hE12
 refine sd rfl (yl_assign rfl rfl (SeqR.done (tn (CW.seq (CW.region (sd rfl (yl_fieldAddr Try.fd152_0 rfl rfl (sd rfl (yl_load1 Try.ty9 rfl rfl ((hB11.cell 0).trans rfl) (sd rfl (yl_load1 Try.ty9 rfl rfl (((Box.ex h3 hE12).cell 0).trans rfl) (sd rfl (yl_seql (a := p_x.Name) (b := p_cap0) rfl rfl rfl ?_)))))))))))))
 refine sd rfl (yl_assign rfl rfl (SeqR.done (tn (CW.ret (rr rfl (.cons rfl .nil) ?_)))))
 have hM14 : (i_Table_findIdx_c1 p_x p_cap0) = (p_x.Name == p_cap0) := by simp only [i_Table_findIdx_c1, cond_true, cond_false, loopE_done, loopE_ret]
 rw [hM14]
 exact ⟨rfl, (Ex.trans (Ex.refl w) hE12)⟩
set_option maxRecDepth 100000 in
set_option maxHeartbeats 2000000 in
theorem c_i_Table_findIdx {A1 : Option Addr} {c1 : Nat} {A2 : Option Addr} {c2 : Nat} {w : World} (p_t : DTable) (p_name : Str) (h1 : RdS w (Iv 0 w.heap.size) (RF e_Str) 1 A1 p_t.Cols.length c1 p_t.Cols) (h2 : RdS w (Iv 0 w.heap.size) (RF e_Idx) 3 A2 p_t.Idxs.length c2 p_t.Idxs) (o3 : ok_Table p_t) (o4 : okS p_name) : Cal Try.prog 168 #[.agg #[.string (bs (p_t.Name)), .slice A1 p_t.Cols.length c1, .slice A2 p_t.Idxs.length c2], .string (bs (p_name))] w fun v w' => v = .int .i64 ((i_Table_findIdx p_t p_name)) ∧ Ex w w' := by
 have hol5 : p_t.Name.length ≤ 1073741824 := o3.1
 have hol6 := o3.2.1.1
 have hol7 := o3.2.2.1
 have hol8 : p_name.length ≤ 1073741824 := o4
 refine Cal.of (vs := [.agg #[.string (bs (p_t.Name)), .slice A1 p_t.Cols.length c1, .slice A2 p_t.Idxs.length c2], .string (bs (p_name))]) Try.func168 rfl Try.ntmps168 rfl (CW.seq (CW.region (sd rfl (yl_box (cs := [.string (bs (p_t.Name)), .slice A1 p_t.Cols.length c1, .slice A2 p_t.Idxs.length c2]) rfl rfl rfl ?_))))
 intro b9 w10 hs11 hz12 hB13 hE14
 refine sd rfl (yl_box (cs := [.string (bs (p_name))]) rfl rfl rfl ?_)
 intro b15 w16 hs17 hz18 hB19 hE20
 refine sd rfl (yl_assign rfl rfl (SeqR.done (tn (CW.seq (CW.region (sd rfl (yl_fieldAddr Try.fd65_2 rfl rfl (sd rfl (yl_load1 Try.ty63 rfl rfl (((Box.ex hB13 hE20).cell 2).trans rfl) (sd rfl (yl_makeFunc rfl (opvs_cons rfl opvs_nil) (sd rfl (yl_call Try.en216 rfl (opvs_cons rfl (opvs_cons rfl opvs_nil)) (Cal.mono (c_g_slices_IndexFunc_Idx p_t.Idxs (fun y0 => i_Table_findIdx_c1 y0 p_name) (RdS.up (RdS.ex good_Idx (RdS.ex good_Idx h2 hE14) hE20) good_Idx) Try.en217 (fun _ y0 => fun hE hm0 ov0 => c_i_Table_findIdx_c1 y0 p_name (Box.ex hB19 hE) ov0 o4) o3.2.2) ?_))))))))))))))
 rintro v25 w24 ⟨rfl, hE26⟩
 have hE26z := Ex.size hE26
 refine sd rfl (yl_assign rfl rfl (SeqR.done (tn (CW.ret (rr rfl (.cons rfl .nil) ?_)))))
 have hM27 : (i_Table_findIdx p_t p_name) = ((g_slices_IndexFunc_Idx p_t.Idxs (fun y0 => i_Table_findIdx_c1 y0 p_name))) := by simp only [i_Table_findIdx, cond_true, cond_false, loopE_done, loopE_ret]
 rw [hM27]
 exact ⟨rfl, (Ex.trans (Ex.trans (Ex.trans (Ex.refl w) hE14) hE20) hE26)⟩
set_option maxRecDepth 100000 in
set_option maxHeartbeats 2000000 in
theorem c_i_hasIdx {A1 : Option Addr} {c1 : Nat} {A2 : Option Addr} {c2 : Nat} {w : World} (p_t : DTable) (p_name : Str) (h1 : RdS w (Iv 0 w.heap.size) (RF e_Str) 1 A1 p_t.Cols.length c1 p_t.Cols) (h2 : RdS w (Iv 0 w.heap.size) (RF e_Idx) 3 A2 p_t.Idxs.length c2 p_t.Idxs) (o3 : ok_Table p_t) (o4 : okS p_name) : Cal Try.prog 109 #[.agg #[.string (bs (p_t.Name)), .slice A1 p_t.Cols.length c1, .slice A2 p_t.Idxs.length c2], .string (bs (p_name))] w fun v w' => v = .bool ((i_hasIdx p_t p_name)) ∧ Ex w w' := by
 have hol5 : p_t.Name.length ≤ 1073741824 := o3.1
 have hol6 := o3.2.1.1
 have hol7 := o3.2.2.1
 have hol8 : p_name.length ≤ 1073741824 := o4
 refine Cal.of (vs := [.agg #[.string (bs (p_t.Name)), .slice A1 p_t.Cols.length c1, .slice A2 p_t.Idxs.length c2], .string (bs (p_name))]) Try.func109 rfl Try.ntmps109 rfl (CW.seq (CW.region (sd rfl (yl_box (cs := [.string (bs (p_t.Name)), .slice A1 p_t.Cols.length c1, .slice A2 p_t.Idxs.length c2]) rfl rfl rfl ?_))))
 intro b9 w10 hs11 hz12 hB13 hE14
 refine sd rfl (yl_assign rfl rfl (SeqR.done (tn (CW.seq (CW.region (sd rfl (yl_loadN (cs := [.string (bs (p_t.Name)), .slice A1 p_t.Cols.length c1, .slice A2 p_t.Idxs.length c2]) Try.ty65 rfl rfl (hB13.cells (n := 3) rfl) rfl ?_)))))))
 have q15 := RdS.ex good_Str h1 hE14
 have q16 := RdS.ex good_Idx h2 hE14
 refine sd rfl (yl_call Try.en166 rfl (opvs_cons rfl opvs_nil) (Cal.mono (c_i_GoodTable p_t (RdS.up q15 good_Str) (RdS.up q16 good_Idx) o3) ?_))
 rintro v18 w17 ⟨rfl, hE19⟩
 have hE19z := Ex.size hE19
 refine sd rfl (yl_move rfl rfl (bcase (i_GoodTable p_t) (fun hb20 => ?_) (fun hb20 => ?_)))
 ·have hb20p := f_i_GoodTable hb20
  refine sy rfl rfl hb20 (yl_loadN (cs := [.string (bs (p_t.Name)), .slice A1 p_t.Cols.length c1, .slice A2 p_t.Idxs.length c2]) Try.ty65 rfl rfl ((Box.ex hB13 hE19).cells (n := 3) rfl) rfl (sy rfl rfl hb20 (yl_move rfl rfl (sy rfl rfl hb20 (yl_call Try.en168 rfl (opvs_cons rfl (opvs_cons rfl opvs_nil)) (Cal.mono (c_i_Table_findIdx p_t p_name (RdS.up (RdS.ex good_Str q15 hE19) good_Str) (RdS.up (RdS.ex good_Idx q16 hE19) good_Idx) o3 o4) ?_))))))
  rintro v25 w24 ⟨rfl, hE26⟩
  have hE26z := Ex.size hE26
  have hrf27 := rf_i_findIdx p_t p_name
  refine sy rfl rfl hb20 (yl_geq rfl rfl rfl (sd rfl (yl_pick_t rfl rfl hb20 rfl (sd rfl (yl_assign rfl rfl (SeqR.done (tn (CW.ret (rr rfl (.cons rfl .nil) ?_)))))))))
  have hM28 : (i_hasIdx p_t p_name) = (decide (0 ≤ (i_Table_findIdx p_t p_name))) := by simp only [i_hasIdx, hb20, cond_true, cond_false, loopE_done, loopE_ret]
  rw [hM28]
  exact ⟨rfl, (Ex.trans (Ex.trans (Ex.trans (Ex.refl w) hE14) hE19) hE26)⟩
 ·refine sz rfl rfl hb20 (sz rfl rfl hb20 (sz rfl rfl hb20 (sz rfl rfl hb20 (sd rfl (yl_pick_f rfl rfl hb20 rfl (sd rfl (yl_assign rfl rfl (SeqR.done (tn (CW.ret ?_))))))))))
  refine rr rfl (.cons rfl .nil) ?_
  have hM32 : (i_hasIdx p_t p_name) = (false) := by simp only [i_hasIdx, hb20, cond_true, cond_false, loopE_done, loopE_ret]
  rw [hM32]
  exact ⟨rfl, (Ex.trans (Ex.trans (Ex.refl w) hE14) hE19)⟩
set_option maxRecDepth 100000 in
set_option maxHeartbeats 2000000 in
theorem c_i_isLowerOrDigit {w : World} (p_b : Int) : Cal Try.prog 249 #[.int .u8 (p_b)] w fun v w' => v = .bool ((i_isLowerOrDigit p_b)) ∧ Ex w w' := by
 refine Cal.of (vs := [.int .u8 (p_b)]) Try.func249 rfl Try.ntmps249 rfl (CW.seq (CW.region (sd rfl (yl_assign rfl rfl (SeqR.done (tn (CW.seq (CW.region (sd rfl (yl_move rfl rfl ?_))))))))))
 refine sd rfl (yl_geq rfl rfl rfl (sd rfl (yl_move rfl rfl (bcase (decide (97 ≤ p_b)) (fun hb1 => ?_) (fun hb1 => ?_)))))
 ·have hb1p := dec_t hb1
  refine sy rfl rfl hb1 (yl_move rfl rfl (sy rfl rfl hb1 (yl_leq rfl rfl rfl (sd rfl (yl_pick_t rfl rfl hb1 rfl (sd rfl (yl_move rfl rfl (bcase (decide (p_b ≤ 122)) (fun hb2 => ?_) (fun hb2 => ?_)))))))))
  ·have hb2p := dec_t hb2
   refine sz rfl rfl hb2 (sz rfl rfl hb2 (sz rfl rfl hb2 (sq rfl rfl (sq rfl rfl (sz rfl rfl hb2 (sd rfl (yl_pick_t rfl rfl hb2 rfl (sd rfl (yl_assign rfl rfl (SeqR.done ?_))))))))))
   refine tn (CW.ret (rr rfl (.cons rfl .nil) ?_))
   have hM3 : (i_isLowerOrDigit p_b) = (true) := by simp only [i_isLowerOrDigit, hb1, hb2, cond_true, cond_false, loopE_done, loopE_ret]
   rw [hM3]
   exact ⟨rfl, (Ex.refl w)⟩
  ·have hb2p := dec_f hb2
   refine sy rfl rfl hb2 (yl_move rfl rfl (sy rfl rfl hb2 (yl_geq rfl rfl rfl (sy rfl rfl hb2 (yl_move rfl rfl (bcase (decide (48 ≤ p_b)) (fun hb4 => ?_) (fun hb4 => ?_)))))))
   ·have hb4p := dec_t hb4
    refine sy rfl rfl hb4 (yl_move rfl rfl (sy rfl rfl hb4 (yl_leq rfl rfl rfl (sy rfl rfl hb2 (yl_pick_t rfl rfl hb4 rfl (sd rfl (yl_pick_f rfl rfl hb2 rfl (sd rfl (yl_assign rfl rfl (SeqR.done (tn (CW.ret (rr rfl (.cons rfl .nil) ?_)))))))))))))
    have hM5 : (i_isLowerOrDigit p_b) = (decide (p_b ≤ 57)) := by simp only [i_isLowerOrDigit, hb1, hb2, hb4, cond_true, cond_false, loopE_done, loopE_ret]
    rw [hM5]
    exact ⟨rfl, (Ex.refl w)⟩
   ·have hb4p := dec_f hb4
    refine sz rfl rfl hb4 (sz rfl rfl hb4 (sy rfl rfl hb2 (yl_pick_f rfl rfl hb4 rfl (sd rfl (yl_pick_f rfl rfl hb2 rfl (sd rfl (yl_assign rfl rfl (SeqR.done (tn (CW.ret (rr rfl (.cons rfl .nil) ?_)))))))))))
    have hM6 : (i_isLowerOrDigit p_b) = (false) := by simp only [i_isLowerOrDigit, hb1, hb2, hb4, cond_true, cond_false, loopE_done, loopE_ret]
    rw [hM6]
    exact ⟨rfl, (Ex.refl w)⟩
 ·have hb1p := dec_f hb1
  refine sz rfl rfl hb1 (sz rfl rfl hb1 (sd rfl (yl_pick_f rfl rfl hb1 rfl (sd rfl (yl_move rfl rfl (sy rfl rfl rfl (yl_move rfl rfl (sy rfl rfl rfl (yl_geq rfl rfl rfl (sy rfl rfl rfl (yl_move rfl rfl (bcase (decide (48 ≤ p_b)) (fun hb7 => ?_) (fun hb7 => ?_)))))))))))))
  ·have hb7p := dec_t hb7
   refine sy rfl rfl hb7 (yl_move rfl rfl (sy rfl rfl hb7 (yl_leq rfl rfl rfl (sy rfl rfl rfl (yl_pick_t rfl rfl hb7 rfl (sd rfl (yl_pick_f rfl rfl rfl rfl (sd rfl (yl_assign rfl rfl (SeqR.done (tn (CW.ret (rr rfl (.cons rfl .nil) ?_)))))))))))))
   have hM8 : (i_isLowerOrDigit p_b) = (decide (p_b ≤ 57)) := by simp only [i_isLowerOrDigit, hb1, hb7, cond_true, cond_false, loopE_done, loopE_ret]
   rw [hM8]
   exact ⟨rfl, (Ex.refl w)⟩
  ·have hb7p := dec_f hb7
   refine sz rfl rfl hb7 (sz rfl rfl hb7 (sy rfl rfl rfl (yl_pick_f rfl rfl hb7 rfl (sd rfl (yl_pick_f rfl rfl rfl rfl (sd rfl (yl_assign rfl rfl (SeqR.done (tn (CW.ret (rr rfl (.cons rfl .nil) ?_)))))))))))
   have hM9 : (i_isLowerOrDigit p_b) = (false) := by simp only [i_isLowerOrDigit, hb1, hb7, cond_true, cond_false, loopE_done, loopE_ret]
   rw [hM9]
   exact ⟨rfl, (Ex.refl w)⟩
set_option maxRecDepth 100000 in
set_option maxHeartbeats 2000000 in
theorem c_g_internal_stringslite_IndexByte {w : World} (p_s : Str) (p_c : Int) (o1 : okS p_s) : Cal Try.prog 257 #[.string (bs (p_s)), .int .u8 (p_c)] w fun v w' => v = .int .i64 ((g_internal_stringslite_IndexByte p_s p_c)) ∧ Ex w w' := by
 have hol2 : p_s.length ≤ 1073741824 := o1
 refine Cal.of (vs := [.string (bs (p_s)), .int .u8 (p_c)]) Try.func257 rfl Try.ntmps257 rfl (CW.seq (CW.region (sd rfl (yl_assign rfl rfl (SeqR.done (tn (CW.seq (CW.region (sd rfl (yl_move rfl rfl ?_))))))))))
 refine sd rfl (yl_move rfl rfl (sd rfl (yl_idxB (s := p_s) (c := p_c) Try.ex263 rfl (opvs_cons rfl (opvs_cons rfl opvs_nil)) (sd rfl (yl_assign rfl rfl (SeqR.done (tn (CW.ret (rr rfl (.cons rfl .nil) ?_)))))))))
 have hM3 : (g_internal_stringslite_IndexByte p_s p_c) = (idxB p_s p_c) := by simp only [g_internal_stringslite_IndexByte, cond_true, cond_false, loopE_done, loopE_ret]
 rw [hM3]
 exact ⟨rfl, (Ex.refl w)⟩
set_option maxRecDepth 100000 in
set_option maxHeartbeats 2000000 in
theorem c_g_strings_IndexByte {w : World} (p_s : Str) (p_c : Int) (o1 : okS p_s) : Cal Try.prog 250 #[.string (bs (p_s)), .int .u8 (p_c)] w fun v w' => v = .int .i64 ((g_strings_IndexByte p_s p_c)) ∧ Ex w w' := by
 have hol2 : p_s.length ≤ 1073741824 := o1
 refine Cal.of (vs := [.string (bs (p_s)), .int .u8 (p_c)]) Try.func250 rfl Try.ntmps250 rfl (CW.seq (CW.region (sd rfl (yl_assign rfl rfl (SeqR.done (tn (CW.seq (CW.region (sd rfl (yl_move rfl rfl ?_))))))))))
 refine sd rfl (yl_move rfl rfl (sd rfl (yl_call Try.en257 rfl (opvs_cons rfl (opvs_cons rfl opvs_nil)) (Cal.mono (c_g_internal_stringslite_IndexByte p_s p_c o1) ?_))))
 rintro v4 w3 ⟨rfl, hE5⟩
 have hE5z := Ex.size hE5
 refine sd rfl (yl_assign rfl rfl (SeqR.done (tn (CW.ret (rr rfl (.cons rfl .nil) ?_)))))
 have hM6 : (g_strings_IndexByte p_s p_c) = ((g_internal_stringslite_IndexByte p_s p_c)) := by simp only [g_strings_IndexByte, cond_true, cond_false, loopE_done, loopE_ret]
 rw [hM6]
 exact ⟨rfl, (Ex.trans (Ex.refl w) hE5)⟩
set_option maxRecDepth 100000 in
set_option maxHeartbeats 2000000 in
theorem c_i_hasBytes {w : World} (p_s : Str) (p_others : Str) (o1 : okS p_s) (o2 : okS p_others) : Cal Try.prog 235 #[.string (bs (p_s)), .string (bs (p_others))] w fun v w' => v = .bool ((i_hasBytes p_s p_others)) ∧ Ex w w' := by
 have hol3 : p_s.length ≤ 1073741824 := o1
 have hol4 : p_others.length ≤ 1073741824 := o2
 refine Cal.of (vs := [.string (bs (p_s)), .string (bs (p_others))]) Try.func235 rfl Try.ntmps235 rfl (CW.seq (CW.region (sd rfl (yl_assign rfl rfl (SeqR.done (tn (CW.seq (CW.seq (CW.region ?_)))))))))
 refine sd rfl (yl_move rfl rfl (sd rfl (yl_slen Try.un9 (a := p_s) rfl rfl (sd rfl (yl_move rfl rfl (SeqR.done (tn (CW.block (CW.loop (fun m6 L7 w8 => ∃ (k5 : Nat), m6 = p_s.length - k5 ∧ k5 ≤ p_s.length ∧ w.heap.size ≤ w8.heap.size ∧ lkp L7 0 = some (.string (bs (p_s))) ∧ lkp L7 1 = some (.string (bs (p_others))) ∧ lkp L7 7 = some (.int .i64 ((p_s.length : Int))) ∧ lkp L7 8 = some (.int .i64 ((k5 : Int))) ∧ Ex w w8 ∧ loopM (B_i_hasBytes_0 p_s p_others) (p_s.length - k5) k5 () = loopM (B_i_hasBytes_0 p_s p_others) (p_s.length - 0) 0 ()) (p_s.length - 0) ?_ ?_)))))))))
 ·exact ⟨0, rfl, (by omega), Nat.le_refl _, rfl, rfl, rfl, rfl, (Ex.refl w), rfl⟩
 ·rintro m9 L10 w11 ⟨k5, rfl, hk12, hsz14, hl15, hl16, hl17, hl18, hf19, hI13⟩
  refine CW.sub (Sub.cons hl15 (Sub.cons hl16 (Sub.cons hl17 (Sub.cons hl18 (Sub.nil _))))) ?_
  have hf19z := Ex.size hf19
  have hbg20 : p_s.length ≤ 1073741824 := o1
  rcases Nat.lt_or_ge k5 p_s.length with hlt21 | hlt21
  ·refine CW.seq (CW.region (sd rfl (yl_lss rfl rfl rfl (SeqR.done (tn (CW.seq (CW.cond_t rfl (lt_t hlt21) (CW.skip (tn ?_)))))))))
   refine CW.seq (CW.block (CW.seq (CW.region (sd rfl (yl_move rfl rfl (sd rfl (yl_assign rfl rfl (SeqR.done (tn (CW.seq ?_))))))))))
   refine CW.region (sd rfl (yl_move rfl rfl (sd rfl (yl_move rfl rfl (sd rfl (yl_sindexN Try.un9 (a := p_s) rfl rfl rfl (by first | omega | assumption | (simp only [IntKind.wrap_i64] at *; omega)) (sd rfl (yl_call Try.en249 rfl (opvs_cons rfl opvs_nil) (Cal.mono (c_i_isLowerOrDigit ((p_s.getD k5 0).toNat : Int)) ?_)))))))))
   rintro v23 w22 ⟨rfl, hE24⟩
   have hE24z := Ex.size hE24
   refine sd rfl (yl_not rfl rfl (sd rfl (yl_move rfl rfl (bcase (i_isLowerOrDigit ((p_s.getD k5 0).toNat : Int)) (fun hb25 => ?_) (fun hb25 => ?_)))))
   ·refine sz rfl rfl (not_t hb25) (sz rfl rfl (not_t hb25) (sz rfl rfl (not_t hb25) (sz rfl rfl (not_t hb25) (sz rfl rfl (not_t hb25) (sz rfl rfl (not_t hb25) (sd rfl (yl_pick_f rfl rfl (not_t hb25) rfl (SeqR.done (tn ?_)))))))))
    refine CW.cond_f rfl rfl (CW.skip (bn (tn (CW.region (sd rfl (yl_inc rfl rfl rfl (by omega) (sd rfl (yl_move rfl rfl (SeqR.done (tn ?_))))))))))
    have hB26 : B_i_hasBytes_0 p_s p_others k5 () = .cont () := by simp only [B_i_hasBytes_0, hb25, cond_true, cond_false, loopE_done, loopE_ret]
    exact ⟨p_s.length - (k5 + 1), by omega, k5 + 1, rfl, hlt21, (by omega), rfl, rfl, rfl, rfl, (Ex.trans hf19 hE24), (loopM.cont hlt21 hB26).symm.trans hI13⟩
   ·refine sy rfl rfl (not_f hb25) (yl_move rfl rfl (sy rfl rfl (not_f hb25) (yl_move rfl rfl (sy rfl rfl (not_f hb25) (yl_move rfl rfl (sy rfl rfl (not_f hb25) (yl_sindexN Try.un9 (a := p_s) rfl rfl rfl (by first | omega | assumption | (simp only [IntKind.wrap_i64] at *; omega)) (sy rfl rfl (not_f hb25) (yl_call Try.en250 rfl (opvs_cons rfl (opvs_cons rfl opvs_nil)) (Cal.mono (c_g_strings_IndexByte p_others ((p_s.getD k5 0).toNat : Int) o2) ?_))))))))))
    rintro v29 w28 ⟨rfl, hE30⟩
    have hE30z := Ex.size hE30
    refine sy rfl rfl (not_f hb25) (yl_lss rfl rfl rfl (sd rfl (yl_pick_t rfl rfl (not_f hb25) rfl (SeqR.done (tn (bcase (decide ((g_strings_IndexByte p_others ((p_s.getD k5 0).toNat : Int)) < 0)) (fun hb31 => ?_) (fun hb31 => ?_)))))))
    ·have hb31p := dec_t hb31
     refine CW.cond_t rfl hb31 (CW.seq (CW.region (sd rfl (yl_assign rfl rfl (SeqR.done (tn (CW.ret (br (tr ?_)))))))))
     refine tr ?_
     have hB33 : B_i_hasBytes_0 p_s p_others k5 () = .ret false := by simp only [B_i_hasBytes_0, hb25, hb31, cond_true, cond_false, loopE_done, loopE_ret]
     have hL32 : loopM (B_i_hasBytes_0 p_s p_others) (p_s.length - 0) 0 () = .ret false := hI13.symm.trans (loopM.ret hlt21 hB33)
     refine br (tr (rr rfl (.cons rfl .nil) ?_))
     have hM34 : (i_hasBytes p_s p_others) = (false) := by simp only [i_hasBytes, hb25, hb31, hL32, cond_true, cond_false, loopE_done, loopE_ret]
     rw [hM34]
     exact ⟨rfl, (Ex.trans (Ex.trans hf19 hE24) hE30)⟩
    ·have hb31p := dec_f hb31
     refine CW.cond_f rfl hb31 (CW.skip (bn (tn (CW.region (sd rfl (yl_inc rfl rfl rfl (by omega) (sd rfl (yl_move rfl rfl (SeqR.done (tn ?_))))))))))
     have hB37 : B_i_hasBytes_0 p_s p_others k5 () = .cont () := by simp only [B_i_hasBytes_0, hb25, hb31, cond_true, cond_false, loopE_done, loopE_ret]
     exact ⟨p_s.length - (k5 + 1), by omega, k5 + 1, rfl, hlt21, (by omega), rfl, rfl, rfl, rfl, (Ex.trans (Ex.trans hf19 hE24) hE30), (loopM.cont hlt21 hB37).symm.trans hI13⟩
  ·refine CW.seq (CW.region (sd rfl (yl_lss rfl rfl rfl (SeqR.done (tn (CW.seq (CW.cond_f rfl (lt_f hlt21) (CW.exit (tx ?_)))))))))
   refine tx ?_
   have hL40 : loopM (B_i_hasBytes_0 p_s p_others) (p_s.length - 0) 0 () = .done () := hI13.symm.trans (loopM.stop hlt21)
   refine bx (tn (CW.seq (CW.region (sd rfl (yl_assign rfl rfl (SeqR.done (tn (CW.ret (rr rfl (.cons rfl .nil) ?_)))))))))
   have hM41 : (i_hasBytes p_s p_others) = (true) := by simp only [i_hasBytes, hL40, cond_true, cond_false, loopE_done, loopE_ret]
   rw [hM41]
   exact ⟨rfl, hf19⟩
set_option maxRecDepth 100000 in
set_option maxHeartbeats 2000000 in
theorem c_i_isField {w : World} (p_s : Str) (o1 : okS p_s) : Cal Try.prog 215 #[.string (bs (p_s))] w fun v w' => v = .bool ((i_isField p_s)) ∧ Ex w w' := by
 have hol2 : p_s.length ≤ 1073741824 := o1
 refine Cal.of (vs := [.string (bs (p_s))]) Try.func215 rfl Try.ntmps215 rfl (CW.seq (CW.region (sd rfl (yl_assign rfl rfl (SeqR.done (tn (CW.seq (CW.region (sd rfl (yl_move rfl rfl ?_))))))))))
 refine sd rfl (yl_slen Try.un9 (a := p_s) rfl rfl (sd rfl (yl_call Try.en142 rfl (opvs_cons rfl (opvs_cons rfl (opvs_cons rfl opvs_nil))) (Cal.mono (c_i_within (p_s.length : Int) 1 3) ?_))))
 rintro v4 w3 ⟨rfl, hE5⟩
 have hE5z := Ex.size hE5
 refine sd rfl (yl_move rfl rfl (bcase (i_within (p_s.length : Int) 1 3) (fun hb6 => ?_) (fun hb6 => ?_)))
 ·have hb6p := f_within hb6
  refine sy rfl rfl hb6 (yl_move rfl rfl (sy rfl rfl hb6 (yl_call Try.en235 rfl (opvs_cons rfl (opvs_cons rfl opvs_nil)) (Cal.mono (c_i_hasBytes p_s ([] : Str) o1 (okS.lit rfl)) ?_))))
  rintro v8 w7 ⟨rfl, hE9⟩
  have hE9z := Ex.size hE9
  refine sd rfl (yl_pick_t rfl rfl hb6 rfl (sd rfl (yl_assign rfl rfl (SeqR.done (tn (CW.ret (rr rfl (.cons rfl .nil) ?_)))))))
  have hM10 : (i_isField p_s) = ((i_hasBytes p_s ([] : Str))) := by simp only [i_isField, hb6, cond_true, cond_false, loopE_done, loopE_ret]
  rw [hM10]
  exact ⟨rfl, (Ex.trans (Ex.trans (Ex.refl w) hE5) hE9)⟩
 ·refine sz rfl rfl hb6 (sz rfl rfl hb6 (sd rfl (yl_pick_f rfl rfl hb6 rfl (sd rfl (yl_assign rfl rfl (SeqR.done (tn (CW.ret (rr rfl (.cons rfl .nil) ?_)))))))))
  have hM13 : (i_isField p_s) = (false) := by simp only [i_isField, hb6, cond_true, cond_false, loopE_done, loopE_ret]
  rw [hM13]
  exact ⟨rfl, (Ex.trans (Ex.refl w) hE5)⟩
set_option maxRecDepth 100000 in
set_option maxHeartbeats 2000000 in
theorem c_i_Table_idxHead {A1 : Option Addr} {c1 : Nat} {A2 : Option Addr} {c2 : Nat} {w : World} (p_t : DTable) (p_name : Str) (h1 : RdS w (Iv 0 w.heap.size) (RF e_Str) 1 A1 p_t.Cols.length c1 p_t.Cols) (h2 : RdS w (Iv 0 w.heap.size) (RF e_Idx) 3 A2 p_t.Idxs.length c2 p_t.Idxs) (o3 : ok_Table p_t) (o4 : okS p_name) : Cal Try.prog 219 #[.agg #[.string (bs (p_t.Name)), .slice A1 p_t.Cols.length c1, .slice A2 p_t.Idxs.length c2], .string (bs (p_name))] w fun v w' => v = .string (bs ((i_Table_idxHead p_t p_name))) ∧ Ex w w' := by
 have hol5 : p_t.Name.length ≤ 1073741824 := o3.1
 have hol6 := o3.2.1.1
 have hol7 := o3.2.2.1
 have hol8 : p_name.length ≤ 1073741824 := o4
 refine Cal.of (vs := [.agg #[.string (bs (p_t.Name)), .slice A1 p_t.Cols.length c1, .slice A2 p_t.Idxs.length c2], .string (bs (p_name))]) Try.func219 rfl Try.ntmps219 rfl (CW.seq (CW.region (sd rfl (yl_box (cs := [.string (bs (p_t.Name)), .slice A1 p_t.Cols.length c1, .slice A2 p_t.Idxs.length c2]) rfl rfl rfl ?_))))
 intro b9 w10 hs11 hz12 hB13 hE14
 refine sd rfl (yl_assign rfl rfl (SeqR.done (tn (CW.seq (CW.region (sd rfl (yl_fieldAddr Try.fd65_0 rfl rfl (sd rfl (yl_load1 Try.ty9 rfl rfl ((hB13.cell 0).trans rfl) ?_)))))))))
 have hol15 : p_t.Name.length ≤ 1073741824 := o3.1
 refine sd rfl (yl_sadd (a := p_t.Name) (b := ([46] : Str)) rfl rfl rfl (by first | omega | (simp only [List.length_append, List.length_cons, List.length_nil, List.length_take, List.length_drop, toS_length]; omega)) (sd rfl (yl_move rfl rfl ?_)))
 have hol16 : p_t.Name.length ≤ 1073741824 := o3.1
 have hol17 : p_name.length ≤ 1073741824 := o4
 refine sd rfl (yl_sadd (a := (p_t.Name ++ ([46] : Str))) (b := p_name) rfl rfl rfl (by first | omega | (simp only [List.length_append, List.length_cons, List.length_nil, List.length_take, List.length_drop, toS_length]; omega)) ?_)
 have hol18 : p_t.Name.length ≤ 1073741824 := o3.1
 have hol19 : p_name.length ≤ 1073741824 := o4
 refine sd rfl (yl_sadd (a := ((p_t.Name ++ ([46] : Str)) ++ p_name)) (b := ([47] : Str)) rfl rfl rfl (by first | omega | (simp only [List.length_append, List.length_cons, List.length_nil, List.length_take, List.length_drop, toS_length]; omega)) (sd rfl (yl_assign rfl rfl (SeqR.done (tn (CW.ret (rr rfl (.cons rfl .nil) ?_)))))))
 have hM20 : (i_Table_idxHead p_t p_name) = (((p_t.Name ++ ([46] : Str)) ++ p_name) ++ ([47] : Str)) := by simp only [i_Table_idxHead, cond_true, cond_false, loopE_done, loopE_ret]
 rw [hM20]
 exact ⟨rfl, (Ex.trans (Ex.refl w) hE14)⟩
set_option maxRecDepth 100000 in
set_option maxHeartbeats 2000000 in
theorem c_g_internal_stringslite_HasPrefix {w : World} (p_s : Str) (p_prefix : Str) (o1 : okS p_s) (o2 : okS p_prefix) : Cal Try.prog 253 #[.string (bs (p_s)), .string (bs (p_prefix))] w fun v w' => v = .bool ((g_internal_stringslite_HasPrefix p_s p_prefix)) ∧ Ex w w' := by
 have hol3 : p_s.length ≤ 1073741824 := o1
 have hol4 : p_prefix.length ≤ 1073741824 := o2
 refine Cal.of (vs := [.string (bs (p_s)), .string (bs (p_prefix))]) Try.func253 rfl Try.ntmps253 rfl (CW.seq (CW.region (sd rfl (yl_assign rfl rfl (SeqR.done (tn (CW.seq (CW.region (sd rfl (yl_move rfl rfl ?_))))))))))
 refine sd rfl (yl_slen Try.un9 (a := p_s) rfl rfl (sd rfl (yl_move rfl rfl (sd rfl (yl_slen Try.un9 (a := p_prefix) rfl rfl (sd rfl (yl_geq rfl rfl rfl (sd rfl (yl_move rfl rfl (bcase (decide ((p_prefix.length : Int) ≤ (p_s.length : Int))) (fun hb5 => ?_) (fun hb5 => ?_)))))))))))
 ·have hb5p := dec_t hb5
  refine sy rfl rfl hb5 (yl_move rfl rfl (sy rfl rfl hb5 (yl_move rfl rfl (sy rfl rfl hb5 (yl_slen Try.un9 (a := p_prefix) rfl rfl (sy rfl rfl hb5 (yl_sslice_hi Try.un9 (a := p_s) (h := p_prefix.length) rfl rfl rfl (by omega) (sy rfl rfl hb5 (yl_move rfl rfl (sy rfl rfl hb5 (yl_seql (a := (p_s.take p_prefix.length)) (b := p_prefix) rfl rfl rfl (sd rfl (yl_pick_t rfl rfl hb5 rfl (sd rfl (yl_assign rfl rfl (SeqR.done ?_))))))))))))))))
  refine tn (CW.ret (rr rfl (.cons rfl .nil) ?_))
  have hM6 : (g_internal_stringslite_HasPrefix p_s p_prefix) = ((p_s.take p_prefix.length) == p_prefix) := by simp only [g_internal_stringslite_HasPrefix, hb5, cond_true, cond_false, loopE_done, loopE_ret]
  rw [hM6]
  exact ⟨rfl, (Ex.refl w)⟩
 ·have hb5p := dec_f hb5
  refine sz rfl rfl hb5 (sz rfl rfl hb5 (sz rfl rfl hb5 (sz rfl rfl hb5 (sz rfl rfl hb5 (sz rfl rfl hb5 (sd rfl (yl_pick_f rfl rfl hb5 rfl (sd rfl (yl_assign rfl rfl (SeqR.done ?_))))))))))
  refine tn (CW.ret (rr rfl (.cons rfl .nil) ?_))
  have hM7 : (g_internal_stringslite_HasPrefix p_s p_prefix) = (false) := by simp only [g_internal_stringslite_HasPrefix, hb5, cond_true, cond_false, loopE_done, loopE_ret]
  rw [hM7]
  exact ⟨rfl, (Ex.refl w)⟩
set_option maxRecDepth 100000 in
set_option maxHeartbeats 2000000 in
theorem c_g_internal_stringslite_CutPrefix {w : World} (p_s : Str) (p_prefix : Str) (o1 : okS p_s) (o2 : okS p_prefix) : Cal Try.prog 243 #[.string (bs (p_s)), .string (bs (p_prefix))] w fun v w' => v = .tuple #[.string (bs ((g_internal_stringslite_CutPrefix p_s p_prefix).1)), .bool ((g_internal_stringslite_CutPrefix p_s p_prefix).2)] ∧ okS ((g_internal_stringslite_CutPrefix p_s p_prefix).1) ∧ Ex w w' := by
 have hol3 : p_s.length ≤ 1073741824 := o1
 have hol4 : p_prefix.length ≤ 1073741824 := o2
 refine Cal.of (vs := [.string (bs (p_s)), .string (bs (p_prefix))]) Try.func243 rfl Try.ntmps243 rfl (CW.seq (CW.region (sd rfl (yl_assign rfl rfl (sd rfl (yl_assign rfl rfl (SeqR.done (tn (CW.seq (CW.seq ?_))))))))))
 refine CW.region (sd rfl (yl_move rfl rfl (sd rfl (yl_move rfl rfl (sd rfl (yl_call Try.en253 rfl (opvs_cons rfl (opvs_cons rfl opvs_nil)) (Cal.mono (c_g_internal_stringslite_HasPrefix p_s p_prefix o1 o2) ?_)))))))
 rintro v6 w5 ⟨rfl, hE7⟩
 have hE7z := Ex.size hE7
 refine sd rfl (yl_not rfl rfl (SeqR.done (tn (bcase (g_internal_stringslite_HasPrefix p_s p_prefix) (fun hb8 => ?_) (fun hb8 => ?_)))))
 ·have hb8p := f_HasPrefix hb8
  refine CW.cond_f rfl (not_t hb8) (CW.skip (tn (CW.seq (CW.region (sd rfl (yl_move rfl rfl (sd rfl (yl_move rfl rfl (sd rfl (yl_slen Try.un9 (a := p_prefix) rfl rfl (sd rfl (yl_sslice_lo Try.un9 (a := p_s) (l := p_prefix.length) rfl rfl rfl (by omega) ?_))))))))))))
  refine sd rfl (yl_assign rfl rfl (sd rfl (yl_assign rfl rfl (SeqR.done (tn (CW.ret (rr rfl (.cons rfl (.cons rfl .nil)) ?_)))))))
  have hM9 : (g_internal_stringslite_CutPrefix p_s p_prefix) = (((p_s.drop p_prefix.length), true)) := by simp only [g_internal_stringslite_CutPrefix, hb8, cond_true, cond_false, loopE_done, loopE_ret]
  rw [hM9]
  exact ⟨rfl, (okS.drop o1 _), (Ex.trans (Ex.refl w) hE7)⟩
 ·refine CW.cond_t rfl (not_f hb8) (CW.seq (CW.region (sd rfl (yl_move rfl rfl (sd rfl (yl_assign rfl rfl (sd rfl (yl_assign rfl rfl (SeqR.done (tn (CW.ret ?_)))))))))))
  refine tr (rr rfl (.cons rfl (.cons rfl .nil)) ?_)
  have hM11 : (g_internal_stringslite_CutPrefix p_s p_prefix) = ((p_s, false)) := by simp only [g_internal_stringslite_CutPrefix, hb8, cond_true, cond_false, loopE_done, loopE_ret]
  rw [hM11]
  exact ⟨rfl, o1, (Ex.trans (Ex.refl w) hE7)⟩
set_option maxRecDepth 100000 in
set_option maxHeartbeats 2000000 in
theorem c_g_strings_CutPrefix {w : World} (p_s : Str) (p_prefix : Str) (o1 : okS p_s) (o2 : okS p_prefix) : Cal Try.prog 222 #[.string (bs (p_s)), .string (bs (p_prefix))] w fun v w' => v = .tuple #[.string (bs ((g_strings_CutPrefix p_s p_prefix).1)), .bool ((g_strings_CutPrefix p_s p_prefix).2)] ∧ okS ((g_strings_CutPrefix p_s p_prefix).1) ∧ Ex w w' := by
 have hol3 : p_s.length ≤ 1073741824 := o1
 have hol4 : p_prefix.length ≤ 1073741824 := o2
 refine Cal.of (vs := [.string (bs (p_s)), .string (bs (p_prefix))]) Try.func222 rfl Try.ntmps222 rfl (CW.seq (CW.region (sd rfl (yl_assign rfl rfl (sd rfl (yl_assign rfl rfl (SeqR.done (tn (CW.seq (CW.region ?_))))))))))
 refine sd rfl (yl_move rfl rfl (sd rfl (yl_move rfl rfl (sd rfl (yl_call Try.en243 rfl (opvs_cons rfl (opvs_cons rfl opvs_nil)) (Cal.mono (c_g_internal_stringslite_CutPrefix p_s p_prefix o1 o2) ?_))))))
 rintro v7 w5 ⟨rfl, ho6, hE8⟩
 have hE8z := Ex.size hE8
 refine sd rfl (yl_extract rfl rfl rfl (sd rfl (yl_extract rfl rfl rfl (sd rfl (yl_assign rfl rfl (sd rfl (yl_assign rfl rfl (SeqR.done (tn (CW.ret (rr rfl (.cons rfl (.cons rfl .nil)) ?_)))))))))))
 have hM9 : (g_strings_CutPrefix p_s p_prefix) = (((g_internal_stringslite_CutPrefix p_s p_prefix).1, (g_internal_stringslite_CutPrefix p_s p_prefix).2)) := by simp only [g_strings_CutPrefix, cond_true, cond_false, loopE_done, loopE_ret]
 rw [hM9]
 exact ⟨rfl, ho6, (Ex.trans (Ex.refl w) hE8)⟩
set_option maxRecDepth 100000 in
set_option maxHeartbeats 2000000 in
theorem c_g_internal_bytealg_Cutover {w : World} (p_n : Int) : Cal Try.prog 261 #[.int .i64 (p_n)] w fun v w' => v = .int .i64 ((g_internal_bytealg_Cutover p_n)) ∧ Ex w w' := by
 refine Cal.of (vs := [.int .i64 (p_n)]) Try.func261 rfl Try.ntmps261 rfl (CW.seq (CW.region (sd rfl (yl_assign rfl rfl (SeqR.done (tn (CW.seq (CW.region (sd rfl (yl_move rfl rfl ?_))))))))))
 refine sd rfl (yl_add rfl rfl rfl (sd rfl (yl_quo rfl rfl rfl (by decide) (sd rfl (yl_assign rfl rfl (SeqR.done (tn (CW.ret (rr rfl (.cons rfl .nil) ?_)))))))))
 have hM1 : (g_internal_bytealg_Cutover p_n) = (IntKind.wrap .i64 (Int.tdiv (IntKind.wrap .i64 (p_n + 16)) 8)) := by simp only [g_internal_bytealg_Cutover, cond_true, cond_false, loopE_done, loopE_ret]
 rw [hM1]
 exact ⟨rfl, (Ex.refl w)⟩
set_option maxRecDepth 100000 in
set_option maxHeartbeats 2000000 in
theorem c_g_internal_stringslite_Index {w : World} (p_0 : Str) (p_1 : Str) (o1 : okS p_0) (o2 : okS p_1) (pre0 : p_1.length = 1) : Cal Try.prog 254 #[.string (bs (p_0)), .string (bs (p_1))] w fun v w' => v = .int .i64 ((g_internal_stringslite_Index p_0 p_1)) ∧ Ex w w' := by
 have hol3 : p_0.length ≤ 1073741824 := o1
 have hol4 : p_1.length ≤ 1073741824 := o2
 refine Cal.of (vs := [.string (bs (p_0)), .string (bs (p_1))]) Try.func254 rfl Try.ntmps254 rfl (CW.seq (CW.region (sd rfl (yl_assign rfl rfl (SeqR.done (tn (CW.seq (CW.region (sd rfl (yl_move rfl rfl ?_))))))))))
 refine sd rfl (yl_slen Try.un9 (a := p_1) rfl rfl (sd rfl (yl_assign rfl rfl (SeqR.done (tn (CW.seq (CW.block (CW.seq (CW.region (sd rfl (yl_move rfl rfl ?_)))))))))))
 refine sd rfl (yl_eql rfl rfl rfl (sd rfl (yl_move rfl rfl (sy rfl rfl (decide_eq_false (by omega)) (yl_move rfl rfl (sy rfl rfl (decide_eq_false (by omega)) (yl_move rfl rfl (sy rfl rfl (decide_eq_false (by omega)) (yl_seql (a := p_1) (b := p_0) rfl rfl rfl (sd rfl (yl_pick_f rfl rfl (decide_eq_false (by omega)) rfl (sd rfl (yl_assign rfl rfl (SeqR.done (tn ?_)))))))))))))))
 refine bcase (p_1 == p_0) (fun hb5 => ?_) (fun hb5 => ?_)
 ·refine CW.cond_t rfl hb5 (CW.seq (CW.region (sd rfl (yl_assign rfl rfl (SeqR.done (tn (CW.ret (br (tr ?_)))))))))
  refine rr rfl (.cons rfl .nil) ?_
  have hM6 : (g_internal_stringslite_Index p_0 p_1) = (0) := by simp only [g_internal_stringslite_Index, hb5, cond_true, cond_false, loopE_done, loopE_ret]
  rw [hM6]
  exact ⟨rfl, (Ex.refl w)⟩
 ·refine CW.cond_f rfl hb5 (CW.seq (CW.region (sd rfl (yl_move rfl rfl (sd rfl (yl_eql rfl rfl rfl (sd rfl (yl_assign rfl rfl (SeqR.done (tn (CW.cond_t rfl (decide_eq_true (by omega)) ?_)))))))))))
  refine CW.seq (CW.region (sd rfl (yl_move rfl rfl (sd rfl (yl_move rfl rfl (sd rfl (yl_sindexN Try.un9 (a := p_1) rfl rfl rfl (by first | omega | assumption | (simp only [IntKind.wrap_i64] at *; omega)) (sd rfl (yl_call Try.en257 rfl (opvs_cons rfl (opvs_cons rfl opvs_nil)) (Cal.mono (c_g_internal_stringslite_IndexByte p_0 ((p_1.getD 0 0).toNat : Int) o1) ?_))))))))))
  rintro v8 w7 ⟨rfl, hE9⟩
  have hE9z := Ex.size hE9
  refine sd rfl (yl_assign rfl rfl (SeqR.done (tn (CW.ret (br (tr (rr rfl (.cons rfl .nil) ?_)))))))
  have hM10 : (g_internal_stringslite_Index p_0 p_1) = ((g_internal_stringslite_IndexByte p_0 ((p_1.getD 0 0).toNat : Int))) := by simp only [g_internal_stringslite_Index, hb5, cond_true, cond_false, loopE_done, loopE_ret]
  rw [hM10]
  exact ⟨rfl, (Ex.trans (Ex.refl w) hE9)⟩
set_option maxRecDepth 100000 in
set_option maxHeartbeats 2000000 in
theorem c_g_internal_stringslite_Cut {w : World} (p_s : Str) (p_sep : Str) (o1 : okS p_s) (o2 : okS p_sep) (pre0 : p_sep.length = 1) : Cal Try.prog 244 #[.string (bs (p_s)), .string (bs (p_sep))] w fun v w' => v = .tuple #[.string (bs ((g_internal_stringslite_Cut p_s p_sep).1)), .string (bs ((g_internal_stringslite_Cut p_s p_sep).2.1)), .bool ((g_internal_stringslite_Cut p_s p_sep).2.2)] ∧ okS ((g_internal_stringslite_Cut p_s p_sep).1) ∧ okS ((g_internal_stringslite_Cut p_s p_sep).2.1) ∧ Ex w w' := by
 have hol3 : p_s.length ≤ 1073741824 := o1
 have hol4 : p_sep.length ≤ 1073741824 := o2
 refine Cal.of (vs := [.string (bs (p_s)), .string (bs (p_sep))]) Try.func244 rfl Try.ntmps244 rfl (CW.seq (CW.region (sd rfl (yl_assign rfl rfl (sd rfl (yl_assign rfl rfl (sd rfl (yl_assign rfl rfl (SeqR.done (tn (CW.seq ?_)))))))))))
 refine CW.seq (CW.region (sd rfl (yl_move rfl rfl (sd rfl (yl_move rfl rfl (sd rfl (yl_call Try.en254 rfl (opvs_cons rfl (opvs_cons rfl opvs_nil)) (Cal.mono (c_g_internal_stringslite_Index p_s p_sep o1 o2 (by first | omega | assumption | (simp only [IntKind.wrap_i64] at *; omega))) ?_))))))))
 rintro v6 w5 ⟨rfl, hE7⟩
 have hE7z := Ex.size hE7
 have hrf8 := rf_Index (s := p_s) (sub := p_sep) (by first | omega | assumption | (simp only [IntKind.wrap_i64] at *; omega))
 refine sd rfl (yl_assign rfl rfl (SeqR.done (tn (CW.seq (CW.region (sd rfl (yl_move rfl rfl (sd rfl (yl_geq rfl rfl rfl (SeqR.done (tn ?_)))))))))))
 refine bcase (decide (0 ≤ (g_internal_stringslite_Index p_s p_sep))) (fun hb9 => ?_) (fun hb9 => ?_)
 ·have hb9p := dec_t hb9
  have hb9q := f_Cut o1 pre0 hb9
  refine CW.cond_t rfl hb9 (CW.seq (CW.drawsI 12 (vgetI [DetI (.string (bs (p_s))), DetI (.int .i64 ((g_internal_stringslite_Index p_s p_sep))), DetI (.string (bs ((p_s.take (((g_internal_stringslite_Index p_s p_sep)).toNat))))), DetI (.string (bs (p_s))), DetI (.int .i64 ((g_internal_stringslite_Index p_s p_sep))), DetI (.string (bs (p_sep))), DetI (.int .i64 ((p_sep.length : Int))), DetI (.int .i64 (IntKind.wrap .i64 ((g_internal_stringslite_Index p_s p_sep) + (p_sep.length : Int)))), DetI (.string (bs ((p_s.drop ((IntKind.wrap .i64 ((g_internal_stringslite_Index p_s p_sep) + (p_sep.length : Int))).toNat))))), DetI (.string (bs ((p_s.take (((g_internal_stringslite_Index p_s p_sep)).toNat))))), DetI (.string (bs ((p_s.drop ((IntKind.wrap .i64 ((g_internal_stringslite_Index p_s p_sep) + (p_sep.length : Int))).toNat))))), DetI (.bool (true))]) Try.follows rfl rfl rfl rfl rfl rfl (vgetI_stable ⟨StableI.det _, StableI.det _, StableI.det _, StableI.det _, StableI.det _, StableI.det _, StableI.det _, StableI.det _, StableI.det _, StableI.det _, StableI.det _, StableI.det _, trivial⟩) ⟨?_, ?_, ?_, ?_, ?_, ?_, ?_, ?_, ?_, ?_, ?_, ?_, trivial⟩ ?_))
  ·exact fun _ _ h => os rfl ((yl_move rfl (h.old 0 _ rfl rfl) kI))
  ·exact fun _ _ h => os rfl ((yl_move rfl (h.old 7 _ rfl rfl) kI))
  ·intro L20 w21 hi22
   have hE23 := hi22.ex
   have hE23z := Ex.size hE23
   exact os rfl ((yl_sslice_hi Try.un9 (a := p_s) (h := ((g_internal_stringslite_Index p_s p_sep)).toNat) rfl (hi22.dt 0 13 rfl rfl rfl) (toNat_op (hi22.dt 1 14 rfl rfl rfl) (by omega)) (by omega) kI))
  ·exact fun _ _ h => os rfl ((yl_move rfl (h.old 0 _ rfl rfl) kI))
  ·exact fun _ _ h => os rfl ((yl_move rfl (h.old 7 _ rfl rfl) kI))
  ·exact fun _ _ h => os rfl ((yl_move rfl (h.old 1 _ rfl rfl) kI))
  ·exact fun _ _ h => os rfl ((yl_slen Try.un9 (a := p_sep) rfl (h.dt 5 18 rfl rfl rfl) kI))
  ·exact fun _ _ h => os rfl ((yl_add rfl (h.dt 4 17 rfl rfl rfl) (h.dt 6 19 rfl rfl rfl) kI))
  ·intro L52 w53 hi54
   have hE55 := hi54.ex
   have hE55z := Ex.size hE55
   exact os rfl ((yl_sslice_lo Try.un9 (a := p_s) (l := (IntKind.wrap .i64 ((g_internal_stringslite_Index p_s p_sep) + (p_sep.length : Int))).toNat) rfl (hi54.dt 3 16 rfl rfl rfl) (toNat_op (hi54.dt 7 20 rfl rfl rfl) (by omega)) (by omega) kI))
  ·exact fun _ _ h => os rfl ((yl_assign rfl (h.dt 2 15 rfl rfl rfl) kI))
  ·exact fun _ _ h => os rfl ((yl_assign rfl (h.dt 8 21 rfl rfl rfl) kI))
  ·exact fun _ _ h => os rfl ((yl_assign rfl rfl kI))
  ·intro fl75 fh76 L72 w73 hp74
   have hE77 := hp74.ex
   have hE77z := Ex.size hE77
   refine SeqR.done (tn (CW.sub (Sub.cons (d := 4) (hp74.nt 9 4 rfl rfl rfl) (Sub.cons (d := 5) (hp74.nt 10 5 rfl rfl rfl) (Sub.cons (d := 6) (hp74.nt 11 6 rfl rfl rfl) (Sub.nil _)))) (CW.ret (tr (rr rfl (.cons rfl (.cons rfl (.cons rfl .nil))) ?_)))))
   have hM81 : (g_internal_stringslite_Cut p_s p_sep) = (((p_s.take (((g_internal_stringslite_Index p_s p_sep)).toNat)), (p_s.drop ((IntKind.wrap .i64 ((g_internal_stringslite_Index p_s p_sep) + (p_sep.length : Int))).toNat)), true)) := by simp only [g_internal_stringslite_Cut, hb9, cond_true, cond_false, loopE_done, loopE_ret]
   rw [hM81]
   exact ⟨rfl, (okS.take o1 _), (okS.drop o1 _), (Ex.trans (Ex.trans (Ex.refl w) hE7) hE77)⟩
 ·have hb9p := dec_f hb9
  refine CW.cond_f rfl hb9 (CW.skip (tn (CW.seq (CW.region (sd rfl (yl_move rfl rfl (sd rfl (yl_assign rfl rfl (sd rfl (yl_assign rfl rfl (sd rfl (yl_assign rfl rfl ?_))))))))))))
  refine SeqR.done (tn (CW.ret (rr rfl (.cons rfl (.cons rfl (.cons rfl .nil))) ?_)))
  have hM84 : (g_internal_stringslite_Cut p_s p_sep) = ((p_s, ([] : Str), false)) := by simp only [g_internal_stringslite_Cut, hb9, cond_true, cond_false, loopE_done, loopE_ret]
  rw [hM84]
  exact ⟨rfl, o1, (okS.lit rfl), (Ex.trans (Ex.refl w) hE7)⟩
set_option maxRecDepth 100000 in
set_option maxHeartbeats 2000000 in
theorem c_g_strings_Cut {w : World} (p_s : Str) (p_sep : Str) (o1 : okS p_s) (o2 : okS p_sep) (pre0 : p_sep.length = 1) : Cal Try.prog 223 #[.string (bs (p_s)), .string (bs (p_sep))] w fun v w' => v = .tuple #[.string (bs ((g_strings_Cut p_s p_sep).1)), .string (bs ((g_strings_Cut p_s p_sep).2.1)), .bool ((g_strings_Cut p_s p_sep).2.2)] ∧ okS ((g_strings_Cut p_s p_sep).1) ∧ okS ((g_strings_Cut p_s p_sep).2.1) ∧ Ex w w' := by
 have hol3 : p_s.length ≤ 1073741824 := o1
 have hol4 : p_sep.length ≤ 1073741824 := o2
 refine Cal.of (vs := [.string (bs (p_s)), .string (bs (p_sep))]) Try.func223 rfl Try.ntmps223 rfl (CW.seq (CW.region (sd rfl (yl_assign rfl rfl (sd rfl (yl_assign rfl rfl (sd rfl (yl_assign rfl rfl (SeqR.done (tn (CW.seq ?_)))))))))))
 refine CW.region (sd rfl (yl_move rfl rfl (sd rfl (yl_move rfl rfl (sd rfl (yl_call Try.en244 rfl (opvs_cons rfl (opvs_cons rfl opvs_nil)) (Cal.mono (c_g_internal_stringslite_Cut p_s p_sep o1 o2 (by first | omega | assumption | (simp only [IntKind.wrap_i64] at *; omega))) ?_)))))))
 rintro v8 w5 ⟨rfl, ho6, ho7, hE9⟩
 have hE9z := Ex.size hE9
 refine sd rfl (yl_extract rfl rfl rfl (sd rfl (yl_extract rfl rfl rfl (sd rfl (yl_extract rfl rfl rfl (sd rfl (yl_assign rfl rfl (sd rfl (yl_assign rfl rfl (sd rfl (yl_assign rfl rfl (SeqR.done (tn (CW.ret ?_))))))))))))))
 refine rr rfl (.cons rfl (.cons rfl (.cons rfl .nil))) ?_
 have hM10 : (g_strings_Cut p_s p_sep) = (((g_internal_stringslite_Cut p_s p_sep).1, (g_internal_stringslite_Cut p_s p_sep).2.1, (g_internal_stringslite_Cut p_s p_sep).2.2)) := by simp only [g_strings_Cut, cond_true, cond_false, loopE_done, loopE_ret]
 rw [hM10]
 exact ⟨rfl, ho6, ho7, (Ex.trans (Ex.refl w) hE9)⟩
set_option maxRecDepth 100000 in
set_option maxHeartbeats 2000000 in
theorem c_i_Table_readIdxKey {A1 : Option Addr} {c1 : Nat} {A2 : Option Addr} {c2 : Nat} {w : World} (p_t : DTable) (p_name : Str) (p_key : Str) (h1 : RdS w (Iv 0 w.heap.size) (RF e_Str) 1 A1 p_t.Cols.length c1 p_t.Cols) (h2 : RdS w (Iv 0 w.heap.size) (RF e_Idx) 3 A2 p_t.Idxs.length c2 p_t.Idxs) (o3 : ok_Table p_t) (o4 : okS p_name) (o5 : okS p_key) (pre0 : (p_t.Name.length ≤ 1 ∧ p_name.length ≤ 1)) : Cal Try.prog 173 #[.agg #[.string (bs (p_t.Name)), .slice A1 p_t.Cols.length c1, .slice A2 p_t.Idxs.length c2], .string (bs (p_name)), .string (bs (p_key))] w fun v w' => v = .tuple #[.string (bs ((i_Table_readIdxKey p_t p_name p_key).1)), .string (bs ((i_Table_readIdxKey p_t p_name p_key).2.1)), .bool ((i_Table_readIdxKey p_t p_name p_key).2.2)] ∧ okS ((i_Table_readIdxKey p_t p_name p_key).1) ∧ okS ((i_Table_readIdxKey p_t p_name p_key).2.1) ∧ Ex w w' := by
 have hol6 : p_t.Name.length ≤ 1073741824 := o3.1
 have hol7 := o3.2.1.1
 have hol8 := o3.2.2.1
 have hol9 : p_name.length ≤ 1073741824 := o4
 have hol10 : p_key.length ≤ 1073741824 := o5
 refine Cal.of (vs := [.agg #[.string (bs (p_t.Name)), .slice A1 p_t.Cols.length c1, .slice A2 p_t.Idxs.length c2], .string (bs (p_name)), .string (bs (p_key))]) Try.func173 rfl Try.ntmps173 rfl (CW.seq (CW.region (sd rfl (yl_box (cs := [.string (bs (p_t.Name)), .slice A1 p_t.Cols.length c1, .slice A2 p_t.Idxs.length c2]) rfl rfl rfl ?_))))
 intro b11 w12 hs13 hz14 hB15 hE16
 refine sd rfl (yl_assign rfl rfl (sd rfl (yl_assign rfl rfl (sd rfl (yl_assign rfl rfl (SeqR.done (tn (CW.seq (CW.region (sd rfl (yl_move rfl rfl (sd rfl (yl_loadN (cs := [.string (bs (p_t.Name)), .slice A1 p_t.Cols.length c1, .slice A2 p_t.Idxs.length c2]) Try.ty65 rfl rfl (hB15.cells (n := 3) rfl) rfl ?_)))))))))))))
 refine sd rfl (yl_move rfl rfl (sd rfl (yl_call Try.en219 rfl (opvs_cons rfl (opvs_cons rfl opvs_nil)) (Cal.mono (c_i_Table_idxHead p_t p_name (RdS.up (RdS.ex good_Str h1 hE16) good_Str) (RdS.up (RdS.ex good_Idx h2 hE16) good_Idx) o3 o4) ?_))))
 rintro v20 w19 ⟨rfl, hE21⟩
 have hE21z := Ex.size hE21
 have hrf22 := rf_idxHead p_t p_name
 refine sd rfl (yl_call Try.en222 rfl (opvs_cons rfl (opvs_cons rfl opvs_nil)) (Cal.mono (c_g_strings_CutPrefix p_key (i_Table_idxHead p_t p_name) o5 (okS_idxHead pre0)) ?_))
 rintro v25 w23 ⟨rfl, ho24, hE26⟩
 have hE26z := Ex.size hE26
 refine sd rfl (yl_move rfl rfl (sd rfl (yl_extract rfl rfl rfl (sd rfl (yl_extract rfl rfl rfl (sd rfl (yl_assign rfl rfl (sd rfl (yl_assign rfl rfl (SeqR.done (tn (CW.seq (CW.region ?_)))))))))))))
 refine sd rfl (yl_move rfl rfl (sd rfl (yl_call Try.en223 rfl (opvs_cons rfl (opvs_cons rfl opvs_nil)) (Cal.mono (c_g_strings_Cut ((g_strings_CutPrefix p_key (i_Table_idxHead p_t p_name)).1) ([47] : Str) ho24 (okS.lit rfl) rfl) ?_))))
 rintro v30 w27 ⟨rfl, ho28, ho29, hE31⟩
 have hE31z := Ex.size hE31
 refine sd rfl (yl_move rfl rfl (sd rfl (yl_extract rfl rfl rfl (sd rfl (yl_extract rfl rfl rfl (sd rfl (yl_extract rfl rfl rfl (sd rfl (yl_assign rfl rfl (sd rfl (yl_assign rfl rfl (sd rfl (yl_assign rfl rfl (SeqR.done (tn ?_)))))))))))))))
 refine CW.seq (CW.seq (CW.region (sd rfl (yl_move rfl rfl (sd rfl (yl_not rfl rfl (sd rfl (yl_move rfl rfl (bcase ((g_strings_CutPrefix p_key (i_Table_idxHead p_t p_name)).2) (fun hb32 => ?_) (fun hb32 => ?_))))))))))
 ·refine sy rfl rfl (not_t hb32) (yl_move rfl rfl (sy rfl rfl (not_t hb32) (yl_not rfl rfl (sd rfl (yl_pick_f rfl rfl (not_t hb32) rfl (sd rfl (yl_move rfl rfl (bcase ((g_strings_Cut ((g_strings_CutPrefix p_key (i_Table_idxHead p_t p_name)).1) ([47] : Str)).2.2) (fun hb33 => ?_) (fun hb33 => ?_)))))))))
  ·refine sy rfl rfl (not_t hb33) (yl_move rfl rfl (sy rfl rfl (not_t hb33) (yl_call Try.en215 rfl (opvs_cons rfl opvs_nil) (Cal.mono (c_i_isField ((g_strings_Cut ((g_strings_CutPrefix p_key (i_Table_idxHead p_t p_name)).1) ([47] : Str)).1) ho28) ?_))))
   rintro v35 w34 ⟨rfl, hE36⟩
   have hE36z := Ex.size hE36
   refine sy rfl rfl (not_t hb33) (yl_not rfl rfl (sd rfl (yl_pick_f rfl rfl (not_t hb33) rfl (sd rfl (yl_move rfl rfl (bcase (i_isField ((g_strings_Cut ((g_strings_CutPrefix p_key (i_Table_idxHead p_t p_name)).1) ([47] : Str)).1)) (fun hb37 => ?_) (fun hb37 => ?_)))))))
   ·refine sy rfl rfl (not_t hb37) (yl_move rfl rfl (sy rfl rfl (not_t hb37) (yl_call Try.en215 rfl (opvs_cons rfl opvs_nil) (Cal.mono (c_i_isField ((g_strings_Cut ((g_strings_CutPrefix p_key (i_Table_idxHead p_t p_name)).1) ([47] : Str)).2.1) ho29) ?_))))
    rintro v39 w38 ⟨rfl, hE40⟩
    have hE40z := Ex.size hE40
    refine sy rfl rfl (not_t hb37) (yl_not rfl rfl (sd rfl (yl_pick_f rfl rfl (not_t hb37) rfl (SeqR.done (tn (bcase (i_isField ((g_strings_Cut ((g_strings_CutPrefix p_key (i_Table_idxHead p_t p_name)).1) ([47] : Str)).2.1)) (fun hb41 => ?_) (fun hb41 => ?_)))))))
    ·refine CW.cond_f rfl (not_t hb41) (CW.skip (tn (CW.seq (CW.region (sd rfl (yl_move rfl rfl (sd rfl (yl_move rfl rfl (sd rfl (yl_assign rfl rfl (sd rfl (yl_assign rfl rfl ?_))))))))))))
     refine sd rfl (yl_assign rfl rfl (SeqR.done (tn (CW.ret (rr rfl (.cons rfl (.cons rfl (.cons rfl .nil))) ?_)))))
     have hM42 : (i_Table_readIdxKey p_t p_name p_key) = (((g_strings_Cut ((g_strings_CutPrefix p_key (i_Table_idxHead p_t p_name)).1) ([47] : Str)).1, (g_strings_Cut ((g_strings_CutPrefix p_key (i_Table_idxHead p_t p_name)).1) ([47] : Str)).2.1, true)) := by simp only [i_Table_readIdxKey, hb32, hb33, hb37, hb41, cond_true, cond_false, loopE_done, loopE_ret]
     rw [hM42]
     exact ⟨rfl, ho28, ho29, (Ex.trans (Ex.trans (Ex.trans (Ex.trans (Ex.trans (Ex.trans (Ex.refl w) hE16) hE21) hE26) hE31) hE36) hE40)⟩
    ·refine CW.cond_t rfl (not_f hb41) (CW.seq (CW.region (sd rfl (yl_assign rfl rfl (sd rfl (yl_assign rfl rfl (sd rfl (yl_assign rfl rfl (SeqR.done (tn (CW.ret ?_)))))))))))
     refine tr (rr rfl (.cons rfl (.cons rfl (.cons rfl .nil))) ?_)
     have hM49 : (i_Table_readIdxKey p_t p_name p_key) = ((([] : Str), ([] : Str), false)) := by simp only [i_Table_readIdxKey, hb32, hb33, hb37, hb41, cond_true, cond_false, loopE_done, loopE_ret]
     rw [hM49]
     exact ⟨rfl, (okS.lit rfl), (okS.lit rfl), (Ex.trans (Ex.trans (Ex.trans (Ex.trans (Ex.trans (Ex.trans (Ex.refl w) hE16) hE21) hE26) hE31) hE36) hE40)⟩
   ·refine sz rfl rfl (not_f hb37) (sz rfl rfl (not_f hb37) (sz rfl rfl (not_f hb37) (sd rfl (yl_pick_t rfl rfl (not_f hb37) rfl (SeqR.done (tn (CW.cond_t rfl rfl (CW.seq (CW.region ?_)))))))))
    refine sd rfl (yl_assign rfl rfl (sd rfl (yl_assign rfl rfl (sd rfl (yl_assign rfl rfl (SeqR.done (tn (CW.ret (tr (rr rfl (.cons rfl (.cons rfl (.cons rfl .nil))) ?_))))))))))
    have hM56 : (i_Table_readIdxKey p_t p_name p_key) = ((([] : Str), ([] : Str), false)) := by simp only [i_Table_readIdxKey, hb32, hb33, hb37, cond_true, cond_false, loopE_done, loopE_ret]
    rw [hM56]
    exact ⟨rfl, (okS.lit rfl), (okS.lit rfl), (Ex.trans (Ex.trans (Ex.trans (Ex.trans (Ex.trans (Ex.refl w) hE16) hE21) hE26) hE31) hE36)⟩
  ·refine sz rfl rfl (not_f hb33) (sz rfl rfl (not_f hb33) (sz rfl rfl (not_f hb33) (sd rfl (yl_pick_t rfl rfl (not_f hb33) rfl (sd rfl (yl_move rfl rfl (sz rfl rfl rfl (sz rfl rfl rfl (sz rfl rfl rfl (sd rfl (yl_pick_t rfl rfl rfl rfl ?_)))))))))))
   refine SeqR.done (tn (CW.cond_t rfl rfl (CW.seq (CW.region (sd rfl (yl_assign rfl rfl (sd rfl (yl_assign rfl rfl (sd rfl (yl_assign rfl rfl (SeqR.done ?_)))))))))))
   refine tn (CW.ret (tr (rr rfl (.cons rfl (.cons rfl (.cons rfl .nil))) ?_)))
   have hM62 : (i_Table_readIdxKey p_t p_name p_key) = ((([] : Str), ([] : Str), false)) := by simp only [i_Table_readIdxKey, hb32, hb33, cond_true, cond_false, loopE_done, loopE_ret]
   rw [hM62]
   exact ⟨rfl, (okS.lit rfl), (okS.lit rfl), (Ex.trans (Ex.trans (Ex.trans (Ex.trans (Ex.refl w) hE16) hE21) hE26) hE31)⟩
 ·refine sz rfl rfl (not_f hb32) (sz rfl rfl (not_f hb32) (sd rfl (yl_pick_t rfl rfl (not_f hb32) rfl (sd rfl (yl_move rfl rfl (sz rfl rfl rfl (sz rfl rfl rfl (sz rfl rfl rfl (sd rfl (yl_pick_t rfl rfl rfl rfl (sd rfl (yl_move rfl rfl ?_))))))))))))
  refine sz rfl rfl rfl (sz rfl rfl rfl (sz rfl rfl rfl (sd rfl (yl_pick_t rfl rfl rfl rfl (SeqR.done (tn (CW.cond_t rfl rfl (CW.seq (CW.region ?_)))))))))
  refine sd rfl (yl_assign rfl rfl (sd rfl (yl_assign rfl rfl (sd rfl (yl_assign rfl rfl (SeqR.done (tn (CW.ret (tr (rr rfl (.cons rfl (.cons rfl (.cons rfl .nil))) ?_))))))))))
  have hM67 : (i_Table_readIdxKey p_t p_name p_key) = ((([] : Str), ([] : Str), false)) := by simp only [i_Table_readIdxKey, hb32, cond_true, cond_false, loopE_done, loopE_ret]
  rw [hM67]
  exact ⟨rfl, (okS.lit rfl), (okS.lit rfl), (Ex.trans (Ex.trans (Ex.trans (Ex.trans (Ex.refl w) hE16) hE21) hE26) hE31)⟩
set_option maxRecDepth 100000 in
set_option maxHeartbeats 2000000 in
theorem c_i_ReadIdxKey {A1 : Option Addr} {c1 : Nat} {A2 : Option Addr} {c2 : Nat} {w : World} (p_t : DTable) (p_name : Str) (p_key : Str) (h1 : RdS w (Iv 0 w.heap.size) (RF e_Str) 1 A1 p_t.Cols.length c1 p_t.Cols) (h2 : RdS w (Iv 0 w.heap.size) (RF e_Idx) 3 A2 p_t.Idxs.length c2 p_t.Idxs) (o3 : ok_Table p_t) (o4 : okS p_name) (o5 : okS p_key) : Cal Try.prog 115 #[.agg #[.string (bs (p_t.Name)), .slice A1 p_t.Cols.length c1, .slice A2 p_t.Idxs.length c2], .string (bs (p_name)), .string (bs (p_key))] w fun v w' => v = .tuple #[.string (bs ((i_ReadIdxKey p_t p_name p_key).1)), .string (bs ((i_ReadIdxKey p_t p_name p_key).2.1)), .bool ((i_ReadIdxKey p_t p_name p_key).2.2)] ∧ okS ((i_ReadIdxKey p_t p_name p_key).1) ∧ okS ((i_ReadIdxKey p_t p_name p_key).2.1) ∧ Ex w w' := by
 have hol6 : p_t.Name.length ≤ 1073741824 := o3.1
 have hol7 := o3.2.1.1
 have hol8 := o3.2.2.1
 have hol9 : p_name.length ≤ 1073741824 := o4
 have hol10 : p_key.length ≤ 1073741824 := o5
 refine Cal.of (vs := [.agg #[.string (bs (p_t.Name)), .slice A1 p_t.Cols.length c1, .slice A2 p_t.Idxs.length c2], .string (bs (p_name)), .string (bs (p_key))]) Try.func115 rfl Try.ntmps115 rfl (CW.seq (CW.region (sd rfl (yl_box (cs := [.string (bs (p_t.Name)), .slice A1 p_t.Cols.length c1, .slice A2 p_t.Idxs.length c2]) rfl rfl rfl ?_))))
 intro b11 w12 hs13 hz14 hB15 hE16
 refine sd rfl (yl_assign rfl rfl (sd rfl (yl_assign rfl rfl (sd rfl (yl_assign rfl rfl (SeqR.done (tn (CW.seq (CW.seq (CW.region (sd rfl (yl_loadN (cs := [.string (bs (p_t.Name)), .slice A1 p_t.Cols.length c1, .slice A2 p_t.Idxs.length c2]) Try.ty65 rfl rfl (hB15.cells (n := 3) rfl) rfl ?_))))))))))))
 refine sd rfl (yl_move rfl rfl ?_)
 have q17 := RdS.ex good_Str h1 hE16
 have q18 := RdS.ex good_Idx h2 hE16
 refine sd rfl (yl_call Try.en109 rfl (opvs_cons rfl (opvs_cons rfl opvs_nil)) (Cal.mono (c_i_hasIdx p_t p_name (RdS.up q17 good_Str) (RdS.up q18 good_Idx) o3 o4) ?_))
 rintro v20 w19 ⟨rfl, hE21⟩
 have hE21z := Ex.size hE21
 refine sd rfl (yl_not rfl rfl (SeqR.done (tn (bcase (i_hasIdx p_t p_name) (fun hb22 => ?_) (fun hb22 => ?_)))))
 ·obtain ⟨hb22p0, hb22p1, hb22p2⟩ := f_i_hasIdx hb22
  refine CW.cond_f rfl (not_t hb22) (CW.skip (tn (CW.seq (CW.region (sd rfl (yl_loadN (cs := [.string (bs (p_t.Name)), .slice A1 p_t.Cols.length c1, .slice A2 p_t.Idxs.length c2]) Try.ty65 rfl rfl ((Box.ex hB15 hE21).cells (n := 3) rfl) rfl (sd rfl (yl_move rfl rfl (sd rfl (yl_move rfl rfl (sd rfl (yl_call Try.en173 rfl (opvs_cons rfl (opvs_cons rfl (opvs_cons rfl opvs_nil))) (Cal.mono (c_i_Table_readIdxKey p_t p_name p_key (RdS.up (RdS.ex good_Str q17 hE21) good_Str) (RdS.up (RdS.ex good_Idx q18 hE21) good_Idx) o3 o4 o5 (by first | omega | assumption | (simp only [IntKind.wrap_i64] at *; omega))) ?_)))))))))))))
  rintro v29 w26 ⟨rfl, ho27, ho28, hE30⟩
  have hE30z := Ex.size hE30
  refine sd rfl (yl_extract rfl rfl rfl (sd rfl (yl_extract rfl rfl rfl (sd rfl (yl_extract rfl rfl rfl (sd rfl (yl_assign rfl rfl (sd rfl (yl_assign rfl rfl (sd rfl (yl_assign rfl rfl (SeqR.done (tn (CW.ret ?_))))))))))))))
  refine rr rfl (.cons rfl (.cons rfl (.cons rfl .nil))) ?_
  have hM31 : (i_ReadIdxKey p_t p_name p_key) = (((i_Table_readIdxKey p_t p_name p_key).1, (i_Table_readIdxKey p_t p_name p_key).2.1, (i_Table_readIdxKey p_t p_name p_key).2.2)) := by simp only [i_ReadIdxKey, hb22, cond_true, cond_false, loopE_done, loopE_ret]
  rw [hM31]
  exact ⟨rfl, ho27, ho28, (Ex.trans (Ex.trans (Ex.trans (Ex.refl w) hE16) hE21) hE30)⟩
 ·refine CW.cond_t rfl (not_f hb22) (CW.seq (CW.region (sd rfl (yl_assign rfl rfl (sd rfl (yl_assign rfl rfl (sd rfl (yl_assign rfl rfl (SeqR.done (tn (CW.ret ?_)))))))))))
  refine tr (rr rfl (.cons rfl (.cons rfl (.cons rfl .nil))) ?_)
  have hM35 : (i_ReadIdxKey p_t p_name p_key) = ((([] : Str), ([] : Str), false)) := by simp only [i_ReadIdxKey, hb22, cond_true, cond_false, loopE_done, loopE_ret]
  rw [hM35]
  exact ⟨rfl, (okS.lit rfl), (okS.lit rfl), (Ex.trans (Ex.trans (Ex.refl w) hE16) hE21)⟩
set_option maxRecDepth 100000 in
set_option maxHeartbeats 2000000 in
theorem c_i_ClearOps {A1 : Option Addr} {c1 : Nat} {A2 : Option Addr} {c2 : Nat} {w : World} (p_t : DTable) (p_name : Str) (p_key : Str) (h1 : RdS w (Iv 0 w.heap.size) (RF e_Str) 1 A1 p_t.Cols.length c1 p_t.Cols) (h2 : RdS w (Iv 0 w.heap.size) (RF e_Idx) 3 A2 p_t.Idxs.length c2 p_t.Idxs) (o3 : ok_Table p_t) (o4 : okS p_name) (o5 : okS p_key) : Cal Try.prog 46 #[.agg #[.string (bs (p_t.Name)), .slice A1 p_t.Cols.length c1, .slice A2 p_t.Idxs.length c2], .string (bs (p_name)), .string (bs (p_key))] w fun v w' => ∃ A_1 c_1 lo_1 hi_1, v = .tuple #[.slice A_1 (((i_ClearOps p_t p_name p_key).1).length) c_1, .bool ((i_ClearOps p_t p_name p_key).2)] ∧ OwnL w' lo_1 hi_1 163 4 (RF e_Op) A_1 (((i_ClearOps p_t p_name p_key).1).length) c_1 ((i_ClearOps p_t p_name p_key).1) ∧ (okL ok_Op) ((i_ClearOps p_t p_name p_key).1) ∧ (w.heap.size ≤ lo_1 ∧ lo_1 ≤ hi_1 ∧ hi_1 ≤ w'.heap.size) ∧ Ex w w' := by
 have hol6 : p_t.Name.length ≤ 1073741824 := o3.1
 have hol7 := o3.2.1.1
 have hol8 := o3.2.2.1
 have hol9 : p_name.length ≤ 1073741824 := o4
 have hol10 : p_key.length ≤ 1073741824 := o5
 refine Cal.of (vs := [.agg #[.string (bs (p_t.Name)), .slice A1 p_t.Cols.length c1, .slice A2 p_t.Idxs.length c2], .string (bs (p_name)), .string (bs (p_key))]) Try.func46 rfl Try.ntmps46 rfl (CW.seq (CW.region (sd rfl (yl_box (cs := [.string (bs (p_t.Name)), .slice A1 p_t.Cols.length c1, .slice A2 p_t.Idxs.length c2]) rfl rfl rfl ?_))))
 intro b11 w12 hs13 hz14 hB15 hE16
 refine sd rfl (yl_assign rfl rfl (sd rfl (yl_assign rfl rfl (SeqR.done (tn (CW.seq (CW.seq (CW.region (sd rfl (yl_loadN (cs := [.string (bs (p_t.Name)), .slice A1 p_t.Cols.length c1, .slice A2 p_t.Idxs.length c2]) Try.ty65 rfl rfl (hB15.cells (n := 3) rfl) rfl (sd rfl (yl_move rfl rfl ?_))))))))))))
 refine sd rfl (yl_move rfl rfl (sd rfl (yl_call Try.en115 rfl (opvs_cons rfl (opvs_cons rfl (opvs_cons rfl opvs_nil))) (Cal.mono (c_i_ReadIdxKey p_t p_name p_key (RdS.up (RdS.ex good_Str h1 hE16) good_Str) (RdS.up (RdS.ex good_Idx h2 hE16) good_Idx) o3 o4 o5) ?_))))
 rintro v22 w19 ⟨rfl, ho20, ho21, hE23⟩
 have hE23z := Ex.size hE23
 refine sd rfl (yl_move rfl rfl (sd rfl (yl_extract rfl rfl rfl (sd rfl (yl_extract rfl rfl rfl (sd rfl (yl_extract rfl rfl rfl (sd rfl (yl_assign rfl rfl (sd rfl (yl_assign rfl rfl (sd rfl (yl_assign rfl rfl (SeqR.done (tn ?_)))))))))))))))
 refine CW.seq (CW.region (sd rfl (yl_move rfl rfl (sd rfl (yl_not rfl rfl (SeqR.done (tn (bcase ((i_ReadIdxKey p_t p_name p_key).2.2) (fun hb24 => ?_) (fun hb24 => ?_)))))))))
 ·refine CW.cond_f rfl (not_t hb24) (CW.skip (tn (CW.seq (CW.region (sd rfl (yl_move rfl rfl (sd rfl (yl_build (cs := [.int .i64 (3), .string (bs (p_key)), .string (bs (([] : Str))), .int .i64 (0)]) rfl (opvs_cons rfl (opvs_cons rfl opvs_nil)) (by kernel_rfl) (sd rfl (yl_buildSlice (cs := [.int .i64 (3), .string (bs (p_key)), .string (bs (([] : Str))), .int .i64 (0)]) Try.un60 Try.ty163 (by decide) rfl (opvs_cons rfl opvs_nil) (by kernel_rfl) ?_))))))))))
  intro b25 w26 hs27 hz28 hB29 hE30
  have hO31 : OwnL w26 b25 (b25 + 1) 163 4 (RF e_Op) (some ⟨b25, 0, none⟩) 1 1 ([(⟨3, p_key, ([] : Str), 0⟩ : DOp)] : List DOp) := OwnL.of_box (S := fun _ => False) hB29 (Nat.le_refl _) (Nat.lt_succ_self _) (EncL.cons (c := [.int .i64 (3), .string (bs (p_key)), .string (bs (([] : Str))), .int .i64 (0)]) rfl rfl EncL.nil) (Nat.le_of_ble_eq_true rfl) (fun h => h) (fun _ h => False.elim h)
  refine sd rfl (yl_assign rfl rfl (sd rfl (yl_assign rfl rfl (SeqR.done (tn (CW.ret (rr rfl (.cons rfl (.cons rfl .nil)) ?_)))))))
  have hM32 : (i_ClearOps p_t p_name p_key) = ((([(⟨3, p_key, ([] : Str), 0⟩ : DOp)] : List DOp), true)) := by simp only [i_ClearOps, hb24, cond_true, cond_false, loopE_done, loopE_ret]
  have hfx33 := (hO31).1
  rw [hM32]
  exact ⟨(some ⟨b25, 0, none⟩), 1, b25, (b25 + 1), (by first | rfl | (simp only [List.length_replicate, List.length_set]; done) | (simp only [List.length_replicate, List.length_set]; rfl) | rw [hfx33]), (OwnL.fix hO31), (okL.mk (Nat.le_of_ble_eq_true rfl) (okE.cons ⟨o5, (okS.lit rfl)⟩ okE.nil)), (by omega), (Ex.trans (Ex.trans (Ex.trans (Ex.refl w) hE16) hE23) hE30)⟩
 ·refine CW.cond_t rfl (not_f hb24) (CW.seq (CW.region (sd rfl (yl_assign rfl rfl (sd rfl (yl_assign rfl rfl (SeqR.done (tn (CW.ret (tr ?_))))))))))
  refine rr rfl (.cons rfl (.cons rfl .nil)) ?_
  have hM37 : (i_ClearOps p_t p_name p_key) = ((([] : List DOp), false)) := by simp only [i_ClearOps, hb24, cond_true, cond_false, loopE_done, loopE_ret]
  rw [hM37]
  exact ⟨none, 0, w19.heap.size, w19.heap.size, rfl, (OwnL.nil _ _ _ _ _ _), (okL.nil _), (by omega), (Ex.trans (Ex.trans (Ex.refl w) hE16) hE23)⟩
set_option maxRecDepth 100000 in
set_option maxHeartbeats 2000000 in
theorem c_l_FnExactClearOps {A1 : Option Addr} {c1 : Nat} {A2 : Option Addr} {c2 : Nat} {w : World} (p_0 : DTable) (p_1 : Str) (p_2 : Str) (h1 : RdS w (Iv 0 w.heap.size) (RF e_Str) 1 A1 p_0.Cols.length c1 p_0.Cols) (h2 : RdS w (Iv 0 w.heap.size) (RF e_Idx) 3 A2 p_0.Idxs.length c2 p_0.Idxs) (pre0 : wf_Table p_0) (pre1 : wfS p_1) (pre2 : wfS p_2) : Cal Try.prog 8 #[.agg #[.string (bs (p_0.Name)), .slice A1 p_0.Cols.length c1, .slice A2 p_0.Idxs.length c2], .string (bs (p_1)), .string (bs (p_2))] w fun v w' => v = .bool ((l_FnExactClearOps p_0 p_1 p_2)) ∧ Ex w w' := by
 refine Cal.of (vs := [.agg #[.string (bs (p_0.Name)), .slice A1 p_0.Cols.length c1, .slice A2 p_0.Idxs.length c2], .string (bs (p_1)), .string (bs (p_2))]) Try.func8 rfl Try.ntmps8 rfl (CW.seq (CW.region (sd rfl (yl_box (cs := [.string (bs (p_0.Name)), .slice A1 p_0.Cols.length c1, .slice A2 p_0.Idxs.length c2]) rfl rfl rfl ?_))))
 intro b3 w4 hs5 hz6 hB7 hE8
 refine sd rfl (yl_assign rfl rfl (SeqR.done (tn (CW.seq (CW.seq (CW.region (sd rfl (yl_move rfl rfl (sd rfl (yl_slen Try.un9 (a := p_1) rfl rfl (sd rfl (yl_gtr rfl rfl rfl ?_))))))))))))
 refine SeqR.done (tn (bcase (decide (1048576 < (p_1.length : Int))) (fun hb9 => ?_) (fun hb9 => ?_)))
 ·have hb9p := dec_t hb9
  refine CW.cond_t rfl hb9 (CW.seq (CW.region (sd rfl (yl_assign rfl rfl (SeqR.done (tn (CW.ret (tr (rr rfl (.cons rfl .nil) ?_)))))))))
  have hM10 : (l_FnExactClearOps p_0 p_1 p_2) = (true) := by simp only [l_FnExactClearOps, hb9, cond_true, cond_false, loopE_done, loopE_ret]
  rw [hM10]
  exact ⟨rfl, (Ex.trans (Ex.refl w) hE8)⟩
 ·have hb9p := dec_f hb9
  refine CW.cond_f rfl hb9 (CW.skip (tn (CW.seq (CW.seq (CW.region (sd rfl (yl_move rfl rfl (sd rfl (yl_slen Try.un9 (a := p_2) rfl rfl (sd rfl (yl_gtr rfl rfl rfl ?_)))))))))))
  refine SeqR.done (tn (bcase (decide (1048576 < (p_2.length : Int))) (fun hb12 => ?_) (fun hb12 => ?_)))
  ·have hb12p := dec_t hb12
   refine CW.cond_t rfl hb12 (CW.seq (CW.region (sd rfl (yl_assign rfl rfl (SeqR.done (tn (CW.ret (tr (rr rfl (.cons rfl .nil) ?_)))))))))
   have hM13 : (l_FnExactClearOps p_0 p_1 p_2) = (true) := by simp only [l_FnExactClearOps, hb9, hb12, cond_true, cond_false, loopE_done, loopE_ret]
   rw [hM13]
   exact ⟨rfl, (Ex.trans (Ex.refl w) hE8)⟩
  ·have hb12p := dec_f hb12
   refine CW.cond_f rfl hb12 (CW.skip (tn (CW.seq (CW.region (sd rfl (yl_assign rfl rfl (SeqR.done (tn (CW.seq ?_)))))))))
   refine CW.region (sd rfl (yl_loadN (cs := [.string (bs (p_0.Name)), .slice A1 p_0.Cols.length c1, .slice A2 p_0.Idxs.length c2]) Try.ty55 rfl rfl (hB7.cells (n := 3) rfl) rfl (sd rfl (yl_move rfl rfl ?_))))
   have q15 := RdS.ex good_Str h1 hE8
   have q16 := RdS.ex good_Idx h2 hE8
   refine sd rfl (yl_call Try.en32 rfl (opvs_cons rfl (opvs_cons rfl opvs_nil)) (Cal.mono (c_l_szTable p_0 1048576 (RdS.up q15 good_Str) (RdS.up q16 good_Idx)) ?_))
   rintro v18 w17 ⟨rfl, hE19⟩
   have hE19z := Ex.size hE19
   refine sd rfl (yl_assign rfl rfl (SeqR.done (tn (CW.seq (CW.seq (CW.region (sd rfl (yl_move rfl rfl (sd rfl (yl_lss rfl rfl rfl (SeqR.done ?_)))))))))))
   refine tn (bcase (decide ((l_szTable p_0 1048576) < 0)) (fun hb20 => ?_) (fun hb20 => ?_))
   ·have hb20p := dec_t hb20
    refine CW.cond_t rfl hb20 (CW.seq (CW.region (sd rfl (yl_assign rfl rfl (SeqR.done (tn (CW.ret (tr (rr rfl (.cons rfl .nil) ?_)))))))))
    have hM21 : (l_FnExactClearOps p_0 p_1 p_2) = (true) := by simp only [l_FnExactClearOps, hb9, hb12, hb20, cond_true, cond_false, loopE_done, loopE_ret]
    rw [hM21]
    exact ⟨rfl, (Ex.trans (Ex.trans (Ex.refl w) hE8) hE19)⟩
   ·have hb20p := dec_f hb20
    refine CW.cond_f rfl hb20 (CW.skip (tn (CW.seq (CW.region ?_))))
    have q24 := Box.ex hB7 hE19
    refine sd rfl (yl_loadN (cs := [.string (bs (p_0.Name)), .slice A1 p_0.Cols.length c1, .slice A2 p_0.Idxs.length c2]) Try.ty55 rfl rfl (q24.cells (n := 3) rfl) rfl ?_)
    have q25 := RdS.ex good_Str q15 hE19
    have q26 := RdS.ex good_Idx q16 hE19
    refine sd rfl (yl_call Try.en35 rfl (opvs_cons rfl opvs_nil) (Cal.mono (c_l_toTable p_0 (RdS.up q25 good_Str) (RdS.up q26 good_Idx) ((szok_Table pre0 (by decide) (dec_f hb20)).1)) ?_))
    rintro v30 w27 ⟨A28, c28, lo28, hi28, A29, c29, lo29, hi29, rfl, h28, h29, hrn32, hrn33, hrn34, hE31⟩
    have hE31z := Ex.size hE31
    refine sd rfl (yl_move rfl rfl (sd rfl (yl_move rfl rfl (sd rfl (yl_call Try.en45 rfl (opvs_cons rfl (opvs_cons rfl (opvs_cons rfl opvs_nil))) (Cal.mono (c_s_ClearOps p_0 p_1 p_2 (RdS.up (OwnL.rd good_Str h28) good_Str) (RdS.up (OwnL.rd good_Idx h29) good_Idx) ((szok_Table pre0 (by decide) (dec_f hb20)).1) (by unfold okS; omega) (by unfold okS; omega)) ?_))))))
    rintro v40 w37 ⟨A38, c38, lo38, hi38, rfl, h38, ho39, hrn42, hE41⟩
    have hE41z := Ex.size hE41
    refine sd rfl (yl_move rfl rfl (sd rfl (yl_extract rfl rfl rfl (sd rfl (yl_extract rfl rfl rfl (sd rfl (yl_assign rfl rfl (sd rfl (yl_assign rfl rfl (SeqR.done (tn (CW.seq (CW.region ?_)))))))))))))
    have q44 := Box.ex (Box.ex q24 hE31) hE41
    refine sd rfl (yl_loadN (cs := [.string (bs (p_0.Name)), .slice A1 p_0.Cols.length c1, .slice A2 p_0.Idxs.length c2]) Try.ty55 rfl rfl (q44.cells (n := 3) rfl) rfl ?_)
    have q46 := RdS.ex good_Str (RdS.ex good_Str q25 hE31) hE41
    have q48 := RdS.ex good_Idx (RdS.ex good_Idx q26 hE31) hE41
    refine sd rfl (yl_call Try.en35 rfl (opvs_cons rfl opvs_nil) (Cal.mono (c_l_toTable p_0 (RdS.up q46 good_Str) (RdS.up q48 good_Idx) ((szok_Table pre0 (by decide) (dec_f hb20)).1)) ?_))
    rintro v52 w49 ⟨A50, c50, lo50, hi50, A51, c51, lo51, hi51, rfl, h50, h51, hrn54, hrn55, hrn56, hE53⟩
    have hE53z := Ex.size hE53
    refine sd rfl (yl_alloc Try.ty65 (cs := [.string (bs (([] : Str))), .slice none 0 0, .slice none 0 0]) rfl rfl ?_)
    intro b57 w58 hs59 hz60 hB61 hE62
    refine SeqR.u rfl rfl (yl_store (vs := [.string (bs (p_0.Name)), .slice A50 p_0.Cols.length c50, .slice A51 p_0.Idxs.length c51]) Try.ty65 rfl rfl rfl rfl rfl rfl hB61 (Nat.le_of_ble_eq_true rfl) ?_)
    intro w63 hB64 hO65
    have hB64 : Box w63 b57 65 [.string (bs (p_0.Name)), .slice A50 p_0.Cols.length c50, .slice A51 p_0.Idxs.length c51] := hB64
    have hO65z := hO65.size
    refine SeqR.done (tn (CW.seq (CW.region (sd rfl (yl_loadN (cs := [.string (bs (p_0.Name)), .slice A50 p_0.Cols.length c50, .slice A51 p_0.Idxs.length c51]) Try.ty65 rfl rfl (hB64.cells (n := 3) rfl) rfl (sd rfl (yl_move rfl rfl (sd rfl (yl_move rfl rfl ?_)))))))))
    have q68 := OwnL.only good_Str (OwnL.ex good_Str h50 hE62) hO65 (by omega)
    have q71 := OwnL.only good_Idx (OwnL.ex good_Idx h51 hE62) hO65 (by omega)
    refine sd rfl (yl_call Try.en46 rfl (opvs_cons rfl (opvs_cons rfl (opvs_cons rfl opvs_nil))) (Cal.mono (c_i_ClearOps p_0 p_1 p_2 (RdS.up (OwnL.rd good_Str q68) good_Str) (RdS.up (OwnL.rd good_Idx q71) good_Idx) ((szok_Table pre0 (by decide) (dec_f hb20)).1) (by unfold okS; omega) (by unfold okS; omega)) ?_))
    rintro v75 w72 ⟨A73, c73, lo73, hi73, rfl, h73, ho74, hrn77, hE76⟩
    have hE76z := Ex.size hE76
    refine sd rfl (yl_move rfl rfl (sd rfl (yl_extract rfl rfl rfl (sd rfl (yl_extract rfl rfl rfl (sd rfl (yl_assign rfl rfl (sd rfl (yl_assign rfl rfl (SeqR.done (tn (CW.seq (CW.seq ?_)))))))))))))
    refine CW.region (sd rfl (yl_move rfl rfl (sd rfl (yl_move rfl rfl ?_))))
    have q83 := OwnL.ex good_Op (OwnL.only good_Op (OwnL.ex good_Op (OwnL.ex good_Op h38 hE53) hE62) hO65 (by omega)) hE76
    refine sd rfl (yl_call Try.en38 rfl (opvs_cons rfl (opvs_cons rfl opvs_nil)) (Cal.mono (c_l_eqOpS ((i_ClearOps p_0 p_1 p_2).1) ((s_ClearOps p_0 p_1 p_2).1) (RdS.up (OwnL.rd good_Op h73) good_Op) (RdS.up (OwnL.rd good_Op q83) good_Op)) ?_))
    rintro v85 w84 ⟨rfl, hE86⟩
    have hE86z := Ex.size hE86
    refine sd rfl (yl_not rfl rfl (sd rfl (yl_move rfl rfl (bcase (l_eqOpS ((i_ClearOps p_0 p_1 p_2).1) ((s_ClearOps p_0 p_1 p_2).1)) (fun hb87 => ?_) (fun hb87 => ?_)))))
    ·refine sy rfl rfl (not_t hb87) (yl_move rfl rfl (sy rfl rfl (not_t hb87) (yl_move rfl rfl (sy rfl rfl (not_t hb87) (yl_bneq Try.un4 rfl rfl rfl (sd rfl (yl_pick_f rfl rfl (not_t hb87) rfl (SeqR.done (tn (bcase (((i_ClearOps p_0 p_1 p_2).2) == ((s_ClearOps p_0 p_1 p_2).2)) (fun hb88 => ?_) (fun hb88 => ?_)))))))))))
     ·refine CW.cond_f rfl (not_t hb88) (CW.skip (tn (CW.seq (CW.seq ?_))))
      have q90 := Box.ex (Box.ex hB64 hE76) hE86
      have q95 := Box.ex (Box.ex (Box.only (Box.ex (Box.ex q44 hE53) hE62) hO65 (by omega)) hE76) hE86
      have q100 := RdS.ex good_Str (RdS.ex good_Str (RdS.only good_Str (RdS.ex good_Str (RdS.ex good_Str q46 hE53) hE62) hO65 (by simp only [Iv]; omega)) hE76) hE86
      have q105 := RdS.ex good_Idx (RdS.ex good_Idx (RdS.only good_Idx (RdS.ex good_Idx (RdS.ex good_Idx q48 hE53) hE62) hO65 (by simp only [Iv]; omega)) hE76) hE86
      have q111 := OwnL.ex good_Str (OwnL.ex good_Str q68 hE76) hE86
      have q114 := OwnL.ex good_Idx (OwnL.ex good_Idx q71 hE76) hE86
      refine CW.drawsI 5 (vgetI [DetI (.agg #[.string (bs (p_0.Name)), .slice A50 p_0.Cols.length c50, .slice A51 p_0.Idxs.length c51]), DetI (.agg #[.string (bs (p_0.Name)), .slice A1 p_0.Cols.length c1, .slice A2 p_0.Idxs.length c2]), fun lo hi v wq => ∃ A107 c107 lo107 hi107 A108 c108 lo108 hi108, v = .agg #[.string (bs (p_0.Name)), .slice A107 p_0.Cols.length c107, .slice A108 p_0.Idxs.length c108] ∧ OwnL wq lo107 hi107 9 1 (RF e_Str) A107 p_0.Cols.length c107 p_0.Cols ∧ OwnL wq lo108 hi108 152 3 (RF e_Idx) A108 p_0.Idxs.length c108 p_0.Idxs ∧ (lo ≤ lo107 ∧ lo107 ≤ hi107 ∧ hi107 ≤ hi) ∧ (lo ≤ lo108 ∧ lo108 ≤ hi108 ∧ hi108 ≤ hi) ∧ (hi107 ≤ lo108 ∨ hi108 ≤ lo107), DetI (.bool ((l_eqTable p_0 p_0))), DetI (.bool (!(l_eqTable p_0 p_0)))]) Try.follows rfl rfl rfl rfl rfl rfl (vgetI_stable ⟨StableI.det _, StableI.det _, (fun _ _ _ _ _ ⟨A107, c107, lo107, hi107, A108, c108, lo108, hi108, hv, h107, h108, hr0, hr1, hr2⟩ e => ⟨A107, c107, lo107, hi107, A108, c108, lo108, hi108, hv, OwnL.ex good_Str h107 e, OwnL.ex good_Idx h108 e, hr0, hr1, hr2⟩), StableI.det _, StableI.det _, trivial⟩) ⟨?_, ?_, ?_, ?_, ?_, trivial⟩ ?_
      ·exact fun _ _ h => os rfl ((yl_loadN (cs := [.string (bs (p_0.Name)), .slice A50 p_0.Cols.length c50, .slice A51 p_0.Idxs.length c51]) Try.ty65 rfl (h.old 10 _ rfl rfl) ((Box.ex q90 h.ex).cells (n := 3) rfl) rfl kI))
      ·exact fun _ _ h => os rfl ((yl_loadN (cs := [.string (bs (p_0.Name)), .slice A1 p_0.Cols.length c1, .slice A2 p_0.Idxs.length c2]) Try.ty55 rfl (h.old 3 _ rfl rfl) ((Box.ex q95 h.ex).cells (n := 3) rfl) rfl kI))
      ·intro L128 w129 hi130
       have hE131 := hi130.ex
       refine OpR.op' rfl (yl_call Try.en35 rfl (opvs_cons (hi130.dt 1 56 rfl rfl rfl) opvs_nil) (Cal.mono (c_l_toTable p_0 (RdS.up (RdS.ex good_Str q100 hE131) good_Str) (RdS.up (RdS.ex good_Idx q105 hE131) good_Idx) ((szok_Table pre0 (by decide) (dec_f hb20)).1)) ?_))
       rintro v138 w135 ⟨A136, c136, lo136, hi136, A137, c137, lo137, hi137, rfl, h136, h137, hrn140, hrn141, hrn142, hE139⟩
       exact ⟨⟨A136, c136, lo136, hi136, A137, c137, lo137, hi137, rfl, h136, h137, hrn140, hrn141, hrn142⟩, hE139⟩
      ·intro L143 w144 hi145
       have hE146 := hi145.ex
       obtain ⟨lo149, hh150, _, hx148, hr151, hr152, hr153, A107_154, c107_155, lo107_156, hi107_157, A108_158, c108_159, lo108_160, hi108_161, rfl, h162, h163, hrn164, hrn165, hrn166⟩ := hi145.dep 2 57 rfl rfl
       refine OpR.op' rfl (yl_call Try.en39 rfl (opvs_cons (hi145.dt 0 55 rfl rfl rfl) (opvs_cons hx148 opvs_nil)) (Cal.mono (c_l_eqTable p_0 p_0 (RdS.up (OwnL.rd good_Str (OwnL.ex good_Str q111 hE146)) good_Str) (RdS.up (OwnL.rd good_Idx (OwnL.ex good_Idx q114 hE146)) good_Idx) (RdS.up (OwnL.rd good_Str h162) good_Str) (RdS.up (OwnL.rd good_Idx h163) good_Idx)) ?_))
       rintro v174 w173 ⟨rfl, hE175⟩
       exact ⟨rfl, hE175⟩
      ·exact fun _ _ h => os rfl ((yl_not rfl (h.dt 3 58 rfl rfl rfl) kI))
      ·intro fl184 fh185 L181 w182 hp183
       have hE186 := hp183.ex
       have hE186z := Ex.size hE186
       have hr196 := hp183.rng 2 rfl
       obtain ⟨_, hx195, A107_197, c107_198, lo107_199, hi107_200, A108_201, c108_202, lo108_203, hi108_204, rfl, h205, h206, hrn207, hrn208, hrn209⟩ := hp183.new 2 57 rfl rfl
       refine SeqR.done (tn (CW.sub (Sub.cons (d := 1) (hp183.old 1 _ rfl rfl) (Sub.cons (d := 2) (hp183.old 2 _ rfl rfl) (Sub.cons (d := 3) (hp183.old 3 _ rfl rfl) (Sub.cons (d := 8) (hp183.old 8 _ rfl rfl) (Sub.cons (d := 9) (hp183.old 9 _ rfl rfl) (Sub.cons (d := 10) (hp183.old 10 _ rfl rfl) (Sub.cons (d := 11) (hp183.old 11 _ rfl rfl) (Sub.cons (d := 12) (hp183.old 12 _ rfl rfl) (Sub.cons (d := 59) (hp183.nt 4 59 rfl rfl rfl) (Sub.nil _)))))))))) (bcase (l_eqTable p_0 p_0) (fun hb211 => ?_) (fun hb211 => ?_))))
       ·refine CW.cond_f rfl (not_t hb211) (CW.skip (tn (CW.seq (CW.region (sd rfl (yl_assign rfl rfl (SeqR.done (tn (CW.seq ?_)))))))))
        refine CW.region (sd rfl (yl_loadN (cs := [.string (bs (p_0.Name)), .slice A50 p_0.Cols.length c50, .slice A51 p_0.Idxs.length c51]) Try.ty65 rfl rfl ((Box.ex q90 hE186).cells (n := 3) rfl) rfl (sd rfl (yl_move rfl rfl (sd rfl (yl_call Try.en41 rfl (opvs_cons rfl (opvs_cons rfl opvs_nil)) (Cal.mono (c_l_markTable p_0 1 (OwnL.ex good_Str q111 hE186) (OwnL.ex good_Idx q114 hE186) (by omega) (by omega) (by omega) (by first | omega | assumption | (simp only [IntKind.wrap_i64] at *; omega))) ?_)))))))
        rintro v216 w215 ⟨rfl, h218, h219, hm217⟩
        have hm217z := Mut.size hm217
        have hrf220 := rf_markTable p_0 1 (by first | omega | assumption | (simp only [IntKind.wrap_i64] at *; omega))
        refine sd rfl (yl_assign rfl rfl (SeqR.done (tn (CW.seq (CW.seq (CW.region (sd rfl (yl_move rfl rfl (sd rfl (yl_lss rfl rfl rfl (sd rfl (yl_move rfl rfl ?_))))))))))))
        refine bcase (decide (((l_markTable p_0 1).1) < 0)) (fun hb221 => ?_) (fun hb221 => ?_)
        ·have hb221p := dec_t hb221
         refine sz rfl rfl hb221 (sz rfl rfl hb221 (sz rfl rfl hb221 (sz rfl rfl hb221 (sd rfl (yl_pick_t rfl rfl hb221 rfl (sd rfl (yl_move rfl rfl (sz rfl rfl rfl (sz rfl rfl rfl (sz rfl rfl rfl ?_))))))))))
         refine sd rfl (yl_pick_t rfl rfl rfl rfl (SeqR.done (tn (CW.cond_t rfl rfl (CW.seq (CW.region (sd rfl (yl_assign rfl rfl (SeqR.done (tn ?_))))))))))
         refine CW.ret (tr (rr rfl (.cons rfl .nil) ?_))
         have hM222 : (l_FnExactClearOps p_0 p_1 p_2) = (false) := by simp only [l_FnExactClearOps, hb9, hb12, hb20, hb87, hb88, hb211, hb221, cond_true, cond_false, loopE_done, loopE_ret]
         rw [hM222]
         exact ⟨rfl, (Ex.mut (Ex.trans (Ex.trans (Ex.trans (Below.only (Ex.trans (Ex.trans (Ex.trans (Ex.trans (Ex.trans (Ex.trans (Ex.refl w) hE8) hE19) hE31) hE41) hE53) hE62) hO65 (by omega)) hE76) hE86) hE186) hm217 (fun k hk => by simp only [InR, or_false] at hk; omega))⟩
        ·have hb221p := dec_f hb221
         refine sy rfl rfl hb221 (yl_move rfl rfl (sy rfl rfl hb221 (yl_move rfl rfl ?_)))
         have q237 := OwnL.mut good_Op (OwnL.ex good_Op (OwnL.ex good_Op h73 hE86) hE186) hm217 (fun k hk => by simp only [InR, or_false] at hk; omega)
         have q241 := OwnL.mut good_Op (OwnL.ex good_Op (OwnL.ex good_Op q83 hE86) hE186) hm217 (fun k hk => by simp only [InR, or_false] at hk; omega)
         refine sy rfl rfl hb221 (yl_call Try.en38 rfl (opvs_cons rfl (opvs_cons rfl opvs_nil)) (Cal.mono (c_l_eqOpS ((i_ClearOps p_0 p_1 p_2).1) ((s_ClearOps p_0 p_1 p_2).1) (RdS.up (OwnL.rd good_Op q237) good_Op) (RdS.up (OwnL.rd good_Op q241) good_Op)) ?_))
         rintro v243 w242 ⟨rfl, hE244⟩
         have hE244z := Ex.size hE244
         refine sy rfl rfl hb221 (yl_not rfl rfl (sd rfl (yl_pick_f rfl rfl hb221 rfl (sd rfl (yl_move rfl rfl (sy rfl rfl (not_t hb87) (yl_move rfl rfl (sy rfl rfl (not_t hb87) (yl_move rfl rfl (sy rfl rfl (not_t hb87) (yl_bneq Try.un4 rfl rfl rfl (sd rfl (yl_pick_f rfl rfl (not_t hb87) rfl (SeqR.done (tn ?_)))))))))))))))
         refine CW.cond_f rfl (not_t hb88) (CW.skip (tn (CW.seq (CW.region (sd rfl (yl_assign rfl rfl (SeqR.done (tn (CW.seq ?_)))))))))
         refine CW.region (sd rfl (yl_move rfl rfl (sd rfl (yl_move rfl rfl (sd rfl (yl_call Try.en43 rfl (opvs_cons rfl (opvs_cons rfl opvs_nil)) (Cal.mono (c_l_markOpS ((i_ClearOps p_0 p_1 p_2).1) 1 (OwnL.ex good_Op q237 hE244) (by omega) (by first | omega | assumption | (simp only [IntKind.wrap_i64] at *; omega))) ?_)))))))
         rintro v247 w246 ⟨rfl, h249, hm248⟩
         have hm248z := Mut.size hm248
         have hrf250 := rf_markOpS ((i_ClearOps p_0 p_1 p_2).1) 1 (by first | omega | assumption | (simp only [IntKind.wrap_i64] at *; omega))
         refine sd rfl (yl_assign rfl rfl (SeqR.done (tn (CW.seq (CW.region (sd rfl (yl_assign rfl rfl (SeqR.done (tn (CW.seq ?_))))))))))
         refine CW.region (sd rfl (yl_move rfl rfl (sd rfl (yl_move rfl rfl ?_))))
         have hle251 := OwnL.len h249
         refine sd rfl (yl_call Try.en44 rfl (opvs_cons rfl (opvs_cons rfl opvs_nil)) (Cal.mono (Cal.args (by rw [← hle251] <;> rfl) (c_l_heldOpS ((l_markOpS ((i_ClearOps p_0 p_1 p_2).1) 1).2) 1 (RdS.fix (RdS.up (OwnL.rd good_Op h249) good_Op)) (by first | omega | assumption | (simp only [IntKind.wrap_i64] at *; omega)))) ?_))
         rintro v254 w253 ⟨rfl, hE255⟩
         have hE255z := Ex.size hE255
         have hrf256 := rf_heldOpS ((l_markOpS ((i_ClearOps p_0 p_1 p_2).1) 1).2) 1 (by first | omega | assumption | (simp only [IntKind.wrap_i64] at *; omega))
         refine sd rfl (yl_assign rfl rfl (SeqR.done (tn (CW.seq (CW.seq (CW.region (sd rfl (yl_move rfl rfl (sd rfl (yl_lss rfl rfl rfl (SeqR.done ?_)))))))))))
         refine tn (bcase (decide ((l_heldOpS ((l_markOpS ((i_ClearOps p_0 p_1 p_2).1) 1).2) 1) < 0)) (fun hb257 => ?_) (fun hb257 => ?_))
         ·have hb257p := dec_t hb257
          refine CW.cond_t rfl hb257 (CW.seq (CW.region (sd rfl (yl_assign rfl rfl (SeqR.done (tn (CW.ret (tr (rr rfl (.cons rfl .nil) ?_)))))))))
          have hM258 : (l_FnExactClearOps p_0 p_1 p_2) = (false) := by simp only [l_FnExactClearOps, hb9, hb12, hb20, hb87, hb88, hb211, hb221, hb257, cond_true, cond_false, loopE_done, loopE_ret]
          rw [hM258]
          exact ⟨rfl, (Ex.trans (Ex.mut (Ex.trans (Ex.mut (Ex.trans (Ex.trans (Ex.trans (Below.only (Ex.trans (Ex.trans (Ex.trans (Ex.trans (Ex.trans (Ex.trans (Ex.refl w) hE8) hE19) hE31) hE41) hE53) hE62) hO65 (by omega)) hE76) hE86) hE186) hm217 (fun k hk => by simp only [InR, or_false] at hk; omega)) hE244) hm248 (fun k hk => by simp only [InR, or_false] at hk; omega)) hE255)⟩
         ·have hb257p := dec_f hb257
          refine CW.cond_f rfl hb257 (CW.skip (tn (CW.seq (CW.seq (CW.region (sd rfl (yl_move rfl rfl (sd rfl (yl_move rfl rfl (sd rfl (yl_neq rfl rfl rfl ?_)))))))))))
          refine SeqR.done (tn (bcase (decide ((l_heldOpS ((l_markOpS ((i_ClearOps p_0 p_1 p_2).1) 1).2) 1) = ((l_markOpS ((i_ClearOps p_0 p_1 p_2).1) 1).1))) (fun hb273 => ?_) (fun hb273 => ?_)))
          ·have hb273p := dec_t hb273
           refine CW.cond_f rfl (not_t hb273) (CW.skip (tn (CW.seq (CW.region (sd rfl (yl_loadN (cs := [.string (bs (p_0.Name)), .slice A1 p_0.Cols.length c1, .slice A2 p_0.Idxs.length c2]) Try.ty55 rfl rfl ((Box.ex (Box.mut (Box.ex (Box.mut (Box.ex q95 hE186) hm217 (fun k hk => by simp only [InR, or_false] at hk; omega)) hE244) hm248 (fun k hk => by simp only [InR, or_false] at hk; omega)) hE255).cells (n := 3) rfl) rfl (sd rfl (yl_call Try.en35 rfl (opvs_cons rfl opvs_nil) (Cal.mono (c_l_toTable p_0 (RdS.up (RdS.ex good_Str (RdS.mut good_Str (RdS.ex good_Str (RdS.mut good_Str (RdS.ex good_Str q100 hE186) hm217 (fun k hk => by simp only [InR, or_false, Iv, Ge] at hk ⊢; omega)) hE244) hm248 (fun k hk => by simp only [InR, or_false, Iv, Ge] at hk ⊢; omega)) hE255) good_Str) (RdS.up (RdS.ex good_Idx (RdS.mut good_Idx (RdS.ex good_Idx (RdS.mut good_Idx (RdS.ex good_Idx q105 hE186) hm217 (fun k hk => by simp only [InR, or_false, Iv, Ge] at hk ⊢; omega)) hE244) hm248 (fun k hk => by simp only [InR, or_false, Iv, Ge] at hk ⊢; omega)) hE255) good_Idx) ((szok_Table pre0 (by decide) (dec_f hb20)).1)) ?_)))))))))
           rintro v292 w289 ⟨A290, c290, lo290, hi290, A291, c291, lo291, hi291, rfl, h290, h291, hrn294, hrn295, hrn296, hE293⟩
           have hE293z := Ex.size hE293
           refine sd rfl (yl_move rfl rfl (sd rfl (yl_move rfl rfl (sd rfl (yl_call Try.en46 rfl (opvs_cons rfl (opvs_cons rfl (opvs_cons rfl opvs_nil))) (Cal.mono (c_i_ClearOps p_0 p_1 p_2 (RdS.up (OwnL.rd good_Str h290) good_Str) (RdS.up (OwnL.rd good_Idx h291) good_Idx) ((szok_Table pre0 (by decide) (dec_f hb20)).1) (by unfold okS; omega) (by unfold okS; omega)) ?_))))))
           rintro v302 w299 ⟨A300, c300, lo300, hi300, rfl, h300, ho301, hrn304, hE303⟩
           have hE303z := Ex.size hE303
           refine sd rfl (yl_move rfl rfl (sd rfl (yl_extract rfl rfl rfl (sd rfl (yl_extract rfl rfl rfl (sd rfl (yl_assign rfl rfl (sd rfl (yl_assign rfl rfl (SeqR.done (tn (CW.seq (CW.seq ?_)))))))))))))
           refine CW.region (sd rfl (yl_move rfl rfl (sd rfl (yl_move rfl rfl (sd rfl (yl_call Try.en38 rfl (opvs_cons rfl (opvs_cons rfl opvs_nil)) (Cal.mono (c_l_eqOpS ((i_ClearOps p_0 p_1 p_2).1) ((s_ClearOps p_0 p_1 p_2).1) (RdS.up (OwnL.rd good_Op h300) good_Op) (RdS.up (OwnL.rd good_Op (OwnL.ex good_Op (OwnL.ex good_Op (OwnL.ex good_Op (OwnL.mut good_Op (OwnL.ex good_Op q241 hE244) hm248 (fun k hk => by simp only [InR, or_false] at hk; omega)) hE255) hE293) hE303)) good_Op)) ?_)))))))
           rintro v313 w312 ⟨rfl, hE314⟩
           have hE314z := Ex.size hE314
           refine sd rfl (yl_not rfl rfl (sd rfl (yl_move rfl rfl (sy rfl rfl (not_t hb87) (yl_move rfl rfl (sy rfl rfl (not_t hb87) (yl_move rfl rfl (sy rfl rfl (not_t hb87) (yl_bneq Try.un4 rfl rfl rfl (sd rfl (yl_pick_f rfl rfl (not_t hb87) rfl (SeqR.done (tn (CW.cond_f rfl (not_t hb88) ?_))))))))))))))
           refine CW.skip (tn (CW.seq (CW.region (sd rfl (yl_assign rfl rfl (SeqR.done (tn (CW.seq (CW.region ?_)))))))))
           refine sd rfl (yl_move rfl rfl (sd rfl (yl_move rfl rfl ?_)))
           have q319 := OwnL.ex good_Op (OwnL.ex good_Op (OwnL.ex good_Op (OwnL.ex good_Op h249 hE255) hE293) hE303) hE314
           have hle315 := OwnL.len q319
           refine sd rfl (yl_call Try.en44 rfl (opvs_cons rfl (opvs_cons rfl opvs_nil)) (Cal.mono (Cal.args (by rw [← hle315] <;> rfl) (c_l_heldOpS ((l_markOpS ((i_ClearOps p_0 p_1 p_2).1) 1).2) 1 (RdS.fix (RdS.up (OwnL.rd good_Op q319) good_Op)) (by first | omega | assumption | (simp only [IntKind.wrap_i64] at *; omega)))) ?_))
           rintro v322 w321 ⟨rfl, hE323⟩
           have hE323z := Ex.size hE323
           have hrf324 := rf_heldOpS ((l_markOpS ((i_ClearOps p_0 p_1 p_2).1) 1).2) 1 (by first | omega | assumption | (simp only [IntKind.wrap_i64] at *; omega))
           refine sd rfl (yl_assign rfl rfl (SeqR.done (tn (CW.seq (CW.seq (CW.region (sd rfl (yl_move rfl rfl (sd rfl (yl_lss rfl rfl rfl (SeqR.done ?_)))))))))))
           refine tn (CW.cond_f rfl hb257 (CW.skip (tn (CW.seq (CW.seq (CW.region (sd rfl (yl_move rfl rfl (sd rfl (yl_move rfl rfl ?_))))))))))
           refine sd rfl (yl_neq rfl rfl rfl (SeqR.done (tn (CW.cond_f rfl (not_t hb273) (CW.skip (tn (CW.seq (CW.region (sd rfl (yl_assign rfl rfl ?_))))))))))
           refine SeqR.done (tn (CW.ret (rr rfl (.cons rfl .nil) ?_)))
           have hM325 : (l_FnExactClearOps p_0 p_1 p_2) = (true) := by simp only [l_FnExactClearOps, hb9, hb12, hb20, hb87, hb88, hb211, hb221, hb257, hb273, cond_true, cond_false, loopE_done, loopE_ret]
           rw [hM325]
           have q342 := Ex.trans (Ex.trans (Ex.trans (Ex.trans (Ex.mut (Ex.trans (Ex.mut (Ex.trans (Ex.trans (Ex.trans (Below.only (Ex.trans (Ex.trans (Ex.trans (Ex.trans (Ex.trans (Ex.trans (Ex.refl w) hE8) hE19) hE31) hE41) hE53) hE62) hO65 (by omega)) hE76) hE86) hE186) hm217 (fun k hk => by simp only [InR, or_false] at hk; omega)) hE244) hm248 (fun k hk => by simp only [InR, or_false] at hk; omega)) hE255) hE293) hE303) hE314
           exact ⟨rfl, (Ex.trans q342 hE323)⟩
          ·have hb273p := dec_f hb273
           refine CW.cond_t rfl (not_f hb273) (CW.seq (CW.region (sd rfl (yl_assign rfl rfl (SeqR.done (tn (CW.ret (tr (rr rfl (.cons rfl .nil) ?_)))))))))
           have hM344 : (l_FnExactClearOps p_0 p_1 p_2) = (false) := by simp only [l_FnExactClearOps, hb9, hb12, hb20, hb87, hb88, hb211, hb221, hb257, hb273, cond_true, cond_false, loopE_done, loopE_ret]
           rw [hM344]
           exact ⟨rfl, (Ex.trans (Ex.mut (Ex.trans (Ex.mut (Ex.trans (Ex.trans (Ex.trans (Below.only (Ex.trans (Ex.trans (Ex.trans (Ex.trans (Ex.trans (Ex.trans (Ex.refl w) hE8) hE19) hE31) hE41) hE53) hE62) hO65 (by omega)) hE76) hE86) hE186) hm217 (fun k hk => by simp only [InR, or_false] at hk; omega)) hE244) hm248 (fun k hk => by simp only [InR, or_false] at hk; omega)) hE255)⟩
       ·refine CW.cond_t rfl (not_f hb211) (CW.seq (CW.region (sd rfl (yl_assign rfl rfl (SeqR.done (tn (CW.ret (tr (rr rfl (.cons rfl .nil) ?_)))))))))
        have hM359 : (l_FnExactClearOps p_0 p_1 p_2) = (false) := by simp only [l_FnExactClearOps, hb9, hb12, hb20, hb87, hb88, hb211, cond_true, cond_false, loopE_done, loopE_ret]
        rw [hM359]
        exact ⟨rfl, (Ex.trans (Ex.trans (Ex.trans (Below.only (Ex.trans (Ex.trans (Ex.trans (Ex.trans (Ex.trans (Ex.trans (Ex.refl w) hE8) hE19) hE31) hE41) hE53) hE62) hO65 (by omega)) hE76) hE86) hE186)⟩
     ·refine CW.cond_t rfl (not_f hb88) (CW.seq (CW.region (sd rfl (yl_assign rfl rfl (SeqR.done (tn (CW.ret (tr (rr rfl (.cons rfl .nil) ?_)))))))))
      have hM370 : (l_FnExactClearOps p_0 p_1 p_2) = (false) := by simp only [l_FnExactClearOps, hb9, hb12, hb20, hb87, hb88, cond_true, cond_false, loopE_done, loopE_ret]
      rw [hM370]
      exact ⟨rfl, (Ex.trans (Ex.trans (Below.only (Ex.trans (Ex.trans (Ex.trans (Ex.trans (Ex.trans (Ex.trans (Ex.refl w) hE8) hE19) hE31) hE41) hE53) hE62) hO65 (by omega)) hE76) hE86)⟩
    ·refine sz rfl rfl (not_f hb87) (sz rfl rfl (not_f hb87) (sz rfl rfl (not_f hb87) (sd rfl (yl_pick_t rfl rfl (not_f hb87) rfl (SeqR.done (tn (CW.cond_t rfl rfl (CW.seq (CW.region ?_)))))))))
     refine sd rfl (yl_assign rfl rfl (SeqR.done (tn (CW.ret (tr (rr rfl (.cons rfl .nil) ?_))))))
     have hM380 : (l_FnExactClearOps p_0 p_1 p_2) = (false) := by simp only [l_FnExactClearOps, hb9, hb12, hb20, hb87, cond_true, cond_false, loopE_done, loopE_ret]
     rw [hM380]
     exact ⟨rfl, (Ex.trans (Ex.trans (Below.only (Ex.trans (Ex.trans (Ex.trans (Ex.trans (Ex.trans (Ex.trans (Ex.refl w) hE8) hE19) hE31) hE41) hE53) hE62) hO65 (by omega)) hE76) hE86)⟩
end Go.Proofs.Ytjeafbkejeallaa
