/- Ops For: what each call returns, part 2. -/
import Derived.Test.YtjeafbkejeallaaOpsForC1
set_option linter.unusedVariables false
set_option linter.unusedSimpArgs false
namespace Go.Proofs.Ytjeafbkejeallaa
open Go.RowKit Go.X
set_option maxRecDepth 100000 in
set_option maxHeartbeats 2000000 in
theorem c_s_l3Bytes {w : World} (p_s : Str) (p_more : Str) (o1 : okS p_s) (o2 : okS p_more) : Cal Try.prog 208 #[.string (bs (p_s)), .string (bs (p_more))] w fun v w' => v = .bool ((s_l3Bytes p_s p_more)) ∧ Ex w w' := by
 have hol3 : p_s.length ≤ 1073741824 := o1
 have hol4 : p_more.length ≤ 1073741824 := o2
 refine Cal.of (vs := [.string (bs (p_s)), .string (bs (p_more))]) Try.func208 rfl Try.ntmps208 rfl (CW.seq (CW.region (sd rfl (yl_assign rfl rfl (SeqR.done (tn (CW.seq (CW.seq (CW.region ?_)))))))))
 refine sd rfl (yl_assign rfl rfl (SeqR.done (tn (CW.block (CW.loop (fun m6 L7 w8 => ∃ (k5 : Nat), m6 = p_s.length - k5 ∧ k5 ≤ p_s.length ∧ w.heap.size ≤ w8.heap.size ∧ lkp L7 0 = some (.string (bs (p_s))) ∧ lkp L7 1 = some (.string (bs (p_more))) ∧ lkp L7 5 = some (.int .i64 ((k5 : Int))) ∧ Ex w w8 ∧ loopM (B_s_l3Bytes_0 p_s p_more) (p_s.length - k5) k5 () = loopM (B_s_l3Bytes_0 p_s p_more) (p_s.length - 0) 0 ()) (p_s.length - 0) ?_ ?_)))))
 ·exact ⟨0, rfl, (by omega), Nat.le_refl _, rfl, rfl, rfl, (Ex.refl w), rfl⟩
 ·rintro m9 L10 w11 ⟨k5, rfl, hk12, hsz14, hl15, hl16, hl17, hf18, hI13⟩
  refine CW.sub (Sub.cons hl15 (Sub.cons hl16 (Sub.cons hl17 (Sub.nil _)))) ?_
  have hf18z := Ex.size hf18
  have hbg19 : p_s.length ≤ 1073741824 := o1
  rcases Nat.lt_or_ge k5 p_s.length with hlt20 | hlt20
  ·refine CW.seq (CW.seq (CW.region (sd rfl (yl_move rfl rfl (sd rfl (yl_move rfl rfl (sd rfl (yl_slen Try.un9 (a := p_s) rfl rfl (sd rfl (yl_lss rfl rfl rfl (SeqR.done (tn ?_))))))))))))
   refine CW.cond_t rfl (lt_t hlt20) (CW.skip (tn (CW.seq (CW.block (CW.seq (CW.region (sd rfl (yl_move rfl rfl (sd rfl (yl_move rfl rfl ?_))))))))))
   refine sd rfl (yl_sindexN Try.un9 (a := p_s) rfl rfl rfl (by first | omega | assumption | (simp only [IntKind.wrap_i64] at *; omega)) (sd rfl (yl_geq rfl rfl rfl (sd rfl (yl_move rfl rfl (bcase (decide (97 ≤ ((p_s.getD k5 0).toNat : Int))) (fun hb21 => ?_) (fun hb21 => ?_)))))))
   ·have hb21p := dec_t hb21
    refine sy rfl rfl hb21 (yl_move rfl rfl (sy rfl rfl hb21 (yl_move rfl rfl (sy rfl rfl hb21 (yl_sindexN Try.un9 (a := p_s) rfl rfl rfl (by first | omega | assumption | (simp only [IntKind.wrap_i64] at *; omega)) (sy rfl rfl hb21 (yl_leq rfl rfl rfl (sd rfl (yl_pick_t rfl rfl hb21 rfl (sd rfl (yl_move rfl rfl (bcase (decide (((p_s.getD k5 0).toNat : Int) ≤ 122)) (fun hb22 => ?_) (fun hb22 => ?_)))))))))))))
    ·have hb22p := dec_t hb22
     refine sz rfl rfl hb22 (sz rfl rfl hb22 (sz rfl rfl hb22 (sz rfl rfl hb22 (sz rfl rfl hb22 (sq rfl rfl (sq rfl rfl (sq rfl rfl (sq rfl rfl ?_))))))))
     refine sz rfl rfl hb22 (sd rfl (yl_pick_t rfl rfl hb22 rfl (sd rfl (yl_assign rfl rfl (SeqR.done (tn (CW.seq (CW.seq (CW.region (sd rfl (yl_assign rfl rfl ?_)))))))))))
     refine SeqR.done (tn (CW.block (CW.loop (fun m25 L26 w27 => ∃ (k23 : Nat) (x24 : Bool), m25 = p_more.length - k23 ∧ k23 ≤ p_more.length ∧ w11.heap.size ≤ w27.heap.size ∧ lkp L26 0 = some (.string (bs (p_s))) ∧ lkp L26 1 = some (.string (bs (p_more))) ∧ lkp L26 5 = some (.int .i64 ((k5 : Int))) ∧ lkp L26 6 = some (.bool (x24)) ∧ lkp L26 7 = some (.int .i64 ((k23 : Int))) ∧ lkp L26 19 = some (.string (bs (p_s))) ∧ lkp L26 20 = some (.int .i64 ((k5 : Int))) ∧ lkp L26 21 = some (.int .u8 (((p_s.getD k5 0).toNat : Int))) ∧ lkp L26 22 = some (.bool (decide (((p_s.getD k5 0).toNat : Int) ≤ 122))) ∧ lkp L26 25 = some (undef) ∧ lkp L26 26 = some (undef) ∧ lkp L26 27 = some (undef) ∧ lkp L26 28 = some (undef) ∧ lkp L26 29 = some (undef) ∧ lkp L26 30 = some (undef) ∧ lkp L26 31 = some (undef) ∧ lkp L26 32 = some (undef) ∧ lkp L26 33 = some (undef) ∧ lkp L26 34 = some (undef) ∧ Ex w w27 ∧ loopM (B_s_l3Bytes_1 p_s p_more k5) (p_more.length - k23) k23 (x24) = loopM (B_s_l3Bytes_1 p_s p_more k5) (p_more.length - 0) 0 (true)) (p_more.length - 0) ?_ ?_)))
     ·exact ⟨0, true, rfl, (by omega), Nat.le_refl _, rfl, rfl, rfl, rfl, rfl, rfl, rfl, rfl, rfl, rfl, rfl, rfl, rfl, rfl, rfl, rfl, rfl, rfl, rfl, hf18, rfl⟩
     ·rintro m28 L29 w30 ⟨k23, x24, rfl, hk31, hsz33, hl34, hl35, hl36, hl37, hl38, hl39, hl40, hl41, hl42, hl43, hl44, hl45, hl46, hl47, hl48, hl49, hl50, hl51, hl52, hf53, hI32⟩
      refine CW.sub (Sub.cons hl34 (Sub.cons hl35 (Sub.cons hl36 (Sub.cons hl37 (Sub.cons hl38 (Sub.cons hl39 (Sub.cons hl40 (Sub.cons hl41 (Sub.cons hl42 (Sub.cons hl43 (Sub.cons hl44 (Sub.cons hl45 (Sub.cons hl46 (Sub.cons hl47 (Sub.cons hl48 (Sub.cons hl49 (Sub.cons hl50 (Sub.cons hl51 (Sub.cons hl52 (Sub.nil _)))))))))))))))))))) ?_
      have hf53z := Ex.size hf53
      have hbg54 : p_more.length ≤ 1073741824 := o2
      rcases Nat.lt_or_ge k23 p_more.length with hlt55 | hlt55
      ·refine CW.seq (CW.seq (CW.region (sd rfl (yl_move rfl rfl (sd rfl (yl_move rfl rfl (sd rfl (yl_slen Try.un9 (a := p_more) rfl rfl (sd rfl (yl_lss rfl rfl rfl (SeqR.done (tn ?_))))))))))))
       refine CW.cond_t rfl (lt_t hlt55) (CW.skip (tn (CW.seq (CW.block (bcase (x24) (fun hb56 => ?_) (fun hb56 => ?_))))))
       ·refine CW.drawsI 11 (vgetI [DetI (.bool (x24)), DetI (.bool (x24)), DetI (undef), DetI (undef), DetI (undef), DetI (undef), DetI (undef), DetI (undef), DetI (undef), DetI (.bool (true)), DetI (.bool (true))]) Try.follows rfl rfl rfl rfl rfl rfl (vgetI_stable ⟨StableI.det _, StableI.det _, StableI.det _, StableI.det _, StableI.det _, StableI.det _, StableI.det _, StableI.det _, StableI.det _, StableI.det _, StableI.det _, trivial⟩) ⟨?_, ?_, ?_, ?_, ?_, ?_, ?_, ?_, ?_, ?_, ?_, trivial⟩ ?_
        ·exact fun _ _ h => os rfl ((yl_move rfl (h.old 6 _ rfl rfl) kI))
        ·exact fun _ _ h => os rfl ((yl_move rfl (h.dt 0 42 rfl rfl rfl) kI))
        ·exact fun _ _ h => OpR.skip rfl rfl (h.dt 1 43 rfl rfl rfl) hb56 ⟨rfl, Ex.refl _⟩
        ·exact fun _ _ h => OpR.skip rfl rfl (h.dt 1 43 rfl rfl rfl) hb56 ⟨rfl, Ex.refl _⟩
        ·exact fun _ _ h => OpR.skip rfl rfl (h.dt 1 43 rfl rfl rfl) hb56 ⟨rfl, Ex.refl _⟩
        ·exact fun _ _ h => OpR.skip rfl rfl (h.dt 1 43 rfl rfl rfl) hb56 ⟨rfl, Ex.refl _⟩
        ·exact fun _ _ h => OpR.skip rfl rfl (h.dt 1 43 rfl rfl rfl) hb56 ⟨rfl, Ex.refl _⟩
        ·exact fun _ _ h => OpR.skip rfl rfl (h.dt 1 43 rfl rfl rfl) hb56 ⟨rfl, Ex.refl _⟩
        ·exact fun _ _ h => OpR.skip rfl rfl (h.dt 1 43 rfl rfl rfl) hb56 ⟨rfl, Ex.refl _⟩
        ·exact fun _ _ h => os rfl ((yl_pick_t rfl (h.dt 1 43 rfl rfl rfl) hb56 rfl kI))
        ·exact fun _ _ h => os rfl ((yl_assign rfl (h.dt 9 51 rfl rfl rfl) kI))
        ·intro fl116 fh117 L113 w114 hp115
         have hE118 := hp115.ex
         have hE118z := Ex.size hE118
         refine SeqR.done (bn (tn (CW.sub (Sub.cons (d := 0) (hp115.old 0 _ rfl rfl) (Sub.cons (d := 1) (hp115.old 1 _ rfl rfl) (Sub.cons (d := 5) (hp115.old 5 _ rfl rfl) (Sub.cons (d := 6) (hp115.nt 10 6 rfl rfl rfl) (Sub.cons (d := 7) (hp115.old 7 _ rfl rfl) (Sub.cons (d := 19) (hp115.old 19 _ rfl rfl) (Sub.cons (d := 20) (hp115.old 20 _ rfl rfl) (Sub.cons (d := 21) (hp115.old 21 _ rfl rfl) (Sub.cons (d := 22) (hp115.old 22 _ rfl rfl) (Sub.cons (d := 25) (hp115.old 25 _ rfl rfl) (Sub.cons (d := 26) (hp115.old 26 _ rfl rfl) (Sub.cons (d := 27) (hp115.old 27 _ rfl rfl) (Sub.cons (d := 28) (hp115.old 28 _ rfl rfl) (Sub.cons (d := 29) (hp115.old 29 _ rfl rfl) (Sub.cons (d := 30) (hp115.old 30 _ rfl rfl) (Sub.cons (d := 31) (hp115.old 31 _ rfl rfl) (Sub.cons (d := 32) (hp115.old 32 _ rfl rfl) (Sub.cons (d := 33) (hp115.old 33 _ rfl rfl) (Sub.cons (d := 34) (hp115.old 34 _ rfl rfl) (Sub.cons (d := 44) (hp115.nt 2 44 rfl rfl rfl) (Sub.cons (d := 45) (hp115.nt 3 45 rfl rfl rfl) (Sub.cons (d := 46) (hp115.nt 4 46 rfl rfl rfl) (Sub.cons (d := 47) (hp115.nt 5 47 rfl rfl rfl) (Sub.cons (d := 48) (hp115.nt 6 48 rfl rfl rfl) (Sub.cons (d := 49) (hp115.nt 7 49 rfl rfl rfl) (Sub.cons (d := 50) (hp115.nt 8 50 rfl rfl rfl) (Sub.nil _))))))))))))))))))))))))))) (CW.region (sd rfl (yl_move rfl rfl (sd rfl (yl_inc rfl rfl rfl (by omega) (sd rfl (yl_assign rfl rfl (SeqR.done ?_)))))))))))
         refine tn ?_
         have hB145 : B_s_l3Bytes_1 p_s p_more k5 k23 (x24) = .cont (true) := by simp only [B_s_l3Bytes_1, hb21, hb22, hb56, cond_true, cond_false, loopE_done, loopE_ret]
         exact ⟨p_more.length - (k23 + 1), by omega, k23 + 1, true, rfl, hlt55, (by omega), rfl, rfl, rfl, rfl, rfl, rfl, rfl, rfl, rfl, rfl, rfl, rfl, rfl, rfl, rfl, rfl, rfl, rfl, rfl, (Ex.trans hf53 hE118), (loopM.cont hlt55 hB145).symm.trans hI32⟩
       ·refine CW.drawsI 11 (vgetI [DetI (.bool (x24)), DetI (.bool (x24)), DetI (.string (bs (p_s))), DetI (.int .i64 ((k5 : Int))), DetI (.int .u8 (((p_s.getD k5 0).toNat : Int))), DetI (.string (bs (p_more))), DetI (.int .i64 ((k23 : Int))), DetI (.int .u8 (((p_more.getD k23 0).toNat : Int))), DetI (.bool (decide (((p_s.getD k5 0).toNat : Int) = ((p_more.getD k23 0).toNat : Int)))), DetI (.bool (decide (((p_s.getD k5 0).toNat : Int) = ((p_more.getD k23 0).toNat : Int)))), DetI (.bool (decide (((p_s.getD k5 0).toNat : Int) = ((p_more.getD k23 0).toNat : Int))))]) Try.follows rfl rfl rfl rfl rfl rfl (vgetI_stable ⟨StableI.det _, StableI.det _, StableI.det _, StableI.det _, StableI.det _, StableI.det _, StableI.det _, StableI.det _, StableI.det _, StableI.det _, StableI.det _, trivial⟩) ⟨?_, ?_, ?_, ?_, ?_, ?_, ?_, ?_, ?_, ?_, ?_, trivial⟩ ?_
        ·exact fun _ _ h => os rfl ((yl_move rfl (h.old 6 _ rfl rfl) kI))
        ·exact fun _ _ h => os rfl ((yl_move rfl (h.dt 0 42 rfl rfl rfl) kI))
        ·exact fun _ _ h => OpR.want rfl rfl (h.dt 1 43 rfl rfl rfl) hb56 (Yl.sameI (yl_move rfl (h.old 0 _ rfl rfl) kI))
        ·exact fun _ _ h => OpR.want rfl rfl (h.dt 1 43 rfl rfl rfl) hb56 (Yl.sameI (yl_move rfl (h.old 5 _ rfl rfl) kI))
        ·intro L169 w170 hi171
         have hE172 := hi171.ex
         have hE172z := Ex.size hE172
         exact OpR.want rfl rfl (hi171.dt 1 43 rfl rfl rfl) hb56 (Yl.sameI (yl_sindexN Try.un9 (a := p_s) rfl (hi171.dt 2 44 rfl rfl rfl) (hi171.dt 3 45 rfl rfl rfl) (by first | omega | assumption | (simp only [IntKind.wrap_i64] at *; omega)) kI))
        ·exact fun _ _ h => OpR.want rfl rfl (h.dt 1 43 rfl rfl rfl) hb56 (Yl.sameI (yl_move rfl (h.old 1 _ rfl rfl) kI))
        ·exact fun _ _ h => OpR.want rfl rfl (h.dt 1 43 rfl rfl rfl) hb56 (Yl.sameI (yl_move rfl (h.old 7 _ rfl rfl) kI))
        ·intro L188 w189 hi190
         have hE191 := hi190.ex
         have hE191z := Ex.size hE191
         exact OpR.want rfl rfl (hi190.dt 1 43 rfl rfl rfl) hb56 (Yl.sameI (yl_sindexN Try.un9 (a := p_more) rfl (hi190.dt 5 47 rfl rfl rfl) (hi190.dt 6 48 rfl rfl rfl) (by first | omega | assumption | (simp only [IntKind.wrap_i64] at *; omega)) kI))
        ·exact fun _ _ h => OpR.want rfl rfl (h.dt 1 43 rfl rfl rfl) hb56 (Yl.sameI (yl_eql rfl (h.dt 4 46 rfl rfl rfl) (h.dt 7 49 rfl rfl rfl) kI))
        ·exact fun _ _ h => os rfl ((yl_pick_f rfl (h.dt 1 43 rfl rfl rfl) hb56 (h.dt 8 50 rfl rfl rfl) kI))
        ·exact fun _ _ h => os rfl ((yl_assign rfl (h.dt 9 51 rfl rfl rfl) kI))
        ·intro fl216 fh217 L213 w214 hp215
         have hE218 := hp215.ex
         have hE218z := Ex.size hE218
         refine SeqR.done (bn (tn (CW.sub (Sub.cons (d := 0) (hp215.old 0 _ rfl rfl) (Sub.cons (d := 1) (hp215.old 1 _ rfl rfl) (Sub.cons (d := 5) (hp215.old 5 _ rfl rfl) (Sub.cons (d := 6) (hp215.nt 10 6 rfl rfl rfl) (Sub.cons (d := 7) (hp215.old 7 _ rfl rfl) (Sub.cons (d := 19) (hp215.old 19 _ rfl rfl) (Sub.cons (d := 20) (hp215.old 20 _ rfl rfl) (Sub.cons (d := 21) (hp215.old 21 _ rfl rfl) (Sub.cons (d := 22) (hp215.old 22 _ rfl rfl) (Sub.cons (d := 25) (hp215.old 25 _ rfl rfl) (Sub.cons (d := 26) (hp215.old 26 _ rfl rfl) (Sub.cons (d := 27) (hp215.old 27 _ rfl rfl) (Sub.cons (d := 28) (hp215.old 28 _ rfl rfl) (Sub.cons (d := 29) (hp215.old 29 _ rfl rfl) (Sub.cons (d := 30) (hp215.old 30 _ rfl rfl) (Sub.cons (d := 31) (hp215.old 31 _ rfl rfl) (Sub.cons (d := 32) (hp215.old 32 _ rfl rfl) (Sub.cons (d := 33) (hp215.old 33 _ rfl rfl) (Sub.cons (d := 34) (hp215.old 34 _ rfl rfl) (Sub.cons (d := 44) (hp215.nt 2 44 rfl rfl rfl) (Sub.cons (d := 45) (hp215.nt 3 45 rfl rfl rfl) (Sub.cons (d := 46) (hp215.nt 4 46 rfl rfl rfl) (Sub.cons (d := 47) (hp215.nt 5 47 rfl rfl rfl) (Sub.cons (d := 48) (hp215.nt 6 48 rfl rfl rfl) (Sub.cons (d := 49) (hp215.nt 7 49 rfl rfl rfl) (Sub.cons (d := 50) (hp215.nt 8 50 rfl rfl rfl) (Sub.nil _))))))))))))))))))))))))))) (CW.region (sd rfl (yl_move rfl rfl (sd rfl (yl_inc rfl rfl rfl (by omega) (sd rfl (yl_assign rfl rfl (SeqR.done ?_)))))))))))
         refine tn ?_
         have hB245 : B_s_l3Bytes_1 p_s p_more k5 k23 (x24) = .cont (decide (((p_s.getD k5 0).toNat : Int) = ((p_more.getD k23 0).toNat : Int))) := by simp only [B_s_l3Bytes_1, hb21, hb22, hb56, cond_true, cond_false, loopE_done, loopE_ret]
         exact ⟨p_more.length - (k23 + 1), by omega, k23 + 1, decide (((p_s.getD k5 0).toNat : Int) = ((p_more.getD k23 0).toNat : Int)), rfl, hlt55, (by omega), rfl, rfl, rfl, rfl, rfl, rfl, rfl, rfl, rfl, rfl, rfl, rfl, rfl, rfl, rfl, rfl, rfl, rfl, rfl, (Ex.trans hf53 hE218), (loopM.cont hlt55 hB245).symm.trans hI32⟩
      ·refine CW.seq (CW.seq (CW.region (sd rfl (yl_move rfl rfl (sd rfl (yl_move rfl rfl (sd rfl (yl_slen Try.un9 (a := p_more) rfl rfl (sd rfl (yl_lss rfl rfl rfl (SeqR.done (tn ?_))))))))))))
       refine CW.cond_f rfl (lt_f hlt55) (CW.exit (tx (tx ?_)))
       have hL247 : loopM (B_s_l3Bytes_1 p_s p_more k5) (p_more.length - 0) 0 (true) = .done (x24) := hI32.symm.trans (loopM.stop hlt55)
       refine bx (tn (CW.seq (CW.region (sd rfl (yl_move rfl rfl (sd rfl (yl_not rfl rfl (SeqR.done (tn (bcase (x24) (fun hb248 => ?_) (fun hb248 => ?_)))))))))))
       ·refine CW.cond_f rfl (not_t hb248) (CW.skip (bn (tn (CW.region (sd rfl (yl_move rfl rfl (sd rfl (yl_inc rfl rfl rfl (by omega) (sd rfl (yl_assign rfl rfl (SeqR.done ?_)))))))))))
        refine tn ?_
        have hB249 : B_s_l3Bytes_0 p_s p_more k5 () = .cont () := by simp only [B_s_l3Bytes_0, hb21, hb22, hb248, hL247, cond_true, cond_false, loopE_done, loopE_ret]
        exact ⟨p_s.length - (k5 + 1), by omega, k5 + 1, rfl, hlt20, (by omega), rfl, rfl, rfl, hf53, (loopM.cont hlt20 hB249).symm.trans hI13⟩
       ·refine CW.cond_t rfl (not_f hb248) (CW.seq (CW.region (sd rfl (yl_assign rfl rfl (SeqR.done (tn (CW.ret (br (tr ?_)))))))))
        refine tr ?_
        have hB251 : B_s_l3Bytes_0 p_s p_more k5 () = .ret false := by simp only [B_s_l3Bytes_0, hb21, hb22, hb248, hL247, cond_true, cond_false, loopE_done, loopE_ret]
        have hL250 : loopM (B_s_l3Bytes_0 p_s p_more) (p_s.length - 0) 0 () = .ret false := hI13.symm.trans (loopM.ret hlt20 hB251)
        refine br (tr (rr rfl (.cons rfl .nil) ?_))
        have hM252 : (s_l3Bytes p_s p_more) = (false) := by simp only [s_l3Bytes, hb21, hb22, hb248, hL247, hL250, cond_true, cond_false, loopE_done, loopE_ret]
        rw [hM252]
        exact ⟨rfl, hf53⟩
    ·have hb22p := dec_f hb22
     refine sy rfl rfl hb22 (yl_move rfl rfl (sy rfl rfl hb22 (yl_move rfl rfl (sy rfl rfl hb22 (yl_sindexN Try.un9 (a := p_s) rfl rfl rfl (by first | omega | assumption | (simp only [IntKind.wrap_i64] at *; omega)) (sy rfl rfl hb22 (yl_geq rfl rfl rfl (sy rfl rfl hb22 (yl_move rfl rfl (bcase (decide (48 ≤ ((p_s.getD k5 0).toNat : Int))) (fun hb253 => ?_) (fun hb253 => ?_)))))))))))
     ·have hb253p := dec_t hb253
      refine sy rfl rfl hb253 (yl_move rfl rfl (sy rfl rfl hb253 (yl_move rfl rfl (sy rfl rfl hb253 (yl_sindexN Try.un9 (a := p_s) rfl rfl rfl (by first | omega | assumption | (simp only [IntKind.wrap_i64] at *; omega)) (sy rfl rfl hb253 (yl_leq rfl rfl rfl (sy rfl rfl hb22 (yl_pick_t rfl rfl hb253 rfl (sd rfl (yl_pick_f rfl rfl hb22 rfl (sd rfl (yl_assign rfl rfl (SeqR.done (tn ?_)))))))))))))))
      refine CW.seq (CW.seq (CW.region (sd rfl (yl_assign rfl rfl (SeqR.done (tn (CW.block (CW.loop (fun m256 L257 w258 => ∃ (k254 : Nat) (x255 : Bool), m256 = p_more.length - k254 ∧ k254 ≤ p_more.length ∧ w11.heap.size ≤ w258.heap.size ∧ lkp L257 0 = some (.string (bs (p_s))) ∧ lkp L257 1 = some (.string (bs (p_more))) ∧ lkp L257 5 = some (.int .i64 ((k5 : Int))) ∧ lkp L257 6 = some (.bool (x255)) ∧ lkp L257 7 = some (.int .i64 ((k254 : Int))) ∧ lkp L257 19 = some (.string (bs (p_s))) ∧ lkp L257 20 = some (.int .i64 ((k5 : Int))) ∧ lkp L257 21 = some (.int .u8 (((p_s.getD k5 0).toNat : Int))) ∧ lkp L257 22 = some (.bool (decide (((p_s.getD k5 0).toNat : Int) ≤ 122))) ∧ lkp L257 25 = some (.string (bs (p_s))) ∧ lkp L257 26 = some (.int .i64 ((k5 : Int))) ∧ lkp L257 27 = some (.int .u8 (((p_s.getD k5 0).toNat : Int))) ∧ lkp L257 28 = some (.bool (decide (48 ≤ ((p_s.getD k5 0).toNat : Int)))) ∧ lkp L257 29 = some (.bool (decide (48 ≤ ((p_s.getD k5 0).toNat : Int)))) ∧ lkp L257 30 = some (.string (bs (p_s))) ∧ lkp L257 31 = some (.int .i64 ((k5 : Int))) ∧ lkp L257 32 = some (.int .u8 (((p_s.getD k5 0).toNat : Int))) ∧ lkp L257 33 = some (.bool (decide (((p_s.getD k5 0).toNat : Int) ≤ 57))) ∧ lkp L257 34 = some (.bool (decide (((p_s.getD k5 0).toNat : Int) ≤ 57))) ∧ Ex w w258 ∧ loopM (B_s_l3Bytes_1 p_s p_more k5) (p_more.length - k254) k254 (x255) = loopM (B_s_l3Bytes_1 p_s p_more k5) (p_more.length - 0) 0 (decide (((p_s.getD k5 0).toNat : Int) ≤ 57))) (p_more.length - 0) ?_ ?_))))))))
      ·exact ⟨0, decide (((p_s.getD k5 0).toNat : Int) ≤ 57), rfl, (by omega), Nat.le_refl _, rfl, rfl, rfl, rfl, rfl, rfl, rfl, rfl, rfl, rfl, rfl, rfl, rfl, rfl, rfl, rfl, rfl, rfl, rfl, hf18, rfl⟩
      ·rintro m259 L260 w261 ⟨k254, x255, rfl, hk262, hsz264, hl265, hl266, hl267, hl268, hl269, hl270, hl271, hl272, hl273, hl274, hl275, hl276, hl277, hl278, hl279, hl280, hl281, hl282, hl283, hf284, hI263⟩
       refine CW.sub (Sub.cons hl265 (Sub.cons hl266 (Sub.cons hl267 (Sub.cons hl268 (Sub.cons hl269 (Sub.cons hl270 (Sub.cons hl271 (Sub.cons hl272 (Sub.cons hl273 (Sub.cons hl274 (Sub.cons hl275 (Sub.cons hl276 (Sub.cons hl277 (Sub.cons hl278 (Sub.cons hl279 (Sub.cons hl280 (Sub.cons hl281 (Sub.cons hl282 (Sub.cons hl283 (Sub.nil _)))))))))))))))))))) ?_
       have hf284z := Ex.size hf284
       have hbg285 : p_more.length ≤ 1073741824 := o2
       rcases Nat.lt_or_ge k254 p_more.length with hlt286 | hlt286
       ·refine CW.seq (CW.seq (CW.region (sd rfl (yl_move rfl rfl (sd rfl (yl_move rfl rfl (sd rfl (yl_slen Try.un9 (a := p_more) rfl rfl (sd rfl (yl_lss rfl rfl rfl (SeqR.done (tn ?_))))))))))))
        refine CW.cond_t rfl (lt_t hlt286) (CW.skip (tn (CW.seq (CW.block (bcase (x255) (fun hb287 => ?_) (fun hb287 => ?_))))))
        ·refine CW.drawsI 11 (vgetI [DetI (.bool (x255)), DetI (.bool (x255)), DetI (undef), DetI (undef), DetI (undef), DetI (undef), DetI (undef), DetI (undef), DetI (undef), DetI (.bool (true)), DetI (.bool (true))]) Try.follows rfl rfl rfl rfl rfl rfl (vgetI_stable ⟨StableI.det _, StableI.det _, StableI.det _, StableI.det _, StableI.det _, StableI.det _, StableI.det _, StableI.det _, StableI.det _, StableI.det _, StableI.det _, trivial⟩) ⟨?_, ?_, ?_, ?_, ?_, ?_, ?_, ?_, ?_, ?_, ?_, trivial⟩ ?_
         ·exact fun _ _ h => os rfl ((yl_move rfl (h.old 6 _ rfl rfl) kI))
         ·exact fun _ _ h => os rfl ((yl_move rfl (h.dt 0 42 rfl rfl rfl) kI))
         ·exact fun _ _ h => OpR.skip rfl rfl (h.dt 1 43 rfl rfl rfl) hb287 ⟨rfl, Ex.refl _⟩
         ·exact fun _ _ h => OpR.skip rfl rfl (h.dt 1 43 rfl rfl rfl) hb287 ⟨rfl, Ex.refl _⟩
         ·exact fun _ _ h => OpR.skip rfl rfl (h.dt 1 43 rfl rfl rfl) hb287 ⟨rfl, Ex.refl _⟩
         ·exact fun _ _ h => OpR.skip rfl rfl (h.dt 1 43 rfl rfl rfl) hb287 ⟨rfl, Ex.refl _⟩
         ·exact fun _ _ h => OpR.skip rfl rfl (h.dt 1 43 rfl rfl rfl) hb287 ⟨rfl, Ex.refl _⟩
         ·exact fun _ _ h => OpR.skip rfl rfl (h.dt 1 43 rfl rfl rfl) hb287 ⟨rfl, Ex.refl _⟩
         ·exact fun _ _ h => OpR.skip rfl rfl (h.dt 1 43 rfl rfl rfl) hb287 ⟨rfl, Ex.refl _⟩
         ·exact fun _ _ h => os rfl ((yl_pick_t rfl (h.dt 1 43 rfl rfl rfl) hb287 rfl kI))
         ·exact fun _ _ h => os rfl ((yl_assign rfl (h.dt 9 51 rfl rfl rfl) kI))
         ·intro fl347 fh348 L344 w345 hp346
          have hE349 := hp346.ex
          have hE349z := Ex.size hE349
          refine SeqR.done (bn (tn (CW.sub (Sub.cons (d := 0) (hp346.old 0 _ rfl rfl) (Sub.cons (d := 1) (hp346.old 1 _ rfl rfl) (Sub.cons (d := 5) (hp346.old 5 _ rfl rfl) (Sub.cons (d := 6) (hp346.nt 10 6 rfl rfl rfl) (Sub.cons (d := 7) (hp346.old 7 _ rfl rfl) (Sub.cons (d := 19) (hp346.old 19 _ rfl rfl) (Sub.cons (d := 20) (hp346.old 20 _ rfl rfl) (Sub.cons (d := 21) (hp346.old 21 _ rfl rfl) (Sub.cons (d := 22) (hp346.old 22 _ rfl rfl) (Sub.cons (d := 25) (hp346.old 25 _ rfl rfl) (Sub.cons (d := 26) (hp346.old 26 _ rfl rfl) (Sub.cons (d := 27) (hp346.old 27 _ rfl rfl) (Sub.cons (d := 28) (hp346.old 28 _ rfl rfl) (Sub.cons (d := 29) (hp346.old 29 _ rfl rfl) (Sub.cons (d := 30) (hp346.old 30 _ rfl rfl) (Sub.cons (d := 31) (hp346.old 31 _ rfl rfl) (Sub.cons (d := 32) (hp346.old 32 _ rfl rfl) (Sub.cons (d := 33) (hp346.old 33 _ rfl rfl) (Sub.cons (d := 34) (hp346.old 34 _ rfl rfl) (Sub.cons (d := 44) (hp346.nt 2 44 rfl rfl rfl) (Sub.cons (d := 45) (hp346.nt 3 45 rfl rfl rfl) (Sub.cons (d := 46) (hp346.nt 4 46 rfl rfl rfl) (Sub.cons (d := 47) (hp346.nt 5 47 rfl rfl rfl) (Sub.cons (d := 48) (hp346.nt 6 48 rfl rfl rfl) (Sub.cons (d := 49) (hp346.nt 7 49 rfl rfl rfl) (Sub.cons (d := 50) (hp346.nt 8 50 rfl rfl rfl) (Sub.nil _))))))))))))))))))))))))))) (CW.region (sd rfl (yl_move rfl rfl (sd rfl (yl_inc rfl rfl rfl (by omega) (sd rfl (yl_assign rfl rfl (SeqR.done ?_)))))))))))
          refine tn ?_
          have hB376 : B_s_l3Bytes_1 p_s p_more k5 k254 (x255) = .cont (true) := by simp only [B_s_l3Bytes_1, hb21, hb22, hb253, hb287, cond_true, cond_false, loopE_done, loopE_ret]
          exact ⟨p_more.length - (k254 + 1), by omega, k254 + 1, true, rfl, hlt286, (by omega), rfl, rfl, rfl, rfl, rfl, rfl, rfl, rfl, rfl, rfl, rfl, rfl, rfl, rfl, rfl, rfl, rfl, rfl, rfl, (Ex.trans hf284 hE349), (loopM.cont hlt286 hB376).symm.trans hI263⟩
        ·refine CW.drawsI 11 (vgetI [DetI (.bool (x255)), DetI (.bool (x255)), DetI (.string (bs (p_s))), DetI (.int .i64 ((k5 : Int))), DetI (.int .u8 (((p_s.getD k5 0).toNat : Int))), DetI (.string (bs (p_more))), DetI (.int .i64 ((k254 : Int))), DetI (.int .u8 (((p_more.getD k254 0).toNat : Int))), DetI (.bool (decide (((p_s.getD k5 0).toNat : Int) = ((p_more.getD k254 0).toNat : Int)))), DetI (.bool (decide (((p_s.getD k5 0).toNat : Int) = ((p_more.getD k254 0).toNat : Int)))), DetI (.bool (decide (((p_s.getD k5 0).toNat : Int) = ((p_more.getD k254 0).toNat : Int))))]) Try.follows rfl rfl rfl rfl rfl rfl (vgetI_stable ⟨StableI.det _, StableI.det _, StableI.det _, StableI.det _, StableI.det _, StableI.det _, StableI.det _, StableI.det _, StableI.det _, StableI.det _, StableI.det _, trivial⟩) ⟨?_, ?_, ?_, ?_, ?_, ?_, ?_, ?_, ?_, ?_, ?_, trivial⟩ ?_
         ·exact fun _ _ h => os rfl ((yl_move rfl (h.old 6 _ rfl rfl) kI))
         ·exact fun _ _ h => os rfl ((yl_move rfl (h.dt 0 42 rfl rfl rfl) kI))
         ·exact fun _ _ h => OpR.want rfl rfl (h.dt 1 43 rfl rfl rfl) hb287 (Yl.sameI (yl_move rfl (h.old 0 _ rfl rfl) kI))
         ·exact fun _ _ h => OpR.want rfl rfl (h.dt 1 43 rfl rfl rfl) hb287 (Yl.sameI (yl_move rfl (h.old 5 _ rfl rfl) kI))
         ·intro L400 w401 hi402
          have hE403 := hi402.ex
          have hE403z := Ex.size hE403
          exact OpR.want rfl rfl (hi402.dt 1 43 rfl rfl rfl) hb287 (Yl.sameI (yl_sindexN Try.un9 (a := p_s) rfl (hi402.dt 2 44 rfl rfl rfl) (hi402.dt 3 45 rfl rfl rfl) (by first | omega | assumption | (simp only [IntKind.wrap_i64] at *; omega)) kI))
         ·exact fun _ _ h => OpR.want rfl rfl (h.dt 1 43 rfl rfl rfl) hb287 (Yl.sameI (yl_move rfl (h.old 1 _ rfl rfl) kI))
         ·exact fun _ _ h => OpR.want rfl rfl (h.dt 1 43 rfl rfl rfl) hb287 (Yl.sameI (yl_move rfl (h.old 7 _ rfl rfl) kI))
         ·intro L419 w420 hi421
          have hE422 := hi421.ex
          have hE422z := Ex.size hE422
          exact OpR.want rfl rfl (hi421.dt 1 43 rfl rfl rfl) hb287 (Yl.sameI (yl_sindexN Try.un9 (a := p_more) rfl (hi421.dt 5 47 rfl rfl rfl) (hi421.dt 6 48 rfl rfl rfl) (by first | omega | assumption | (simp only [IntKind.wrap_i64] at *; omega)) kI))
         ·exact fun _ _ h => OpR.want rfl rfl (h.dt 1 43 rfl rfl rfl) hb287 (Yl.sameI (yl_eql rfl (h.dt 4 46 rfl rfl rfl) (h.dt 7 49 rfl rfl rfl) kI))
         ·exact fun _ _ h => os rfl ((yl_pick_f rfl (h.dt 1 43 rfl rfl rfl) hb287 (h.dt 8 50 rfl rfl rfl) kI))
         ·exact fun _ _ h => os rfl ((yl_assign rfl (h.dt 9 51 rfl rfl rfl) kI))
         ·intro fl447 fh448 L444 w445 hp446
          have hE449 := hp446.ex
          have hE449z := Ex.size hE449
          refine SeqR.done (bn (tn (CW.sub (Sub.cons (d := 0) (hp446.old 0 _ rfl rfl) (Sub.cons (d := 1) (hp446.old 1 _ rfl rfl) (Sub.cons (d := 5) (hp446.old 5 _ rfl rfl) (Sub.cons (d := 6) (hp446.nt 10 6 rfl rfl rfl) (Sub.cons (d := 7) (hp446.old 7 _ rfl rfl) (Sub.cons (d := 19) (hp446.old 19 _ rfl rfl) (Sub.cons (d := 20) (hp446.old 20 _ rfl rfl) (Sub.cons (d := 21) (hp446.old 21 _ rfl rfl) (Sub.cons (d := 22) (hp446.old 22 _ rfl rfl) (Sub.cons (d := 25) (hp446.old 25 _ rfl rfl) (Sub.cons (d := 26) (hp446.old 26 _ rfl rfl) (Sub.cons (d := 27) (hp446.old 27 _ rfl rfl) (Sub.cons (d := 28) (hp446.old 28 _ rfl rfl) (Sub.cons (d := 29) (hp446.old 29 _ rfl rfl) (Sub.cons (d := 30) (hp446.old 30 _ rfl rfl) (Sub.cons (d := 31) (hp446.old 31 _ rfl rfl) (Sub.cons (d := 32) (hp446.old 32 _ rfl rfl) (Sub.cons (d := 33) (hp446.old 33 _ rfl rfl) (Sub.cons (d := 34) (hp446.old 34 _ rfl rfl) (Sub.cons (d := 44) (hp446.nt 2 44 rfl rfl rfl) (Sub.cons (d := 45) (hp446.nt 3 45 rfl rfl rfl) (Sub.cons (d := 46) (hp446.nt 4 46 rfl rfl rfl) (Sub.cons (d := 47) (hp446.nt 5 47 rfl rfl rfl) (Sub.cons (d := 48) (hp446.nt 6 48 rfl rfl rfl) (Sub.cons (d := 49) (hp446.nt 7 49 rfl rfl rfl) (Sub.cons (d := 50) (hp446.nt 8 50 rfl rfl rfl) (Sub.nil _))))))))))))))))))))))))))) (CW.region (sd rfl (yl_move rfl rfl (sd rfl (yl_inc rfl rfl rfl (by omega) (sd rfl (yl_assign rfl rfl (SeqR.done ?_)))))))))))
          refine tn ?_
          have hB476 : B_s_l3Bytes_1 p_s p_more k5 k254 (x255) = .cont (decide (((p_s.getD k5 0).toNat : Int) = ((p_more.getD k254 0).toNat : Int))) := by simp only [B_s_l3Bytes_1, hb21, hb22, hb253, hb287, cond_true, cond_false, loopE_done, loopE_ret]
          exact ⟨p_more.length - (k254 + 1), by omega, k254 + 1, decide (((p_s.getD k5 0).toNat : Int) = ((p_more.getD k254 0).toNat : Int)), rfl, hlt286, (by omega), rfl, rfl, rfl, rfl, rfl, rfl, rfl, rfl, rfl, rfl, rfl, rfl, rfl, rfl, rfl, rfl, rfl, rfl, rfl, (Ex.trans hf284 hE449), (loopM.cont hlt286 hB476).symm.trans hI263⟩
       ·refine CW.seq (CW.seq (CW.region (sd rfl (yl_move rfl rfl (sd rfl (yl_move rfl rfl (sd rfl (yl_slen Try.un9 (a := p_more) rfl rfl (sd rfl (yl_lss rfl rfl rfl (SeqR.done (tn ?_))))))))))))
        refine CW.cond_f rfl (lt_f hlt286) (CW.exit (tx (tx ?_)))
        have hL478 : loopM (B_s_l3Bytes_1 p_s p_more k5) (p_more.length - 0) 0 (decide (((p_s.getD k5 0).toNat : Int) ≤ 57)) = .done (x255) := hI263.symm.trans (loopM.stop hlt286)
        refine bx (tn (CW.seq (CW.region (sd rfl (yl_move rfl rfl (sd rfl (yl_not rfl rfl (SeqR.done (tn (bcase (x255) (fun hb479 => ?_) (fun hb479 => ?_)))))))))))
        ·refine CW.cond_f rfl (not_t hb479) (CW.skip (bn (tn (CW.region (sd rfl (yl_move rfl rfl (sd rfl (yl_inc rfl rfl rfl (by omega) (sd rfl (yl_assign rfl rfl (SeqR.done ?_)))))))))))
         refine tn ?_
         have hB480 : B_s_l3Bytes_0 p_s p_more k5 () = .cont () := by simp only [B_s_l3Bytes_0, hb21, hb22, hb253, hb479, hL478, cond_true, cond_false, loopE_done, loopE_ret]
         exact ⟨p_s.length - (k5 + 1), by omega, k5 + 1, rfl, hlt20, (by omega), rfl, rfl, rfl, hf284, (loopM.cont hlt20 hB480).symm.trans hI13⟩
        ·refine CW.cond_t rfl (not_f hb479) (CW.seq (CW.region (sd rfl (yl_assign rfl rfl (SeqR.done (tn (CW.ret (br (tr ?_)))))))))
         refine tr ?_
         have hB482 : B_s_l3Bytes_0 p_s p_more k5 () = .ret false := by simp only [B_s_l3Bytes_0, hb21, hb22, hb253, hb479, hL478, cond_true, cond_false, loopE_done, loopE_ret]
         have hL481 : loopM (B_s_l3Bytes_0 p_s p_more) (p_s.length - 0) 0 () = .ret false := hI13.symm.trans (loopM.ret hlt20 hB482)
         refine br (tr (rr rfl (.cons rfl .nil) ?_))
         have hM483 : (s_l3Bytes p_s p_more) = (false) := by simp only [s_l3Bytes, hb21, hb22, hb253, hb479, hL478, hL481, cond_true, cond_false, loopE_done, loopE_ret]
         rw [hM483]
         exact ⟨rfl, hf284⟩
     ·have hb253p := dec_f hb253
      refine sz rfl rfl hb253 (sz rfl rfl hb253 (sz rfl rfl hb253 (sz rfl rfl hb253 (sy rfl rfl hb22 (yl_pick_f rfl rfl hb253 rfl (sd rfl (yl_pick_f rfl rfl hb22 rfl (sd rfl (yl_assign rfl rfl (SeqR.done (tn ?_)))))))))))
      refine CW.seq (CW.seq (CW.region (sd rfl (yl_assign rfl rfl (SeqR.done (tn (CW.block (CW.loop (fun m486 L487 w488 => ∃ (k484 : Nat) (x485 : Bool), m486 = p_more.length - k484 ∧ k484 ≤ p_more.length ∧ w11.heap.size ≤ w488.heap.size ∧ lkp L487 0 = some (.string (bs (p_s))) ∧ lkp L487 1 = some (.string (bs (p_more))) ∧ lkp L487 5 = some (.int .i64 ((k5 : Int))) ∧ lkp L487 6 = some (.bool (x485)) ∧ lkp L487 7 = some (.int .i64 ((k484 : Int))) ∧ lkp L487 19 = some (.string (bs (p_s))) ∧ lkp L487 20 = some (.int .i64 ((k5 : Int))) ∧ lkp L487 21 = some (.int .u8 (((p_s.getD k5 0).toNat : Int))) ∧ lkp L487 22 = some (.bool (decide (((p_s.getD k5 0).toNat : Int) ≤ 122))) ∧ lkp L487 25 = some (.string (bs (p_s))) ∧ lkp L487 26 = some (.int .i64 ((k5 : Int))) ∧ lkp L487 27 = some (.int .u8 (((p_s.getD k5 0).toNat : Int))) ∧ lkp L487 28 = some (.bool (decide (48 ≤ ((p_s.getD k5 0).toNat : Int)))) ∧ lkp L487 29 = some (.bool (decide (48 ≤ ((p_s.getD k5 0).toNat : Int)))) ∧ lkp L487 30 = some (undef) ∧ lkp L487 31 = some (undef) ∧ lkp L487 32 = some (undef) ∧ lkp L487 33 = some (undef) ∧ lkp L487 34 = some (.bool (false)) ∧ Ex w w488 ∧ loopM (B_s_l3Bytes_1 p_s p_more k5) (p_more.length - k484) k484 (x485) = loopM (B_s_l3Bytes_1 p_s p_more k5) (p_more.length - 0) 0 (false)) (p_more.length - 0) ?_ ?_))))))))
      ·exact ⟨0, false, rfl, (by omega), Nat.le_refl _, rfl, rfl, rfl, rfl, rfl, rfl, rfl, rfl, rfl, rfl, rfl, rfl, rfl, rfl, rfl, rfl, rfl, rfl, rfl, hf18, rfl⟩
      ·rintro m489 L490 w491 ⟨k484, x485, rfl, hk492, hsz494, hl495, hl496, hl497, hl498, hl499, hl500, hl501, hl502, hl503, hl504, hl505, hl506, hl507, hl508, hl509, hl510, hl511, hl512, hl513, hf514, hI493⟩
       refine CW.sub (Sub.cons hl495 (Sub.cons hl496 (Sub.cons hl497 (Sub.cons hl498 (Sub.cons hl499 (Sub.cons hl500 (Sub.cons hl501 (Sub.cons hl502 (Sub.cons hl503 (Sub.cons hl504 (Sub.cons hl505 (Sub.cons hl506 (Sub.cons hl507 (Sub.cons hl508 (Sub.cons hl509 (Sub.cons hl510 (Sub.cons hl511 (Sub.cons hl512 (Sub.cons hl513 (Sub.nil _)))))))))))))))))))) ?_
       have hf514z := Ex.size hf514
       have hbg515 : p_more.length ≤ 1073741824 := o2
       rcases Nat.lt_or_ge k484 p_more.length with hlt516 | hlt516
       ·refine CW.seq (CW.seq (CW.region (sd rfl (yl_move rfl rfl (sd rfl (yl_move rfl rfl (sd rfl (yl_slen Try.un9 (a := p_more) rfl rfl (sd rfl (yl_lss rfl rfl rfl (SeqR.done (tn ?_))))))))))))
        refine CW.cond_t rfl (lt_t hlt516) (CW.skip (tn (CW.seq (CW.block (bcase (x485) (fun hb517 => ?_) (fun hb517 => ?_))))))
        ·refine CW.drawsI 11 (vgetI [DetI (.bool (x485)), DetI (.bool (x485)), DetI (undef), DetI (undef), DetI (undef), DetI (undef), DetI (undef), DetI (undef), DetI (undef), DetI (.bool (true)), DetI (.bool (true))]) Try.follows rfl rfl rfl rfl rfl rfl (vgetI_stable ⟨StableI.det _, StableI.det _, StableI.det _, StableI.det _, StableI.det _, StableI.det _, StableI.det _, StableI.det _, StableI.det _, StableI.det _, StableI.det _, trivial⟩) ⟨?_, ?_, ?_, ?_, ?_, ?_, ?_, ?_, ?_, ?_, ?_, trivial⟩ ?_
         ·exact fun _ _ h => os rfl ((yl_move rfl (h.old 6 _ rfl rfl) kI))
         ·exact fun _ _ h => os rfl ((yl_move rfl (h.dt 0 42 rfl rfl rfl) kI))
         ·exact fun _ _ h => OpR.skip rfl rfl (h.dt 1 43 rfl rfl rfl) hb517 ⟨rfl, Ex.refl _⟩
         ·exact fun _ _ h => OpR.skip rfl rfl (h.dt 1 43 rfl rfl rfl) hb517 ⟨rfl, Ex.refl _⟩
         ·exact fun _ _ h => OpR.skip rfl rfl (h.dt 1 43 rfl rfl rfl) hb517 ⟨rfl, Ex.refl _⟩
         ·exact fun _ _ h => OpR.skip rfl rfl (h.dt 1 43 rfl rfl rfl) hb517 ⟨rfl, Ex.refl _⟩
         ·exact fun _ _ h => OpR.skip rfl rfl (h.dt 1 43 rfl rfl rfl) hb517 ⟨rfl, Ex.refl _⟩
         ·exact fun _ _ h => OpR.skip rfl rfl (h.dt 1 43 rfl rfl rfl) hb517 ⟨rfl, Ex.refl _⟩
         ·exact fun _ _ h => OpR.skip rfl rfl (h.dt 1 43 rfl rfl rfl) hb517 ⟨rfl, Ex.refl _⟩
         ·exact fun _ _ h => os rfl ((yl_pick_t rfl (h.dt 1 43 rfl rfl rfl) hb517 rfl kI))
         ·exact fun _ _ h => os rfl ((yl_assign rfl (h.dt 9 51 rfl rfl rfl) kI))
         ·intro fl577 fh578 L574 w575 hp576
          have hE579 := hp576.ex
          have hE579z := Ex.size hE579
          refine SeqR.done (bn (tn (CW.sub (Sub.cons (d := 0) (hp576.old 0 _ rfl rfl) (Sub.cons (d := 1) (hp576.old 1 _ rfl rfl) (Sub.cons (d := 5) (hp576.old 5 _ rfl rfl) (Sub.cons (d := 6) (hp576.nt 10 6 rfl rfl rfl) (Sub.cons (d := 7) (hp576.old 7 _ rfl rfl) (Sub.cons (d := 19) (hp576.old 19 _ rfl rfl) (Sub.cons (d := 20) (hp576.old 20 _ rfl rfl) (Sub.cons (d := 21) (hp576.old 21 _ rfl rfl) (Sub.cons (d := 22) (hp576.old 22 _ rfl rfl) (Sub.cons (d := 25) (hp576.old 25 _ rfl rfl) (Sub.cons (d := 26) (hp576.old 26 _ rfl rfl) (Sub.cons (d := 27) (hp576.old 27 _ rfl rfl) (Sub.cons (d := 28) (hp576.old 28 _ rfl rfl) (Sub.cons (d := 29) (hp576.old 29 _ rfl rfl) (Sub.cons (d := 30) (hp576.old 30 _ rfl rfl) (Sub.cons (d := 31) (hp576.old 31 _ rfl rfl) (Sub.cons (d := 32) (hp576.old 32 _ rfl rfl) (Sub.cons (d := 33) (hp576.old 33 _ rfl rfl) (Sub.cons (d := 34) (hp576.old 34 _ rfl rfl) (Sub.cons (d := 44) (hp576.nt 2 44 rfl rfl rfl) (Sub.cons (d := 45) (hp576.nt 3 45 rfl rfl rfl) (Sub.cons (d := 46) (hp576.nt 4 46 rfl rfl rfl) (Sub.cons (d := 47) (hp576.nt 5 47 rfl rfl rfl) (Sub.cons (d := 48) (hp576.nt 6 48 rfl rfl rfl) (Sub.cons (d := 49) (hp576.nt 7 49 rfl rfl rfl) (Sub.cons (d := 50) (hp576.nt 8 50 rfl rfl rfl) (Sub.nil _))))))))))))))))))))))))))) (CW.region (sd rfl (yl_move rfl rfl (sd rfl (yl_inc rfl rfl rfl (by omega) (sd rfl (yl_assign rfl rfl (SeqR.done ?_)))))))))))
          refine tn ?_
          have hB606 : B_s_l3Bytes_1 p_s p_more k5 k484 (x485) = .cont (true) := by simp only [B_s_l3Bytes_1, hb21, hb22, hb253, hb517, cond_true, cond_false, loopE_done, loopE_ret]
          exact ⟨p_more.length - (k484 + 1), by omega, k484 + 1, true, rfl, hlt516, (by omega), rfl, rfl, rfl, rfl, rfl, rfl, rfl, rfl, rfl, rfl, rfl, rfl, rfl, rfl, rfl, rfl, rfl, rfl, rfl, (Ex.trans hf514 hE579), (loopM.cont hlt516 hB606).symm.trans hI493⟩
        ·refine CW.drawsI 11 (vgetI [DetI (.bool (x485)), DetI (.bool (x485)), DetI (.string (bs (p_s))), DetI (.int .i64 ((k5 : Int))), DetI (.int .u8 (((p_s.getD k5 0).toNat : Int))), DetI (.string (bs (p_more))), DetI (.int .i64 ((k484 : Int))), DetI (.int .u8 (((p_more.getD k484 0).toNat : Int))), DetI (.bool (decide (((p_s.getD k5 0).toNat : Int) = ((p_more.getD k484 0).toNat : Int)))), DetI (.bool (decide (((p_s.getD k5 0).toNat : Int) = ((p_more.getD k484 0).toNat : Int)))), DetI (.bool (decide (((p_s.getD k5 0).toNat : Int) = ((p_more.getD k484 0).toNat : Int))))]) Try.follows rfl rfl rfl rfl rfl rfl (vgetI_stable ⟨StableI.det _, StableI.det _, StableI.det _, StableI.det _, StableI.det _, StableI.det _, StableI.det _, StableI.det _, StableI.det _, StableI.det _, StableI.det _, trivial⟩) ⟨?_, ?_, ?_, ?_, ?_, ?_, ?_, ?_, ?_, ?_, ?_, trivial⟩ ?_
         ·exact fun _ _ h => os rfl ((yl_move rfl (h.old 6 _ rfl rfl) kI))
         ·exact fun _ _ h => os rfl ((yl_move rfl (h.dt 0 42 rfl rfl rfl) kI))
         ·exact fun _ _ h => OpR.want rfl rfl (h.dt 1 43 rfl rfl rfl) hb517 (Yl.sameI (yl_move rfl (h.old 0 _ rfl rfl) kI))
         ·exact fun _ _ h => OpR.want rfl rfl (h.dt 1 43 rfl rfl rfl) hb517 (Yl.sameI (yl_move rfl (h.old 5 _ rfl rfl) kI))
         ·intro L630 w631 hi632
          have hE633 := hi632.ex
          have hE633z := Ex.size hE633
          exact OpR.want rfl rfl (hi632.dt 1 43 rfl rfl rfl) hb517 (Yl.sameI (yl_sindexN Try.un9 (a := p_s) rfl (hi632.dt 2 44 rfl rfl rfl) (hi632.dt 3 45 rfl rfl rfl) (by first | omega | assumption | (simp only [IntKind.wrap_i64] at *; omega)) kI))
         ·exact fun _ _ h => OpR.want rfl rfl (h.dt 1 43 rfl rfl rfl) hb517 (Yl.sameI (yl_move rfl (h.old 1 _ rfl rfl) kI))
         ·exact fun _ _ h => OpR.want rfl rfl (h.dt 1 43 rfl rfl rfl) hb517 (Yl.sameI (yl_move rfl (h.old 7 _ rfl rfl) kI))
         ·intro L649 w650 hi651
          have hE652 := hi651.ex
          have hE652z := Ex.size hE652
          exact OpR.want rfl rfl (hi651.dt 1 43 rfl rfl rfl) hb517 (Yl.sameI (yl_sindexN Try.un9 (a := p_more) rfl (hi651.dt 5 47 rfl rfl rfl) (hi651.dt 6 48 rfl rfl rfl) (by first | omega | assumption | (simp only [IntKind.wrap_i64] at *; omega)) kI))
         ·exact fun _ _ h => OpR.want rfl rfl (h.dt 1 43 rfl rfl rfl) hb517 (Yl.sameI (yl_eql rfl (h.dt 4 46 rfl rfl rfl) (h.dt 7 49 rfl rfl rfl) kI))
         ·exact fun _ _ h => os rfl ((yl_pick_f rfl (h.dt 1 43 rfl rfl rfl) hb517 (h.dt 8 50 rfl rfl rfl) kI))
         ·exact fun _ _ h => os rfl ((yl_assign rfl (h.dt 9 51 rfl rfl rfl) kI))
         ·intro fl677 fh678 L674 w675 hp676
          have hE679 := hp676.ex
          have hE679z := Ex.size hE679
          refine SeqR.done (bn (tn (CW.sub (Sub.cons (d := 0) (hp676.old 0 _ rfl rfl) (Sub.cons (d := 1) (hp676.old 1 _ rfl rfl) (Sub.cons (d := 5) (hp676.old 5 _ rfl rfl) (Sub.cons (d := 6) (hp676.nt 10 6 rfl rfl rfl) (Sub.cons (d := 7) (hp676.old 7 _ rfl rfl) (Sub.cons (d := 19) (hp676.old 19 _ rfl rfl) (Sub.cons (d := 20) (hp676.old 20 _ rfl rfl) (Sub.cons (d := 21) (hp676.old 21 _ rfl rfl) (Sub.cons (d := 22) (hp676.old 22 _ rfl rfl) (Sub.cons (d := 25) (hp676.old 25 _ rfl rfl) (Sub.cons (d := 26) (hp676.old 26 _ rfl rfl) (Sub.cons (d := 27) (hp676.old 27 _ rfl rfl) (Sub.cons (d := 28) (hp676.old 28 _ rfl rfl) (Sub.cons (d := 29) (hp676.old 29 _ rfl rfl) (Sub.cons (d := 30) (hp676.old 30 _ rfl rfl) (Sub.cons (d := 31) (hp676.old 31 _ rfl rfl) (Sub.cons (d := 32) (hp676.old 32 _ rfl rfl) (Sub.cons (d := 33) (hp676.old 33 _ rfl rfl) (Sub.cons (d := 34) (hp676.old 34 _ rfl rfl) (Sub.cons (d := 44) (hp676.nt 2 44 rfl rfl rfl) (Sub.cons (d := 45) (hp676.nt 3 45 rfl rfl rfl) (Sub.cons (d := 46) (hp676.nt 4 46 rfl rfl rfl) (Sub.cons (d := 47) (hp676.nt 5 47 rfl rfl rfl) (Sub.cons (d := 48) (hp676.nt 6 48 rfl rfl rfl) (Sub.cons (d := 49) (hp676.nt 7 49 rfl rfl rfl) (Sub.cons (d := 50) (hp676.nt 8 50 rfl rfl rfl) (Sub.nil _))))))))))))))))))))))))))) (CW.region (sd rfl (yl_move rfl rfl (sd rfl (yl_inc rfl rfl rfl (by omega) (sd rfl (yl_assign rfl rfl (SeqR.done ?_)))))))))))
          refine tn ?_
          have hB706 : B_s_l3Bytes_1 p_s p_more k5 k484 (x485) = .cont (decide (((p_s.getD k5 0).toNat : Int) = ((p_more.getD k484 0).toNat : Int))) := by simp only [B_s_l3Bytes_1, hb21, hb22, hb253, hb517, cond_true, cond_false, loopE_done, loopE_ret]
          exact ⟨p_more.length - (k484 + 1), by omega, k484 + 1, decide (((p_s.getD k5 0).toNat : Int) = ((p_more.getD k484 0).toNat : Int)), rfl, hlt516, (by omega), rfl, rfl, rfl, rfl, rfl, rfl, rfl, rfl, rfl, rfl, rfl, rfl, rfl, rfl, rfl, rfl, rfl, rfl, rfl, (Ex.trans hf514 hE679), (loopM.cont hlt516 hB706).symm.trans hI493⟩
       ·refine CW.seq (CW.seq (CW.region (sd rfl (yl_move rfl rfl (sd rfl (yl_move rfl rfl (sd rfl (yl_slen Try.un9 (a := p_more) rfl rfl (sd rfl (yl_lss rfl rfl rfl (SeqR.done (tn ?_))))))))))))
        refine CW.cond_f rfl (lt_f hlt516) (CW.exit (tx (tx ?_)))
        have hL708 : loopM (B_s_l3Bytes_1 p_s p_more k5) (p_more.length - 0) 0 (false) = .done (x485) := hI493.symm.trans (loopM.stop hlt516)
        refine bx (tn (CW.seq (CW.region (sd rfl (yl_move rfl rfl (sd rfl (yl_not rfl rfl (SeqR.done (tn (bcase (x485) (fun hb709 => ?_) (fun hb709 => ?_)))))))))))
        ·refine CW.cond_f rfl (not_t hb709) (CW.skip (bn (tn (CW.region (sd rfl (yl_move rfl rfl (sd rfl (yl_inc rfl rfl rfl (by omega) (sd rfl (yl_assign rfl rfl (SeqR.done ?_)))))))))))
         refine tn ?_
         have hB710 : B_s_l3Bytes_0 p_s p_more k5 () = .cont () := by simp only [B_s_l3Bytes_0, hb21, hb22, hb253, hb709, hL708, cond_true, cond_false, loopE_done, loopE_ret]
         exact ⟨p_s.length - (k5 + 1), by omega, k5 + 1, rfl, hlt20, (by omega), rfl, rfl, rfl, hf514, (loopM.cont hlt20 hB710).symm.trans hI13⟩
        ·refine CW.cond_t rfl (not_f hb709) (CW.seq (CW.region (sd rfl (yl_assign rfl rfl (SeqR.done (tn (CW.ret (br (tr ?_)))))))))
         refine tr ?_
         have hB712 : B_s_l3Bytes_0 p_s p_more k5 () = .ret false := by simp only [B_s_l3Bytes_0, hb21, hb22, hb253, hb709, hL708, cond_true, cond_false, loopE_done, loopE_ret]
         have hL711 : loopM (B_s_l3Bytes_0 p_s p_more) (p_s.length - 0) 0 () = .ret false := hI13.symm.trans (loopM.ret hlt20 hB712)
         refine br (tr (rr rfl (.cons rfl .nil) ?_))
         have hM713 : (s_l3Bytes p_s p_more) = (false) := by simp only [s_l3Bytes, hb21, hb22, hb253, hb709, hL708, hL711, cond_true, cond_false, loopE_done, loopE_ret]
         rw [hM713]
         exact ⟨rfl, hf514⟩
   ·have hb21p := dec_f hb21
    refine sz rfl rfl hb21 (sz rfl rfl hb21 (sz rfl rfl hb21 (sz rfl rfl hb21 (sd rfl (yl_pick_f rfl rfl hb21 rfl (sd rfl (yl_move rfl rfl (sy rfl rfl rfl (yl_move rfl rfl (sy rfl rfl rfl (yl_move rfl rfl (sy rfl rfl rfl (yl_sindexN Try.un9 (a := p_s) rfl rfl rfl (by first | omega | assumption | (simp only [IntKind.wrap_i64] at *; omega)) ?_)))))))))))))
    refine sy rfl rfl rfl (yl_geq rfl rfl rfl (sy rfl rfl rfl (yl_move rfl rfl (bcase (decide (48 ≤ ((p_s.getD k5 0).toNat : Int))) (fun hb714 => ?_) (fun hb714 => ?_)))))
    ·have hb714p := dec_t hb714
     refine sy rfl rfl hb714 (yl_move rfl rfl (sy rfl rfl hb714 (yl_move rfl rfl (sy rfl rfl hb714 (yl_sindexN Try.un9 (a := p_s) rfl rfl rfl (by first | omega | assumption | (simp only [IntKind.wrap_i64] at *; omega)) (sy rfl rfl hb714 (yl_leq rfl rfl rfl (sy rfl rfl rfl (yl_pick_t rfl rfl hb714 rfl (sd rfl (yl_pick_f rfl rfl rfl rfl (sd rfl (yl_assign rfl rfl (SeqR.done (tn ?_)))))))))))))))
     refine CW.seq (CW.seq (CW.region (sd rfl (yl_assign rfl rfl (SeqR.done (tn (CW.block (CW.loop (fun m717 L718 w719 => ∃ (k715 : Nat) (x716 : Bool), m717 = p_more.length - k715 ∧ k715 ≤ p_more.length ∧ w11.heap.size ≤ w719.heap.size ∧ lkp L718 0 = some (.string (bs (p_s))) ∧ lkp L718 1 = some (.string (bs (p_more))) ∧ lkp L718 5 = some (.int .i64 ((k5 : Int))) ∧ lkp L718 6 = some (.bool (x716)) ∧ lkp L718 7 = some (.int .i64 ((k715 : Int))) ∧ lkp L718 19 = some (undef) ∧ lkp L718 20 = some (undef) ∧ lkp L718 21 = some (undef) ∧ lkp L718 22 = some (undef) ∧ lkp L718 25 = some (.string (bs (p_s))) ∧ lkp L718 26 = some (.int .i64 ((k5 : Int))) ∧ lkp L718 27 = some (.int .u8 (((p_s.getD k5 0).toNat : Int))) ∧ lkp L718 28 = some (.bool (decide (48 ≤ ((p_s.getD k5 0).toNat : Int)))) ∧ lkp L718 29 = some (.bool (decide (48 ≤ ((p_s.getD k5 0).toNat : Int)))) ∧ lkp L718 30 = some (.string (bs (p_s))) ∧ lkp L718 31 = some (.int .i64 ((k5 : Int))) ∧ lkp L718 32 = some (.int .u8 (((p_s.getD k5 0).toNat : Int))) ∧ lkp L718 33 = some (.bool (decide (((p_s.getD k5 0).toNat : Int) ≤ 57))) ∧ lkp L718 34 = some (.bool (decide (((p_s.getD k5 0).toNat : Int) ≤ 57))) ∧ Ex w w719 ∧ loopM (B_s_l3Bytes_1 p_s p_more k5) (p_more.length - k715) k715 (x716) = loopM (B_s_l3Bytes_1 p_s p_more k5) (p_more.length - 0) 0 (decide (((p_s.getD k5 0).toNat : Int) ≤ 57))) (p_more.length - 0) ?_ ?_))))))))
     ·exact ⟨0, decide (((p_s.getD k5 0).toNat : Int) ≤ 57), rfl, (by omega), Nat.le_refl _, rfl, rfl, rfl, rfl, rfl, rfl, rfl, rfl, rfl, rfl, rfl, rfl, rfl, rfl, rfl, rfl, rfl, rfl, rfl, hf18, rfl⟩
     ·rintro m720 L721 w722 ⟨k715, x716, rfl, hk723, hsz725, hl726, hl727, hl728, hl729, hl730, hl731, hl732, hl733, hl734, hl735, hl736, hl737, hl738, hl739, hl740, hl741, hl742, hl743, hl744, hf745, hI724⟩
      refine CW.sub (Sub.cons hl726 (Sub.cons hl727 (Sub.cons hl728 (Sub.cons hl729 (Sub.cons hl730 (Sub.cons hl731 (Sub.cons hl732 (Sub.cons hl733 (Sub.cons hl734 (Sub.cons hl735 (Sub.cons hl736 (Sub.cons hl737 (Sub.cons hl738 (Sub.cons hl739 (Sub.cons hl740 (Sub.cons hl741 (Sub.cons hl742 (Sub.cons hl743 (Sub.cons hl744 (Sub.nil _)))))))))))))))))))) ?_
      have hf745z := Ex.size hf745
      have hbg746 : p_more.length ≤ 1073741824 := o2
      rcases Nat.lt_or_ge k715 p_more.length with hlt747 | hlt747
      ·refine CW.seq (CW.seq (CW.region (sd rfl (yl_move rfl rfl (sd rfl (yl_move rfl rfl (sd rfl (yl_slen Try.un9 (a := p_more) rfl rfl (sd rfl (yl_lss rfl rfl rfl (SeqR.done (tn ?_))))))))))))
       refine CW.cond_t rfl (lt_t hlt747) (CW.skip (tn (CW.seq (CW.block (bcase (x716) (fun hb748 => ?_) (fun hb748 => ?_))))))
       ·refine CW.drawsI 11 (vgetI [DetI (.bool (x716)), DetI (.bool (x716)), DetI (undef), DetI (undef), DetI (undef), DetI (undef), DetI (undef), DetI (undef), DetI (undef), DetI (.bool (true)), DetI (.bool (true))]) Try.follows rfl rfl rfl rfl rfl rfl (vgetI_stable ⟨StableI.det _, StableI.det _, StableI.det _, StableI.det _, StableI.det _, StableI.det _, StableI.det _, StableI.det _, StableI.det _, StableI.det _, StableI.det _, trivial⟩) ⟨?_, ?_, ?_, ?_, ?_, ?_, ?_, ?_, ?_, ?_, ?_, trivial⟩ ?_
        ·exact fun _ _ h => os rfl ((yl_move rfl (h.old 6 _ rfl rfl) kI))
        ·exact fun _ _ h => os rfl ((yl_move rfl (h.dt 0 42 rfl rfl rfl) kI))
        ·exact fun _ _ h => OpR.skip rfl rfl (h.dt 1 43 rfl rfl rfl) hb748 ⟨rfl, Ex.refl _⟩
        ·exact fun _ _ h => OpR.skip rfl rfl (h.dt 1 43 rfl rfl rfl) hb748 ⟨rfl, Ex.refl _⟩
        ·exact fun _ _ h => OpR.skip rfl rfl (h.dt 1 43 rfl rfl rfl) hb748 ⟨rfl, Ex.refl _⟩
        ·exact fun _ _ h => OpR.skip rfl rfl (h.dt 1 43 rfl rfl rfl) hb748 ⟨rfl, Ex.refl _⟩
        ·exact fun _ _ h => OpR.skip rfl rfl (h.dt 1 43 rfl rfl rfl) hb748 ⟨rfl, Ex.refl _⟩
        ·exact fun _ _ h => OpR.skip rfl rfl (h.dt 1 43 rfl rfl rfl) hb748 ⟨rfl, Ex.refl _⟩
        ·exact fun _ _ h => OpR.skip rfl rfl (h.dt 1 43 rfl rfl rfl) hb748 ⟨rfl, Ex.refl _⟩
        ·exact fun _ _ h => os rfl ((yl_pick_t rfl (h.dt 1 43 rfl rfl rfl) hb748 rfl kI))
        ·exact fun _ _ h => os rfl ((yl_assign rfl (h.dt 9 51 rfl rfl rfl) kI))
        ·intro fl808 fh809 L805 w806 hp807
         have hE810 := hp807.ex
         have hE810z := Ex.size hE810
         refine SeqR.done (bn (tn (CW.sub (Sub.cons (d := 0) (hp807.old 0 _ rfl rfl) (Sub.cons (d := 1) (hp807.old 1 _ rfl rfl) (Sub.cons (d := 5) (hp807.old 5 _ rfl rfl) (Sub.cons (d := 6) (hp807.nt 10 6 rfl rfl rfl) (Sub.cons (d := 7) (hp807.old 7 _ rfl rfl) (Sub.cons (d := 19) (hp807.old 19 _ rfl rfl) (Sub.cons (d := 20) (hp807.old 20 _ rfl rfl) (Sub.cons (d := 21) (hp807.old 21 _ rfl rfl) (Sub.cons (d := 22) (hp807.old 22 _ rfl rfl) (Sub.cons (d := 25) (hp807.old 25 _ rfl rfl) (Sub.cons (d := 26) (hp807.old 26 _ rfl rfl) (Sub.cons (d := 27) (hp807.old 27 _ rfl rfl) (Sub.cons (d := 28) (hp807.old 28 _ rfl rfl) (Sub.cons (d := 29) (hp807.old 29 _ rfl rfl) (Sub.cons (d := 30) (hp807.old 30 _ rfl rfl) (Sub.cons (d := 31) (hp807.old 31 _ rfl rfl) (Sub.cons (d := 32) (hp807.old 32 _ rfl rfl) (Sub.cons (d := 33) (hp807.old 33 _ rfl rfl) (Sub.cons (d := 34) (hp807.old 34 _ rfl rfl) (Sub.cons (d := 44) (hp807.nt 2 44 rfl rfl rfl) (Sub.cons (d := 45) (hp807.nt 3 45 rfl rfl rfl) (Sub.cons (d := 46) (hp807.nt 4 46 rfl rfl rfl) (Sub.cons (d := 47) (hp807.nt 5 47 rfl rfl rfl) (Sub.cons (d := 48) (hp807.nt 6 48 rfl rfl rfl) (Sub.cons (d := 49) (hp807.nt 7 49 rfl rfl rfl) (Sub.cons (d := 50) (hp807.nt 8 50 rfl rfl rfl) (Sub.nil _))))))))))))))))))))))))))) (CW.region (sd rfl (yl_move rfl rfl (sd rfl (yl_inc rfl rfl rfl (by omega) (sd rfl (yl_assign rfl rfl (SeqR.done ?_)))))))))))
         refine tn ?_
         have hB837 : B_s_l3Bytes_1 p_s p_more k5 k715 (x716) = .cont (true) := by simp only [B_s_l3Bytes_1, hb21, hb714, hb748, cond_true, cond_false, loopE_done, loopE_ret]
         exact ⟨p_more.length - (k715 + 1), by omega, k715 + 1, true, rfl, hlt747, (by omega), rfl, rfl, rfl, rfl, rfl, rfl, rfl, rfl, rfl, rfl, rfl, rfl, rfl, rfl, rfl, rfl, rfl, rfl, rfl, (Ex.trans hf745 hE810), (loopM.cont hlt747 hB837).symm.trans hI724⟩
       ·refine CW.drawsI 11 (vgetI [DetI (.bool (x716)), DetI (.bool (x716)), DetI (.string (bs (p_s))), DetI (.int .i64 ((k5 : Int))), DetI (.int .u8 (((p_s.getD k5 0).toNat : Int))), DetI (.string (bs (p_more))), DetI (.int .i64 ((k715 : Int))), DetI (.int .u8 (((p_more.getD k715 0).toNat : Int))), DetI (.bool (decide (((p_s.getD k5 0).toNat : Int) = ((p_more.getD k715 0).toNat : Int)))), DetI (.bool (decide (((p_s.getD k5 0).toNat : Int) = ((p_more.getD k715 0).toNat : Int)))), DetI (.bool (decide (((p_s.getD k5 0).toNat : Int) = ((p_more.getD k715 0).toNat : Int))))]) Try.follows rfl rfl rfl rfl rfl rfl (vgetI_stable ⟨StableI.det _, StableI.det _, StableI.det _, StableI.det _, StableI.det _, StableI.det _, StableI.det _, StableI.det _, StableI.det _, StableI.det _, StableI.det _, trivial⟩) ⟨?_, ?_, ?_, ?_, ?_, ?_, ?_, ?_, ?_, ?_, ?_, trivial⟩ ?_
        ·exact fun _ _ h => os rfl ((yl_move rfl (h.old 6 _ rfl rfl) kI))
        ·exact fun _ _ h => os rfl ((yl_move rfl (h.dt 0 42 rfl rfl rfl) kI))
        ·exact fun _ _ h => OpR.want rfl rfl (h.dt 1 43 rfl rfl rfl) hb748 (Yl.sameI (yl_move rfl (h.old 0 _ rfl rfl) kI))
        ·exact fun _ _ h => OpR.want rfl rfl (h.dt 1 43 rfl rfl rfl) hb748 (Yl.sameI (yl_move rfl (h.old 5 _ rfl rfl) kI))
        ·intro L861 w862 hi863
         have hE864 := hi863.ex
         have hE864z := Ex.size hE864
         exact OpR.want rfl rfl (hi863.dt 1 43 rfl rfl rfl) hb748 (Yl.sameI (yl_sindexN Try.un9 (a := p_s) rfl (hi863.dt 2 44 rfl rfl rfl) (hi863.dt 3 45 rfl rfl rfl) (by first | omega | assumption | (simp only [IntKind.wrap_i64] at *; omega)) kI))
        ·exact fun _ _ h => OpR.want rfl rfl (h.dt 1 43 rfl rfl rfl) hb748 (Yl.sameI (yl_move rfl (h.old 1 _ rfl rfl) kI))
        ·exact fun _ _ h => OpR.want rfl rfl (h.dt 1 43 rfl rfl rfl) hb748 (Yl.sameI (yl_move rfl (h.old 7 _ rfl rfl) kI))
        ·intro L880 w881 hi882
         have hE883 := hi882.ex
         have hE883z := Ex.size hE883
         exact OpR.want rfl rfl (hi882.dt 1 43 rfl rfl rfl) hb748 (Yl.sameI (yl_sindexN Try.un9 (a := p_more) rfl (hi882.dt 5 47 rfl rfl rfl) (hi882.dt 6 48 rfl rfl rfl) (by first | omega | assumption | (simp only [IntKind.wrap_i64] at *; omega)) kI))
        ·exact fun _ _ h => OpR.want rfl rfl (h.dt 1 43 rfl rfl rfl) hb748 (Yl.sameI (yl_eql rfl (h.dt 4 46 rfl rfl rfl) (h.dt 7 49 rfl rfl rfl) kI))
        ·exact fun _ _ h => os rfl ((yl_pick_f rfl (h.dt 1 43 rfl rfl rfl) hb748 (h.dt 8 50 rfl rfl rfl) kI))
        ·exact fun _ _ h => os rfl ((yl_assign rfl (h.dt 9 51 rfl rfl rfl) kI))
        ·intro fl908 fh909 L905 w906 hp907
         have hE910 := hp907.ex
         have hE910z := Ex.size hE910
         refine SeqR.done (bn (tn (CW.sub (Sub.cons (d := 0) (hp907.old 0 _ rfl rfl) (Sub.cons (d := 1) (hp907.old 1 _ rfl rfl) (Sub.cons (d := 5) (hp907.old 5 _ rfl rfl) (Sub.cons (d := 6) (hp907.nt 10 6 rfl rfl rfl) (Sub.cons (d := 7) (hp907.old 7 _ rfl rfl) (Sub.cons (d := 19) (hp907.old 19 _ rfl rfl) (Sub.cons (d := 20) (hp907.old 20 _ rfl rfl) (Sub.cons (d := 21) (hp907.old 21 _ rfl rfl) (Sub.cons (d := 22) (hp907.old 22 _ rfl rfl) (Sub.cons (d := 25) (hp907.old 25 _ rfl rfl) (Sub.cons (d := 26) (hp907.old 26 _ rfl rfl) (Sub.cons (d := 27) (hp907.old 27 _ rfl rfl) (Sub.cons (d := 28) (hp907.old 28 _ rfl rfl) (Sub.cons (d := 29) (hp907.old 29 _ rfl rfl) (Sub.cons (d := 30) (hp907.old 30 _ rfl rfl) (Sub.cons (d := 31) (hp907.old 31 _ rfl rfl) (Sub.cons (d := 32) (hp907.old 32 _ rfl rfl) (Sub.cons (d := 33) (hp907.old 33 _ rfl rfl) (Sub.cons (d := 34) (hp907.old 34 _ rfl rfl) (Sub.cons (d := 44) (hp907.nt 2 44 rfl rfl rfl) (Sub.cons (d := 45) (hp907.nt 3 45 rfl rfl rfl) (Sub.cons (d := 46) (hp907.nt 4 46 rfl rfl rfl) (Sub.cons (d := 47) (hp907.nt 5 47 rfl rfl rfl) (Sub.cons (d := 48) (hp907.nt 6 48 rfl rfl rfl) (Sub.cons (d := 49) (hp907.nt 7 49 rfl rfl rfl) (Sub.cons (d := 50) (hp907.nt 8 50 rfl rfl rfl) (Sub.nil _))))))))))))))))))))))))))) (CW.region (sd rfl (yl_move rfl rfl (sd rfl (yl_inc rfl rfl rfl (by omega) (sd rfl (yl_assign rfl rfl (SeqR.done ?_)))))))))))
         refine tn ?_
         have hB937 : B_s_l3Bytes_1 p_s p_more k5 k715 (x716) = .cont (decide (((p_s.getD k5 0).toNat : Int) = ((p_more.getD k715 0).toNat : Int))) := by simp only [B_s_l3Bytes_1, hb21, hb714, hb748, cond_true, cond_false, loopE_done, loopE_ret]
         exact ⟨p_more.length - (k715 + 1), by omega, k715 + 1, decide (((p_s.getD k5 0).toNat : Int) = ((p_more.getD k715 0).toNat : Int)), rfl, hlt747, (by omega), rfl, rfl, rfl, rfl, rfl, rfl, rfl, rfl, rfl, rfl, rfl, rfl, rfl, rfl, rfl, rfl, rfl, rfl, rfl, (Ex.trans hf745 hE910), (loopM.cont hlt747 hB937).symm.trans hI724⟩
      ·refine CW.seq (CW.seq (CW.region (sd rfl (yl_move rfl rfl (sd rfl (yl_move rfl rfl (sd rfl (yl_slen Try.un9 (a := p_more) rfl rfl (sd rfl (yl_lss rfl rfl rfl (SeqR.done (tn ?_))))))))))))
       refine CW.cond_f rfl (lt_f hlt747) (CW.exit (tx (tx ?_)))
       have hL939 : loopM (B_s_l3Bytes_1 p_s p_more k5) (p_more.length - 0) 0 (decide (((p_s.getD k5 0).toNat : Int) ≤ 57)) = .done (x716) := hI724.symm.trans (loopM.stop hlt747)
       refine bx (tn (CW.seq (CW.region (sd rfl (yl_move rfl rfl (sd rfl (yl_not rfl rfl (SeqR.done (tn (bcase (x716) (fun hb940 => ?_) (fun hb940 => ?_)))))))))))
       ·refine CW.cond_f rfl (not_t hb940) (CW.skip (bn (tn (CW.region (sd rfl (yl_move rfl rfl (sd rfl (yl_inc rfl rfl rfl (by omega) (sd rfl (yl_assign rfl rfl (SeqR.done ?_)))))))))))
        refine tn ?_
        have hB941 : B_s_l3Bytes_0 p_s p_more k5 () = .cont () := by simp only [B_s_l3Bytes_0, hb21, hb714, hb940, hL939, cond_true, cond_false, loopE_done, loopE_ret]
        exact ⟨p_s.length - (k5 + 1), by omega, k5 + 1, rfl, hlt20, (by omega), rfl, rfl, rfl, hf745, (loopM.cont hlt20 hB941).symm.trans hI13⟩
       ·refine CW.cond_t rfl (not_f hb940) (CW.seq (CW.region (sd rfl (yl_assign rfl rfl (SeqR.done (tn (CW.ret (br (tr ?_)))))))))
        refine tr ?_
        have hB943 : B_s_l3Bytes_0 p_s p_more k5 () = .ret false := by simp only [B_s_l3Bytes_0, hb21, hb714, hb940, hL939, cond_true, cond_false, loopE_done, loopE_ret]
        have hL942 : loopM (B_s_l3Bytes_0 p_s p_more) (p_s.length - 0) 0 () = .ret false := hI13.symm.trans (loopM.ret hlt20 hB943)
        refine br (tr (rr rfl (.cons rfl .nil) ?_))
        have hM944 : (s_l3Bytes p_s p_more) = (false) := by simp only [s_l3Bytes, hb21, hb714, hb940, hL939, hL942, cond_true, cond_false, loopE_done, loopE_ret]
        rw [hM944]
        exact ⟨rfl, hf745⟩
    ·have hb714p := dec_f hb714
     refine sz rfl rfl hb714 (sz rfl rfl hb714 (sz rfl rfl hb714 (sz rfl rfl hb714 (sy rfl rfl rfl (yl_pick_f rfl rfl hb714 rfl (sd rfl (yl_pick_f rfl rfl rfl rfl (sd rfl (yl_assign rfl rfl (SeqR.done (tn ?_)))))))))))
     refine CW.seq (CW.seq (CW.region (sd rfl (yl_assign rfl rfl (SeqR.done (tn (CW.block (CW.loop (fun m947 L948 w949 => ∃ (k945 : Nat) (x946 : Bool), m947 = p_more.length - k945 ∧ k945 ≤ p_more.length ∧ w11.heap.size ≤ w949.heap.size ∧ lkp L948 0 = some (.string (bs (p_s))) ∧ lkp L948 1 = some (.string (bs (p_more))) ∧ lkp L948 5 = some (.int .i64 ((k5 : Int))) ∧ lkp L948 6 = some (.bool (x946)) ∧ lkp L948 7 = some (.int .i64 ((k945 : Int))) ∧ lkp L948 19 = some (undef) ∧ lkp L948 20 = some (undef) ∧ lkp L948 21 = some (undef) ∧ lkp L948 22 = some (undef) ∧ lkp L948 25 = some (.string (bs (p_s))) ∧ lkp L948 26 = some (.int .i64 ((k5 : Int))) ∧ lkp L948 27 = some (.int .u8 (((p_s.getD k5 0).toNat : Int))) ∧ lkp L948 28 = some (.bool (decide (48 ≤ ((p_s.getD k5 0).toNat : Int)))) ∧ lkp L948 29 = some (.bool (decide (48 ≤ ((p_s.getD k5 0).toNat : Int)))) ∧ lkp L948 30 = some (undef) ∧ lkp L948 31 = some (undef) ∧ lkp L948 32 = some (undef) ∧ lkp L948 33 = some (undef) ∧ lkp L948 34 = some (.bool (false)) ∧ Ex w w949 ∧ loopM (B_s_l3Bytes_1 p_s p_more k5) (p_more.length - k945) k945 (x946) = loopM (B_s_l3Bytes_1 p_s p_more k5) (p_more.length - 0) 0 (false)) (p_more.length - 0) ?_ ?_))))))))
     ·exact ⟨0, false, rfl, (by omega), Nat.le_refl _, rfl, rfl, rfl, rfl, rfl, rfl, rfl, rfl, rfl, rfl, rfl, rfl, rfl, rfl, rfl, rfl, rfl, rfl, rfl, hf18, rfl⟩
     ·rintro m950 L951 w952 ⟨k945, x946, rfl, hk953, hsz955, hl956, hl957, hl958, hl959, hl960, hl961, hl962, hl963, hl964, hl965, hl966, hl967, hl968, hl969, hl970, hl971, hl972, hl973, hl974, hf975, hI954⟩
      refine CW.sub (Sub.cons hl956 (Sub.cons hl957 (Sub.cons hl958 (Sub.cons hl959 (Sub.cons hl960 (Sub.cons hl961 (Sub.cons hl962 (Sub.cons hl963 (Sub.cons hl964 (Sub.cons hl965 (Sub.cons hl966 (Sub.cons hl967 (Sub.cons hl968 (Sub.cons hl969 (Sub.cons hl970 (Sub.cons hl971 (Sub.cons hl972 (Sub.cons hl973 (Sub.cons hl974 (Sub.nil _)))))))))))))))))))) ?_
      have hf975z := Ex.size hf975
      have hbg976 : p_more.length ≤ 1073741824 := o2
      rcases Nat.lt_or_ge k945 p_more.length with hlt977 | hlt977
      ·refine CW.seq (CW.seq (CW.region (sd rfl (yl_move rfl rfl (sd rfl (yl_move rfl rfl (sd rfl (yl_slen Try.un9 (a := p_more) rfl rfl (sd rfl (yl_lss rfl rfl rfl (SeqR.done (tn ?_))))))))))))
       refine CW.cond_t rfl (lt_t hlt977) (CW.skip (tn (CW.seq (CW.block (bcase (x946) (fun hb978 => ?_) (fun hb978 => ?_))))))
       ·refine CW.drawsI 11 (vgetI [DetI (.bool (x946)), DetI (.bool (x946)), DetI (undef), DetI (undef), DetI (undef), DetI (undef), DetI (undef), DetI (undef), DetI (undef), DetI (.bool (true)), DetI (.bool (true))]) Try.follows rfl rfl rfl rfl rfl rfl (vgetI_stable ⟨StableI.det _, StableI.det _, StableI.det _, StableI.det _, StableI.det _, StableI.det _, StableI.det _, StableI.det _, StableI.det _, StableI.det _, StableI.det _, trivial⟩) ⟨?_, ?_, ?_, ?_, ?_, ?_, ?_, ?_, ?_, ?_, ?_, trivial⟩ ?_
        ·exact fun _ _ h => os rfl ((yl_move rfl (h.old 6 _ rfl rfl) kI))
        ·exact fun _ _ h => os rfl ((yl_move rfl (h.dt 0 42 rfl rfl rfl) kI))
        ·exact fun _ _ h => OpR.skip rfl rfl (h.dt 1 43 rfl rfl rfl) hb978 ⟨rfl, Ex.refl _⟩
        ·exact fun _ _ h => OpR.skip rfl rfl (h.dt 1 43 rfl rfl rfl) hb978 ⟨rfl, Ex.refl _⟩
        ·exact fun _ _ h => OpR.skip rfl rfl (h.dt 1 43 rfl rfl rfl) hb978 ⟨rfl, Ex.refl _⟩
        ·exact fun _ _ h => OpR.skip rfl rfl (h.dt 1 43 rfl rfl rfl) hb978 ⟨rfl, Ex.refl _⟩
        ·exact fun _ _ h => OpR.skip rfl rfl (h.dt 1 43 rfl rfl rfl) hb978 ⟨rfl, Ex.refl _⟩
        ·exact fun _ _ h => OpR.skip rfl rfl (h.dt 1 43 rfl rfl rfl) hb978 ⟨rfl, Ex.refl _⟩
        ·exact fun _ _ h => OpR.skip rfl rfl (h.dt 1 43 rfl rfl rfl) hb978 ⟨rfl, Ex.refl _⟩
        ·exact fun _ _ h => os rfl ((yl_pick_t rfl (h.dt 1 43 rfl rfl rfl) hb978 rfl kI))
        ·exact fun _ _ h => os rfl ((yl_assign rfl (h.dt 9 51 rfl rfl rfl) kI))
        ·intro fl1038 fh1039 L1035 w1036 hp1037
         have hE1040 := hp1037.ex
         have hE1040z := Ex.size hE1040
         refine SeqR.done (bn (tn (CW.sub (Sub.cons (d := 0) (hp1037.old 0 _ rfl rfl) (Sub.cons (d := 1) (hp1037.old 1 _ rfl rfl) (Sub.cons (d := 5) (hp1037.old 5 _ rfl rfl) (Sub.cons (d := 6) (hp1037.nt 10 6 rfl rfl rfl) (Sub.cons (d := 7) (hp1037.old 7 _ rfl rfl) (Sub.cons (d := 19) (hp1037.old 19 _ rfl rfl) (Sub.cons (d := 20) (hp1037.old 20 _ rfl rfl) (Sub.cons (d := 21) (hp1037.old 21 _ rfl rfl) (Sub.cons (d := 22) (hp1037.old 22 _ rfl rfl) (Sub.cons (d := 25) (hp1037.old 25 _ rfl rfl) (Sub.cons (d := 26) (hp1037.old 26 _ rfl rfl) (Sub.cons (d := 27) (hp1037.old 27 _ rfl rfl) (Sub.cons (d := 28) (hp1037.old 28 _ rfl rfl) (Sub.cons (d := 29) (hp1037.old 29 _ rfl rfl) (Sub.cons (d := 30) (hp1037.old 30 _ rfl rfl) (Sub.cons (d := 31) (hp1037.old 31 _ rfl rfl) (Sub.cons (d := 32) (hp1037.old 32 _ rfl rfl) (Sub.cons (d := 33) (hp1037.old 33 _ rfl rfl) (Sub.cons (d := 34) (hp1037.old 34 _ rfl rfl) (Sub.cons (d := 44) (hp1037.nt 2 44 rfl rfl rfl) (Sub.cons (d := 45) (hp1037.nt 3 45 rfl rfl rfl) (Sub.cons (d := 46) (hp1037.nt 4 46 rfl rfl rfl) (Sub.cons (d := 47) (hp1037.nt 5 47 rfl rfl rfl) (Sub.cons (d := 48) (hp1037.nt 6 48 rfl rfl rfl) (Sub.cons (d := 49) (hp1037.nt 7 49 rfl rfl rfl) (Sub.cons (d := 50) (hp1037.nt 8 50 rfl rfl rfl) (Sub.nil _))))))))))))))))))))))))))) (CW.region (sd rfl (yl_move rfl rfl (sd rfl (yl_inc rfl rfl rfl (by omega) (sd rfl (yl_assign rfl rfl (SeqR.done ?_)))))))))))
         refine tn ?_
         have hB1067 : B_s_l3Bytes_1 p_s p_more k5 k945 (x946) = .cont (true) := by simp only [B_s_l3Bytes_1, hb21, hb714, hb978, cond_true, cond_false, loopE_done, loopE_ret]
         exact ⟨p_more.length - (k945 + 1), by omega, k945 + 1, true, rfl, hlt977, (by omega), rfl, rfl, rfl, rfl, rfl, rfl, rfl, rfl, rfl, rfl, rfl, rfl, rfl, rfl, rfl, rfl, rfl, rfl, rfl, (Ex.trans hf975 hE1040), (loopM.cont hlt977 hB1067).symm.trans hI954⟩
       ·refine CW.drawsI 11 (vgetI [DetI (.bool (x946)), DetI (.bool (x946)), DetI (.string (bs (p_s))), DetI (.int .i64 ((k5 : Int))), DetI (.int .u8 (((p_s.getD k5 0).toNat : Int))), DetI (.string (bs (p_more))), DetI (.int .i64 ((k945 : Int))), DetI (.int .u8 (((p_more.getD k945 0).toNat : Int))), DetI (.bool (decide (((p_s.getD k5 0).toNat : Int) = ((p_more.getD k945 0).toNat : Int)))), DetI (.bool (decide (((p_s.getD k5 0).toNat : Int) = ((p_more.getD k945 0).toNat : Int)))), DetI (.bool (decide (((p_s.getD k5 0).toNat : Int) = ((p_more.getD k945 0).toNat : Int))))]) Try.follows rfl rfl rfl rfl rfl rfl (vgetI_stable ⟨StableI.det _, StableI.det _, StableI.det _, StableI.det _, StableI.det _, StableI.det _, StableI.det _, StableI.det _, StableI.det _, StableI.det _, StableI.det _, trivial⟩) ⟨?_, ?_, ?_, ?_, ?_, ?_, ?_, ?_, ?_, ?_, ?_, trivial⟩ ?_
        ·exact fun _ _ h => os rfl ((yl_move rfl (h.old 6 _ rfl rfl) kI))
        ·exact fun _ _ h => os rfl ((yl_move rfl (h.dt 0 42 rfl rfl rfl) kI))
        ·exact fun _ _ h => OpR.want rfl rfl (h.dt 1 43 rfl rfl rfl) hb978 (Yl.sameI (yl_move rfl (h.old 0 _ rfl rfl) kI))
        ·exact fun _ _ h => OpR.want rfl rfl (h.dt 1 43 rfl rfl rfl) hb978 (Yl.sameI (yl_move rfl (h.old 5 _ rfl rfl) kI))
        ·intro L1091 w1092 hi1093
         have hE1094 := hi1093.ex
         have hE1094z := Ex.size hE1094
         exact OpR.want rfl rfl (hi1093.dt 1 43 rfl rfl rfl) hb978 (Yl.sameI (yl_sindexN Try.un9 (a := p_s) rfl (hi1093.dt 2 44 rfl rfl rfl) (hi1093.dt 3 45 rfl rfl rfl) (by first | omega | assumption | (simp only [IntKind.wrap_i64] at *; omega)) kI))
        ·exact fun _ _ h => OpR.want rfl rfl (h.dt 1 43 rfl rfl rfl) hb978 (Yl.sameI (yl_move rfl (h.old 1 _ rfl rfl) kI))
        ·exact fun _ _ h => OpR.want rfl rfl (h.dt 1 43 rfl rfl rfl) hb978 (Yl.sameI (yl_move rfl (h.old 7 _ rfl rfl) kI))
        ·intro L1110 w1111 hi1112
         have hE1113 := hi1112.ex
         have hE1113z := Ex.size hE1113
         exact OpR.want rfl rfl (hi1112.dt 1 43 rfl rfl rfl) hb978 (Yl.sameI (yl_sindexN Try.un9 (a := p_more) rfl (hi1112.dt 5 47 rfl rfl rfl) (hi1112.dt 6 48 rfl rfl rfl) (by first | omega | assumption | (simp only [IntKind.wrap_i64] at *; omega)) kI))
        ·exact fun _ _ h => OpR.want rfl rfl (h.dt 1 43 rfl rfl rfl) hb978 (Yl.sameI (yl_eql rfl (h.dt 4 46 rfl rfl rfl) (h.dt 7 49 rfl rfl rfl) kI))
        ·exact fun _ _ h => os rfl ((yl_pick_f rfl (h.dt 1 43 rfl rfl rfl) hb978 (h.dt 8 50 rfl rfl rfl) kI))
        ·exact fun _ _ h => os rfl ((yl_assign rfl (h.dt 9 51 rfl rfl rfl) kI))
        ·intro fl1138 fh1139 L1135 w1136 hp1137
         have hE1140 := hp1137.ex
         have hE1140z := Ex.size hE1140
         refine SeqR.done (bn (tn (CW.sub (Sub.cons (d := 0) (hp1137.old 0 _ rfl rfl) (Sub.cons (d := 1) (hp1137.old 1 _ rfl rfl) (Sub.cons (d := 5) (hp1137.old 5 _ rfl rfl) (Sub.cons (d := 6) (hp1137.nt 10 6 rfl rfl rfl) (Sub.cons (d := 7) (hp1137.old 7 _ rfl rfl) (Sub.cons (d := 19) (hp1137.old 19 _ rfl rfl) (Sub.cons (d := 20) (hp1137.old 20 _ rfl rfl) (Sub.cons (d := 21) (hp1137.old 21 _ rfl rfl) (Sub.cons (d := 22) (hp1137.old 22 _ rfl rfl) (Sub.cons (d := 25) (hp1137.old 25 _ rfl rfl) (Sub.cons (d := 26) (hp1137.old 26 _ rfl rfl) (Sub.cons (d := 27) (hp1137.old 27 _ rfl rfl) (Sub.cons (d := 28) (hp1137.old 28 _ rfl rfl) (Sub.cons (d := 29) (hp1137.old 29 _ rfl rfl) (Sub.cons (d := 30) (hp1137.old 30 _ rfl rfl) (Sub.cons (d := 31) (hp1137.old 31 _ rfl rfl) (Sub.cons (d := 32) (hp1137.old 32 _ rfl rfl) (Sub.cons (d := 33) (hp1137.old 33 _ rfl rfl) (Sub.cons (d := 34) (hp1137.old 34 _ rfl rfl) (Sub.cons (d := 44) (hp1137.nt 2 44 rfl rfl rfl) (Sub.cons (d := 45) (hp1137.nt 3 45 rfl rfl rfl) (Sub.cons (d := 46) (hp1137.nt 4 46 rfl rfl rfl) (Sub.cons (d := 47) (hp1137.nt 5 47 rfl rfl rfl) (Sub.cons (d := 48) (hp1137.nt 6 48 rfl rfl rfl) (Sub.cons (d := 49) (hp1137.nt 7 49 rfl rfl rfl) (Sub.cons (d := 50) (hp1137.nt 8 50 rfl rfl rfl) (Sub.nil _))))))))))))))))))))))))))) (CW.region (sd rfl (yl_move rfl rfl (sd rfl (yl_inc rfl rfl rfl (by omega) (sd rfl (yl_assign rfl rfl (SeqR.done ?_)))))))))))
         refine tn ?_
         have hB1167 : B_s_l3Bytes_1 p_s p_more k5 k945 (x946) = .cont (decide (((p_s.getD k5 0).toNat : Int) = ((p_more.getD k945 0).toNat : Int))) := by simp only [B_s_l3Bytes_1, hb21, hb714, hb978, cond_true, cond_false, loopE_done, loopE_ret]
         exact ⟨p_more.length - (k945 + 1), by omega, k945 + 1, decide (((p_s.getD k5 0).toNat : Int) = ((p_more.getD k945 0).toNat : Int)), rfl, hlt977, (by omega), rfl, rfl, rfl, rfl, rfl, rfl, rfl, rfl, rfl, rfl, rfl, rfl, rfl, rfl, rfl, rfl, rfl, rfl, rfl, (Ex.trans hf975 hE1140), (loopM.cont hlt977 hB1167).symm.trans hI954⟩
      ·refine CW.seq (CW.seq (CW.region (sd rfl (yl_move rfl rfl (sd rfl (yl_move rfl rfl (sd rfl (yl_slen Try.un9 (a := p_more) rfl rfl (sd rfl (yl_lss rfl rfl rfl (SeqR.done (tn ?_))))))))))))
       refine CW.cond_f rfl (lt_f hlt977) (CW.exit (tx (tx ?_)))
       have hL1169 : loopM (B_s_l3Bytes_1 p_s p_more k5) (p_more.length - 0) 0 (false) = .done (x946) := hI954.symm.trans (loopM.stop hlt977)
       refine bx (tn (CW.seq (CW.region (sd rfl (yl_move rfl rfl (sd rfl (yl_not rfl rfl (SeqR.done (tn (bcase (x946) (fun hb1170 => ?_) (fun hb1170 => ?_)))))))))))
       ·refine CW.cond_f rfl (not_t hb1170) (CW.skip (bn (tn (CW.region (sd rfl (yl_move rfl rfl (sd rfl (yl_inc rfl rfl rfl (by omega) (sd rfl (yl_assign rfl rfl (SeqR.done ?_)))))))))))
        refine tn ?_
        have hB1171 : B_s_l3Bytes_0 p_s p_more k5 () = .cont () := by simp only [B_s_l3Bytes_0, hb21, hb714, hb1170, hL1169, cond_true, cond_false, loopE_done, loopE_ret]
        exact ⟨p_s.length - (k5 + 1), by omega, k5 + 1, rfl, hlt20, (by omega), rfl, rfl, rfl, hf975, (loopM.cont hlt20 hB1171).symm.trans hI13⟩
       ·refine CW.cond_t rfl (not_f hb1170) (CW.seq (CW.region (sd rfl (yl_assign rfl rfl (SeqR.done (tn (CW.ret (br (tr ?_)))))))))
        refine tr ?_
        have hB1173 : B_s_l3Bytes_0 p_s p_more k5 () = .ret false := by simp only [B_s_l3Bytes_0, hb21, hb714, hb1170, hL1169, cond_true, cond_false, loopE_done, loopE_ret]
        have hL1172 : loopM (B_s_l3Bytes_0 p_s p_more) (p_s.length - 0) 0 () = .ret false := hI13.symm.trans (loopM.ret hlt20 hB1173)
        refine br (tr (rr rfl (.cons rfl .nil) ?_))
        have hM1174 : (s_l3Bytes p_s p_more) = (false) := by simp only [s_l3Bytes, hb21, hb714, hb1170, hL1169, hL1172, cond_true, cond_false, loopE_done, loopE_ret]
        rw [hM1174]
        exact ⟨rfl, hf975⟩
  ·refine CW.seq (CW.seq (CW.region (sd rfl (yl_move rfl rfl (sd rfl (yl_move rfl rfl (sd rfl (yl_slen Try.un9 (a := p_s) rfl rfl (sd rfl (yl_lss rfl rfl rfl (SeqR.done (tn ?_))))))))))))
   refine CW.cond_f rfl (lt_f hlt20) (CW.exit (tx (tx ?_)))
   have hL1175 : loopM (B_s_l3Bytes_0 p_s p_more) (p_s.length - 0) 0 () = .done () := hI13.symm.trans (loopM.stop hlt20)
   refine bx (tn (CW.seq (CW.region (sd rfl (yl_assign rfl rfl (SeqR.done (tn (CW.ret (rr rfl (.cons rfl .nil) ?_)))))))))
   have hM1176 : (s_l3Bytes p_s p_more) = (true) := by simp only [s_l3Bytes, hL1175, cond_true, cond_false, loopE_done, loopE_ret]
   rw [hM1176]
   exact ⟨rfl, hf18⟩
set_option maxRecDepth 100000 in
set_option maxHeartbeats 2000000 in
theorem c_s_l25Field {w : World} (p_s : Str) (o1 : okS p_s) : Cal Try.prog 162 #[.string (bs (p_s))] w fun v w' => v = .bool ((s_l25Field p_s)) ∧ Ex w w' := by
 have hol2 : p_s.length ≤ 1073741824 := o1
 refine Cal.of (vs := [.string (bs (p_s))]) Try.func162 rfl Try.ntmps162 rfl (CW.seq (CW.region (sd rfl (yl_assign rfl rfl (SeqR.done (tn (CW.seq (CW.region (sd rfl (yl_move rfl rfl ?_))))))))))
 refine sd rfl (yl_slen Try.un9 (a := p_s) rfl rfl (sd rfl (yl_call Try.en130 rfl (opvs_cons rfl (opvs_cons rfl (opvs_cons rfl opvs_nil))) (Cal.mono (c_s_l1In (p_s.length : Int) 1 3) ?_))))
 rintro v4 w3 ⟨rfl, hE5⟩
 have hE5z := Ex.size hE5
 refine sd rfl (yl_move rfl rfl (bcase (s_l1In (p_s.length : Int) 1 3) (fun hb6 => ?_) (fun hb6 => ?_)))
 ·have hb6p := f_l1In hb6
  refine sy rfl rfl hb6 (yl_move rfl rfl (sy rfl rfl hb6 (yl_call Try.en208 rfl (opvs_cons rfl (opvs_cons rfl opvs_nil)) (Cal.mono (c_s_l3Bytes p_s ([] : Str) o1 (okS.lit rfl)) ?_))))
  rintro v8 w7 ⟨rfl, hE9⟩
  have hE9z := Ex.size hE9
  refine sd rfl (yl_pick_t rfl rfl hb6 rfl (sd rfl (yl_assign rfl rfl (SeqR.done (tn (CW.ret (rr rfl (.cons rfl .nil) ?_)))))))
  have hM10 : (s_l25Field p_s) = ((s_l3Bytes p_s ([] : Str))) := by simp only [s_l25Field, hb6, cond_true, cond_false, loopE_done, loopE_ret]
  rw [hM10]
  exact ⟨rfl, (Ex.trans (Ex.trans (Ex.refl w) hE5) hE9)⟩
 ·refine sz rfl rfl hb6 (sz rfl rfl hb6 (sd rfl (yl_pick_f rfl rfl hb6 rfl (sd rfl (yl_assign rfl rfl (SeqR.done (tn (CW.ret (rr rfl (.cons rfl .nil) ?_)))))))))
  have hM13 : (s_l25Field p_s) = (false) := by simp only [s_l25Field, hb6, cond_true, cond_false, loopE_done, loopE_ret]
  rw [hM13]
  exact ⟨rfl, (Ex.trans (Ex.refl w) hE5)⟩
set_option maxRecDepth 100000 in
set_option maxHeartbeats 2000000 in
theorem c_s_l25Good {A1 : Option Addr} {c1 : Nat} {A2 : Option Addr} {c2 : Nat} {A4 : Option Addr} {c4 : Nat} {w : World} (p_t : DTable) (p_r : DRow) (h1 : RdS w (Iv 0 w.heap.size) (RF e_Str) 1 A1 p_t.Cols.length c1 p_t.Cols) (h2 : RdS w (Iv 0 w.heap.size) (RF e_Idx) 3 A2 p_t.Idxs.length c2 p_t.Idxs) (h4 : RdS w (Iv 0 w.heap.size) (RF e_Str) 1 A4 p_r.Vals.length c4 p_r.Vals) (o3 : ok_Table p_t) (o5 : ok_Row p_r) : Cal Try.prog 104 #[.agg #[.string (bs (p_t.Name)), .slice A1 p_t.Cols.length c1, .slice A2 p_t.Idxs.length c2], .agg #[.slice A4 p_r.Vals.length c4]] w fun v w' => v = .bool ((s_l25Good p_t p_r)) ∧ Ex w w' := by
 have hol6 : p_t.Name.length ≤ 1073741824 := o3.1
 have hol7 := o3.2.1.1
 have hol8 := o3.2.2.1
 have hol9 := o5.1
 refine Cal.of (vs := [.agg #[.string (bs (p_t.Name)), .slice A1 p_t.Cols.length c1, .slice A2 p_t.Idxs.length c2], .agg #[.slice A4 p_r.Vals.length c4]]) Try.func104 rfl Try.ntmps104 rfl (CW.seq (CW.region (sd rfl (yl_box (cs := [.string (bs (p_t.Name)), .slice A1 p_t.Cols.length c1, .slice A2 p_t.Idxs.length c2]) rfl rfl rfl ?_))))
 intro b10 w11 hs12 hz13 hB14 hE15
 refine sd rfl (yl_box (cs := [.slice A4 p_r.Vals.length c4]) rfl rfl rfl ?_)
 intro b16 w17 hs18 hz19 hB20 hE21
 refine sd rfl (yl_assign rfl rfl (SeqR.done (tn (CW.seq (CW.seq (CW.region (sd rfl (yl_fieldAddr Try.fd67_0 rfl rfl (sd rfl (yl_load1 Try.ty52 rfl rfl ((hB20.cell 0).trans rfl) (sd rfl (yl_len Try.un52 rfl rfl ?_))))))))))))
 refine sd rfl (yl_move rfl rfl (SeqR.done (tn (CW.block (CW.loop (fun m23 L24 w25 => ∃ (k22 : Nat), m23 = p_r.Vals.length - k22 ∧ k22 ≤ p_r.Vals.length ∧ w17.heap.size ≤ w25.heap.size ∧ lkp L24 2 = some (.pointer (some ⟨b10, 0, none⟩)) ∧ lkp L24 3 = some (.pointer (some ⟨b16, 0, none⟩)) ∧ lkp L24 8 = some (.slice A4 p_r.Vals.length c4) ∧ lkp L24 9 = some (.int .i64 ((p_r.Vals.length : Int))) ∧ lkp L24 10 = some (.int .i64 ((k22 : Int))) ∧ Box w25 b10 65 [.string (bs (p_t.Name)), .slice A1 p_t.Cols.length c1, .slice A2 p_t.Idxs.length c2] ∧ RdS w25 (Iv 0 w.heap.size) (RF e_Str) 1 A1 p_t.Cols.length c1 p_t.Cols ∧ RdS w25 (Iv 0 w.heap.size) (RF e_Idx) 3 A2 p_t.Idxs.length c2 p_t.Idxs ∧ Box w25 b16 67 [.slice A4 p_r.Vals.length c4] ∧ RdS w25 (Iv 0 w.heap.size) (RF e_Str) 1 A4 p_r.Vals.length c4 p_r.Vals ∧ Ex w w25 ∧ loopM (B_s_l25Good_0 p_t p_r) (p_r.Vals.length - k22) k22 () = loopM (B_s_l25Good_0 p_t p_r) (p_r.Vals.length - 0) 0 ()) (p_r.Vals.length - 0) ?_ ?_)))))
 ·exact ⟨0, rfl, (by omega), Nat.le_refl _, rfl, rfl, rfl, rfl, rfl, (Box.ex hB14 hE21), (RdS.ex good_Str (RdS.ex good_Str h1 hE15) hE21), (RdS.ex good_Idx (RdS.ex good_Idx h2 hE15) hE21), hB20, (RdS.ex good_Str (RdS.ex good_Str h4 hE15) hE21), (Ex.trans (Ex.trans (Ex.refl w) hE15) hE21), rfl⟩
 ·rintro m35 L36 w37 ⟨k22, rfl, hk38, hsz40, hl41, hl42, hl43, hl44, hl45, hf46, hf47, hf48, hf49, hf50, hf51, hI39⟩
  refine CW.sub (Sub.cons hl41 (Sub.cons hl42 (Sub.cons hl43 (Sub.cons hl44 (Sub.cons hl45 (Sub.nil _)))))) ?_
  have hf46z := Box.lt hf46
  have hf49z := Box.lt hf49
  have hf51z := Ex.size hf51
  have hbg52 := RdS.big hf50
  rcases Nat.lt_or_ge k22 p_r.Vals.length with hlt53 | hlt53
  ·refine CW.seq (CW.region (sd rfl (yl_lss rfl rfl rfl (SeqR.done (tn (CW.seq (CW.cond_t rfl (lt_t hlt53) (CW.skip (tn ?_)))))))))
   refine CW.seq (CW.block (CW.seq (CW.region ?_)))
   obtain ⟨eb54, eo54, ec54, eA54, eS54, ebl54, el54, eR54, eC54⟩ := RdS.atD hf50 d_Str (i := k22) (by first | omega | assumption)
   obtain rfl := eR54
   have eC54 : Cells w37 eb54 (eo54 + k22 * 1) [.string (bs ((p_r.Vals.getD k22 d_Str)))] := eC54
   refine sd rfl (yl_indexAddrN Try.un52 Try.ty9 rfl rfl rfl eA54 (by first | omega | assumption | (simp only [IntKind.wrap_i64] at *; omega)) (sd rfl (yl_load1 Try.ty9 rfl rfl (eC54 0 _ rfl) (sd rfl (yl_assign rfl rfl (SeqR.done (tn (CW.seq (CW.region (sd rfl (yl_move rfl rfl (sd rfl (yl_call Try.en162 rfl (opvs_cons rfl opvs_nil) (Cal.mono (c_s_l25Field (p_r.Vals.getD k22 d_Str) (okL.getD o5 ok_d_Str _)) ?_))))))))))))))
   rintro v56 w55 ⟨rfl, hE57⟩
   have hE57z := Ex.size hE57
   refine sd rfl (yl_not rfl rfl (SeqR.done (tn (bcase (s_l25Field (p_r.Vals.getD k22 d_Str)) (fun hb58 => ?_) (fun hb58 => ?_)))))
   ·refine CW.cond_f rfl (not_t hb58) (CW.skip (bn (tn (CW.region (sd rfl (yl_inc rfl rfl rfl (by omega) (sd rfl (yl_move rfl rfl (SeqR.done (tn ?_))))))))))
    have hB59 : B_s_l25Good_0 p_t p_r k22 () = .cont () := by simp only [B_s_l25Good_0, hb58, cond_true, cond_false, loopE_done, loopE_ret]
    exact ⟨p_r.Vals.length - (k22 + 1), by omega, k22 + 1, rfl, hlt53, (by omega), rfl, rfl, rfl, rfl, rfl, (Box.ex hf46 hE57), (RdS.ex good_Str hf47 hE57), (RdS.ex good_Idx hf48 hE57), (Box.ex hf49 hE57), (RdS.ex good_Str hf50 hE57), (Ex.trans hf51 hE57), (loopM.cont hlt53 hB59).symm.trans hI39⟩
   ·refine CW.cond_t rfl (not_f hb58) (CW.seq (CW.region (sd rfl (yl_assign rfl rfl (SeqR.done (tn (CW.ret (br (tr ?_)))))))))
    refine tr ?_
    have hB67 : B_s_l25Good_0 p_t p_r k22 () = .ret false := by simp only [B_s_l25Good_0, hb58, cond_true, cond_false, loopE_done, loopE_ret]
    have hL66 : loopM (B_s_l25Good_0 p_t p_r) (p_r.Vals.length - 0) 0 () = .ret false := hI39.symm.trans (loopM.ret hlt53 hB67)
    refine br (tr (rr rfl (.cons rfl .nil) ?_))
    have hM68 : (s_l25Good p_t p_r) = (false) := by simp only [s_l25Good, hb58, hL66, cond_true, cond_false, loopE_done, loopE_ret]
    rw [hM68]
    exact ⟨rfl, (Ex.trans hf51 hE57)⟩
  ·refine CW.seq (CW.region (sd rfl (yl_lss rfl rfl rfl (SeqR.done (tn (CW.seq (CW.cond_f rfl (lt_f hlt53) (CW.exit (tx ?_)))))))))
   refine tx ?_
   have hL70 : loopM (B_s_l25Good_0 p_t p_r) (p_r.Vals.length - 0) 0 () = .done () := hI39.symm.trans (loopM.stop hlt53)
   refine bx (tn (CW.seq (CW.region (sd rfl (yl_fieldAddr Try.fd67_0 rfl rfl (sd rfl (yl_load1 Try.ty52 rfl rfl ((hf49.cell 0).trans rfl) (sd rfl (yl_len Try.un52 rfl rfl (sd rfl (yl_fieldAddr Try.fd65_1 rfl rfl (sd rfl (yl_load1 Try.ty52 rfl rfl ((hf46.cell 1).trans rfl) ?_)))))))))))))
   refine sd rfl (yl_len Try.un52 rfl rfl (sd rfl (yl_eql rfl rfl rfl (sd rfl (yl_assign rfl rfl (SeqR.done (tn (CW.ret (rr rfl (.cons rfl .nil) ?_)))))))))
   have hM71 : (s_l25Good p_t p_r) = (decide ((p_r.Vals.length : Int) = (p_t.Cols.length : Int))) := by simp only [s_l25Good, hL70, cond_true, cond_false, loopE_done, loopE_ret]
   rw [hM71]
   exact ⟨rfl, hf51⟩
set_option maxRecDepth 100000 in
set_option maxHeartbeats 2000000 in
theorem c_s_l26Good {A1 : Option Addr} {c1 : Nat} {A2 : Option Addr} {c2 : Nat} {A4 : Option Addr} {c4 : Nat} {A5 : Option Addr} {c5 : Nat} {w : World} (p_t : DTable) (p_a : DRowAct) (h1 : RdS w (Iv 0 w.heap.size) (RF e_Str) 1 A1 p_t.Cols.length c1 p_t.Cols) (h2 : RdS w (Iv 0 w.heap.size) (RF e_Idx) 3 A2 p_t.Idxs.length c2 p_t.Idxs) (h4 : RdS w (Iv 0 w.heap.size) (RF e_Str) 1 A4 p_a.Old.Vals.length c4 p_a.Old.Vals) (h5 : RdS w (Iv 0 w.heap.size) (RF e_Str) 1 A5 p_a.New.Vals.length c5 p_a.New.Vals) (o3 : ok_Table p_t) (o6 : ok_RowAct p_a) (pre0 : 0 < p_t.Cols.length) : Cal Try.prog 175 #[.agg #[.string (bs (p_t.Name)), .slice A1 p_t.Cols.length c1, .slice A2 p_t.Idxs.length c2], .agg #[.int .i64 (p_a.Kind), .slice A4 p_a.Old.Vals.length c4, .slice A5 p_a.New.Vals.length c5]] w fun v w' => v = .bool ((s_l26Good p_t p_a)) ∧ Ex w w' := by
 have hol7 : p_t.Name.length ≤ 1073741824 := o3.1
 have hol8 := o3.2.1.1
 have hol9 := o3.2.2.1
 have hol10 := o6.1.1
 have hol11 := o6.2.1
 refine Cal.of (vs := [.agg #[.string (bs (p_t.Name)), .slice A1 p_t.Cols.length c1, .slice A2 p_t.Idxs.length c2], .agg #[.int .i64 (p_a.Kind), .slice A4 p_a.Old.Vals.length c4, .slice A5 p_a.New.Vals.length c5]]) Try.func175 rfl Try.ntmps175 rfl (CW.seq (CW.region (sd rfl (yl_box (cs := [.string (bs (p_t.Name)), .slice A1 p_t.Cols.length c1, .slice A2 p_t.Idxs.length c2]) rfl rfl rfl ?_))))
 intro b12 w13 hs14 hz15 hB16 hE17
 refine sd rfl (yl_box (cs := [.int .i64 (p_a.Kind), .slice A4 p_a.Old.Vals.length c4, .slice A5 p_a.New.Vals.length c5]) rfl rfl rfl ?_)
 intro b18 w19 hs20 hz21 hB22 hE23
 refine sd rfl (yl_assign rfl rfl (SeqR.done (tn (CW.seq (CW.seq (CW.region (sd rfl (yl_fieldAddr Try.fd93_0 rfl rfl (sd rfl (yl_load1 Try.ty3 rfl rfl ((hB22.cell 0).trans rfl) (SeqR.done ?_)))))))))))
 refine tn (CW.block (CW.seq (CW.region (sd rfl (yl_eql rfl rfl rfl (sd rfl (yl_assign rfl rfl (SeqR.done (tn (bcase (decide (p_a.Kind = 1)) (fun hb24 => ?_) (fun hb24 => ?_)))))))))))
 ·have hb24p := dec_t hb24
  refine CW.cond_t rfl hb24 (CW.seq (CW.region (sd rfl (yl_fieldAddr Try.fd93_1 rfl rfl (sd rfl (yl_fieldAddr Try.fd67_0 rfl rfl (sd rfl (yl_load1 Try.ty52 rfl rfl ((hB22.cell 1).trans rfl) (sd rfl (yl_len Try.un52 rfl rfl (sd rfl (yl_eql rfl rfl rfl (sd rfl (yl_move rfl rfl ?_))))))))))))))
  refine bcase (decide ((p_a.Old.Vals.length : Int) = 0)) (fun hb25 => ?_) (fun hb25 => ?_)
  ·have hb25p := dec_t hb25
   refine sy rfl rfl hb25 (yl_loadN (cs := [.string (bs (p_t.Name)), .slice A1 p_t.Cols.length c1, .slice A2 p_t.Idxs.length c2]) Try.ty65 rfl rfl ((Box.ex hB16 hE23).cells (n := 3) rfl) rfl (sy rfl rfl hb25 (yl_fieldAddr Try.fd93_2 rfl rfl (sy rfl rfl hb25 (yl_loadN (cs := [.slice A5 p_a.New.Vals.length c5]) Try.ty67 rfl rfl (hB22.cells (n := 1) rfl) rfl (sy rfl rfl hb25 (yl_call Try.en104 rfl (opvs_cons rfl (opvs_cons rfl opvs_nil)) (Cal.mono (c_s_l25Good p_t p_a.New (RdS.up (RdS.ex good_Str (RdS.ex good_Str h1 hE17) hE23) good_Str) (RdS.up (RdS.ex good_Idx (RdS.ex good_Idx h2 hE17) hE23) good_Idx) (RdS.up (RdS.ex good_Str (RdS.ex good_Str h5 hE17) hE23) good_Str) o3 o6.2) ?_))))))))
   rintro v34 w33 ⟨rfl, hE35⟩
   have hE35z := Ex.size hE35
   refine sd rfl (yl_pick_t rfl rfl hb25 rfl (sd rfl (yl_assign rfl rfl (SeqR.done (tn (CW.ret (br (tr (rr rfl (.cons rfl .nil) ?_)))))))))
   have hM36 : (s_l26Good p_t p_a) = ((s_l25Good p_t p_a.New)) := by simp only [s_l26Good, hb24, hb25, cond_true, cond_false, loopE_done, loopE_ret]
   rw [hM36]
   exact ⟨rfl, (Ex.trans (Ex.trans (Ex.trans (Ex.refl w) hE17) hE23) hE35)⟩
  ·have hb25p := dec_f hb25
   refine sz rfl rfl hb25 (sz rfl rfl hb25 (sz rfl rfl hb25 (sz rfl rfl hb25 (sd rfl (yl_pick_f rfl rfl hb25 rfl (sd rfl (yl_assign rfl rfl (SeqR.done (tn (CW.ret ?_))))))))))
   refine br (tr (rr rfl (.cons rfl .nil) ?_))
   have hM40 : (s_l26Good p_t p_a) = (false) := by simp only [s_l26Good, hb24, hb25, cond_true, cond_false, loopE_done, loopE_ret]
   rw [hM40]
   exact ⟨rfl, (Ex.trans (Ex.trans (Ex.refl w) hE17) hE23)⟩
 ·have hb24p := dec_f hb24
  refine CW.cond_f rfl hb24 (CW.seq (CW.region (sd rfl (yl_eql rfl rfl rfl (sd rfl (yl_assign rfl rfl (SeqR.done (tn (bcase (decide (p_a.Kind = 2)) (fun hb43 => ?_) (fun hb43 => ?_))))))))))
  ·have hb43p := dec_t hb43
   refine CW.cond_t rfl hb43 (CW.seq (CW.region (sd rfl (yl_fieldAddr Try.fd93_2 rfl rfl (sd rfl (yl_fieldAddr Try.fd67_0 rfl rfl (sd rfl (yl_load1 Try.ty52 rfl rfl ((hB22.cell 2).trans rfl) (sd rfl (yl_len Try.un52 rfl rfl (sd rfl (yl_eql rfl rfl rfl (sd rfl (yl_move rfl rfl ?_))))))))))))))
   refine bcase (decide ((p_a.New.Vals.length : Int) = 0)) (fun hb44 => ?_) (fun hb44 => ?_)
   ·have hb44p := dec_t hb44
    refine sy rfl rfl hb44 (yl_loadN (cs := [.string (bs (p_t.Name)), .slice A1 p_t.Cols.length c1, .slice A2 p_t.Idxs.length c2]) Try.ty65 rfl rfl ((Box.ex hB16 hE23).cells (n := 3) rfl) rfl (sy rfl rfl hb44 (yl_fieldAddr Try.fd93_1 rfl rfl (sy rfl rfl hb44 (yl_loadN (cs := [.slice A4 p_a.Old.Vals.length c4]) Try.ty67 rfl rfl (hB22.cells (n := 1) rfl) rfl (sy rfl rfl hb44 (yl_call Try.en104 rfl (opvs_cons rfl (opvs_cons rfl opvs_nil)) (Cal.mono (c_s_l25Good p_t p_a.Old (RdS.up (RdS.ex good_Str (RdS.ex good_Str h1 hE17) hE23) good_Str) (RdS.up (RdS.ex good_Idx (RdS.ex good_Idx h2 hE17) hE23) good_Idx) (RdS.up (RdS.ex good_Str (RdS.ex good_Str h4 hE17) hE23) good_Str) o3 o6.1) ?_))))))))
    rintro v53 w52 ⟨rfl, hE54⟩
    have hE54z := Ex.size hE54
    refine sd rfl (yl_pick_t rfl rfl hb44 rfl (sd rfl (yl_assign rfl rfl (SeqR.done (tn (CW.ret (br (tr (rr rfl (.cons rfl .nil) ?_)))))))))
    have hM55 : (s_l26Good p_t p_a) = ((s_l25Good p_t p_a.Old)) := by simp only [s_l26Good, hb24, hb43, hb44, cond_true, cond_false, loopE_done, loopE_ret]
    rw [hM55]
    exact ⟨rfl, (Ex.trans (Ex.trans (Ex.trans (Ex.refl w) hE17) hE23) hE54)⟩
   ·have hb44p := dec_f hb44
    refine sz rfl rfl hb44 (sz rfl rfl hb44 (sz rfl rfl hb44 (sz rfl rfl hb44 (sd rfl (yl_pick_f rfl rfl hb44 rfl (sd rfl (yl_assign rfl rfl (SeqR.done (tn (CW.ret ?_))))))))))
    refine br (tr (rr rfl (.cons rfl .nil) ?_))
    have hM59 : (s_l26Good p_t p_a) = (false) := by simp only [s_l26Good, hb24, hb43, hb44, cond_true, cond_false, loopE_done, loopE_ret]
    rw [hM59]
    exact ⟨rfl, (Ex.trans (Ex.trans (Ex.refl w) hE17) hE23)⟩
  ·have hb43p := dec_f hb43
   refine CW.cond_f rfl hb43 (CW.seq (CW.region (sd rfl (yl_eql rfl rfl rfl (sd rfl (yl_assign rfl rfl (SeqR.done (tn (bcase (decide (p_a.Kind = 3)) (fun hb62 => ?_) (fun hb62 => ?_))))))))))
   ·have hb62p := dec_t hb62
    refine CW.cond_t rfl hb62 (CW.seq (bcase (s_l25Good p_t p_a.Old) (fun hb71 => ?_) (fun hb71 => ?_)))
    ·obtain ⟨hb71p0, hb71p1⟩ := f_s_l25Good hb71
     refine bcase (s_l25Good p_t p_a.New) (fun hb83 => ?_) (fun hb83 => ?_)
     ·obtain ⟨hb83p0, hb83p1⟩ := f_s_l25Good hb83
      have q84 := Box.ex hB16 hE23
      have q86 := RdS.ex good_Str (RdS.ex good_Str h1 hE17) hE23
      have q88 := RdS.ex good_Idx (RdS.ex good_Idx h2 hE17) hE23
      have q90 := RdS.ex good_Str (RdS.ex good_Str h4 hE17) hE23
      have q93 := RdS.ex good_Str (RdS.ex good_Str h5 hE17) hE23
      obtain ⟨eb95, eo95, ec95, eA95, eS95, ebl95, el95, eR95, eC95⟩ := RdS.atD q90 d_Str (i := 0) (by first | omega | assumption)
      obtain rfl := eR95
      have eC95 : Cells w19 eb95 (eo95 + 0 * 1) [.string (bs ((p_a.Old.Vals.getD 0 d_Str)))] := eC95
      obtain ⟨eb96, eo96, ec96, eA96, eS96, ebl96, el96, eR96, eC96⟩ := RdS.atD q93 d_Str (i := 0) (by first | omega | assumption)
      obtain rfl := eR96
      have eC96 : Cells w19 eb96 (eo96 + 0 * 1) [.string (bs ((p_a.New.Vals.getD 0 d_Str)))] := eC96
      refine CW.drawsI 24 (vgetI [DetI (.agg #[.string (bs (p_t.Name)), .slice A1 p_t.Cols.length c1, .slice A2 p_t.Idxs.length c2]), DetI (.pointer (some ⟨b18, 0 + 1, none⟩)), DetI (.agg #[.slice A4 p_a.Old.Vals.length c4]), DetI (.bool ((s_l25Good p_t p_a.Old))), DetI (.bool ((s_l25Good p_t p_a.Old))), DetI (.agg #[.string (bs (p_t.Name)), .slice A1 p_t.Cols.length c1, .slice A2 p_t.Idxs.length c2]), DetI (.pointer (some ⟨b18, 0 + 2, none⟩)), DetI (.agg #[.slice A5 p_a.New.Vals.length c5]), DetI (.bool ((s_l25Good p_t p_a.New))), DetI (.bool ((s_l25Good p_t p_a.New))), DetI (.bool ((s_l25Good p_t p_a.New))), DetI (.pointer (some ⟨b18, 0 + 1, none⟩)), DetI (.pointer (some ⟨b18, 0 + 1 + 0, none⟩)), DetI (.slice A4 p_a.Old.Vals.length c4), DetI (.pointer (some ⟨eb95, eo95 + 0 * 1, none⟩)), DetI (.string (bs ((p_a.Old.Vals.getD 0 d_Str)))), DetI (.pointer (some ⟨b18, 0 + 2, none⟩)), DetI (.pointer (some ⟨b18, 0 + 2 + 0, none⟩)), DetI (.slice A5 p_a.New.Vals.length c5), DetI (.pointer (some ⟨eb96, eo96 + 0 * 1, none⟩)), DetI (.string (bs ((p_a.New.Vals.getD 0 d_Str)))), DetI (.bool ((p_a.Old.Vals.getD 0 d_Str) == (p_a.New.Vals.getD 0 d_Str))), DetI (.bool ((p_a.Old.Vals.getD 0 d_Str) == (p_a.New.Vals.getD 0 d_Str))), DetI (.bool ((p_a.Old.Vals.getD 0 d_Str) == (p_a.New.Vals.getD 0 d_Str)))]) Try.follows rfl rfl rfl rfl rfl rfl (vgetI_stable ⟨StableI.det _, StableI.det _, StableI.det _, StableI.det _, StableI.det _, StableI.det _, StableI.det _, StableI.det _, StableI.det _, StableI.det _, StableI.det _, StableI.det _, StableI.det _, StableI.det _, StableI.det _, StableI.det _, StableI.det _, StableI.det _, StableI.det _, StableI.det _, StableI.det _, StableI.det _, StableI.det _, StableI.det _, trivial⟩) ⟨?_, ?_, ?_, ?_, ?_, ?_, ?_, ?_, ?_, ?_, ?_, ?_, ?_, ?_, ?_, ?_, ?_, ?_, ?_, ?_, ?_, ?_, ?_, ?_, trivial⟩ ?_
      ·exact fun _ _ h => os rfl ((yl_loadN (cs := [.string (bs (p_t.Name)), .slice A1 p_t.Cols.length c1, .slice A2 p_t.Idxs.length c2]) Try.ty65 rfl (h.old 2 _ rfl rfl) ((Box.ex q84 h.ex).cells (n := 3) rfl) rfl kI))
      ·exact fun _ _ h => os rfl ((yl_fieldAddr Try.fd93_1 rfl (h.old 3 _ rfl rfl) kI))
      ·exact fun _ _ h => os rfl ((yl_loadN (cs := [.slice A4 p_a.Old.Vals.length c4]) Try.ty67 rfl (h.dt 1 36 rfl rfl rfl) ((Box.ex hB22 h.ex).cells (n := 1) rfl) rfl kI))
      ·intro L114 w115 hi116
       have hE117 := hi116.ex
       refine OpR.op' rfl (yl_call Try.en104 rfl (opvs_cons (hi116.dt 0 35 rfl rfl rfl) (opvs_cons (hi116.dt 2 37 rfl rfl rfl) opvs_nil)) (Cal.mono (c_s_l25Good p_t p_a.Old (RdS.up (RdS.ex good_Str q86 hE117) good_Str) (RdS.up (RdS.ex good_Idx q88 hE117) good_Idx) (RdS.up (RdS.ex good_Str q90 hE117) good_Str) o3 o6.1) ?_))
       rintro v124 w123 ⟨rfl, hE125⟩
       exact ⟨rfl, hE125⟩
      ·exact fun _ _ h => os rfl ((yl_move rfl (h.dt 3 38 rfl rfl rfl) kI))
      ·exact fun _ _ h => OpR.want rfl rfl (h.dt 4 39 rfl rfl rfl) hb71 (Yl.sameI (yl_loadN (cs := [.string (bs (p_t.Name)), .slice A1 p_t.Cols.length c1, .slice A2 p_t.Idxs.length c2]) Try.ty65 rfl (h.old 2 _ rfl rfl) ((Box.ex q84 h.ex).cells (n := 3) rfl) rfl kI))
      ·exact fun _ _ h => OpR.want rfl rfl (h.dt 4 39 rfl rfl rfl) hb71 (Yl.sameI (yl_fieldAddr Try.fd93_2 rfl (h.old 3 _ rfl rfl) kI))
      ·exact fun _ _ h => OpR.want rfl rfl (h.dt 4 39 rfl rfl rfl) hb71 (Yl.sameI (yl_loadN (cs := [.slice A5 p_a.New.Vals.length c5]) Try.ty67 rfl (h.dt 6 41 rfl rfl rfl) ((Box.ex hB22 h.ex).cells (n := 1) rfl) rfl kI))
      ·intro L151 w152 hi153
       have hE154 := hi153.ex
       refine OpR.want rfl rfl (hi153.dt 4 39 rfl rfl rfl) hb71 (yl_call Try.en104 rfl (opvs_cons (hi153.dt 5 40 rfl rfl rfl) (opvs_cons (hi153.dt 7 42 rfl rfl rfl) opvs_nil)) (Cal.mono (c_s_l25Good p_t p_a.New (RdS.up (RdS.ex good_Str q86 hE154) good_Str) (RdS.up (RdS.ex good_Idx q88 hE154) good_Idx) (RdS.up (RdS.ex good_Str q93 hE154) good_Str) o3 o6.2) ?_))
       rintro v162 w161 ⟨rfl, hE163⟩
       exact ⟨rfl, hE163⟩
      ·exact fun _ _ h => os rfl ((yl_pick_t rfl (h.dt 4 39 rfl rfl rfl) hb71 (h.dt 8 43 rfl rfl rfl) kI))
      ·exact fun _ _ h => os rfl ((yl_move rfl (h.dt 9 44 rfl rfl rfl) kI))
      ·exact fun _ _ h => OpR.want rfl rfl (h.dt 10 45 rfl rfl rfl) hb83 (Yl.sameI (yl_fieldAddr Try.fd93_1 rfl (h.old 3 _ rfl rfl) kI))
      ·exact fun _ _ h => OpR.want rfl rfl (h.dt 10 45 rfl rfl rfl) hb83 (Yl.sameI (yl_fieldAddr Try.fd67_0 rfl (h.dt 11 46 rfl rfl rfl) kI))
      ·exact fun _ _ h => OpR.want rfl rfl (h.dt 10 45 rfl rfl rfl) hb83 (Yl.sameI (yl_load1 Try.ty52 rfl (h.dt 12 47 rfl rfl rfl) (((Box.ex hB22 h.ex).cell 1).trans rfl) kI))
      ·intro L194 w195 hi196
       have hE197 := hi196.ex
       have hE197z := Ex.size hE197
       exact OpR.want rfl rfl (hi196.dt 10 45 rfl rfl rfl) hb83 (Yl.sameI (yl_indexAddrN Try.un52 Try.ty9 rfl (hi196.dt 13 48 rfl rfl rfl) rfl eA95 (by first | omega | assumption | (simp only [IntKind.wrap_i64] at *; omega)) kI))
      ·exact fun _ _ h => OpR.want rfl rfl (h.dt 10 45 rfl rfl rfl) hb83 (Yl.sameI (yl_load1 Try.ty9 rfl (h.dt 14 49 rfl rfl rfl) ((Cells.ex eC95 h.ex) 0 _ rfl) kI))
      ·exact fun _ _ h => OpR.want rfl rfl (h.dt 10 45 rfl rfl rfl) hb83 (Yl.sameI (yl_fieldAddr Try.fd93_2 rfl (h.old 3 _ rfl rfl) kI))
      ·exact fun _ _ h => OpR.want rfl rfl (h.dt 10 45 rfl rfl rfl) hb83 (Yl.sameI (yl_fieldAddr Try.fd67_0 rfl (h.dt 16 51 rfl rfl rfl) kI))
      ·exact fun _ _ h => OpR.want rfl rfl (h.dt 10 45 rfl rfl rfl) hb83 (Yl.sameI (yl_load1 Try.ty52 rfl (h.dt 17 52 rfl rfl rfl) (((Box.ex hB22 h.ex).cell 2).trans rfl) kI))
      ·intro L226 w227 hi228
       have hE229 := hi228.ex
       have hE229z := Ex.size hE229
       exact OpR.want rfl rfl (hi228.dt 10 45 rfl rfl rfl) hb83 (Yl.sameI (yl_indexAddrN Try.un52 Try.ty9 rfl (hi228.dt 18 53 rfl rfl rfl) rfl eA96 (by first | omega | assumption | (simp only [IntKind.wrap_i64] at *; omega)) kI))
      ·exact fun _ _ h => OpR.want rfl rfl (h.dt 10 45 rfl rfl rfl) hb83 (Yl.sameI (yl_load1 Try.ty9 rfl (h.dt 19 54 rfl rfl rfl) ((Cells.ex eC96 h.ex) 0 _ rfl) kI))
      ·exact fun _ _ h => OpR.want rfl rfl (h.dt 10 45 rfl rfl rfl) hb83 (Yl.sameI (yl_seql (a := (p_a.Old.Vals.getD 0 d_Str)) (b := (p_a.New.Vals.getD 0 d_Str)) rfl (h.dt 15 50 rfl rfl rfl) (h.dt 20 55 rfl rfl rfl) kI))
      ·exact fun _ _ h => os rfl ((yl_pick_t rfl (h.dt 10 45 rfl rfl rfl) hb83 (h.dt 21 56 rfl rfl rfl) kI))
      ·exact fun _ _ h => os rfl ((yl_assign rfl (h.dt 22 57 rfl rfl rfl) kI))
      ·intro fl260 fh261 L257 w258 hp259
       have hE262 := hp259.ex
       have hE262z := Ex.size hE262
       refine SeqR.done (tn (CW.sub (Sub.cons (d := 4) (hp259.nt 23 4 rfl rfl rfl) (Sub.nil _)) (CW.ret (br (tr (rr rfl (.cons rfl .nil) ?_))))))
       have hM264 : (s_l26Good p_t p_a) = ((p_a.Old.Vals.getD 0 d_Str) == (p_a.New.Vals.getD 0 d_Str)) := by simp only [s_l26Good, hb24, hb43, hb62, hb71, hb83, cond_true, cond_false, loopE_done, loopE_ret]
       rw [hM264]
       exact ⟨rfl, (Ex.trans (Ex.trans (Ex.trans (Ex.refl w) hE17) hE23) hE262)⟩
     ·have q268 := Box.ex hB16 hE23
      have q270 := RdS.ex good_Str (RdS.ex good_Str h1 hE17) hE23
      have q272 := RdS.ex good_Idx (RdS.ex good_Idx h2 hE17) hE23
      refine CW.drawsI 24 (vgetI [DetI (.agg #[.string (bs (p_t.Name)), .slice A1 p_t.Cols.length c1, .slice A2 p_t.Idxs.length c2]), DetI (.pointer (some ⟨b18, 0 + 1, none⟩)), DetI (.agg #[.slice A4 p_a.Old.Vals.length c4]), DetI (.bool ((s_l25Good p_t p_a.Old))), DetI (.bool ((s_l25Good p_t p_a.Old))), DetI (.agg #[.string (bs (p_t.Name)), .slice A1 p_t.Cols.length c1, .slice A2 p_t.Idxs.length c2]), DetI (.pointer (some ⟨b18, 0 + 2, none⟩)), DetI (.agg #[.slice A5 p_a.New.Vals.length c5]), DetI (.bool ((s_l25Good p_t p_a.New))), DetI (.bool ((s_l25Good p_t p_a.New))), DetI (.bool ((s_l25Good p_t p_a.New))), DetI (undef), DetI (undef), DetI (undef), DetI (undef), DetI (undef), DetI (undef), DetI (undef), DetI (undef), DetI (undef), DetI (undef), DetI (undef), DetI (.bool (false)), DetI (.bool (false))]) Try.follows rfl rfl rfl rfl rfl rfl (vgetI_stable ⟨StableI.det _, StableI.det _, StableI.det _, StableI.det _, StableI.det _, StableI.det _, StableI.det _, StableI.det _, StableI.det _, StableI.det _, StableI.det _, StableI.det _, StableI.det _, StableI.det _, StableI.det _, StableI.det _, StableI.det _, StableI.det _, StableI.det _, StableI.det _, StableI.det _, StableI.det _, StableI.det _, StableI.det _, trivial⟩) ⟨?_, ?_, ?_, ?_, ?_, ?_, ?_, ?_, ?_, ?_, ?_, ?_, ?_, ?_, ?_, ?_, ?_, ?_, ?_, ?_, ?_, ?_, ?_, ?_, trivial⟩ ?_
      ·exact fun _ _ h => os rfl ((yl_loadN (cs := [.string (bs (p_t.Name)), .slice A1 p_t.Cols.length c1, .slice A2 p_t.Idxs.length c2]) Try.ty65 rfl (h.old 2 _ rfl rfl) ((Box.ex q268 h.ex).cells (n := 3) rfl) rfl kI))
      ·exact fun _ _ h => os rfl ((yl_fieldAddr Try.fd93_1 rfl (h.old 3 _ rfl rfl) kI))
      ·exact fun _ _ h => os rfl ((yl_loadN (cs := [.slice A4 p_a.Old.Vals.length c4]) Try.ty67 rfl (h.dt 1 36 rfl rfl rfl) ((Box.ex hB22 h.ex).cells (n := 1) rfl) rfl kI))
      ·intro L296 w297 hi298
       have hE299 := hi298.ex
       refine OpR.op' rfl (yl_call Try.en104 rfl (opvs_cons (hi298.dt 0 35 rfl rfl rfl) (opvs_cons (hi298.dt 2 37 rfl rfl rfl) opvs_nil)) (Cal.mono (c_s_l25Good p_t p_a.Old (RdS.up (RdS.ex good_Str q270 hE299) good_Str) (RdS.up (RdS.ex good_Idx q272 hE299) good_Idx) (RdS.up (RdS.ex good_Str (RdS.ex good_Str (RdS.ex good_Str h4 hE17) hE23) hE299) good_Str) o3 o6.1) ?_))
       rintro v306 w305 ⟨rfl, hE307⟩
       exact ⟨rfl, hE307⟩
      ·exact fun _ _ h => os rfl ((yl_move rfl (h.dt 3 38 rfl rfl rfl) kI))
      ·exact fun _ _ h => OpR.want rfl rfl (h.dt 4 39 rfl rfl rfl) hb71 (Yl.sameI (yl_loadN (cs := [.string (bs (p_t.Name)), .slice A1 p_t.Cols.length c1, .slice A2 p_t.Idxs.length c2]) Try.ty65 rfl (h.old 2 _ rfl rfl) ((Box.ex q268 h.ex).cells (n := 3) rfl) rfl kI))
      ·exact fun _ _ h => OpR.want rfl rfl (h.dt 4 39 rfl rfl rfl) hb71 (Yl.sameI (yl_fieldAddr Try.fd93_2 rfl (h.old 3 _ rfl rfl) kI))
      ·exact fun _ _ h => OpR.want rfl rfl (h.dt 4 39 rfl rfl rfl) hb71 (Yl.sameI (yl_loadN (cs := [.slice A5 p_a.New.Vals.length c5]) Try.ty67 rfl (h.dt 6 41 rfl rfl rfl) ((Box.ex hB22 h.ex).cells (n := 1) rfl) rfl kI))
      ·intro L333 w334 hi335
       have hE336 := hi335.ex
       refine OpR.want rfl rfl (hi335.dt 4 39 rfl rfl rfl) hb71 (yl_call Try.en104 rfl (opvs_cons (hi335.dt 5 40 rfl rfl rfl) (opvs_cons (hi335.dt 7 42 rfl rfl rfl) opvs_nil)) (Cal.mono (c_s_l25Good p_t p_a.New (RdS.up (RdS.ex good_Str q270 hE336) good_Str) (RdS.up (RdS.ex good_Idx q272 hE336) good_Idx) (RdS.up (RdS.ex good_Str (RdS.ex good_Str (RdS.ex good_Str h5 hE17) hE23) hE336) good_Str) o3 o6.2) ?_))
       rintro v344 w343 ⟨rfl, hE345⟩
       exact ⟨rfl, hE345⟩
      ·exact fun _ _ h => os rfl ((yl_pick_t rfl (h.dt 4 39 rfl rfl rfl) hb71 (h.dt 8 43 rfl rfl rfl) kI))
      ·exact fun _ _ h => os rfl ((yl_move rfl (h.dt 9 44 rfl rfl rfl) kI))
      ·exact fun _ _ h => OpR.skip rfl rfl (h.dt 10 45 rfl rfl rfl) hb83 ⟨rfl, Ex.refl _⟩
      ·exact fun _ _ h => OpR.skip rfl rfl (h.dt 10 45 rfl rfl rfl) hb83 ⟨rfl, Ex.refl _⟩
      ·exact fun _ _ h => OpR.skip rfl rfl (h.dt 10 45 rfl rfl rfl) hb83 ⟨rfl, Ex.refl _⟩
      ·exact fun _ _ h => OpR.skip rfl rfl (h.dt 10 45 rfl rfl rfl) hb83 ⟨rfl, Ex.refl _⟩
      ·exact fun _ _ h => OpR.skip rfl rfl (h.dt 10 45 rfl rfl rfl) hb83 ⟨rfl, Ex.refl _⟩
      ·exact fun _ _ h => OpR.skip rfl rfl (h.dt 10 45 rfl rfl rfl) hb83 ⟨rfl, Ex.refl _⟩
      ·exact fun _ _ h => OpR.skip rfl rfl (h.dt 10 45 rfl rfl rfl) hb83 ⟨rfl, Ex.refl _⟩
      ·exact fun _ _ h => OpR.skip rfl rfl (h.dt 10 45 rfl rfl rfl) hb83 ⟨rfl, Ex.refl _⟩
      ·exact fun _ _ h => OpR.skip rfl rfl (h.dt 10 45 rfl rfl rfl) hb83 ⟨rfl, Ex.refl _⟩
      ·exact fun _ _ h => OpR.skip rfl rfl (h.dt 10 45 rfl rfl rfl) hb83 ⟨rfl, Ex.refl _⟩
      ·exact fun _ _ h => OpR.skip rfl rfl (h.dt 10 45 rfl rfl rfl) hb83 ⟨rfl, Ex.refl _⟩
      ·exact fun _ _ h => os rfl ((yl_pick_f rfl (h.dt 10 45 rfl rfl rfl) hb83 rfl kI))
      ·exact fun _ _ h => os rfl ((yl_assign rfl (h.dt 22 57 rfl rfl rfl) kI))
      ·intro fl426 fh427 L423 w424 hp425
       have hE428 := hp425.ex
       have hE428z := Ex.size hE428
       refine SeqR.done (tn (CW.sub (Sub.cons (d := 4) (hp425.nt 23 4 rfl rfl rfl) (Sub.nil _)) (CW.ret (br (tr (rr rfl (.cons rfl .nil) ?_))))))
       have hM430 : (s_l26Good p_t p_a) = (false) := by simp only [s_l26Good, hb24, hb43, hb62, hb71, hb83, cond_true, cond_false, loopE_done, loopE_ret]
       rw [hM430]
       exact ⟨rfl, (Ex.trans (Ex.trans (Ex.trans (Ex.refl w) hE17) hE23) hE428)⟩
    ·refine CW.drawsI 24 (vgetI [DetI (.agg #[.string (bs (p_t.Name)), .slice A1 p_t.Cols.length c1, .slice A2 p_t.Idxs.length c2]), DetI (.pointer (some ⟨b18, 0 + 1, none⟩)), DetI (.agg #[.slice A4 p_a.Old.Vals.length c4]), DetI (.bool ((s_l25Good p_t p_a.Old))), DetI (.bool ((s_l25Good p_t p_a.Old))), DetI (undef), DetI (undef), DetI (undef), DetI (undef), DetI (.bool (false)), DetI (.bool (false)), DetI (undef), DetI (undef), DetI (undef), DetI (undef), DetI (undef), DetI (undef), DetI (undef), DetI (undef), DetI (undef), DetI (undef), DetI (undef), DetI (.bool (false)), DetI (.bool (false))]) Try.follows rfl rfl rfl rfl rfl rfl (vgetI_stable ⟨StableI.det _, StableI.det _, StableI.det _, StableI.det _, StableI.det _, StableI.det _, StableI.det _, StableI.det _, StableI.det _, StableI.det _, StableI.det _, StableI.det _, StableI.det _, StableI.det _, StableI.det _, StableI.det _, StableI.det _, StableI.det _, StableI.det _, StableI.det _, StableI.det _, StableI.det _, StableI.det _, StableI.det _, trivial⟩) ⟨?_, ?_, ?_, ?_, ?_, ?_, ?_, ?_, ?_, ?_, ?_, ?_, ?_, ?_, ?_, ?_, ?_, ?_, ?_, ?_, ?_, ?_, ?_, ?_, trivial⟩ ?_
     ·exact fun _ _ h => os rfl ((yl_loadN (cs := [.string (bs (p_t.Name)), .slice A1 p_t.Cols.length c1, .slice A2 p_t.Idxs.length c2]) Try.ty65 rfl (h.old 2 _ rfl rfl) ((Box.ex (Box.ex hB16 hE23) h.ex).cells (n := 3) rfl) rfl kI))
     ·exact fun _ _ h => os rfl ((yl_fieldAddr Try.fd93_1 rfl (h.old 3 _ rfl rfl) kI))
     ·exact fun _ _ h => os rfl ((yl_loadN (cs := [.slice A4 p_a.Old.Vals.length c4]) Try.ty67 rfl (h.dt 1 36 rfl rfl rfl) ((Box.ex hB22 h.ex).cells (n := 1) rfl) rfl kI))
     ·intro L459 w460 hi461
      have hE462 := hi461.ex
      refine OpR.op' rfl (yl_call Try.en104 rfl (opvs_cons (hi461.dt 0 35 rfl rfl rfl) (opvs_cons (hi461.dt 2 37 rfl rfl rfl) opvs_nil)) (Cal.mono (c_s_l25Good p_t p_a.Old (RdS.up (RdS.ex good_Str (RdS.ex good_Str (RdS.ex good_Str h1 hE17) hE23) hE462) good_Str) (RdS.up (RdS.ex good_Idx (RdS.ex good_Idx (RdS.ex good_Idx h2 hE17) hE23) hE462) good_Idx) (RdS.up (RdS.ex good_Str (RdS.ex good_Str (RdS.ex good_Str h4 hE17) hE23) hE462) good_Str) o3 o6.1) ?_))
      rintro v469 w468 ⟨rfl, hE470⟩
      exact ⟨rfl, hE470⟩
     ·exact fun _ _ h => os rfl ((yl_move rfl (h.dt 3 38 rfl rfl rfl) kI))
     ·exact fun _ _ h => OpR.skip rfl rfl (h.dt 4 39 rfl rfl rfl) hb71 ⟨rfl, Ex.refl _⟩
     ·exact fun _ _ h => OpR.skip rfl rfl (h.dt 4 39 rfl rfl rfl) hb71 ⟨rfl, Ex.refl _⟩
     ·exact fun _ _ h => OpR.skip rfl rfl (h.dt 4 39 rfl rfl rfl) hb71 ⟨rfl, Ex.refl _⟩
     ·exact fun _ _ h => OpR.skip rfl rfl (h.dt 4 39 rfl rfl rfl) hb71 ⟨rfl, Ex.refl _⟩
     ·exact fun _ _ h => os rfl ((yl_pick_f rfl (h.dt 4 39 rfl rfl rfl) hb71 rfl kI))
     ·exact fun _ _ h => os rfl ((yl_move rfl (h.dt 9 44 rfl rfl rfl) kI))
     ·exact fun _ _ h => OpR.skip rfl rfl (h.dt 10 45 rfl rfl rfl) rfl ⟨rfl, Ex.refl _⟩
     ·exact fun _ _ h => OpR.skip rfl rfl (h.dt 10 45 rfl rfl rfl) rfl ⟨rfl, Ex.refl _⟩
     ·exact fun _ _ h => OpR.skip rfl rfl (h.dt 10 45 rfl rfl rfl) rfl ⟨rfl, Ex.refl _⟩
     ·exact fun _ _ h => OpR.skip rfl rfl (h.dt 10 45 rfl rfl rfl) rfl ⟨rfl, Ex.refl _⟩
     ·exact fun _ _ h => OpR.skip rfl rfl (h.dt 10 45 rfl rfl rfl) rfl ⟨rfl, Ex.refl _⟩
     ·exact fun _ _ h => OpR.skip rfl rfl (h.dt 10 45 rfl rfl rfl) rfl ⟨rfl, Ex.refl _⟩
     ·exact fun _ _ h => OpR.skip rfl rfl (h.dt 10 45 rfl rfl rfl) rfl ⟨rfl, Ex.refl _⟩
     ·exact fun _ _ h => OpR.skip rfl rfl (h.dt 10 45 rfl rfl rfl) rfl ⟨rfl, Ex.refl _⟩
     ·exact fun _ _ h => OpR.skip rfl rfl (h.dt 10 45 rfl rfl rfl) rfl ⟨rfl, Ex.refl _⟩
     ·exact fun _ _ h => OpR.skip rfl rfl (h.dt 10 45 rfl rfl rfl) rfl ⟨rfl, Ex.refl _⟩
     ·exact fun _ _ h => OpR.skip rfl rfl (h.dt 10 45 rfl rfl rfl) rfl ⟨rfl, Ex.refl _⟩
     ·exact fun _ _ h => os rfl ((yl_pick_f rfl (h.dt 10 45 rfl rfl rfl) rfl rfl kI))
     ·exact fun _ _ h => os rfl ((yl_assign rfl (h.dt 22 57 rfl rfl rfl) kI))
     ·intro fl576 fh577 L573 w574 hp575
      have hE578 := hp575.ex
      have hE578z := Ex.size hE578
      refine SeqR.done (tn (CW.sub (Sub.cons (d := 4) (hp575.nt 23 4 rfl rfl rfl) (Sub.nil _)) (CW.ret (br (tr (rr rfl (.cons rfl .nil) ?_))))))
      have hM580 : (s_l26Good p_t p_a) = (false) := by simp only [s_l26Good, hb24, hb43, hb62, hb71, cond_true, cond_false, loopE_done, loopE_ret]
      rw [hM580]
      exact ⟨rfl, (Ex.trans (Ex.trans (Ex.trans (Ex.refl w) hE17) hE23) hE578)⟩
   ·have hb62p := dec_f hb62
    refine CW.cond_f rfl hb62 (CW.skip (bn (tn (CW.seq (CW.region (sd rfl (yl_assign rfl rfl (SeqR.done (tn ?_)))))))))
    refine CW.ret (rr rfl (.cons rfl .nil) ?_)
    have hM584 : (s_l26Good p_t p_a) = (false) := by simp only [s_l26Good, hb24, hb43, hb62, cond_true, cond_false, loopE_done, loopE_ret]
    rw [hM584]
    exact ⟨rfl, (Ex.trans (Ex.trans (Ex.refl w) hE17) hE23)⟩
set_option maxRecDepth 100000 in
set_option maxHeartbeats 2000000 in
theorem c_s_GoodAct {A1 : Option Addr} {c1 : Nat} {A2 : Option Addr} {c2 : Nat} {A4 : Option Addr} {c4 : Nat} {A5 : Option Addr} {c5 : Nat} {w : World} (p_t : DTable) (p_a : DRowAct) (h1 : RdS w (Iv 0 w.heap.size) (RF e_Str) 1 A1 p_t.Cols.length c1 p_t.Cols) (h2 : RdS w (Iv 0 w.heap.size) (RF e_Idx) 3 A2 p_t.Idxs.length c2 p_t.Idxs) (h4 : RdS w (Iv 0 w.heap.size) (RF e_Str) 1 A4 p_a.Old.Vals.length c4 p_a.Old.Vals) (h5 : RdS w (Iv 0 w.heap.size) (RF e_Str) 1 A5 p_a.New.Vals.length c5 p_a.New.Vals) (o3 : ok_Table p_t) (o6 : ok_RowAct p_a) : Cal Try.prog 123 #[.agg #[.string (bs (p_t.Name)), .slice A1 p_t.Cols.length c1, .slice A2 p_t.Idxs.length c2], .agg #[.int .i64 (p_a.Kind), .slice A4 p_a.Old.Vals.length c4, .slice A5 p_a.New.Vals.length c5]] w fun v w' => v = .bool ((s_GoodAct p_t p_a)) ∧ Ex w w' := by
 have hol7 : p_t.Name.length ≤ 1073741824 := o3.1
 have hol8 := o3.2.1.1
 have hol9 := o3.2.2.1
 have hol10 := o6.1.1
 have hol11 := o6.2.1
 refine Cal.of (vs := [.agg #[.string (bs (p_t.Name)), .slice A1 p_t.Cols.length c1, .slice A2 p_t.Idxs.length c2], .agg #[.int .i64 (p_a.Kind), .slice A4 p_a.Old.Vals.length c4, .slice A5 p_a.New.Vals.length c5]]) Try.func123 rfl Try.ntmps123 rfl (CW.seq (CW.region (sd rfl (yl_box (cs := [.string (bs (p_t.Name)), .slice A1 p_t.Cols.length c1, .slice A2 p_t.Idxs.length c2]) rfl rfl rfl ?_))))
 intro b12 w13 hs14 hz15 hB16 hE17
 refine sd rfl (yl_box (cs := [.int .i64 (p_a.Kind), .slice A4 p_a.Old.Vals.length c4, .slice A5 p_a.New.Vals.length c5]) rfl rfl rfl ?_)
 intro b18 w19 hs20 hz21 hB22 hE23
 refine sd rfl (yl_assign rfl rfl (SeqR.done (tn (CW.seq (CW.region ?_)))))
 have q24 := Box.ex hB16 hE23
 refine sd rfl (yl_loadN (cs := [.string (bs (p_t.Name)), .slice A1 p_t.Cols.length c1, .slice A2 p_t.Idxs.length c2]) Try.ty65 rfl rfl (q24.cells (n := 3) rfl) rfl ?_)
 have q26 := RdS.ex good_Str (RdS.ex good_Str h1 hE17) hE23
 have q28 := RdS.ex good_Idx (RdS.ex good_Idx h2 hE17) hE23
 refine sd rfl (yl_call Try.en161 rfl (opvs_cons rfl opvs_nil) (Cal.mono (c_s_GoodTable p_t (RdS.up q26 good_Str) (RdS.up q28 good_Idx) o3) ?_))
 rintro v30 w29 ⟨rfl, hE31⟩
 have hE31z := Ex.size hE31
 refine sd rfl (yl_move rfl rfl (bcase (s_GoodTable p_t) (fun hb32 => ?_) (fun hb32 => ?_)))
 ·have hb32p := f_s_GoodTable hb32
  refine sy rfl rfl hb32 (yl_loadN (cs := [.string (bs (p_t.Name)), .slice A1 p_t.Cols.length c1, .slice A2 p_t.Idxs.length c2]) Try.ty65 rfl rfl ((Box.ex q24 hE31).cells (n := 3) rfl) rfl (sy rfl rfl hb32 (yl_loadN (cs := [.int .i64 (p_a.Kind), .slice A4 p_a.Old.Vals.length c4, .slice A5 p_a.New.Vals.length c5]) Try.ty93 rfl rfl ((Box.ex hB22 hE31).cells (n := 3) rfl) rfl (sy rfl rfl hb32 (yl_call Try.en175 rfl (opvs_cons rfl (opvs_cons rfl opvs_nil)) (Cal.mono (c_s_l26Good p_t p_a (RdS.up (RdS.ex good_Str q26 hE31) good_Str) (RdS.up (RdS.ex good_Idx q28 hE31) good_Idx) (RdS.up (RdS.ex good_Str (RdS.ex good_Str (RdS.ex good_Str h4 hE17) hE23) hE31) good_Str) (RdS.up (RdS.ex good_Str (RdS.ex good_Str (RdS.ex good_Str h5 hE17) hE23) hE31) good_Str) o3 o6 (by first | omega | assumption | (simp only [IntKind.wrap_i64] at *; omega))) ?_))))))
  rintro v44 w43 ⟨rfl, hE45⟩
  have hE45z := Ex.size hE45
  refine sd rfl (yl_pick_t rfl rfl hb32 rfl (sd rfl (yl_assign rfl rfl (SeqR.done (tn (CW.ret (rr rfl (.cons rfl .nil) ?_)))))))
  have hM46 : (s_GoodAct p_t p_a) = ((s_l26Good p_t p_a)) := by simp only [s_GoodAct, hb32, cond_true, cond_false, loopE_done, loopE_ret]
  rw [hM46]
  exact ⟨rfl, (Ex.trans (Ex.trans (Ex.trans (Ex.trans (Ex.refl w) hE17) hE23) hE31) hE45)⟩
 ·refine sz rfl rfl hb32 (sz rfl rfl hb32 (sz rfl rfl hb32 (sd rfl (yl_pick_f rfl rfl hb32 rfl (sd rfl (yl_assign rfl rfl (SeqR.done (tn (CW.ret (rr rfl (.cons rfl .nil) ?_))))))))))
  have hM51 : (s_GoodAct p_t p_a) = (false) := by simp only [s_GoodAct, hb32, cond_true, cond_false, loopE_done, loopE_ret]
  rw [hM51]
  exact ⟨rfl, (Ex.trans (Ex.trans (Ex.trans (Ex.refl w) hE17) hE23) hE31)⟩
set_option maxRecDepth 100000 in
set_option maxHeartbeats 2000000 in
theorem c_s_l24Join {A1 : Option Addr} {c1 : Nat} {w : World} (p_l : List Str) (p_by : Str) (h1 : RdS w (Iv 0 w.heap.size) (RF e_Str) 1 A1 p_l.length c1 p_l) (o2 : (okL okS) p_l) (o3 : okS p_by) : Cal Try.prog 209 #[.slice A1 p_l.length c1, .string (bs (p_by))] w fun v w' => v = .string (bs ((s_l24Join p_l p_by))) ∧ Ex w w' := by
 have hol4 := o2.1
 have hol5 : p_by.length ≤ 1073741824 := o3
 refine Cal.of (vs := [.slice A1 p_l.length c1, .string (bs (p_by))]) Try.func209 rfl Try.ntmps209 rfl (CW.seq (CW.region (sd rfl (yl_assign rfl rfl (SeqR.done (tn (CW.seq (CW.region (sd rfl (yl_assign rfl rfl ?_))))))))))
 refine SeqR.done (tn (CW.seq (CW.seq (CW.region (sd rfl (yl_move rfl rfl (sd rfl (yl_len Try.un52 rfl rfl (sd rfl (yl_move rfl rfl (SeqR.done ?_)))))))))))
 refine tn (CW.block (CW.loop (fun m15 L16 w17 => ∃ (k6 : Nat) (x14 : Str), m15 = p_l.length - k6 ∧ k6 ≤ p_l.length ∧ w.heap.size ≤ w17.heap.size ∧ lkp L16 1 = some (.string (bs (p_by))) ∧ lkp L16 5 = some (.string (bs (x14))) ∧ lkp L16 8 = some (.slice A1 p_l.length c1) ∧ lkp L16 9 = some (.int .i64 ((p_l.length : Int))) ∧ lkp L16 10 = some (.int .i64 ((k6 : Int))) ∧ RdS w17 (Iv 0 w.heap.size) (RF e_Str) 1 A1 p_l.length c1 p_l ∧ Ex w w17 ∧ x14.length ≤ 0 + 2147483648 * (k6 - 0) ∧ loopM (B_s_l24Join_0 p_l p_by) (p_l.length - k6) k6 (x14) = loopM (B_s_l24Join_0 p_l p_by) (p_l.length - 0) 0 (([] : Str))) (p_l.length - 0) ?_ ?_))
 ·exact ⟨0, ([] : Str), rfl, (by omega), Nat.le_refl _, rfl, rfl, rfl, rfl, rfl, h1, (Ex.refl w), (by first | (simp; done) | (first | omega | (simp only [List.length_append, List.length_cons, List.length_nil, List.length_set, toS_length]; omega))), rfl⟩
 ·rintro m18 L19 w20 ⟨k6, x14, rfl, hk21, hsz23, hl24, hl25, hl26, hl27, hl28, hf29, hf30, hln31, hI22⟩
  refine CW.sub (Sub.cons hl24 (Sub.cons hl25 (Sub.cons hl26 (Sub.cons hl27 (Sub.cons hl28 (Sub.nil _)))))) ?_
  have hf30z := Ex.size hf30
  have hbg32 := RdS.big hf29
  rcases Nat.lt_or_ge k6 p_l.length with hlt33 | hlt33
  ·refine CW.seq (CW.region (sd rfl (yl_lss rfl rfl rfl (SeqR.done (tn (CW.seq (CW.cond_t rfl (lt_t hlt33) (CW.skip (tn ?_)))))))))
   refine CW.seq (CW.block (CW.seq (CW.region (sd rfl (yl_move rfl rfl ?_)))))
   obtain ⟨eb34, eo34, ec34, eA34, eS34, ebl34, el34, eR34, eC34⟩ := RdS.atD hf29 d_Str (i := k6) (by first | omega | assumption)
   obtain rfl := eR34
   have eC34 : Cells w20 eb34 (eo34 + k6 * 1) [.string (bs ((p_l.getD k6 d_Str)))] := eC34
   refine sd rfl (yl_indexAddrN Try.un52 Try.ty9 rfl rfl rfl eA34 (by first | omega | assumption | (simp only [IntKind.wrap_i64] at *; omega)) (sd rfl (yl_load1 Try.ty9 rfl rfl (eC34 0 _ rfl) (sd rfl (yl_assign rfl rfl (sd rfl (yl_assign rfl rfl (SeqR.done (tn (CW.seq (CW.seq (CW.region ?_))))))))))))
   refine sd rfl (yl_move rfl rfl (sd rfl (yl_gtr rfl rfl rfl (SeqR.done (tn (bcase (decide (0 < (k6 : Int))) (fun hb35 => ?_) (fun hb35 => ?_)))))))
   ·have hb35p := dec_t hb35
    refine CW.cond_t rfl hb35 (CW.region (sd rfl (yl_move rfl rfl (sd rfl (yl_move rfl rfl ?_)))))
    have hol36 : p_by.length ≤ 1073741824 := o3
    refine sd rfl (yl_sadd (a := x14) (b := p_by) rfl rfl rfl (by first | omega | (simp only [List.length_append, List.length_cons, List.length_nil, List.length_take, List.length_drop, toS_length]; omega)) (sd rfl (yl_assign rfl rfl (SeqR.done (tn (CW.region (sd rfl (yl_move rfl rfl (sd rfl (yl_move rfl rfl ?_))))))))))
    have hol37 : p_by.length ≤ 1073741824 := o3
    have hol38 : (p_l.getD k6 d_Str).length ≤ 1073741824 := (okL.getD o2 ok_d_Str _)
    refine sd rfl (yl_sadd (a := (x14 ++ p_by)) (b := (p_l.getD k6 d_Str)) rfl rfl rfl (by first | omega | (simp only [List.length_append, List.length_cons, List.length_nil, List.length_take, List.length_drop, toS_length]; omega)) (sd rfl (yl_assign rfl rfl (SeqR.done (bn (tn (CW.region (sd rfl (yl_inc rfl rfl rfl (by omega) (sd rfl (yl_move rfl rfl (SeqR.done ?_))))))))))))
    refine tn ?_
    have hB39 : B_s_l24Join_0 p_l p_by k6 (x14) = .cont ((x14 ++ p_by) ++ (p_l.getD k6 d_Str)) := by simp only [B_s_l24Join_0, hb35, cond_true, cond_false, loopE_done, loopE_ret]
    exact ⟨p_l.length - (k6 + 1), by omega, k6 + 1, (x14 ++ p_by) ++ (p_l.getD k6 d_Str), rfl, hlt33, (by omega), rfl, rfl, rfl, rfl, rfl, hf29, hf30, (by first | omega | (simp only [List.length_append, List.length_cons, List.length_nil, List.length_set, toS_length]; omega)), (loopM.cont hlt33 hB39).symm.trans hI22⟩
   ·have hb35p := dec_f hb35
    refine CW.cond_f rfl hb35 (CW.skip (tn (CW.region (sd rfl (yl_move rfl rfl (sd rfl (yl_move rfl rfl ?_)))))))
    have hol40 : (p_l.getD k6 d_Str).length ≤ 1073741824 := (okL.getD o2 ok_d_Str _)
    refine sd rfl (yl_sadd (a := x14) (b := (p_l.getD k6 d_Str)) rfl rfl rfl (by first | omega | (simp only [List.length_append, List.length_cons, List.length_nil, List.length_take, List.length_drop, toS_length]; omega)) (sd rfl (yl_assign rfl rfl (SeqR.done (bn (tn (CW.region (sd rfl (yl_inc rfl rfl rfl (by omega) (sd rfl (yl_move rfl rfl (SeqR.done ?_))))))))))))
    refine tn ?_
    have hB41 : B_s_l24Join_0 p_l p_by k6 (x14) = .cont (x14 ++ (p_l.getD k6 d_Str)) := by simp only [B_s_l24Join_0, hb35, cond_true, cond_false, loopE_done, loopE_ret]
    exact ⟨p_l.length - (k6 + 1), by omega, k6 + 1, x14 ++ (p_l.getD k6 d_Str), rfl, hlt33, (by omega), rfl, rfl, rfl, rfl, rfl, hf29, hf30, (by first | omega | (simp only [List.length_append, List.length_cons, List.length_nil, List.length_set, toS_length]; omega)), (loopM.cont hlt33 hB41).symm.trans hI22⟩
  ·refine CW.seq (CW.region (sd rfl (yl_lss rfl rfl rfl (SeqR.done (tn (CW.seq (CW.cond_f rfl (lt_f hlt33) (CW.exit (tx ?_)))))))))
   refine tx ?_
   have hL42 : loopM (B_s_l24Join_0 p_l p_by) (p_l.length - 0) 0 (([] : Str)) = .done (x14) := hI22.symm.trans (loopM.stop hlt33)
   refine bx (tn (CW.seq (CW.region (sd rfl (yl_move rfl rfl (sd rfl (yl_assign rfl rfl (SeqR.done (tn (CW.ret ?_))))))))))
   refine rr rfl (.cons rfl .nil) ?_
   have hM43 : (s_l24Join p_l p_by) = (x14) := by simp only [s_l24Join, hL42, cond_true, cond_false, loopE_done, loopE_ret]
   rw [hM43]
   exact ⟨rfl, hf30⟩
set_option maxRecDepth 100000 in
set_option maxHeartbeats 2000000 in
theorem c_s_l25Write {A1 : Option Addr} {c1 : Nat} {A2 : Option Addr} {c2 : Nat} {A4 : Option Addr} {c4 : Nat} {w : World} (p_t : DTable) (p_r : DRow) (h1 : RdS w (Iv 0 w.heap.size) (RF e_Str) 1 A1 p_t.Cols.length c1 p_t.Cols) (h2 : RdS w (Iv 0 w.heap.size) (RF e_Idx) 3 A2 p_t.Idxs.length c2 p_t.Idxs) (h4 : RdS w (Iv 0 w.heap.size) (RF e_Str) 1 A4 p_r.Vals.length c4 p_r.Vals) (o3 : ok_Table p_t) (o5 : ok_Row p_r) (pre0 : 0 < p_r.Vals.length) : Cal Try.prog 163 #[.agg #[.string (bs (p_t.Name)), .slice A1 p_t.Cols.length c1, .slice A2 p_t.Idxs.length c2], .agg #[.slice A4 p_r.Vals.length c4]] w fun v w' => v = .agg #[.string (bs ((s_l25Write p_t p_r).Key)), .string (bs ((s_l25Write p_t p_r).Val)), .bool ((s_l25Write p_t p_r).Gone)] ∧ Ex w w' := by
 have hol6 : p_t.Name.length ≤ 1073741824 := o3.1
 have hol7 := o3.2.1.1
 have hol8 := o3.2.2.1
 have hol9 := o5.1
 refine Cal.of (vs := [.agg #[.string (bs (p_t.Name)), .slice A1 p_t.Cols.length c1, .slice A2 p_t.Idxs.length c2], .agg #[.slice A4 p_r.Vals.length c4]]) Try.func163 rfl Try.ntmps163 rfl (CW.seq (CW.region (sd rfl (yl_box (cs := [.string (bs (p_t.Name)), .slice A1 p_t.Cols.length c1, .slice A2 p_t.Idxs.length c2]) rfl rfl rfl ?_))))
 intro b10 w11 hs12 hz13 hB14 hE15
 refine sd rfl (yl_box (cs := [.slice A4 p_r.Vals.length c4]) rfl rfl rfl ?_)
 intro b16 w17 hs18 hz19 hB20 hE21
 refine sd rfl (yl_alloc Try.ty125 (cs := [.string (bs (([] : Str))), .string (bs (([] : Str))), .bool (false)]) rfl rfl ?_)
 intro b22 w23 hs24 hz25 hB26 hE27
 refine SeqR.done (tn (CW.seq ?_))
 have hol30 : p_t.Name.length ≤ 1073741824 := o3.1
 have q31 := Box.ex hB20 hE27
 have q34 := RdS.ex good_Str (RdS.ex good_Str (RdS.ex good_Str h4 hE15) hE21) hE27
 obtain ⟨eb35, eo35, ec35, eA35, eS35, ebl35, el35, eR35, eC35⟩ := RdS.atD q34 d_Str (i := 0) (by first | omega | assumption)
 obtain rfl := eR35
 have eC35 : Cells w23 eb35 (eo35 + 0 * 1) [.string (bs ((p_r.Vals.getD 0 d_Str)))] := eC35
 have hol36 : p_t.Name.length ≤ 1073741824 := o3.1
 have hol37 : (p_r.Vals.getD 0 d_Str).length ≤ 1073741824 := (okL.getD o5 ok_d_Str _)
 obtain ⟨A38, c39, he42, h41⟩ := RdS.sl (RdS.drop q34 (k := 1) (by omega))
 have hrc43 := (q34).2.1
 refine CW.drawsI 12 (vgetI [DetI (.pointer (some ⟨b10, 0 + 0, none⟩)), DetI (.string (bs (p_t.Name))), DetI (.string (bs (p_t.Name ++ ([47] : Str)))), DetI (.pointer (some ⟨b16, 0 + 0, none⟩)), DetI (.slice A4 p_r.Vals.length c4), DetI (.pointer (some ⟨eb35, eo35 + 0 * 1, none⟩)), DetI (.string (bs ((p_r.Vals.getD 0 d_Str)))), DetI (.string (bs ((p_t.Name ++ ([47] : Str)) ++ (p_r.Vals.getD 0 d_Str)))), DetI (.pointer (some ⟨b16, 0 + 0, none⟩)), DetI (.slice A4 p_r.Vals.length c4), fun lo hi v wq => ∃ A38 c39, v = .slice A38 ((p_r.Vals.drop 1).length) c39 ∧ RdS wq (Iv 0 w.heap.size) (RF e_Str) 1 A38 (p_r.Vals.drop 1).length c39 (p_r.Vals.drop 1), DetI (.string (bs ((s_l24Join (p_r.Vals.drop 1) ([44] : Str)))))]) Try.follows rfl rfl rfl rfl rfl rfl (vgetI_stable ⟨StableI.det _, StableI.det _, StableI.det _, StableI.det _, StableI.det _, StableI.det _, StableI.det _, StableI.det _, StableI.det _, StableI.det _, (fun _ _ _ _ _ ⟨A38, c39, hv, h44⟩ e => ⟨A38, c39, hv, RdS.ex good_Str h44 e⟩), StableI.det _, trivial⟩) ⟨?_, ?_, ?_, ?_, ?_, ?_, ?_, ?_, ?_, ?_, ?_, ?_, trivial⟩ ?_
 ·exact fun _ _ h => os rfl ((yl_fieldAddr Try.fd65_0 rfl (h.old 2 _ rfl rfl) kI))
 ·exact fun _ _ h => os rfl ((yl_load1 Try.ty9 rfl (h.dt 0 5 rfl rfl rfl) (((Box.ex (Box.ex (Box.ex hB14 hE21) hE27) h.ex).cell 0).trans rfl) kI))
 ·intro L57 w58 hi59
  have hE60 := hi59.ex
  have hE60z := Ex.size hE60
  have hol62 : p_t.Name.length ≤ 1073741824 := o3.1
  exact os rfl ((yl_sadd (a := p_t.Name) (b := ([47] : Str)) rfl (hi59.dt 1 6 rfl rfl rfl) rfl (by first | omega | (simp only [List.length_append, List.length_cons, List.length_nil, List.length_take, List.length_drop, toS_length]; omega)) kI))
 ·exact fun _ _ h => os rfl ((yl_fieldAddr Try.fd67_0 rfl (h.old 3 _ rfl rfl) kI))
 ·exact fun _ _ h => os rfl ((yl_load1 Try.ty52 rfl (h.dt 3 8 rfl rfl rfl) (((Box.ex q31 h.ex).cell 0).trans rfl) kI))
 ·intro L74 w75 hi76
  have hE77 := hi76.ex
  have hE77z := Ex.size hE77
  exact os rfl ((yl_indexAddrN Try.un52 Try.ty9 rfl (hi76.dt 4 9 rfl rfl rfl) rfl eA35 (by first | omega | assumption | (simp only [IntKind.wrap_i64] at *; omega)) kI))
 ·exact fun _ _ h => os rfl ((yl_load1 Try.ty9 rfl (h.dt 5 10 rfl rfl rfl) ((Cells.ex eC35 h.ex) 0 _ rfl) kI))
 ·intro L85 w86 hi87
  have hE88 := hi87.ex
  have hE88z := Ex.size hE88
  have hol91 : p_t.Name.length ≤ 1073741824 := o3.1
  have hol92 : (p_r.Vals.getD 0 d_Str).length ≤ 1073741824 := (okL.getD o5 ok_d_Str _)
  exact os rfl ((yl_sadd (a := (p_t.Name ++ ([47] : Str))) (b := (p_r.Vals.getD 0 d_Str)) rfl (hi87.dt 2 7 rfl rfl rfl) (hi87.dt 6 11 rfl rfl rfl) (by first | omega | (simp only [List.length_append, List.length_cons, List.length_nil, List.length_take, List.length_drop, toS_length]; omega)) kI))
 ·exact fun _ _ h => os rfl ((yl_fieldAddr Try.fd67_0 rfl (h.old 3 _ rfl rfl) kI))
 ·exact fun _ _ h => os rfl ((yl_load1 Try.ty52 rfl (h.dt 8 13 rfl rfl rfl) (((Box.ex q31 h.ex).cell 0).trans rfl) kI))
 ·intro L104 w105 hi106
  have hE107 := hi106.ex
  have hE107z := Ex.size hE107
  have q109 := RdS.ex good_Str q34 hE107
  obtain ⟨A110, c111, he114, h113⟩ := RdS.sl (RdS.drop q109 (k := 1) (by omega))
  have hrc115 := (q109).2.1
  exact os rfl ((yl_sliceR (kh := .i64) (l := 1) (h := p_r.Vals.length) Try.un52 Try.ty9 rfl (hi106.dt 9 14 rfl rfl rfl) (.inr ⟨_, rfl, rfl⟩) (.inl ⟨rfl, rfl⟩) (by omega) (by omega) he114 ⟨fun _ _ => ⟨A110, c111, rfl, h113⟩, rfl⟩))
 ·intro L116 w117 hi118
  obtain ⟨lo121, hh122, _, hx120, hr123, hr124, hr125, A38_126, c39_127, rfl, h128⟩ := hi118.dep 10 15 rfl rfl
  refine OpR.op' rfl (yl_call Try.en209 rfl (opvs_cons hx120 (opvs_cons rfl opvs_nil)) (Cal.mono (c_s_l24Join (p_r.Vals.drop 1) ([44] : Str) (RdS.up h128 good_Str) (okL.drop o5 _) (okS.lit rfl)) ?_))
  rintro v130 w129 ⟨rfl, hE131⟩
  exact ⟨rfl, hE131⟩
 ·intro fl135 fh136 L132 w133 hp134
  have hE137 := hp134.ex
  have hE137z := Ex.size hE137
  have hx138 := hp134.old 4 _ rfl rfl
  refine sd rfl (yl_build (cs := [.string (bs ((p_t.Name ++ ([47] : Str)) ++ (p_r.Vals.getD 0 d_Str))), .string (bs ((s_l24Join (p_r.Vals.drop 1) ([44] : Str)))), .bool (false)]) rfl (opvs_cons (hp134.nt 7 12 rfl rfl rfl) (opvs_cons (hp134.nt 11 16 rfl rfl rfl) opvs_nil)) (by kernel_rfl) (SeqR.u rfl rfl (yl_store (vs := [.string (bs ((p_t.Name ++ ([47] : Str)) ++ (p_r.Vals.getD 0 d_Str))), .string (bs ((s_l24Join (p_r.Vals.drop 1) ([44] : Str)))), .bool (false)]) Try.ty125 rfl hx138 rfl rfl rfl rfl (Box.ex hB26 hE137) (Nat.le_of_ble_eq_true rfl) ?_)))
  intro w142 hB143 hO144
  have hB143 : Box w142 b22 125 [.string (bs ((p_t.Name ++ ([47] : Str)) ++ (p_r.Vals.getD 0 d_Str))), .string (bs ((s_l24Join (p_r.Vals.drop 1) ([44] : Str)))), .bool (false)] := hB143
  have hO144z := hO144.size
  refine SeqR.done (tn (CW.sub (Sub.cons (d := 4) hx138 (Sub.nil _)) (CW.ret (rr rfl (.cons ⟨_, rfl, run_loadN Try.ty125 (cs := [.string (bs ((p_t.Name ++ ([47] : Str)) ++ (p_r.Vals.getD 0 d_Str))), .string (bs ((s_l24Join (p_r.Vals.drop 1) ([44] : Str)))), .bool (false)]) rfl (hB143.cells (n := 3) rfl)⟩ .nil) ?_))))
  have hM145 : (s_l25Write p_t p_r) = ((⟨(p_t.Name ++ ([47] : Str)) ++ (p_r.Vals.getD 0 d_Str), (s_l24Join (p_r.Vals.drop 1) ([44] : Str)), false⟩ : DWrite)) := by simp only [s_l25Write, cond_true, cond_false, loopE_done, loopE_ret]
  rw [hM145]
  exact ⟨rfl, (Below.only (Ex.trans (Ex.trans (Ex.trans (Ex.trans (Ex.refl w) hE15) hE21) hE27) hE137) hO144 (by omega))⟩
set_option maxRecDepth 100000 in
set_option maxHeartbeats 2000000 in
theorem c_s_l26Head {A1 : Option Addr} {c1 : Nat} {A2 : Option Addr} {c2 : Nat} {A4 : Option Addr} {c4 : Nat} {A5 : Option Addr} {c5 : Nat} {w : World} (p_t : DTable) (p_a : DRowAct) (h1 : RdS w (Iv 0 w.heap.size) (RF e_Str) 1 A1 p_t.Cols.length c1 p_t.Cols) (h2 : RdS w (Iv 0 w.heap.size) (RF e_Idx) 3 A2 p_t.Idxs.length c2 p_t.Idxs) (h4 : RdS w (Iv 0 w.heap.size) (RF e_Str) 1 A4 p_a.Old.Vals.length c4 p_a.Old.Vals) (h5 : RdS w (Iv 0 w.heap.size) (RF e_Str) 1 A5 p_a.New.Vals.length c5 p_a.New.Vals) (o3 : ok_Table p_t) (o6 : ok_RowAct p_a) (pre0 : s_GoodTable p_t = true) (pre1 : actOf p_t p_a) : Cal Try.prog 176 #[.agg #[.string (bs (p_t.Name)), .slice A1 p_t.Cols.length c1, .slice A2 p_t.Idxs.length c2], .agg #[.int .i64 (p_a.Kind), .slice A4 p_a.Old.Vals.length c4, .slice A5 p_a.New.Vals.length c5]] w fun v w' => ∃ A_1 c_1 lo_1 hi_1, v = .slice A_1 ((s_l26Head p_t p_a).length) c_1 ∧ OwnL w' lo_1 hi_1 163 4 (RF e_Op) A_1 ((s_l26Head p_t p_a).length) c_1 (s_l26Head p_t p_a) ∧ (w.heap.size ≤ lo_1 ∧ lo_1 ≤ hi_1 ∧ hi_1 ≤ w'.heap.size) ∧ Ex w w' := by
 have hol7 : p_t.Name.length ≤ 1073741824 := o3.1
 have hol8 := o3.2.1.1
 have hol9 := o3.2.2.1
 have hol10 := o6.1.1
 have hol11 := o6.2.1
 have hof := actOf_len pre0 pre1
 refine Cal.of (vs := [.agg #[.string (bs (p_t.Name)), .slice A1 p_t.Cols.length c1, .slice A2 p_t.Idxs.length c2], .agg #[.int .i64 (p_a.Kind), .slice A4 p_a.Old.Vals.length c4, .slice A5 p_a.New.Vals.length c5]]) Try.func176 rfl Try.ntmps176 rfl (CW.seq (CW.region (sd rfl (yl_box (cs := [.string (bs (p_t.Name)), .slice A1 p_t.Cols.length c1, .slice A2 p_t.Idxs.length c2]) rfl rfl rfl ?_))))
 intro b12 w13 hs14 hz15 hB16 hE17
 refine sd rfl (yl_box (cs := [.int .i64 (p_a.Kind), .slice A4 p_a.Old.Vals.length c4, .slice A5 p_a.New.Vals.length c5]) rfl rfl rfl ?_)
 intro b18 w19 hs20 hz21 hB22 hE23
 refine sd rfl (yl_assign rfl rfl (SeqR.done (tn (CW.seq (CW.seq (CW.region (sd rfl (yl_fieldAddr Try.fd93_0 rfl rfl (sd rfl (yl_load1 Try.ty3 rfl rfl ((hB22.cell 0).trans rfl) (sd rfl (yl_eql rfl rfl rfl ?_))))))))))))
 refine SeqR.done (tn (bcase (decide (p_a.Kind = 1)) (fun hb24 => ?_) (fun hb24 => ?_)))
 ·have hb24p := dec_t hb24
  refine CW.cond_t rfl hb24 (CW.seq (CW.region (sd rfl (yl_loadN (cs := [.string (bs (p_t.Name)), .slice A1 p_t.Cols.length c1, .slice A2 p_t.Idxs.length c2]) Try.ty65 rfl rfl ((Box.ex hB16 hE23).cells (n := 3) rfl) rfl (sd rfl (yl_fieldAddr Try.fd93_2 rfl rfl (sd rfl (yl_loadN (cs := [.slice A5 p_a.New.Vals.length c5]) Try.ty67 rfl rfl (hB22.cells (n := 1) rfl) rfl (sd rfl (yl_call Try.en163 rfl (opvs_cons rfl (opvs_cons rfl opvs_nil)) (Cal.mono (c_s_l25Write p_t p_a.New (RdS.up (RdS.ex good_Str (RdS.ex good_Str h1 hE17) hE23) good_Str) (RdS.up (RdS.ex good_Idx (RdS.ex good_Idx h2 hE17) hE23) good_Idx) (RdS.up (RdS.ex good_Str (RdS.ex good_Str h5 hE17) hE23) good_Str) o3 o6.2 (by first | omega | assumption | (simp only [IntKind.wrap_i64] at *; omega))) ?_)))))))))))
  rintro v33 w32 ⟨rfl, hE34⟩
  have hE34z := Ex.size hE34
  refine sd rfl (yl_alloc Try.ty125 (cs := [.string (bs (([] : Str))), .string (bs (([] : Str))), .bool (false)]) rfl rfl ?_)
  intro b35 w36 hs37 hz38 hB39 hE40
  refine SeqR.u rfl rfl (yl_store (vs := [.string (bs ((s_l25Write p_t p_a.New).Key)), .string (bs ((s_l25Write p_t p_a.New).Val)), .bool ((s_l25Write p_t p_a.New).Gone)]) Try.ty125 rfl rfl rfl rfl rfl rfl hB39 (Nat.le_of_ble_eq_true rfl) ?_)
  intro w41 hB42 hO43
  have hB42 : Box w41 b35 125 [.string (bs ((s_l25Write p_t p_a.New).Key)), .string (bs ((s_l25Write p_t p_a.New).Val)), .bool ((s_l25Write p_t p_a.New).Gone)] := hB42
  have hO43z := hO43.size
  refine SeqR.done (tn (CW.seq (CW.region (sd rfl (yl_fieldAddr Try.fd125_0 rfl rfl (sd rfl (yl_load1 Try.ty9 rfl rfl ((hB42.cell 0).trans rfl) (sd rfl (yl_build (cs := [.int .i64 (6), .string (bs ((s_l25Write p_t p_a.New).Key)), .string (bs (([] : Str))), .int .i64 (0)]) rfl (opvs_cons rfl (opvs_cons rfl opvs_nil)) (by kernel_rfl) (sd rfl (yl_fieldAddr Try.fd125_0 rfl rfl (sd rfl (yl_load1 Try.ty9 rfl rfl ((hB42.cell 0).trans rfl) ?_)))))))))))))
  refine sd rfl (yl_fieldAddr Try.fd125_1 rfl rfl (sd rfl (yl_load1 Try.ty9 rfl rfl ((hB42.cell 1).trans rfl) (sd rfl (yl_build (cs := [.int .i64 (2), .string (bs ((s_l25Write p_t p_a.New).Key)), .string (bs ((s_l25Write p_t p_a.New).Val)), .int .i64 (0)]) rfl (opvs_cons rfl (opvs_cons rfl (opvs_cons rfl opvs_nil))) (by kernel_rfl) (sd rfl (yl_buildSlice (cs := [.int .i64 (6), .string (bs ((s_l25Write p_t p_a.New).Key)), .string (bs (([] : Str))), .int .i64 (0), .int .i64 (2), .string (bs ((s_l25Write p_t p_a.New).Key)), .string (bs ((s_l25Write p_t p_a.New).Val)), .int .i64 (0)]) Try.un60 Try.ty163 (by decide) rfl (opvs_cons rfl (opvs_cons rfl opvs_nil)) (by kernel_rfl) ?_)))))))
  intro b44 w45 hs46 hz47 hB48 hE49
  have hO50 : OwnL w45 b44 (b44 + 1) 163 4 (RF e_Op) (some ⟨b44, 0, none⟩) 2 2 ([(⟨6, (s_l25Write p_t p_a.New).Key, ([] : Str), 0⟩ : DOp), (⟨2, (s_l25Write p_t p_a.New).Key, (s_l25Write p_t p_a.New).Val, 0⟩ : DOp)] : List DOp) := OwnL.of_box (S := fun _ => False) hB48 (Nat.le_refl _) (Nat.lt_succ_self _) (EncL.cons (c := [.int .i64 (6), .string (bs ((s_l25Write p_t p_a.New).Key)), .string (bs (([] : Str))), .int .i64 (0)]) rfl rfl (EncL.cons (c := [.int .i64 (2), .string (bs ((s_l25Write p_t p_a.New).Key)), .string (bs ((s_l25Write p_t p_a.New).Val)), .int .i64 (0)]) rfl rfl EncL.nil)) (Nat.le_of_ble_eq_true rfl) (fun h => h) (fun _ h => False.elim h)
  refine sd rfl (yl_assign rfl rfl (SeqR.done (tn (CW.ret (tr (rr rfl (.cons rfl .nil) ?_))))))
  have hM51 : (s_l26Head p_t p_a) = (([(⟨6, (s_l25Write p_t p_a.New).Key, ([] : Str), 0⟩ : DOp), (⟨2, (s_l25Write p_t p_a.New).Key, (s_l25Write p_t p_a.New).Val, 0⟩ : DOp)] : List DOp)) := by simp only [s_l26Head, hb24, cond_true, cond_false, loopE_done, loopE_ret]
  have hfx52 := (hO50).1
  rw [hM51]
  exact ⟨(some ⟨b44, 0, none⟩), 2, b44, (b44 + 1), (by first | rfl | (simp only [List.length_replicate, List.length_set]; done) | (simp only [List.length_replicate, List.length_set]; rfl) | rw [hfx52]), (OwnL.fix hO50), (by omega), (Ex.trans (Below.only (Ex.trans (Ex.trans (Ex.trans (Ex.trans (Ex.refl w) hE17) hE23) hE34) hE40) hO43 (by omega)) hE49)⟩
 ·have hb24p := dec_f hb24
  refine CW.cond_f rfl hb24 (CW.skip (tn (CW.seq (CW.region ?_))))
  have q59 := Box.ex hB16 hE23
  refine sd rfl (yl_loadN (cs := [.string (bs (p_t.Name)), .slice A1 p_t.Cols.length c1, .slice A2 p_t.Idxs.length c2]) Try.ty65 rfl rfl (q59.cells (n := 3) rfl) rfl (sd rfl (yl_fieldAddr Try.fd93_1 rfl rfl (sd rfl (yl_loadN (cs := [.slice A4 p_a.Old.Vals.length c4]) Try.ty67 rfl rfl (hB22.cells (n := 1) rfl) rfl ?_)))))
  have q61 := RdS.ex good_Str (RdS.ex good_Str h1 hE17) hE23
  have q63 := RdS.ex good_Idx (RdS.ex good_Idx h2 hE17) hE23
  refine sd rfl (yl_call Try.en163 rfl (opvs_cons rfl (opvs_cons rfl opvs_nil)) (Cal.mono (c_s_l25Write p_t p_a.Old (RdS.up q61 good_Str) (RdS.up q63 good_Idx) (RdS.up (RdS.ex good_Str (RdS.ex good_Str h4 hE17) hE23) good_Str) o3 o6.1 (by first | omega | assumption | (simp only [IntKind.wrap_i64] at *; omega))) ?_))
  rintro v67 w66 ⟨rfl, hE68⟩
  have hE68z := Ex.size hE68
  refine sd rfl (yl_alloc Try.ty125 (cs := [.string (bs (([] : Str))), .string (bs (([] : Str))), .bool (false)]) rfl rfl ?_)
  intro b69 w70 hs71 hz72 hB73 hE74
  refine SeqR.u rfl rfl (yl_store (vs := [.string (bs ((s_l25Write p_t p_a.Old).Key)), .string (bs ((s_l25Write p_t p_a.Old).Val)), .bool ((s_l25Write p_t p_a.Old).Gone)]) Try.ty125 rfl rfl rfl rfl rfl rfl hB73 (Nat.le_of_ble_eq_true rfl) ?_)
  intro w75 hB76 hO77
  have hB76 : Box w75 b69 125 [.string (bs ((s_l25Write p_t p_a.Old).Key)), .string (bs ((s_l25Write p_t p_a.Old).Val)), .bool ((s_l25Write p_t p_a.Old).Gone)] := hB76
  have hO77z := hO77.size
  refine SeqR.done (tn (CW.seq (CW.region (sd rfl (yl_fieldAddr Try.fd125_0 rfl rfl (sd rfl (yl_load1 Try.ty9 rfl rfl ((hB76.cell 0).trans rfl) (sd rfl (yl_fieldAddr Try.fd125_1 rfl rfl (sd rfl (yl_load1 Try.ty9 rfl rfl ((hB76.cell 1).trans rfl) (sd rfl (yl_build (cs := [.int .i64 (7), .string (bs ((s_l25Write p_t p_a.Old).Key)), .string (bs ((s_l25Write p_t p_a.Old).Val)), .int .i64 (0)]) rfl (opvs_cons rfl (opvs_cons rfl (opvs_cons rfl opvs_nil))) (by kernel_rfl) ?_)))))))))))))
  refine sd rfl (yl_alloc Try.ty163 (cs := [.int .i64 (0), .string (bs (([] : Str))), .string (bs (([] : Str))), .int .i64 (0)]) rfl rfl ?_)
  intro b78 w79 hs80 hz81 hB82 hE83
  refine SeqR.u rfl rfl (yl_store (vs := [.int .i64 (7), .string (bs ((s_l25Write p_t p_a.Old).Key)), .string (bs ((s_l25Write p_t p_a.Old).Val)), .int .i64 (0)]) Try.ty163 rfl rfl rfl rfl rfl rfl hB82 (Nat.le_of_ble_eq_true rfl) ?_)
  intro w84 hB85 hO86
  have hB85 : Box w84 b78 163 [.int .i64 (7), .string (bs ((s_l25Write p_t p_a.Old).Key)), .string (bs ((s_l25Write p_t p_a.Old).Val)), .int .i64 (0)] := hB85
  have hO86z := hO86.size
  refine SeqR.done (tn (CW.seq (CW.seq (CW.region (sd rfl (yl_fieldAddr Try.fd93_0 rfl rfl ?_))))))
  have q91 := Box.only (Box.ex (Box.only (Box.ex (Box.ex hB22 hE68) hE74) hO77 (by omega)) hE83) hO86 (by omega)
  refine sd rfl (yl_load1 Try.ty3 rfl rfl ((q91.cell 0).trans rfl) (sd rfl (yl_eql rfl rfl rfl (SeqR.done (tn (bcase (decide (p_a.Kind = 2)) (fun hb92 => ?_) (fun hb92 => ?_)))))))
  ·have hb92p := dec_t hb92
   refine CW.cond_t rfl hb92 (CW.seq (CW.region (sd rfl (yl_loadN (cs := [.int .i64 (7), .string (bs ((s_l25Write p_t p_a.Old).Key)), .string (bs ((s_l25Write p_t p_a.Old).Val)), .int .i64 (0)]) Try.ty163 rfl rfl (hB85.cells (n := 4) rfl) rfl (sd rfl (yl_fieldAddr Try.fd125_0 rfl rfl (sd rfl (yl_load1 Try.ty9 rfl rfl (((Box.only (Box.ex hB76 hE83) hO86 (by omega)).cell 0).trans rfl) (sd rfl (yl_build (cs := [.int .i64 (3), .string (bs ((s_l25Write p_t p_a.Old).Key)), .string (bs (([] : Str))), .int .i64 (0)]) rfl (opvs_cons rfl (opvs_cons rfl opvs_nil)) (by kernel_rfl) (sd rfl (yl_buildSlice (cs := [.int .i64 (7), .string (bs ((s_l25Write p_t p_a.Old).Key)), .string (bs ((s_l25Write p_t p_a.Old).Val)), .int .i64 (0), .int .i64 (3), .string (bs ((s_l25Write p_t p_a.Old).Key)), .string (bs (([] : Str))), .int .i64 (0)]) Try.un60 Try.ty163 (by decide) rfl (opvs_cons rfl (opvs_cons rfl opvs_nil)) (by kernel_rfl) ?_))))))))))))
   intro b95 w96 hs97 hz98 hB99 hE100
   have hO101 : OwnL w96 b95 (b95 + 1) 163 4 (RF e_Op) (some ⟨b95, 0, none⟩) 2 2 ([(⟨7, (s_l25Write p_t p_a.Old).Key, (s_l25Write p_t p_a.Old).Val, 0⟩ : DOp), (⟨3, (s_l25Write p_t p_a.Old).Key, ([] : Str), 0⟩ : DOp)] : List DOp) := OwnL.of_box (S := fun _ => False) hB99 (Nat.le_refl _) (Nat.lt_succ_self _) (EncL.cons (c := [.int .i64 (7), .string (bs ((s_l25Write p_t p_a.Old).Key)), .string (bs ((s_l25Write p_t p_a.Old).Val)), .int .i64 (0)]) rfl rfl (EncL.cons (c := [.int .i64 (3), .string (bs ((s_l25Write p_t p_a.Old).Key)), .string (bs (([] : Str))), .int .i64 (0)]) rfl rfl EncL.nil)) (Nat.le_of_ble_eq_true rfl) (fun h => h) (fun _ h => False.elim h)
   refine sd rfl (yl_assign rfl rfl (SeqR.done (tn (CW.ret (tr (rr rfl (.cons rfl .nil) ?_))))))
   have hM102 : (s_l26Head p_t p_a) = (([(⟨7, (s_l25Write p_t p_a.Old).Key, (s_l25Write p_t p_a.Old).Val, 0⟩ : DOp), (⟨3, (s_l25Write p_t p_a.Old).Key, ([] : Str), 0⟩ : DOp)] : List DOp)) := by simp only [s_l26Head, hb24, hb92, cond_true, cond_false, loopE_done, loopE_ret]
   have hfx103 := (hO101).1
   rw [hM102]
   exact ⟨(some ⟨b95, 0, none⟩), 2, b95, (b95 + 1), (by first | rfl | (simp only [List.length_replicate, List.length_set]; done) | (simp only [List.length_replicate, List.length_set]; rfl) | rw [hfx103]), (OwnL.fix hO101), (by omega), (Ex.trans (Below.only (Ex.trans (Below.only (Ex.trans (Ex.trans (Ex.trans (Ex.trans (Ex.refl w) hE17) hE23) hE68) hE74) hO77 (by omega)) hE83) hO86 (by omega)) hE100)⟩
  ·have hb92p := dec_f hb92
   refine CW.cond_f rfl hb92 (CW.skip (tn (CW.seq (CW.drawsI 9 (vgetI [DetI (.agg #[.int .i64 (7), .string (bs ((s_l25Write p_t p_a.Old).Key)), .string (bs ((s_l25Write p_t p_a.Old).Val)), .int .i64 (0)]), DetI (.pointer (some ⟨b69, 0 + 0, none⟩)), DetI (.string (bs ((s_l25Write p_t p_a.Old).Key))), DetI (.agg #[.string (bs (p_t.Name)), .slice A1 p_t.Cols.length c1, .slice A2 p_t.Idxs.length c2]), DetI (.pointer (some ⟨b18, 0 + 2, none⟩)), DetI (.agg #[.slice A5 p_a.New.Vals.length c5]), DetI (.agg #[.string (bs ((s_l25Write p_t p_a.New).Key)), .string (bs ((s_l25Write p_t p_a.New).Val)), .bool ((s_l25Write p_t p_a.New).Gone)]), DetI (.string (bs ((s_l25Write p_t p_a.New).Val))), DetI (.agg #[.int .i64 (2), .string (bs ((s_l25Write p_t p_a.Old).Key)), .string (bs ((s_l25Write p_t p_a.New).Val)), .int .i64 (0)])]) Try.follows rfl rfl rfl rfl rfl rfl (vgetI_stable ⟨StableI.det _, StableI.det _, StableI.det _, StableI.det _, StableI.det _, StableI.det _, StableI.det _, StableI.det _, StableI.det _, trivial⟩) ⟨?_, ?_, ?_, ?_, ?_, ?_, ?_, ?_, ?_, trivial⟩ ?_))))
   ·exact fun _ _ h => os rfl ((yl_loadN (cs := [.int .i64 (7), .string (bs ((s_l25Write p_t p_a.Old).Key)), .string (bs ((s_l25Write p_t p_a.Old).Val)), .int .i64 (0)]) Try.ty163 rfl (h.old 7 _ rfl rfl) ((Box.ex hB85 h.ex).cells (n := 4) rfl) rfl kI))
   ·exact fun _ _ h => os rfl ((yl_fieldAddr Try.fd125_0 rfl (h.old 6 _ rfl rfl) kI))
   ·intro L148 w149 hi150
    have hE151 := hi150.ex
    have hE151z := Ex.size hE151
    exact os rfl ((yl_load1 Try.ty9 rfl (hi150.dt 1 42 rfl rfl rfl) (((Box.ex (Box.only (Box.ex hB76 hE83) hO86 (by omega)) hE151).cell 0).trans rfl) kI))
   ·intro L154 w155 hi156
    have hE157 := hi156.ex
    have hE157z := Ex.size hE157
    exact os rfl ((yl_loadN (cs := [.string (bs (p_t.Name)), .slice A1 p_t.Cols.length c1, .slice A2 p_t.Idxs.length c2]) Try.ty65 rfl (hi156.old 2 _ rfl rfl) ((Box.ex (Box.only (Box.ex (Box.only (Box.ex (Box.ex q59 hE68) hE74) hO77 (by omega)) hE83) hO86 (by omega)) hE157).cells (n := 3) rfl) rfl kI))
   ·exact fun _ _ h => os rfl ((yl_fieldAddr Try.fd93_2 rfl (h.old 3 _ rfl rfl) kI))
   ·exact fun _ _ h => os rfl ((yl_loadN (cs := [.slice A5 p_a.New.Vals.length c5]) Try.ty67 rfl (h.dt 4 45 rfl rfl rfl) ((Box.ex q91 h.ex).cells (n := 1) rfl) rfl kI))
   ·intro L171 w172 hi173
    have hE174 := hi173.ex
    have hE174z := Ex.size hE174
    refine OpR.op' rfl (yl_call Try.en163 rfl (opvs_cons (hi173.dt 3 44 rfl rfl rfl) (opvs_cons (hi173.dt 5 46 rfl rfl rfl) opvs_nil)) (Cal.mono (c_s_l25Write p_t p_a.New (RdS.up (RdS.ex good_Str (RdS.only good_Str (RdS.ex good_Str (RdS.only good_Str (RdS.ex good_Str (RdS.ex good_Str q61 hE68) hE74) hO77 (by simp only [Iv]; omega)) hE83) hO86 (by simp only [Iv]; omega)) hE174) good_Str) (RdS.up (RdS.ex good_Idx (RdS.only good_Idx (RdS.ex good_Idx (RdS.only good_Idx (RdS.ex good_Idx (RdS.ex good_Idx q63 hE68) hE74) hO77 (by simp only [Iv]; omega)) hE83) hO86 (by simp only [Iv]; omega)) hE174) good_Idx) (RdS.up (RdS.ex good_Str (RdS.only good_Str (RdS.ex good_Str (RdS.only good_Str (RdS.ex good_Str (RdS.ex good_Str (RdS.ex good_Str (RdS.ex good_Str h5 hE17) hE23) hE68) hE74) hO77 (by simp only [Iv]; omega)) hE83) hO86 (by simp only [Iv]; omega)) hE174) good_Str) o3 o6.2 (by first | omega | assumption | (simp only [IntKind.wrap_i64] at *; omega))) ?_))
    rintro v181 w180 ⟨rfl, hE182⟩
    exact ⟨rfl, hE182⟩
   ·exact fun _ _ h => os rfl ((yl_field1 Try.fd125_1 rfl (h.dt 6 47 rfl rfl rfl) rfl kI))
   ·exact fun _ _ h => os rfl ((yl_build (cs := [.int .i64 (2), .string (bs ((s_l25Write p_t p_a.Old).Key)), .string (bs ((s_l25Write p_t p_a.New).Val)), .int .i64 (0)]) rfl (opvs_cons rfl (opvs_cons (h.dt 2 43 rfl rfl rfl) (opvs_cons (h.dt 7 48 rfl rfl rfl) opvs_nil))) (by kernel_rfl) kI))
   ·intro fl197 fh198 L194 w195 hp196
    have hE199 := hp196.ex
    have hE199z := Ex.size hE199
    refine sd rfl (yl_buildSlice (cs := [.int .i64 (7), .string (bs ((s_l25Write p_t p_a.Old).Key)), .string (bs ((s_l25Write p_t p_a.Old).Val)), .int .i64 (0), .int .i64 (2), .string (bs ((s_l25Write p_t p_a.Old).Key)), .string (bs ((s_l25Write p_t p_a.New).Val)), .int .i64 (0)]) Try.un60 Try.ty163 (by decide) rfl (opvs_cons (hp196.nt 0 41 rfl rfl rfl) (opvs_cons (hp196.nt 8 49 rfl rfl rfl) opvs_nil)) (by kernel_rfl) ?_)
    intro b202 w203 hs204 hz205 hB206 hE207
    have hO208 : OwnL w203 b202 (b202 + 1) 163 4 (RF e_Op) (some ⟨b202, 0, none⟩) 2 2 ([(⟨7, (s_l25Write p_t p_a.Old).Key, (s_l25Write p_t p_a.Old).Val, 0⟩ : DOp), (⟨2, (s_l25Write p_t p_a.Old).Key, (s_l25Write p_t p_a.New).Val, 0⟩ : DOp)] : List DOp) := OwnL.of_box (S := fun _ => False) hB206 (Nat.le_refl _) (Nat.lt_succ_self _) (EncL.cons (c := [.int .i64 (7), .string (bs ((s_l25Write p_t p_a.Old).Key)), .string (bs ((s_l25Write p_t p_a.Old).Val)), .int .i64 (0)]) rfl rfl (EncL.cons (c := [.int .i64 (2), .string (bs ((s_l25Write p_t p_a.Old).Key)), .string (bs ((s_l25Write p_t p_a.New).Val)), .int .i64 (0)]) rfl rfl EncL.nil)) (Nat.le_of_ble_eq_true rfl) (fun h => h) (fun _ h => False.elim h)
    refine sd rfl (yl_assign rfl rfl (SeqR.done (tn (CW.sub (Sub.cons (d := 4) rfl (Sub.nil _)) (CW.ret (rr rfl (.cons rfl .nil) ?_))))))
    have hM209 : (s_l26Head p_t p_a) = (([(⟨7, (s_l25Write p_t p_a.Old).Key, (s_l25Write p_t p_a.Old).Val, 0⟩ : DOp), (⟨2, (s_l25Write p_t p_a.Old).Key, (s_l25Write p_t p_a.New).Val, 0⟩ : DOp)] : List DOp)) := by simp only [s_l26Head, hb24, hb92, cond_true, cond_false, loopE_done, loopE_ret]
    have hfx210 := (hO208).1
    rw [hM209]
    exact ⟨(some ⟨b202, 0, none⟩), 2, b202, (b202 + 1), (by first | rfl | (simp only [List.length_replicate, List.length_set]; done) | (simp only [List.length_replicate, List.length_set]; rfl) | rw [hfx210]), (OwnL.fix hO208), (by omega), (Ex.trans (Ex.trans (Below.only (Ex.trans (Below.only (Ex.trans (Ex.trans (Ex.trans (Ex.trans (Ex.refl w) hE17) hE23) hE68) hE74) hO77 (by omega)) hE83) hO86 (by omega)) hE199) hE207)⟩
set_option maxRecDepth 100000 in
set_option maxHeartbeats 2000000 in
theorem c_s_l25Entry {A1 : Option Addr} {c1 : Nat} {A2 : Option Addr} {c2 : Nat} {A5 : Option Addr} {c5 : Nat} {w : World} (p_t : DTable) (p_x : DIdx) (p_r : DRow) (h1 : RdS w (Iv 0 w.heap.size) (RF e_Str) 1 A1 p_t.Cols.length c1 p_t.Cols) (h2 : RdS w (Iv 0 w.heap.size) (RF e_Idx) 3 A2 p_t.Idxs.length c2 p_t.Idxs) (h5 : RdS w (Iv 0 w.heap.size) (RF e_Str) 1 A5 p_r.Vals.length c5 p_r.Vals) (o3 : ok_Table p_t) (o4 : ok_Idx p_x) (o6 : ok_Row p_r) (pre0 : (0 ≤ p_x.Col ∧ p_x.Col < (p_r.Vals.length : Int))) (pre1 : (p_t.Name.length ≤ 1 ∧ p_x.Name.length ≤ 1)) (pre2 : rowShort p_r) : Cal Try.prog 164 #[.agg #[.string (bs (p_t.Name)), .slice A1 p_t.Cols.length c1, .slice A2 p_t.Idxs.length c2], .agg #[.string (bs (p_x.Name)), .int .i64 (p_x.Col), .int .i64 (p_x.Stage)], .agg #[.slice A5 p_r.Vals.length c5]] w fun v w' => v = .string (bs ((s_l25Entry p_t p_x p_r))) ∧ okS (s_l25Entry p_t p_x p_r) ∧ Ex w w' := by
 have hol7 : p_t.Name.length ≤ 1073741824 := o3.1
 have hol8 := o3.2.1.1
 have hol9 := o3.2.2.1
 have hol10 : p_x.Name.length ≤ 1073741824 := o4
 have hol11 := o6.1
 refine Cal.of (vs := [.agg #[.string (bs (p_t.Name)), .slice A1 p_t.Cols.length c1, .slice A2 p_t.Idxs.length c2], .agg #[.string (bs (p_x.Name)), .int .i64 (p_x.Col), .int .i64 (p_x.Stage)], .agg #[.slice A5 p_r.Vals.length c5]]) Try.func164 rfl Try.ntmps164 rfl (CW.seq (CW.region (sd rfl (yl_box (cs := [.string (bs (p_t.Name)), .slice A1 p_t.Cols.length c1, .slice A2 p_t.Idxs.length c2]) rfl rfl rfl ?_))))
 intro b12 w13 hs14 hz15 hB16 hE17
 refine sd rfl (yl_box (cs := [.string (bs (p_x.Name)), .int .i64 (p_x.Col), .int .i64 (p_x.Stage)]) rfl rfl rfl ?_)
 intro b18 w19 hs20 hz21 hB22 hE23
 refine sd rfl (yl_box (cs := [.slice A5 p_r.Vals.length c5]) rfl rfl rfl ?_)
 intro b24 w25 hs26 hz27 hB28 hE29
 refine sd rfl (yl_assign rfl rfl (SeqR.done (tn (CW.seq ?_))))
 have hol32 : p_t.Name.length ≤ 1073741824 := o3.1
 have q33 := Box.ex hB22 hE29
 have hol34 : p_t.Name.length ≤ 1073741824 := o3.1
 have hol35 : p_x.Name.length ≤ 1073741824 := o4
 have hol36 : p_t.Name.length ≤ 1073741824 := o3.1
 have hol37 : p_x.Name.length ≤ 1073741824 := o4
 have q40 := RdS.ex good_Str (RdS.ex good_Str (RdS.ex good_Str h5 hE17) hE23) hE29
 obtain ⟨eb41, eo41, ec41, eA41, eS41, ebl41, el41, eR41, eC41⟩ := RdS.atD q40 d_Str (i := (p_x.Col).toNat) (by first | omega | assumption | (simp only [IntKind.wrap_i64] at *; omega))
 obtain rfl := eR41
 have eC41 : Cells w25 eb41 (eo41 + ((p_x.Col).toNat) * 1) [.string (bs ((p_r.Vals.getD ((p_x.Col).toNat) d_Str)))] := eC41
 have hol42 : p_t.Name.length ≤ 1073741824 := o3.1
 have hol43 : p_x.Name.length ≤ 1073741824 := o4
 have hol44 : (p_r.Vals.getD ((p_x.Col).toNat) d_Str).length ≤ 1073741824 := (okL.getD o6 ok_d_Str _)
 have hol45 : p_t.Name.length ≤ 1073741824 := o3.1
 have hol46 : p_x.Name.length ≤ 1073741824 := o4
 have hol47 : (p_r.Vals.getD ((p_x.Col).toNat) d_Str).length ≤ 1073741824 := (okL.getD o6 ok_d_Str _)
 obtain ⟨eb48, eo48, ec48, eA48, eS48, ebl48, el48, eR48, eC48⟩ := RdS.atD q40 d_Str (i := 0) (by first | omega | assumption)
 obtain rfl := eR48
 have eC48 : Cells w25 eb48 (eo48 + 0 * 1) [.string (bs ((p_r.Vals.getD 0 d_Str)))] := eC48
 have hol49 : p_t.Name.length ≤ 1073741824 := o3.1
 have hol50 : p_x.Name.length ≤ 1073741824 := o4
 have hol51 : (p_r.Vals.getD ((p_x.Col).toNat) d_Str).length ≤ 1073741824 := (okL.getD o6 ok_d_Str _)
 have hol52 : (p_r.Vals.getD 0 d_Str).length ≤ 1073741824 := (okL.getD o6 ok_d_Str _)
 refine CW.drawsI 21 (vgetI [DetI (.pointer (some ⟨b12, 0 + 0, none⟩)), DetI (.string (bs (p_t.Name))), DetI (.string (bs (p_t.Name ++ ([46] : Str)))), DetI (.pointer (some ⟨b18, 0 + 0, none⟩)), DetI (.string (bs (p_x.Name))), DetI (.string (bs ((p_t.Name ++ ([46] : Str)) ++ p_x.Name))), DetI (.string (bs (((p_t.Name ++ ([46] : Str)) ++ p_x.Name) ++ ([47] : Str)))), DetI (.pointer (some ⟨b24, 0 + 0, none⟩)), DetI (.slice A5 p_r.Vals.length c5), DetI (.pointer (some ⟨b18, 0 + 1, none⟩)), DetI (.int .i64 (p_x.Col)), DetI (.pointer (some ⟨eb41, eo41 + ((p_x.Col).toNat) * 1, none⟩)), DetI (.string (bs ((p_r.Vals.getD ((p_x.Col).toNat) d_Str)))), DetI (.string (bs ((((p_t.Name ++ ([46] : Str)) ++ p_x.Name) ++ ([47] : Str)) ++ (p_r.Vals.getD ((p_x.Col).toNat) d_Str)))), DetI (.string (bs (((((p_t.Name ++ ([46] : Str)) ++ p_x.Name) ++ ([47] : Str)) ++ (p_r.Vals.getD ((p_x.Col).toNat) d_Str)) ++ ([47] : Str)))), DetI (.pointer (some ⟨b24, 0 + 0, none⟩)), DetI (.slice A5 p_r.Vals.length c5), DetI (.pointer (some ⟨eb48, eo48 + 0 * 1, none⟩)), DetI (.string (bs ((p_r.Vals.getD 0 d_Str)))), DetI (.string (bs ((((((p_t.Name ++ ([46] : Str)) ++ p_x.Name) ++ ([47] : Str)) ++ (p_r.Vals.getD ((p_x.Col).toNat) d_Str)) ++ ([47] : Str)) ++ (p_r.Vals.getD 0 d_Str)))), DetI (.string (bs ((((((p_t.Name ++ ([46] : Str)) ++ p_x.Name) ++ ([47] : Str)) ++ (p_r.Vals.getD ((p_x.Col).toNat) d_Str)) ++ ([47] : Str)) ++ (p_r.Vals.getD 0 d_Str))))]) Try.follows rfl rfl rfl rfl rfl rfl (vgetI_stable ⟨StableI.det _, StableI.det _, StableI.det _, StableI.det _, StableI.det _, StableI.det _, StableI.det _, StableI.det _, StableI.det _, StableI.det _, StableI.det _, StableI.det _, StableI.det _, StableI.det _, StableI.det _, StableI.det _, StableI.det _, StableI.det _, StableI.det _, StableI.det _, StableI.det _, trivial⟩) ⟨?_, ?_, ?_, ?_, ?_, ?_, ?_, ?_, ?_, ?_, ?_, ?_, ?_, ?_, ?_, ?_, ?_, ?_, ?_, ?_, ?_, trivial⟩ ?_
 ·exact fun _ _ h => os rfl ((yl_fieldAddr Try.fd65_0 rfl (h.old 3 _ rfl rfl) kI))
 ·exact fun _ _ h => os rfl ((yl_load1 Try.ty9 rfl (h.dt 0 7 rfl rfl rfl) (((Box.ex (Box.ex (Box.ex hB16 hE23) hE29) h.ex).cell 0).trans rfl) kI))
 ·intro L64 w65 hi66
  have hE67 := hi66.ex
  have hE67z := Ex.size hE67
  have hol69 : p_t.Name.length ≤ 1073741824 := o3.1
  exact os rfl ((yl_sadd (a := p_t.Name) (b := ([46] : Str)) rfl (hi66.dt 1 8 rfl rfl rfl) rfl (by first | omega | (simp only [List.length_append, List.length_cons, List.length_nil, List.length_take, List.length_drop, toS_length]; omega)) kI))
 ·exact fun _ _ h => os rfl ((yl_fieldAddr Try.fd152_0 rfl (h.old 4 _ rfl rfl) kI))
 ·exact fun _ _ h => os rfl ((yl_load1 Try.ty9 rfl (h.dt 3 10 rfl rfl rfl) (((Box.ex q33 h.ex).cell 0).trans rfl) kI))
 ·intro L81 w82 hi83
  have hE84 := hi83.ex
  have hE84z := Ex.size hE84
  have hol87 : p_t.Name.length ≤ 1073741824 := o3.1
  have hol88 : p_x.Name.length ≤ 1073741824 := o4
  exact os rfl ((yl_sadd (a := (p_t.Name ++ ([46] : Str))) (b := p_x.Name) rfl (hi83.dt 2 9 rfl rfl rfl) (hi83.dt 4 11 rfl rfl rfl) (by first | omega | (simp only [List.length_append, List.length_cons, List.length_nil, List.length_take, List.length_drop, toS_length]; omega)) kI))
 ·intro L89 w90 hi91
  have hE92 := hi91.ex
  have hE92z := Ex.size hE92
  have hol94 : p_t.Name.length ≤ 1073741824 := o3.1
  have hol95 : p_x.Name.length ≤ 1073741824 := o4
  exact os rfl ((yl_sadd (a := ((p_t.Name ++ ([46] : Str)) ++ p_x.Name)) (b := ([47] : Str)) rfl (hi91.dt 5 12 rfl rfl rfl) rfl (by first | omega | (simp only [List.length_append, List.length_cons, List.length_nil, List.length_take, List.length_drop, toS_length]; omega)) kI))
 ·exact fun _ _ h => os rfl ((yl_fieldAddr Try.fd67_0 rfl (h.old 5 _ rfl rfl) kI))
 ·exact fun _ _ h => os rfl ((yl_load1 Try.ty52 rfl (h.dt 7 14 rfl rfl rfl) (((Box.ex hB28 h.ex).cell 0).trans rfl) kI))
 ·exact fun _ _ h => os rfl ((yl_fieldAddr Try.fd152_1 rfl (h.old 4 _ rfl rfl) kI))
 ·exact fun _ _ h => os rfl ((yl_load1 Try.ty3 rfl (h.dt 9 16 rfl rfl rfl) (((Box.ex q33 h.ex).cell 1).trans rfl) kI))
 ·intro L118 w119 hi120
  have hE121 := hi120.ex
  have hE121z := Ex.size hE121
  exact os rfl ((yl_indexAddr Try.un52 Try.ty9 rfl (hi120.dt 8 15 rfl rfl rfl) (hi120.dt 10 17 rfl rfl rfl) eA41 (by first | omega | assumption | (simp only [IntKind.wrap_i64] at *; omega)) (by first | omega | assumption | (simp only [IntKind.wrap_i64] at *; omega)) kI))
 ·exact fun _ _ h => os rfl ((yl_load1 Try.ty9 rfl (h.dt 11 18 rfl rfl rfl) ((Cells.ex eC41 h.ex) 0 _ rfl) kI))
 ·intro L130 w131 hi132
  have hE133 := hi132.ex
  have hE133z := Ex.size hE133
  have hol136 : p_t.Name.length ≤ 1073741824 := o3.1
  have hol137 : p_x.Name.length ≤ 1073741824 := o4
  have hol138 : (p_r.Vals.getD ((p_x.Col).toNat) d_Str).length ≤ 1073741824 := (okL.getD o6 ok_d_Str _)
  exact os rfl ((yl_sadd (a := (((p_t.Name ++ ([46] : Str)) ++ p_x.Name) ++ ([47] : Str))) (b := (p_r.Vals.getD ((p_x.Col).toNat) d_Str)) rfl (hi132.dt 6 13 rfl rfl rfl) (hi132.dt 12 19 rfl rfl rfl) (by first | omega | (simp only [List.length_append, List.length_cons, List.length_nil, List.length_take, List.length_drop, toS_length]; omega)) kI))
 ·intro L139 w140 hi141
  have hE142 := hi141.ex
  have hE142z := Ex.size hE142
  have hol144 : p_t.Name.length ≤ 1073741824 := o3.1
  have hol145 : p_x.Name.length ≤ 1073741824 := o4
  have hol146 : (p_r.Vals.getD ((p_x.Col).toNat) d_Str).length ≤ 1073741824 := (okL.getD o6 ok_d_Str _)
  exact os rfl ((yl_sadd (a := ((((p_t.Name ++ ([46] : Str)) ++ p_x.Name) ++ ([47] : Str)) ++ (p_r.Vals.getD ((p_x.Col).toNat) d_Str))) (b := ([47] : Str)) rfl (hi141.dt 13 20 rfl rfl rfl) rfl (by first | omega | (simp only [List.length_append, List.length_cons, List.length_nil, List.length_take, List.length_drop, toS_length]; omega)) kI))
 ·exact fun _ _ h => os rfl ((yl_fieldAddr Try.fd67_0 rfl (h.old 5 _ rfl rfl) kI))
 ·exact fun _ _ h => os rfl ((yl_load1 Try.ty52 rfl (h.dt 15 22 rfl rfl rfl) (((Box.ex hB28 h.ex).cell 0).trans rfl) kI))
 ·intro L158 w159 hi160
  have hE161 := hi160.ex
  have hE161z := Ex.size hE161
  exact os rfl ((yl_indexAddrN Try.un52 Try.ty9 rfl (hi160.dt 16 23 rfl rfl rfl) rfl eA48 (by first | omega | assumption | (simp only [IntKind.wrap_i64] at *; omega)) kI))
 ·exact fun _ _ h => os rfl ((yl_load1 Try.ty9 rfl (h.dt 17 24 rfl rfl rfl) ((Cells.ex eC48 h.ex) 0 _ rfl) kI))
 ·intro L169 w170 hi171
  have hE172 := hi171.ex
  have hE172z := Ex.size hE172
  have hol175 : p_t.Name.length ≤ 1073741824 := o3.1
  have hol176 : p_x.Name.length ≤ 1073741824 := o4
  have hol177 : (p_r.Vals.getD ((p_x.Col).toNat) d_Str).length ≤ 1073741824 := (okL.getD o6 ok_d_Str _)
  have hol178 : (p_r.Vals.getD 0 d_Str).length ≤ 1073741824 := (okL.getD o6 ok_d_Str _)
  exact os rfl ((yl_sadd (a := (((((p_t.Name ++ ([46] : Str)) ++ p_x.Name) ++ ([47] : Str)) ++ (p_r.Vals.getD ((p_x.Col).toNat) d_Str)) ++ ([47] : Str))) (b := (p_r.Vals.getD 0 d_Str)) rfl (hi171.dt 14 21 rfl rfl rfl) (hi171.dt 18 25 rfl rfl rfl) (by first | omega | (simp only [List.length_append, List.length_cons, List.length_nil, List.length_take, List.length_drop, toS_length]; omega)) kI))
 ·exact fun _ _ h => os rfl ((yl_assign rfl (h.dt 19 26 rfl rfl rfl) kI))
 ·intro fl187 fh188 L184 w185 hp186
  have hE189 := hp186.ex
  have hE189z := Ex.size hE189
  refine SeqR.done (tn (CW.sub (Sub.cons (d := 6) (hp186.nt 20 6 rfl rfl rfl) (Sub.nil _)) (CW.ret (rr rfl (.cons rfl .nil) ?_))))
  have hM191 : (s_l25Entry p_t p_x p_r) = ((((((p_t.Name ++ ([46] : Str)) ++ p_x.Name) ++ ([47] : Str)) ++ (p_r.Vals.getD ((p_x.Col).toNat) d_Str)) ++ ([47] : Str)) ++ (p_r.Vals.getD 0 d_Str)) := by simp only [s_l25Entry, cond_true, cond_false, loopE_done, loopE_ret]
  rw [hM191]
  exact ⟨rfl, (okS_l25Entry pre1 pre2), (Ex.trans (Ex.trans (Ex.trans (Ex.trans (Ex.refl w) hE17) hE23) hE29) hE189)⟩
set_option maxRecDepth 100000 in
set_option maxHeartbeats 2000000 in
theorem c_s_l26Idx {A1 : Option Addr} {c1 : Nat} {A2 : Option Addr} {c2 : Nat} {A5 : Option Addr} {c5 : Nat} {A6 : Option Addr} {c6 : Nat} {w : World} (p_t : DTable) (p_x : DIdx) (p_a : DRowAct) (h1 : RdS w (Iv 0 w.heap.size) (RF e_Str) 1 A1 p_t.Cols.length c1 p_t.Cols) (h2 : RdS w (Iv 0 w.heap.size) (RF e_Idx) 3 A2 p_t.Idxs.length c2 p_t.Idxs) (h5 : RdS w (Iv 0 w.heap.size) (RF e_Str) 1 A5 p_a.Old.Vals.length c5 p_a.Old.Vals) (h6 : RdS w (Iv 0 w.heap.size) (RF e_Str) 1 A6 p_a.New.Vals.length c6 p_a.New.Vals) (o3 : ok_Table p_t) (o4 : ok_Idx p_x) (o7 : ok_RowAct p_a) (pre0 : actOf p_t p_a) (pre1 : (0 ≤ p_x.Col ∧ p_x.Col < (p_t.Cols.length : Int))) (pre2 : (p_t.Name.length ≤ 1 ∧ p_x.Name.length ≤ 1)) : Cal Try.prog 177 #[.agg #[.string (bs (p_t.Name)), .slice A1 p_t.Cols.length c1, .slice A2 p_t.Idxs.length c2], .agg #[.string (bs (p_x.Name)), .int .i64 (p_x.Col), .int .i64 (p_x.Stage)], .agg #[.int .i64 (p_a.Kind), .slice A5 p_a.Old.Vals.length c5, .slice A6 p_a.New.Vals.length c6]] w fun v w' => ∃ A_1 c_1 lo_1 hi_1, v = .slice A_1 ((s_l26Idx p_t p_x p_a).length) c_1 ∧ OwnL w' lo_1 hi_1 163 4 (RF e_Op) A_1 ((s_l26Idx p_t p_x p_a).length) c_1 (s_l26Idx p_t p_x p_a) ∧ (okL ok_Op) (s_l26Idx p_t p_x p_a) ∧ (w.heap.size ≤ lo_1 ∧ lo_1 ≤ hi_1 ∧ hi_1 ≤ w'.heap.size) ∧ Ex w w' := by
 have hol8 : p_t.Name.length ≤ 1073741824 := o3.1
 have hol9 := o3.2.1.1
 have hol10 := o3.2.2.1
 have hol11 : p_x.Name.length ≤ 1073741824 := o4
 have hol12 := o7.1.1
 have hol13 := o7.2.1
 have hof := actOf_lin pre0
 refine Cal.of (vs := [.agg #[.string (bs (p_t.Name)), .slice A1 p_t.Cols.length c1, .slice A2 p_t.Idxs.length c2], .agg #[.string (bs (p_x.Name)), .int .i64 (p_x.Col), .int .i64 (p_x.Stage)], .agg #[.int .i64 (p_a.Kind), .slice A5 p_a.Old.Vals.length c5, .slice A6 p_a.New.Vals.length c6]]) Try.func177 rfl Try.ntmps177 rfl (CW.seq (CW.region (sd rfl (yl_box (cs := [.string (bs (p_t.Name)), .slice A1 p_t.Cols.length c1, .slice A2 p_t.Idxs.length c2]) rfl rfl rfl ?_))))
 intro b14 w15 hs16 hz17 hB18 hE19
 refine sd rfl (yl_box (cs := [.string (bs (p_x.Name)), .int .i64 (p_x.Col), .int .i64 (p_x.Stage)]) rfl rfl rfl ?_)
 intro b20 w21 hs22 hz23 hB24 hE25
 refine sd rfl (yl_box (cs := [.int .i64 (p_a.Kind), .slice A5 p_a.Old.Vals.length c5, .slice A6 p_a.New.Vals.length c6]) rfl rfl rfl ?_)
 intro b26 w27 hs28 hz29 hB30 hE31
 refine sd rfl (yl_assign rfl rfl (SeqR.done (tn (CW.seq (CW.region (sd rfl (yl_assign rfl rfl (SeqR.done (tn (CW.seq ?_))))))))))
 refine CW.region (sd rfl (yl_assign rfl rfl (sd rfl (yl_assign rfl rfl (SeqR.done (tn (CW.seq (CW.seq (CW.region (sd rfl (yl_fieldAddr Try.fd93_0 rfl rfl ?_)))))))))))
 refine sd rfl (yl_load1 Try.ty3 rfl rfl ((hB30.cell 0).trans rfl) (sd rfl (yl_neq rfl rfl rfl (SeqR.done (tn (bcase (decide (p_a.Kind = 1)) (fun hb32 => ?_) (fun hb32 => ?_)))))))
 ·have hb32p := dec_t hb32
  refine CW.cond_f rfl (not_t hb32) (CW.skip (tn (CW.seq (CW.seq (CW.region (sd rfl (yl_fieldAddr Try.fd93_0 rfl rfl (sd rfl (yl_load1 Try.ty3 rfl rfl ((hB30.cell 0).trans rfl) (sd rfl (yl_neq rfl rfl rfl ?_)))))))))))
  refine SeqR.done (tn (bcase (decide (p_a.Kind = 2)) (fun hb33 => ?_) (fun hb33 => ?_)))
  ·have hb33p := dec_t hb33
   refine CW.cond_f rfl (not_t hb33) (CW.skip (tn (CW.seq (CW.seq (CW.region (sd rfl (yl_move rfl rfl (sd rfl (yl_sneq (a := ([] : Str)) (b := ([] : Str)) rfl rfl rfl (sd rfl (yl_move rfl rfl ?_)))))))))))
   refine bcase (([] : Str) == ([] : Str)) (fun hb34 => ?_) (fun hb34 => ?_)
   ·refine sz rfl rfl (not_t hb34) (sz rfl rfl (not_t hb34) (sz rfl rfl (not_t hb34) (sd rfl (yl_pick_f rfl rfl (not_t hb34) rfl (sd rfl (yl_move rfl rfl (sz rfl rfl rfl (sz rfl rfl rfl (sz rfl rfl rfl (sd rfl (yl_pick_f rfl rfl rfl rfl ?_)))))))))))
    refine SeqR.done (tn (CW.cond_f rfl rfl (CW.skip (tn (CW.seq (CW.seq (CW.region (sd rfl (yl_move rfl rfl ?_)))))))))
    refine sd rfl (yl_sneq (a := ([] : Str)) (b := ([] : Str)) rfl rfl rfl (sd rfl (yl_move rfl rfl (sz rfl rfl (not_t hb34) (sz rfl rfl (not_t hb34) (sz rfl rfl (not_t hb34) (sd rfl (yl_pick_f rfl rfl (not_t hb34) rfl (SeqR.done (tn (CW.cond_f rfl rfl ?_)))))))))))
    refine CW.skip (tn (CW.seq (CW.region (sd rfl (yl_move rfl rfl (sd rfl (yl_assign rfl rfl (SeqR.done (tn (CW.ret ?_))))))))))
    refine rr rfl (.cons rfl .nil) ?_
    have hM35 : (s_l26Idx p_t p_x p_a) = (([] : List DOp)) := by simp only [s_l26Idx, hb32, hb33, hb34, cond_true, cond_false, loopE_done, loopE_ret]
    rw [hM35]
    exact ⟨none, 0, w27.heap.size, w27.heap.size, rfl, (OwnL.nil _ _ _ _ _ _), (okL.nil _), (by omega), (Ex.trans (Ex.trans (Ex.trans (Ex.refl w) hE19) hE25) hE31)⟩
   ·refine sy rfl rfl (not_f hb34) (yl_move rfl rfl (sy rfl rfl (not_f hb34) (yl_move rfl rfl (sy rfl rfl (not_f hb34) (yl_sneq (a := ([] : Str)) (b := ([] : Str)) rfl rfl rfl (sd rfl (yl_pick_t rfl rfl (not_f hb34) rfl (sd rfl (yl_move rfl rfl (sy rfl rfl (not_f hb34) (yl_fieldAddr Try.fd152_2 rfl rfl ?_)))))))))))
    have q39 := Box.ex hB24 hE31
    refine sy rfl rfl (not_f hb34) (yl_load1 Try.ty3 rfl rfl ((q39.cell 2).trans rfl) (sy rfl rfl (not_f hb34) (yl_geq rfl rfl rfl (sd rfl (yl_pick_t rfl rfl (not_f hb34) rfl (SeqR.done (tn (bcase (decide (1 ≤ p_x.Stage)) (fun hb40 => ?_) (fun hb40 => ?_)))))))))
    ·have hb40p := dec_t hb40
     refine CW.cond_t rfl hb40 (CW.region (sd rfl (yl_move rfl rfl (sd rfl (yl_move rfl rfl (sd rfl (yl_build (cs := [.int .i64 (3), .string (bs (([] : Str))), .string (bs (([] : Str))), .int .i64 (0)]) rfl (opvs_cons rfl (opvs_cons rfl opvs_nil)) (by kernel_rfl) (sd rfl (yl_buildSlice (cs := [.int .i64 (3), .string (bs (([] : Str))), .string (bs (([] : Str))), .int .i64 (0)]) Try.un60 Try.ty163 (by decide) rfl (opvs_cons rfl opvs_nil) (by kernel_rfl) ?_)))))))))
     intro b41 w42 hs43 hz44 hB45 hE46
     have hO47 : OwnL w42 b41 (b41 + 1) 163 4 (RF e_Op) (some ⟨b41, 0, none⟩) 1 1 ([(⟨3, ([] : Str), ([] : Str), 0⟩ : DOp)] : List DOp) := OwnL.of_box (S := fun _ => False) hB45 (Nat.le_refl _) (Nat.lt_succ_self _) (EncL.cons (c := [.int .i64 (3), .string (bs (([] : Str))), .string (bs (([] : Str))), .int .i64 (0)]) rfl rfl EncL.nil) (Nat.le_of_ble_eq_true rfl) (fun h => h) (fun _ h => False.elim h)
     refine sd rfl (yl_appendL (S := (fun _ => False)) (lo := w42.heap.size) (hi := w42.heap.size) (xs := ([] : List DOp)) (ys := ([(⟨3, ([] : Str), ([] : Str), 0⟩ : DOp)] : List DOp)) good_Op Try.un60 Try.ty163 rfl (Nat.le_of_ble_eq_true rfl) rfl rfl rfl (OwnL.nil w42 w42.heap.size w42.heap.size 163 4 (RF e_Op)) (EncL.cons (c := [.int .i64 (3), .string (bs (([] : Str))), .string (bs (([] : Str))), .int .i64 (0)]) rfl rfl EncL.nil) (Or.inr ⟨_, _, rfl, rfl, hB45.cells (o := 0) (n := 4) rfl⟩) rfl (by first | omega | (simp only [List.length_append, List.length_cons, List.length_nil, List.length_take, List.length_drop, List.length_replicate, List.length_set, toS_length]; omega)) (by first | omega | (simp only [List.length_append, List.length_cons, List.length_nil, List.length_take, List.length_drop, List.length_replicate, List.length_set, toS_length]; omega)) (by omega) (by omega) (fun _ h _ => False.elim h) (by omega) ?_)
     intro A48 c49 w50 row51 hO52 hG53 hrg54
     have hG53z := hG53.size
     refine sd rfl (yl_assign rfl rfl (SeqR.done (tn (CW.seq (CW.seq (CW.region (sd rfl (yl_move rfl rfl (sd rfl (yl_sneq (a := ([] : Str)) (b := ([] : Str)) rfl rfl rfl (sd rfl (yl_move rfl rfl ?_))))))))))))
     refine sy rfl rfl (not_f hb34) (yl_fieldAddr Try.fd152_2 rfl rfl (sy rfl rfl (not_f hb34) (yl_load1 Try.ty3 rfl rfl (((Box.grown (Box.ex q39 hE46) hG53 (fun k hk => by have := hrg54 k hk; omega)).cell 2).trans rfl) (sy rfl rfl (not_f hb34) (yl_geq rfl rfl rfl (sd rfl (yl_pick_t rfl rfl (not_f hb34) rfl (SeqR.done (tn (bcase (decide (2 ≤ p_x.Stage)) (fun hb57 => ?_) (fun hb57 => ?_)))))))))))
     ·have hb57p := dec_t hb57
      refine CW.cond_t rfl hb57 (CW.region (sd rfl (yl_move rfl rfl (sd rfl (yl_move rfl rfl (sd rfl (yl_build (cs := [.int .i64 (2), .string (bs (([] : Str))), .string (bs (([] : Str))), .int .i64 (0)]) rfl (opvs_cons rfl (opvs_cons rfl opvs_nil)) (by kernel_rfl) (sd rfl (yl_buildSlice (cs := [.int .i64 (2), .string (bs (([] : Str))), .string (bs (([] : Str))), .int .i64 (0)]) Try.un60 Try.ty163 (by decide) rfl (opvs_cons rfl opvs_nil) (by kernel_rfl) ?_)))))))))
      intro b58 w59 hs60 hz61 hB62 hE63
      have hO64 : OwnL w59 b58 (b58 + 1) 163 4 (RF e_Op) (some ⟨b58, 0, none⟩) 1 1 ([(⟨2, ([] : Str), ([] : Str), 0⟩ : DOp)] : List DOp) := OwnL.of_box (S := fun _ => False) hB62 (Nat.le_refl _) (Nat.lt_succ_self _) (EncL.cons (c := [.int .i64 (2), .string (bs (([] : Str))), .string (bs (([] : Str))), .int .i64 (0)]) rfl rfl EncL.nil) (Nat.le_of_ble_eq_true rfl) (fun h => h) (fun _ h => False.elim h)
      refine sd rfl (yl_appendL (S := (fun _ => False)) (lo := w42.heap.size) (hi := w50.heap.size) (xs := (([] : List DOp) ++ ([(⟨3, ([] : Str), ([] : Str), 0⟩ : DOp)] : List DOp))) (ys := ([(⟨2, ([] : Str), ([] : Str), 0⟩ : DOp)] : List DOp)) good_Op Try.un60 Try.ty163 rfl (Nat.le_of_ble_eq_true rfl) rfl rfl rfl (OwnL.ex good_Op hO52 hE63) (EncL.cons (c := [.int .i64 (2), .string (bs (([] : Str))), .string (bs (([] : Str))), .int .i64 (0)]) rfl rfl EncL.nil) (Or.inr ⟨_, _, rfl, rfl, hB62.cells (o := 0) (n := 4) rfl⟩) rfl (by first | omega | (simp only [List.length_append, List.length_cons, List.length_nil, List.length_take, List.length_drop, List.length_replicate, List.length_set, toS_length]; omega)) (by first | omega | (simp only [List.length_append, List.length_cons, List.length_nil, List.length_take, List.length_drop, List.length_replicate, List.length_set, toS_length]; omega)) (by omega) (by omega) (fun _ h _ => False.elim h) (by omega) ?_)
      intro A66 c67 w68 row69 hO70 hG71 hrg72
      have hG71z := hG71.size
      refine sd rfl (yl_assign rfl rfl (SeqR.done (tn (CW.seq (CW.region (sd rfl (yl_move rfl rfl (sd rfl (yl_assign rfl rfl (SeqR.done (tn ?_)))))))))))
      refine CW.ret (rr rfl (.cons rfl .nil) ?_)
      have hM73 : (s_l26Idx p_t p_x p_a) = (((([] : List DOp) ++ ([(⟨3, ([] : Str), ([] : Str), 0⟩ : DOp)] : List DOp)) ++ ([(⟨2, ([] : Str), ([] : Str), 0⟩ : DOp)] : List DOp))) := by simp only [s_l26Idx, hb32, hb33, hb34, hb40, hb57, cond_true, cond_false, loopE_done, loopE_ret]
      rw [hM73]
      exact ⟨A66, c67, w42.heap.size, w68.heap.size, rfl, hO70, (okL.mk (xs := ((([] : List DOp) ++ ([(⟨3, ([] : Str), ([] : Str), 0⟩ : DOp)] : List DOp)) ++ ([(⟨2, ([] : Str), ([] : Str), 0⟩ : DOp)] : List DOp))) (by first | omega | (simp only [List.length_append, List.length_cons, List.length_nil, List.length_take, List.length_drop, List.length_replicate, List.length_set, toS_length]; omega)) (okE.append (okE.append okE.nil ((okL.mk (Nat.le_of_ble_eq_true rfl) (okE.cons ⟨(okS.lit rfl), (okS.lit rfl)⟩ okE.nil))).2) ((okL.mk (Nat.le_of_ble_eq_true rfl) (okE.cons ⟨(okS.lit rfl), (okS.lit rfl)⟩ okE.nil))).2)), (by omega), (Below.grown (Ex.trans (Below.grown (Ex.trans (Ex.trans (Ex.trans (Ex.trans (Ex.refl w) hE19) hE25) hE31) hE46) hG53 (by omega) (fun k hk => by have := hrg54 k hk; omega)) hE63) hG71 (by omega) (fun k hk => by have := hrg72 k hk; omega))⟩
     ·have hb57p := dec_f hb57
      refine CW.cond_f rfl hb57 (CW.skip (tn (CW.seq (CW.region (sd rfl (yl_move rfl rfl (sd rfl (yl_assign rfl rfl (SeqR.done (tn ?_))))))))))
      refine CW.ret (rr rfl (.cons rfl .nil) ?_)
      have hM81 : (s_l26Idx p_t p_x p_a) = ((([] : List DOp) ++ ([(⟨3, ([] : Str), ([] : Str), 0⟩ : DOp)] : List DOp))) := by simp only [s_l26Idx, hb32, hb33, hb34, hb40, hb57, cond_true, cond_false, loopE_done, loopE_ret]
      rw [hM81]
      exact ⟨A48, c49, w42.heap.size, w50.heap.size, rfl, hO52, (okL.mk (xs := (([] : List DOp) ++ ([(⟨3, ([] : Str), ([] : Str), 0⟩ : DOp)] : List DOp))) (by first | omega | (simp only [List.length_append, List.length_cons, List.length_nil, List.length_take, List.length_drop, List.length_replicate, List.length_set, toS_length]; omega)) (okE.append okE.nil ((okL.mk (Nat.le_of_ble_eq_true rfl) (okE.cons ⟨(okS.lit rfl), (okS.lit rfl)⟩ okE.nil))).2)), (by omega), (Below.grown (Ex.trans (Ex.trans (Ex.trans (Ex.trans (Ex.refl w) hE19) hE25) hE31) hE46) hG53 (by omega) (fun k hk => by have := hrg54 k hk; omega))⟩
    ·have hb40p := dec_f hb40
     refine CW.cond_f rfl hb40 (CW.skip (tn (CW.seq (CW.seq (CW.region (sd rfl (yl_move rfl rfl (sd rfl (yl_sneq (a := ([] : Str)) (b := ([] : Str)) rfl rfl rfl (sd rfl (yl_move rfl rfl ?_)))))))))))
     refine sy rfl rfl (not_f hb34) (yl_fieldAddr Try.fd152_2 rfl rfl (sy rfl rfl (not_f hb34) (yl_load1 Try.ty3 rfl rfl ((q39.cell 2).trans rfl) (sy rfl rfl (not_f hb34) (yl_geq rfl rfl rfl (sd rfl (yl_pick_t rfl rfl (not_f hb34) rfl (SeqR.done (tn (bcase (decide (2 ≤ p_x.Stage)) (fun hb87 => ?_) (fun hb87 => ?_)))))))))))
     ·have hb87p := dec_t hb87
      refine CW.cond_t rfl hb87 (CW.region (sd rfl (yl_move rfl rfl (sd rfl (yl_move rfl rfl (sd rfl (yl_build (cs := [.int .i64 (2), .string (bs (([] : Str))), .string (bs (([] : Str))), .int .i64 (0)]) rfl (opvs_cons rfl (opvs_cons rfl opvs_nil)) (by kernel_rfl) (sd rfl (yl_buildSlice (cs := [.int .i64 (2), .string (bs (([] : Str))), .string (bs (([] : Str))), .int .i64 (0)]) Try.un60 Try.ty163 (by decide) rfl (opvs_cons rfl opvs_nil) (by kernel_rfl) ?_)))))))))
      intro b88 w89 hs90 hz91 hB92 hE93
      have hO94 : OwnL w89 b88 (b88 + 1) 163 4 (RF e_Op) (some ⟨b88, 0, none⟩) 1 1 ([(⟨2, ([] : Str), ([] : Str), 0⟩ : DOp)] : List DOp) := OwnL.of_box (S := fun _ => False) hB92 (Nat.le_refl _) (Nat.lt_succ_self _) (EncL.cons (c := [.int .i64 (2), .string (bs (([] : Str))), .string (bs (([] : Str))), .int .i64 (0)]) rfl rfl EncL.nil) (Nat.le_of_ble_eq_true rfl) (fun h => h) (fun _ h => False.elim h)
      refine sd rfl (yl_appendL (S := (fun _ => False)) (lo := w89.heap.size) (hi := w89.heap.size) (xs := ([] : List DOp)) (ys := ([(⟨2, ([] : Str), ([] : Str), 0⟩ : DOp)] : List DOp)) good_Op Try.un60 Try.ty163 rfl (Nat.le_of_ble_eq_true rfl) rfl rfl rfl (OwnL.nil w89 w89.heap.size w89.heap.size 163 4 (RF e_Op)) (EncL.cons (c := [.int .i64 (2), .string (bs (([] : Str))), .string (bs (([] : Str))), .int .i64 (0)]) rfl rfl EncL.nil) (Or.inr ⟨_, _, rfl, rfl, hB92.cells (o := 0) (n := 4) rfl⟩) rfl (by first | omega | (simp only [List.length_append, List.length_cons, List.length_nil, List.length_take, List.length_drop, List.length_replicate, List.length_set, toS_length]; omega)) (by first | omega | (simp only [List.length_append, List.length_cons, List.length_nil, List.length_take, List.length_drop, List.length_replicate, List.length_set, toS_length]; omega)) (by omega) (by omega) (fun _ h _ => False.elim h) (by omega) ?_)
      intro A95 c96 w97 row98 hO99 hG100 hrg101
      have hG100z := hG100.size
      refine sd rfl (yl_assign rfl rfl (SeqR.done (tn (CW.seq (CW.region (sd rfl (yl_move rfl rfl (sd rfl (yl_assign rfl rfl (SeqR.done (tn ?_)))))))))))
      refine CW.ret (rr rfl (.cons rfl .nil) ?_)
      have hM102 : (s_l26Idx p_t p_x p_a) = ((([] : List DOp) ++ ([(⟨2, ([] : Str), ([] : Str), 0⟩ : DOp)] : List DOp))) := by simp only [s_l26Idx, hb32, hb33, hb34, hb40, hb87, cond_true, cond_false, loopE_done, loopE_ret]
      rw [hM102]
      exact ⟨A95, c96, w89.heap.size, w97.heap.size, rfl, hO99, (okL.mk (xs := (([] : List DOp) ++ ([(⟨2, ([] : Str), ([] : Str), 0⟩ : DOp)] : List DOp))) (by first | omega | (simp only [List.length_append, List.length_cons, List.length_nil, List.length_take, List.length_drop, List.length_replicate, List.length_set, toS_length]; omega)) (okE.append okE.nil ((okL.mk (Nat.le_of_ble_eq_true rfl) (okE.cons ⟨(okS.lit rfl), (okS.lit rfl)⟩ okE.nil))).2)), (by omega), (Below.grown (Ex.trans (Ex.trans (Ex.trans (Ex.trans (Ex.refl w) hE19) hE25) hE31) hE93) hG100 (by omega) (fun k hk => by have := hrg101 k hk; omega))⟩
     ·have hb87p := dec_f hb87
      refine CW.cond_f rfl hb87 (CW.skip (tn (CW.seq (CW.region (sd rfl (yl_move rfl rfl (sd rfl (yl_assign rfl rfl (SeqR.done (tn ?_))))))))))
      refine CW.ret (rr rfl (.cons rfl .nil) ?_)
      have hM108 : (s_l26Idx p_t p_x p_a) = (([] : List DOp)) := by simp only [s_l26Idx, hb32, hb33, hb34, hb40, hb87, cond_true, cond_false, loopE_done, loopE_ret]
      rw [hM108]
      exact ⟨none, 0, w27.heap.size, w27.heap.size, rfl, (OwnL.nil _ _ _ _ _ _), (okL.nil _), (by omega), (Ex.trans (Ex.trans (Ex.trans (Ex.refl w) hE19) hE25) hE31)⟩
  ·have hb33p := dec_f hb33
   refine CW.cond_t rfl (not_f hb33) (CW.region (sd rfl (yl_loadN (cs := [.string (bs (p_t.Name)), .slice A1 p_t.Cols.length c1, .slice A2 p_t.Idxs.length c2]) Try.ty65 rfl rfl ((Box.ex (Box.ex hB18 hE25) hE31).cells (n := 3) rfl) rfl ?_)))
   have q114 := Box.ex hB24 hE31
   refine sd rfl (yl_loadN (cs := [.string (bs (p_x.Name)), .int .i64 (p_x.Col), .int .i64 (p_x.Stage)]) Try.ty152 rfl rfl (q114.cells (n := 3) rfl) rfl (sd rfl (yl_fieldAddr Try.fd93_2 rfl rfl (sd rfl (yl_loadN (cs := [.slice A6 p_a.New.Vals.length c6]) Try.ty67 rfl rfl (hB30.cells (n := 1) rfl) rfl (sd rfl (yl_call Try.en164 rfl (opvs_cons rfl (opvs_cons rfl (opvs_cons rfl opvs_nil))) (Cal.mono (c_s_l25Entry p_t p_x p_a.New (RdS.up (RdS.ex good_Str (RdS.ex good_Str (RdS.ex good_Str h1 hE19) hE25) hE31) good_Str) (RdS.up (RdS.ex good_Idx (RdS.ex good_Idx (RdS.ex good_Idx h2 hE19) hE25) hE31) good_Idx) (RdS.up (RdS.ex good_Str (RdS.ex good_Str (RdS.ex good_Str h6 hE19) hE25) hE31) good_Str) o3 o4 o7.2 (by first | omega | assumption | (simp only [IntKind.wrap_i64] at *; omega)) (by first | omega | assumption | (simp only [IntKind.wrap_i64] at *; omega)) (pre0.1 (by omega)).2) ?_))))))))
   rintro v126 w124 ⟨rfl, ho125, hE127⟩
   have hE127z := Ex.size hE127
   refine sd rfl (yl_assign rfl rfl (SeqR.done (tn (CW.seq (CW.seq (CW.region (sd rfl (yl_move rfl rfl (sd rfl (yl_sneq (a := ([] : Str)) (b := ([] : Str)) rfl rfl rfl (sd rfl (yl_move rfl rfl ?_))))))))))))
   refine bcase (([] : Str) == ([] : Str)) (fun hb128 => ?_) (fun hb128 => ?_)
   ·refine sz rfl rfl (not_t hb128) (sz rfl rfl (not_t hb128) (sz rfl rfl (not_t hb128) (sd rfl (yl_pick_f rfl rfl (not_t hb128) rfl (sd rfl (yl_move rfl rfl (sz rfl rfl rfl (sz rfl rfl rfl (sz rfl rfl rfl (sd rfl (yl_pick_f rfl rfl rfl rfl ?_)))))))))))
    refine SeqR.done (tn (CW.cond_f rfl rfl (CW.skip (tn (CW.seq (CW.seq (CW.region (sd rfl (yl_move rfl rfl ?_)))))))))
    refine sd rfl (yl_sneq (a := (s_l25Entry p_t p_x p_a.New)) (b := ([] : Str)) rfl rfl rfl (sd rfl (yl_move rfl rfl (bcase ((s_l25Entry p_t p_x p_a.New) == ([] : Str)) (fun hb129 => ?_) (fun hb129 => ?_)))))
    ·refine sz rfl rfl (not_t hb129) (sz rfl rfl (not_t hb129) (sz rfl rfl (not_t hb129) (sd rfl (yl_pick_f rfl rfl (not_t hb129) rfl (SeqR.done (tn (CW.cond_f rfl rfl (CW.skip (tn ?_)))))))))
     refine CW.seq (CW.region (sd rfl (yl_move rfl rfl (sd rfl (yl_assign rfl rfl (SeqR.done (tn (CW.ret (rr rfl (.cons rfl .nil) ?_)))))))))
     have hM130 : (s_l26Idx p_t p_x p_a) = (([] : List DOp)) := by simp only [s_l26Idx, hb32, hb33, hb128, hb129, cond_true, cond_false, loopE_done, loopE_ret]
     rw [hM130]
     exact ⟨none, 0, w124.heap.size, w124.heap.size, rfl, (OwnL.nil _ _ _ _ _ _), (okL.nil _), (by omega), (Ex.trans (Ex.trans (Ex.trans (Ex.trans (Ex.refl w) hE19) hE25) hE31) hE127)⟩
    ·refine sy rfl rfl (not_f hb129) (yl_fieldAddr Try.fd152_2 rfl rfl (sy rfl rfl (not_f hb129) (yl_load1 Try.ty3 rfl rfl (((Box.ex q114 hE127).cell 2).trans rfl) (sy rfl rfl (not_f hb129) (yl_geq rfl rfl rfl (sd rfl (yl_pick_t rfl rfl (not_f hb129) rfl (SeqR.done (tn (bcase (decide (2 ≤ p_x.Stage)) (fun hb136 => ?_) (fun hb136 => ?_)))))))))))
     ·have hb136p := dec_t hb136
      refine CW.cond_t rfl hb136 (CW.region (sd rfl (yl_move rfl rfl (sd rfl (yl_move rfl rfl (sd rfl (yl_build (cs := [.int .i64 (2), .string (bs ((s_l25Entry p_t p_x p_a.New))), .string (bs (([] : Str))), .int .i64 (0)]) rfl (opvs_cons rfl (opvs_cons rfl opvs_nil)) (by kernel_rfl) (sd rfl (yl_buildSlice (cs := [.int .i64 (2), .string (bs ((s_l25Entry p_t p_x p_a.New))), .string (bs (([] : Str))), .int .i64 (0)]) Try.un60 Try.ty163 (by decide) rfl (opvs_cons rfl opvs_nil) (by kernel_rfl) ?_)))))))))
      intro b137 w138 hs139 hz140 hB141 hE142
      have hO143 : OwnL w138 b137 (b137 + 1) 163 4 (RF e_Op) (some ⟨b137, 0, none⟩) 1 1 ([(⟨2, (s_l25Entry p_t p_x p_a.New), ([] : Str), 0⟩ : DOp)] : List DOp) := OwnL.of_box (S := fun _ => False) hB141 (Nat.le_refl _) (Nat.lt_succ_self _) (EncL.cons (c := [.int .i64 (2), .string (bs ((s_l25Entry p_t p_x p_a.New))), .string (bs (([] : Str))), .int .i64 (0)]) rfl rfl EncL.nil) (Nat.le_of_ble_eq_true rfl) (fun h => h) (fun _ h => False.elim h)
      refine sd rfl (yl_appendL (S := (fun _ => False)) (lo := w138.heap.size) (hi := w138.heap.size) (xs := ([] : List DOp)) (ys := ([(⟨2, (s_l25Entry p_t p_x p_a.New), ([] : Str), 0⟩ : DOp)] : List DOp)) good_Op Try.un60 Try.ty163 rfl (Nat.le_of_ble_eq_true rfl) rfl rfl rfl (OwnL.nil w138 w138.heap.size w138.heap.size 163 4 (RF e_Op)) (EncL.cons (c := [.int .i64 (2), .string (bs ((s_l25Entry p_t p_x p_a.New))), .string (bs (([] : Str))), .int .i64 (0)]) rfl rfl EncL.nil) (Or.inr ⟨_, _, rfl, rfl, hB141.cells (o := 0) (n := 4) rfl⟩) rfl (by first | omega | (simp only [List.length_append, List.length_cons, List.length_nil, List.length_take, List.length_drop, List.length_replicate, List.length_set, toS_length]; omega)) (by first | omega | (simp only [List.length_append, List.length_cons, List.length_nil, List.length_take, List.length_drop, List.length_replicate, List.length_set, toS_length]; omega)) (by omega) (by omega) (fun _ h _ => False.elim h) (by omega) ?_)
      intro A144 c145 w146 row147 hO148 hG149 hrg150
      have hG149z := hG149.size
      refine sd rfl (yl_assign rfl rfl (SeqR.done (tn (CW.seq (CW.region (sd rfl (yl_move rfl rfl (sd rfl (yl_assign rfl rfl (SeqR.done (tn ?_)))))))))))
      refine CW.ret (rr rfl (.cons rfl .nil) ?_)
      have hM151 : (s_l26Idx p_t p_x p_a) = ((([] : List DOp) ++ ([(⟨2, (s_l25Entry p_t p_x p_a.New), ([] : Str), 0⟩ : DOp)] : List DOp))) := by simp only [s_l26Idx, hb32, hb33, hb128, hb129, hb136, cond_true, cond_false, loopE_done, loopE_ret]
      rw [hM151]
      exact ⟨A144, c145, w138.heap.size, w146.heap.size, rfl, hO148, (okL.mk (xs := (([] : List DOp) ++ ([(⟨2, (s_l25Entry p_t p_x p_a.New), ([] : Str), 0⟩ : DOp)] : List DOp))) (by first | omega | (simp only [List.length_append, List.length_cons, List.length_nil, List.length_take, List.length_drop, List.length_replicate, List.length_set, toS_length]; omega)) (okE.append okE.nil ((okL.mk (Nat.le_of_ble_eq_true rfl) (okE.cons ⟨ho125, (okS.lit rfl)⟩ okE.nil))).2)), (by omega), (Below.grown (Ex.trans (Ex.trans (Ex.trans (Ex.trans (Ex.trans (Ex.refl w) hE19) hE25) hE31) hE127) hE142) hG149 (by omega) (fun k hk => by have := hrg150 k hk; omega))⟩
     ·have hb136p := dec_f hb136
      refine CW.cond_f rfl hb136 (CW.skip (tn (CW.seq (CW.region (sd rfl (yl_move rfl rfl (sd rfl (yl_assign rfl rfl (SeqR.done (tn ?_))))))))))
      refine CW.ret (rr rfl (.cons rfl .nil) ?_)
      have hM158 : (s_l26Idx p_t p_x p_a) = (([] : List DOp)) := by simp only [s_l26Idx, hb32, hb33, hb128, hb129, hb136, cond_true, cond_false, loopE_done, loopE_ret]
      rw [hM158]
      exact ⟨none, 0, w124.heap.size, w124.heap.size, rfl, (OwnL.nil _ _ _ _ _ _), (okL.nil _), (by omega), (Ex.trans (Ex.trans (Ex.trans (Ex.trans (Ex.refl w) hE19) hE25) hE31) hE127)⟩
   ·refine sy rfl rfl (not_f hb128) (yl_move rfl rfl (sy rfl rfl (not_f hb128) (yl_move rfl rfl (sy rfl rfl (not_f hb128) (yl_sneq (a := ([] : Str)) (b := (s_l25Entry p_t p_x p_a.New)) rfl rfl rfl (sd rfl (yl_pick_t rfl rfl (not_f hb128) rfl (sd rfl (yl_move rfl rfl (bcase (([] : Str) == (s_l25Entry p_t p_x p_a.New)) (fun hb163 => ?_) (fun hb163 => ?_)))))))))))
    ·refine sz rfl rfl (not_t hb163) (sz rfl rfl (not_t hb163) (sz rfl rfl (not_t hb163) (sd rfl (yl_pick_f rfl rfl (not_t hb163) rfl (SeqR.done (tn (CW.cond_f rfl rfl (CW.skip (tn ?_)))))))))
     refine CW.seq (CW.seq (CW.region (sd rfl (yl_move rfl rfl (sd rfl (yl_sneq (a := (s_l25Entry p_t p_x p_a.New)) (b := ([] : Str)) rfl rfl rfl (sd rfl (yl_move rfl rfl (bcase ((s_l25Entry p_t p_x p_a.New) == ([] : Str)) (fun hb164 => ?_) (fun hb164 => ?_))))))))))
     ·refine sz rfl rfl (not_t hb164) (sz rfl rfl (not_t hb164) (sz rfl rfl (not_t hb164) (sd rfl (yl_pick_f rfl rfl (not_t hb164) rfl (SeqR.done (tn (CW.cond_f rfl rfl (CW.skip (tn ?_)))))))))
      refine CW.seq (CW.region (sd rfl (yl_move rfl rfl (sd rfl (yl_assign rfl rfl (SeqR.done (tn (CW.ret (rr rfl (.cons rfl .nil) ?_)))))))))
      have hM165 : (s_l26Idx p_t p_x p_a) = (([] : List DOp)) := by simp only [s_l26Idx, hb32, hb33, hb128, hb163, hb164, cond_true, cond_false, loopE_done, loopE_ret]
      rw [hM165]
      exact ⟨none, 0, w124.heap.size, w124.heap.size, rfl, (OwnL.nil _ _ _ _ _ _), (okL.nil _), (by omega), (Ex.trans (Ex.trans (Ex.trans (Ex.trans (Ex.refl w) hE19) hE25) hE31) hE127)⟩
     ·refine sy rfl rfl (not_f hb164) (yl_fieldAddr Try.fd152_2 rfl rfl (sy rfl rfl (not_f hb164) (yl_load1 Try.ty3 rfl rfl (((Box.ex q114 hE127).cell 2).trans rfl) (sy rfl rfl (not_f hb164) (yl_geq rfl rfl rfl (sd rfl (yl_pick_t rfl rfl (not_f hb164) rfl (SeqR.done (tn (bcase (decide (2 ≤ p_x.Stage)) (fun hb171 => ?_) (fun hb171 => ?_)))))))))))
      ·have hb171p := dec_t hb171
       refine CW.cond_t rfl hb171 (CW.region (sd rfl (yl_move rfl rfl (sd rfl (yl_move rfl rfl (sd rfl (yl_build (cs := [.int .i64 (2), .string (bs ((s_l25Entry p_t p_x p_a.New))), .string (bs (([] : Str))), .int .i64 (0)]) rfl (opvs_cons rfl (opvs_cons rfl opvs_nil)) (by kernel_rfl) (sd rfl (yl_buildSlice (cs := [.int .i64 (2), .string (bs ((s_l25Entry p_t p_x p_a.New))), .string (bs (([] : Str))), .int .i64 (0)]) Try.un60 Try.ty163 (by decide) rfl (opvs_cons rfl opvs_nil) (by kernel_rfl) ?_)))))))))
       intro b172 w173 hs174 hz175 hB176 hE177
       have hO178 : OwnL w173 b172 (b172 + 1) 163 4 (RF e_Op) (some ⟨b172, 0, none⟩) 1 1 ([(⟨2, (s_l25Entry p_t p_x p_a.New), ([] : Str), 0⟩ : DOp)] : List DOp) := OwnL.of_box (S := fun _ => False) hB176 (Nat.le_refl _) (Nat.lt_succ_self _) (EncL.cons (c := [.int .i64 (2), .string (bs ((s_l25Entry p_t p_x p_a.New))), .string (bs (([] : Str))), .int .i64 (0)]) rfl rfl EncL.nil) (Nat.le_of_ble_eq_true rfl) (fun h => h) (fun _ h => False.elim h)
       refine sd rfl (yl_appendL (S := (fun _ => False)) (lo := w173.heap.size) (hi := w173.heap.size) (xs := ([] : List DOp)) (ys := ([(⟨2, (s_l25Entry p_t p_x p_a.New), ([] : Str), 0⟩ : DOp)] : List DOp)) good_Op Try.un60 Try.ty163 rfl (Nat.le_of_ble_eq_true rfl) rfl rfl rfl (OwnL.nil w173 w173.heap.size w173.heap.size 163 4 (RF e_Op)) (EncL.cons (c := [.int .i64 (2), .string (bs ((s_l25Entry p_t p_x p_a.New))), .string (bs (([] : Str))), .int .i64 (0)]) rfl rfl EncL.nil) (Or.inr ⟨_, _, rfl, rfl, hB176.cells (o := 0) (n := 4) rfl⟩) rfl (by first | omega | (simp only [List.length_append, List.length_cons, List.length_nil, List.length_take, List.length_drop, List.length_replicate, List.length_set, toS_length]; omega)) (by first | omega | (simp only [List.length_append, List.length_cons, List.length_nil, List.length_take, List.length_drop, List.length_replicate, List.length_set, toS_length]; omega)) (by omega) (by omega) (fun _ h _ => False.elim h) (by omega) ?_)
       intro A179 c180 w181 row182 hO183 hG184 hrg185
       have hG184z := hG184.size
       refine sd rfl (yl_assign rfl rfl (SeqR.done (tn (CW.seq (CW.region (sd rfl (yl_move rfl rfl (sd rfl (yl_assign rfl rfl (SeqR.done (tn ?_)))))))))))
       refine CW.ret (rr rfl (.cons rfl .nil) ?_)
       have hM186 : (s_l26Idx p_t p_x p_a) = ((([] : List DOp) ++ ([(⟨2, (s_l25Entry p_t p_x p_a.New), ([] : Str), 0⟩ : DOp)] : List DOp))) := by simp only [s_l26Idx, hb32, hb33, hb128, hb163, hb164, hb171, cond_true, cond_false, loopE_done, loopE_ret]
       rw [hM186]
       exact ⟨A179, c180, w173.heap.size, w181.heap.size, rfl, hO183, (okL.mk (xs := (([] : List DOp) ++ ([(⟨2, (s_l25Entry p_t p_x p_a.New), ([] : Str), 0⟩ : DOp)] : List DOp))) (by first | omega | (simp only [List.length_append, List.length_cons, List.length_nil, List.length_take, List.length_drop, List.length_replicate, List.length_set, toS_length]; omega)) (okE.append okE.nil ((okL.mk (Nat.le_of_ble_eq_true rfl) (okE.cons ⟨ho125, (okS.lit rfl)⟩ okE.nil))).2)), (by omega), (Below.grown (Ex.trans (Ex.trans (Ex.trans (Ex.trans (Ex.trans (Ex.refl w) hE19) hE25) hE31) hE127) hE177) hG184 (by omega) (fun k hk => by have := hrg185 k hk; omega))⟩
      ·have hb171p := dec_f hb171
       refine CW.cond_f rfl hb171 (CW.skip (tn (CW.seq (CW.region (sd rfl (yl_move rfl rfl (sd rfl (yl_assign rfl rfl (SeqR.done (tn ?_))))))))))
       refine CW.ret (rr rfl (.cons rfl .nil) ?_)
       have hM193 : (s_l26Idx p_t p_x p_a) = (([] : List DOp)) := by simp only [s_l26Idx, hb32, hb33, hb128, hb163, hb164, hb171, cond_true, cond_false, loopE_done, loopE_ret]
       rw [hM193]
       exact ⟨none, 0, w124.heap.size, w124.heap.size, rfl, (OwnL.nil _ _ _ _ _ _), (okL.nil _), (by omega), (Ex.trans (Ex.trans (Ex.trans (Ex.trans (Ex.refl w) hE19) hE25) hE31) hE127)⟩
    ·refine sy rfl rfl (not_f hb163) (yl_fieldAddr Try.fd152_2 rfl rfl ?_)
     have q198 := Box.ex q114 hE127
     refine sy rfl rfl (not_f hb163) (yl_load1 Try.ty3 rfl rfl ((q198.cell 2).trans rfl) (sy rfl rfl (not_f hb163) (yl_geq rfl rfl rfl (sd rfl (yl_pick_t rfl rfl (not_f hb163) rfl (SeqR.done (tn (bcase (decide (1 ≤ p_x.Stage)) (fun hb199 => ?_) (fun hb199 => ?_)))))))))
     ·have hb199p := dec_t hb199
      refine CW.cond_t rfl hb199 (CW.region (sd rfl (yl_move rfl rfl (sd rfl (yl_move rfl rfl (sd rfl (yl_build (cs := [.int .i64 (3), .string (bs (([] : Str))), .string (bs (([] : Str))), .int .i64 (0)]) rfl (opvs_cons rfl (opvs_cons rfl opvs_nil)) (by kernel_rfl) (sd rfl (yl_buildSlice (cs := [.int .i64 (3), .string (bs (([] : Str))), .string (bs (([] : Str))), .int .i64 (0)]) Try.un60 Try.ty163 (by decide) rfl (opvs_cons rfl opvs_nil) (by kernel_rfl) ?_)))))))))
      intro b200 w201 hs202 hz203 hB204 hE205
      have hO206 : OwnL w201 b200 (b200 + 1) 163 4 (RF e_Op) (some ⟨b200, 0, none⟩) 1 1 ([(⟨3, ([] : Str), ([] : Str), 0⟩ : DOp)] : List DOp) := OwnL.of_box (S := fun _ => False) hB204 (Nat.le_refl _) (Nat.lt_succ_self _) (EncL.cons (c := [.int .i64 (3), .string (bs (([] : Str))), .string (bs (([] : Str))), .int .i64 (0)]) rfl rfl EncL.nil) (Nat.le_of_ble_eq_true rfl) (fun h => h) (fun _ h => False.elim h)
      refine sd rfl (yl_appendL (S := (fun _ => False)) (lo := w201.heap.size) (hi := w201.heap.size) (xs := ([] : List DOp)) (ys := ([(⟨3, ([] : Str), ([] : Str), 0⟩ : DOp)] : List DOp)) good_Op Try.un60 Try.ty163 rfl (Nat.le_of_ble_eq_true rfl) rfl rfl rfl (OwnL.nil w201 w201.heap.size w201.heap.size 163 4 (RF e_Op)) (EncL.cons (c := [.int .i64 (3), .string (bs (([] : Str))), .string (bs (([] : Str))), .int .i64 (0)]) rfl rfl EncL.nil) (Or.inr ⟨_, _, rfl, rfl, hB204.cells (o := 0) (n := 4) rfl⟩) rfl (by first | omega | (simp only [List.length_append, List.length_cons, List.length_nil, List.length_take, List.length_drop, List.length_replicate, List.length_set, toS_length]; omega)) (by first | omega | (simp only [List.length_append, List.length_cons, List.length_nil, List.length_take, List.length_drop, List.length_replicate, List.length_set, toS_length]; omega)) (by omega) (by omega) (fun _ h _ => False.elim h) (by omega) ?_)
      intro A207 c208 w209 row210 hO211 hG212 hrg213
      have hG212z := hG212.size
      refine sd rfl (yl_assign rfl rfl (SeqR.done (tn (CW.seq (CW.seq (CW.region (sd rfl (yl_move rfl rfl (sd rfl (yl_sneq (a := (s_l25Entry p_t p_x p_a.New)) (b := ([] : Str)) rfl rfl rfl (sd rfl (yl_move rfl rfl ?_))))))))))))
      refine bcase ((s_l25Entry p_t p_x p_a.New) == ([] : Str)) (fun hb214 => ?_) (fun hb214 => ?_)
      ·refine sz rfl rfl (not_t hb214) (sz rfl rfl (not_t hb214) (sz rfl rfl (not_t hb214) (sd rfl (yl_pick_f rfl rfl (not_t hb214) rfl (SeqR.done (tn (CW.cond_f rfl rfl (CW.skip (tn ?_)))))))))
       refine CW.seq (CW.region (sd rfl (yl_move rfl rfl (sd rfl (yl_assign rfl rfl (SeqR.done (tn (CW.ret (rr rfl (.cons rfl .nil) ?_)))))))))
       have hM215 : (s_l26Idx p_t p_x p_a) = ((([] : List DOp) ++ ([(⟨3, ([] : Str), ([] : Str), 0⟩ : DOp)] : List DOp))) := by simp only [s_l26Idx, hb32, hb33, hb128, hb163, hb199, hb214, cond_true, cond_false, loopE_done, loopE_ret]
       rw [hM215]
       exact ⟨A207, c208, w201.heap.size, w209.heap.size, rfl, hO211, (okL.mk (xs := (([] : List DOp) ++ ([(⟨3, ([] : Str), ([] : Str), 0⟩ : DOp)] : List DOp))) (by first | omega | (simp only [List.length_append, List.length_cons, List.length_nil, List.length_take, List.length_drop, List.length_replicate, List.length_set, toS_length]; omega)) (okE.append okE.nil ((okL.mk (Nat.le_of_ble_eq_true rfl) (okE.cons ⟨(okS.lit rfl), (okS.lit rfl)⟩ okE.nil))).2)), (by omega), (Below.grown (Ex.trans (Ex.trans (Ex.trans (Ex.trans (Ex.trans (Ex.refl w) hE19) hE25) hE31) hE127) hE205) hG212 (by omega) (fun k hk => by have := hrg213 k hk; omega))⟩
      ·refine sy rfl rfl (not_f hb214) (yl_fieldAddr Try.fd152_2 rfl rfl (sy rfl rfl (not_f hb214) (yl_load1 Try.ty3 rfl rfl (((Box.grown (Box.ex q198 hE205) hG212 (fun k hk => by have := hrg213 k hk; omega)).cell 2).trans rfl) (sy rfl rfl (not_f hb214) (yl_geq rfl rfl rfl (sd rfl (yl_pick_t rfl rfl (not_f hb214) rfl (SeqR.done (tn (bcase (decide (2 ≤ p_x.Stage)) (fun hb224 => ?_) (fun hb224 => ?_)))))))))))
       ·have hb224p := dec_t hb224
        refine CW.cond_t rfl hb224 (CW.region (sd rfl (yl_move rfl rfl (sd rfl (yl_move rfl rfl (sd rfl (yl_build (cs := [.int .i64 (2), .string (bs ((s_l25Entry p_t p_x p_a.New))), .string (bs (([] : Str))), .int .i64 (0)]) rfl (opvs_cons rfl (opvs_cons rfl opvs_nil)) (by kernel_rfl) (sd rfl (yl_buildSlice (cs := [.int .i64 (2), .string (bs ((s_l25Entry p_t p_x p_a.New))), .string (bs (([] : Str))), .int .i64 (0)]) Try.un60 Try.ty163 (by decide) rfl (opvs_cons rfl opvs_nil) (by kernel_rfl) ?_)))))))))
        intro b225 w226 hs227 hz228 hB229 hE230
        have hO231 : OwnL w226 b225 (b225 + 1) 163 4 (RF e_Op) (some ⟨b225, 0, none⟩) 1 1 ([(⟨2, (s_l25Entry p_t p_x p_a.New), ([] : Str), 0⟩ : DOp)] : List DOp) := OwnL.of_box (S := fun _ => False) hB229 (Nat.le_refl _) (Nat.lt_succ_self _) (EncL.cons (c := [.int .i64 (2), .string (bs ((s_l25Entry p_t p_x p_a.New))), .string (bs (([] : Str))), .int .i64 (0)]) rfl rfl EncL.nil) (Nat.le_of_ble_eq_true rfl) (fun h => h) (fun _ h => False.elim h)
        refine sd rfl (yl_appendL (S := (fun _ => False)) (lo := w201.heap.size) (hi := w209.heap.size) (xs := (([] : List DOp) ++ ([(⟨3, ([] : Str), ([] : Str), 0⟩ : DOp)] : List DOp))) (ys := ([(⟨2, (s_l25Entry p_t p_x p_a.New), ([] : Str), 0⟩ : DOp)] : List DOp)) good_Op Try.un60 Try.ty163 rfl (Nat.le_of_ble_eq_true rfl) rfl rfl rfl (OwnL.ex good_Op hO211 hE230) (EncL.cons (c := [.int .i64 (2), .string (bs ((s_l25Entry p_t p_x p_a.New))), .string (bs (([] : Str))), .int .i64 (0)]) rfl rfl EncL.nil) (Or.inr ⟨_, _, rfl, rfl, hB229.cells (o := 0) (n := 4) rfl⟩) rfl (by first | omega | (simp only [List.length_append, List.length_cons, List.length_nil, List.length_take, List.length_drop, List.length_replicate, List.length_set, toS_length]; omega)) (by first | omega | (simp only [List.length_append, List.length_cons, List.length_nil, List.length_take, List.length_drop, List.length_replicate, List.length_set, toS_length]; omega)) (by omega) (by omega) (fun _ h _ => False.elim h) (by omega) ?_)
        intro A233 c234 w235 row236 hO237 hG238 hrg239
        have hG238z := hG238.size
        refine sd rfl (yl_assign rfl rfl (SeqR.done (tn (CW.seq (CW.region (sd rfl (yl_move rfl rfl (sd rfl (yl_assign rfl rfl (SeqR.done (tn ?_)))))))))))
        refine CW.ret (rr rfl (.cons rfl .nil) ?_)
        have hM240 : (s_l26Idx p_t p_x p_a) = (((([] : List DOp) ++ ([(⟨3, ([] : Str), ([] : Str), 0⟩ : DOp)] : List DOp)) ++ ([(⟨2, (s_l25Entry p_t p_x p_a.New), ([] : Str), 0⟩ : DOp)] : List DOp))) := by simp only [s_l26Idx, hb32, hb33, hb128, hb163, hb199, hb214, hb224, cond_true, cond_false, loopE_done, loopE_ret]
        rw [hM240]
        exact ⟨A233, c234, w201.heap.size, w235.heap.size, rfl, hO237, (okL.mk (xs := ((([] : List DOp) ++ ([(⟨3, ([] : Str), ([] : Str), 0⟩ : DOp)] : List DOp)) ++ ([(⟨2, (s_l25Entry p_t p_x p_a.New), ([] : Str), 0⟩ : DOp)] : List DOp))) (by first | omega | (simp only [List.length_append, List.length_cons, List.length_nil, List.length_take, List.length_drop, List.length_replicate, List.length_set, toS_length]; omega)) (okE.append (okE.append okE.nil ((okL.mk (Nat.le_of_ble_eq_true rfl) (okE.cons ⟨(okS.lit rfl), (okS.lit rfl)⟩ okE.nil))).2) ((okL.mk (Nat.le_of_ble_eq_true rfl) (okE.cons ⟨ho125, (okS.lit rfl)⟩ okE.nil))).2)), (by omega), (Below.grown (Ex.trans (Below.grown (Ex.trans (Ex.trans (Ex.trans (Ex.trans (Ex.trans (Ex.refl w) hE19) hE25) hE31) hE127) hE205) hG212 (by omega) (fun k hk => by have := hrg213 k hk; omega)) hE230) hG238 (by omega) (fun k hk => by have := hrg239 k hk; omega))⟩
       ·have hb224p := dec_f hb224
        refine CW.cond_f rfl hb224 (CW.skip (tn (CW.seq (CW.region (sd rfl (yl_move rfl rfl (sd rfl (yl_assign rfl rfl (SeqR.done (tn ?_))))))))))
        refine CW.ret (rr rfl (.cons rfl .nil) ?_)
        have hM249 : (s_l26Idx p_t p_x p_a) = ((([] : List DOp) ++ ([(⟨3, ([] : Str), ([] : Str), 0⟩ : DOp)] : List DOp))) := by simp only [s_l26Idx, hb32, hb33, hb128, hb163, hb199, hb214, hb224, cond_true, cond_false, loopE_done, loopE_ret]
        rw [hM249]
        exact ⟨A207, c208, w201.heap.size, w209.heap.size, rfl, hO211, (okL.mk (xs := (([] : List DOp) ++ ([(⟨3, ([] : Str), ([] : Str), 0⟩ : DOp)] : List DOp))) (by first | omega | (simp only [List.length_append, List.length_cons, List.length_nil, List.length_take, List.length_drop, List.length_replicate, List.length_set, toS_length]; omega)) (okE.append okE.nil ((okL.mk (Nat.le_of_ble_eq_true rfl) (okE.cons ⟨(okS.lit rfl), (okS.lit rfl)⟩ okE.nil))).2)), (by omega), (Below.grown (Ex.trans (Ex.trans (Ex.trans (Ex.trans (Ex.trans (Ex.refl w) hE19) hE25) hE31) hE127) hE205) hG212 (by omega) (fun k hk => by have := hrg213 k hk; omega))⟩
     ·have hb199p := dec_f hb199
      refine CW.cond_f rfl hb199 (CW.skip (tn (CW.seq (CW.seq (CW.region (sd rfl (yl_move rfl rfl (sd rfl (yl_sneq (a := (s_l25Entry p_t p_x p_a.New)) (b := ([] : Str)) rfl rfl rfl (sd rfl (yl_move rfl rfl ?_)))))))))))
      refine bcase ((s_l25Entry p_t p_x p_a.New) == ([] : Str)) (fun hb256 => ?_) (fun hb256 => ?_)
      ·refine sz rfl rfl (not_t hb256) (sz rfl rfl (not_t hb256) (sz rfl rfl (not_t hb256) (sd rfl (yl_pick_f rfl rfl (not_t hb256) rfl (SeqR.done (tn (CW.cond_f rfl rfl (CW.skip (tn ?_)))))))))
       refine CW.seq (CW.region (sd rfl (yl_move rfl rfl (sd rfl (yl_assign rfl rfl (SeqR.done (tn (CW.ret (rr rfl (.cons rfl .nil) ?_)))))))))
       have hM257 : (s_l26Idx p_t p_x p_a) = (([] : List DOp)) := by simp only [s_l26Idx, hb32, hb33, hb128, hb163, hb199, hb256, cond_true, cond_false, loopE_done, loopE_ret]
       rw [hM257]
       exact ⟨none, 0, w124.heap.size, w124.heap.size, rfl, (OwnL.nil _ _ _ _ _ _), (okL.nil _), (by omega), (Ex.trans (Ex.trans (Ex.trans (Ex.trans (Ex.refl w) hE19) hE25) hE31) hE127)⟩
      ·refine sy rfl rfl (not_f hb256) (yl_fieldAddr Try.fd152_2 rfl rfl (sy rfl rfl (not_f hb256) (yl_load1 Try.ty3 rfl rfl ((q198.cell 2).trans rfl) (sy rfl rfl (not_f hb256) (yl_geq rfl rfl rfl (sd rfl (yl_pick_t rfl rfl (not_f hb256) rfl (SeqR.done (tn (bcase (decide (2 ≤ p_x.Stage)) (fun hb262 => ?_) (fun hb262 => ?_)))))))))))
       ·have hb262p := dec_t hb262
        refine CW.cond_t rfl hb262 (CW.region (sd rfl (yl_move rfl rfl (sd rfl (yl_move rfl rfl (sd rfl (yl_build (cs := [.int .i64 (2), .string (bs ((s_l25Entry p_t p_x p_a.New))), .string (bs (([] : Str))), .int .i64 (0)]) rfl (opvs_cons rfl (opvs_cons rfl opvs_nil)) (by kernel_rfl) (sd rfl (yl_buildSlice (cs := [.int .i64 (2), .string (bs ((s_l25Entry p_t p_x p_a.New))), .string (bs (([] : Str))), .int .i64 (0)]) Try.un60 Try.ty163 (by decide) rfl (opvs_cons rfl opvs_nil) (by kernel_rfl) ?_)))))))))
        intro b263 w264 hs265 hz266 hB267 hE268
        have hO269 : OwnL w264 b263 (b263 + 1) 163 4 (RF e_Op) (some ⟨b263, 0, none⟩) 1 1 ([(⟨2, (s_l25Entry p_t p_x p_a.New), ([] : Str), 0⟩ : DOp)] : List DOp) := OwnL.of_box (S := fun _ => False) hB267 (Nat.le_refl _) (Nat.lt_succ_self _) (EncL.cons (c := [.int .i64 (2), .string (bs ((s_l25Entry p_t p_x p_a.New))), .string (bs (([] : Str))), .int .i64 (0)]) rfl rfl EncL.nil) (Nat.le_of_ble_eq_true rfl) (fun h => h) (fun _ h => False.elim h)
        refine sd rfl (yl_appendL (S := (fun _ => False)) (lo := w264.heap.size) (hi := w264.heap.size) (xs := ([] : List DOp)) (ys := ([(⟨2, (s_l25Entry p_t p_x p_a.New), ([] : Str), 0⟩ : DOp)] : List DOp)) good_Op Try.un60 Try.ty163 rfl (Nat.le_of_ble_eq_true rfl) rfl rfl rfl (OwnL.nil w264 w264.heap.size w264.heap.size 163 4 (RF e_Op)) (EncL.cons (c := [.int .i64 (2), .string (bs ((s_l25Entry p_t p_x p_a.New))), .string (bs (([] : Str))), .int .i64 (0)]) rfl rfl EncL.nil) (Or.inr ⟨_, _, rfl, rfl, hB267.cells (o := 0) (n := 4) rfl⟩) rfl (by first | omega | (simp only [List.length_append, List.length_cons, List.length_nil, List.length_take, List.length_drop, List.length_replicate, List.length_set, toS_length]; omega)) (by first | omega | (simp only [List.length_append, List.length_cons, List.length_nil, List.length_take, List.length_drop, List.length_replicate, List.length_set, toS_length]; omega)) (by omega) (by omega) (fun _ h _ => False.elim h) (by omega) ?_)
        intro A270 c271 w272 row273 hO274 hG275 hrg276
        have hG275z := hG275.size
        refine sd rfl (yl_assign rfl rfl (SeqR.done (tn (CW.seq (CW.region (sd rfl (yl_move rfl rfl (sd rfl (yl_assign rfl rfl (SeqR.done (tn ?_)))))))))))
        refine CW.ret (rr rfl (.cons rfl .nil) ?_)
        have hM277 : (s_l26Idx p_t p_x p_a) = ((([] : List DOp) ++ ([(⟨2, (s_l25Entry p_t p_x p_a.New), ([] : Str), 0⟩ : DOp)] : List DOp))) := by simp only [s_l26Idx, hb32, hb33, hb128, hb163, hb199, hb256, hb262, cond_true, cond_false, loopE_done, loopE_ret]
        rw [hM277]
        exact ⟨A270, c271, w264.heap.size, w272.heap.size, rfl, hO274, (okL.mk (xs := (([] : List DOp) ++ ([(⟨2, (s_l25Entry p_t p_x p_a.New), ([] : Str), 0⟩ : DOp)] : List DOp))) (by first | omega | (simp only [List.length_append, List.length_cons, List.length_nil, List.length_take, List.length_drop, List.length_replicate, List.length_set, toS_length]; omega)) (okE.append okE.nil ((okL.mk (Nat.le_of_ble_eq_true rfl) (okE.cons ⟨ho125, (okS.lit rfl)⟩ okE.nil))).2)), (by omega), (Below.grown (Ex.trans (Ex.trans (Ex.trans (Ex.trans (Ex.trans (Ex.refl w) hE19) hE25) hE31) hE127) hE268) hG275 (by omega) (fun k hk => by have := hrg276 k hk; omega))⟩
       ·have hb262p := dec_f hb262
        refine CW.cond_f rfl hb262 (CW.skip (tn (CW.seq (CW.region (sd rfl (yl_move rfl rfl (sd rfl (yl_assign rfl rfl (SeqR.done (tn ?_))))))))))
        refine CW.ret (rr rfl (.cons rfl .nil) ?_)
        have hM284 : (s_l26Idx p_t p_x p_a) = (([] : List DOp)) := by simp only [s_l26Idx, hb32, hb33, hb128, hb163, hb199, hb256, hb262, cond_true, cond_false, loopE_done, loopE_ret]
        rw [hM284]
        exact ⟨none, 0, w124.heap.size, w124.heap.size, rfl, (OwnL.nil _ _ _ _ _ _), (okL.nil _), (by omega), (Ex.trans (Ex.trans (Ex.trans (Ex.trans (Ex.refl w) hE19) hE25) hE31) hE127)⟩
 ·have hb32p := dec_f hb32
  refine CW.cond_t rfl (not_f hb32) (CW.region ?_)
  have q290 := Box.ex (Box.ex hB18 hE25) hE31
  refine sd rfl (yl_loadN (cs := [.string (bs (p_t.Name)), .slice A1 p_t.Cols.length c1, .slice A2 p_t.Idxs.length c2]) Try.ty65 rfl rfl (q290.cells (n := 3) rfl) rfl ?_)
  have q291 := Box.ex hB24 hE31
  refine sd rfl (yl_loadN (cs := [.string (bs (p_x.Name)), .int .i64 (p_x.Col), .int .i64 (p_x.Stage)]) Try.ty152 rfl rfl (q291.cells (n := 3) rfl) rfl (sd rfl (yl_fieldAddr Try.fd93_1 rfl rfl (sd rfl (yl_loadN (cs := [.slice A5 p_a.Old.Vals.length c5]) Try.ty67 rfl rfl (hB30.cells (n := 1) rfl) rfl ?_)))))
  have q294 := RdS.ex good_Str (RdS.ex good_Str (RdS.ex good_Str h1 hE19) hE25) hE31
  have q297 := RdS.ex good_Idx (RdS.ex good_Idx (RdS.ex good_Idx h2 hE19) hE25) hE31
  refine sd rfl (yl_call Try.en164 rfl (opvs_cons rfl (opvs_cons rfl (opvs_cons rfl opvs_nil))) (Cal.mono (c_s_l25Entry p_t p_x p_a.Old (RdS.up q294 good_Str) (RdS.up q297 good_Idx) (RdS.up (RdS.ex good_Str (RdS.ex good_Str (RdS.ex good_Str h5 hE19) hE25) hE31) good_Str) o3 o4 o7.1 (by first | omega | assumption | (simp only [IntKind.wrap_i64] at *; omega)) (by first | omega | assumption | (simp only [IntKind.wrap_i64] at *; omega)) (pre0.2 (by omega)).2) ?_))
  rintro v303 w301 ⟨rfl, ho302, hE304⟩
  have hE304z := Ex.size hE304
  refine sd rfl (yl_assign rfl rfl (SeqR.done (tn (CW.seq (CW.seq (CW.region (sd rfl (yl_fieldAddr Try.fd93_0 rfl rfl ?_))))))))
  have q305 := Box.ex hB30 hE304
  refine sd rfl (yl_load1 Try.ty3 rfl rfl ((q305.cell 0).trans rfl) (sd rfl (yl_neq rfl rfl rfl (SeqR.done (tn (bcase (decide (p_a.Kind = 2)) (fun hb306 => ?_) (fun hb306 => ?_)))))))
  ·have hb306p := dec_t hb306
   refine CW.cond_f rfl (not_t hb306) (CW.skip (tn (CW.seq (CW.seq (CW.region (sd rfl (yl_move rfl rfl (sd rfl (yl_sneq (a := (s_l25Entry p_t p_x p_a.Old)) (b := ([] : Str)) rfl rfl rfl (sd rfl (yl_move rfl rfl ?_)))))))))))
   refine bcase ((s_l25Entry p_t p_x p_a.Old) == ([] : Str)) (fun hb307 => ?_) (fun hb307 => ?_)
   ·refine sz rfl rfl (not_t hb307) (sz rfl rfl (not_t hb307) (sz rfl rfl (not_t hb307) (sd rfl (yl_pick_f rfl rfl (not_t hb307) rfl (sd rfl (yl_move rfl rfl (sz rfl rfl rfl (sz rfl rfl rfl (sz rfl rfl rfl (sd rfl (yl_pick_f rfl rfl rfl rfl ?_)))))))))))
    refine SeqR.done (tn (CW.cond_f rfl rfl (CW.skip (tn (CW.seq (CW.seq (CW.region (sd rfl (yl_move rfl rfl ?_)))))))))
    refine sd rfl (yl_sneq (a := ([] : Str)) (b := ([] : Str)) rfl rfl rfl (sd rfl (yl_move rfl rfl (bcase (([] : Str) == ([] : Str)) (fun hb308 => ?_) (fun hb308 => ?_)))))
    ·refine sz rfl rfl (not_t hb308) (sz rfl rfl (not_t hb308) (sz rfl rfl (not_t hb308) (sd rfl (yl_pick_f rfl rfl (not_t hb308) rfl (SeqR.done (tn (CW.cond_f rfl rfl (CW.skip (tn ?_)))))))))
     refine CW.seq (CW.region (sd rfl (yl_move rfl rfl (sd rfl (yl_assign rfl rfl (SeqR.done (tn (CW.ret (rr rfl (.cons rfl .nil) ?_)))))))))
     have hM309 : (s_l26Idx p_t p_x p_a) = (([] : List DOp)) := by simp only [s_l26Idx, hb32, hb306, hb307, hb308, cond_true, cond_false, loopE_done, loopE_ret]
     rw [hM309]
     exact ⟨none, 0, w301.heap.size, w301.heap.size, rfl, (OwnL.nil _ _ _ _ _ _), (okL.nil _), (by omega), (Ex.trans (Ex.trans (Ex.trans (Ex.trans (Ex.refl w) hE19) hE25) hE31) hE304)⟩
    ·refine sy rfl rfl (not_f hb308) (yl_fieldAddr Try.fd152_2 rfl rfl (sy rfl rfl (not_f hb308) (yl_load1 Try.ty3 rfl rfl (((Box.ex q291 hE304).cell 2).trans rfl) (sy rfl rfl (not_f hb308) (yl_geq rfl rfl rfl (sd rfl (yl_pick_t rfl rfl (not_f hb308) rfl (SeqR.done (tn (bcase (decide (2 ≤ p_x.Stage)) (fun hb315 => ?_) (fun hb315 => ?_)))))))))))
     ·have hb315p := dec_t hb315
      refine CW.cond_t rfl hb315 (CW.region (sd rfl (yl_move rfl rfl (sd rfl (yl_move rfl rfl (sd rfl (yl_build (cs := [.int .i64 (2), .string (bs (([] : Str))), .string (bs (([] : Str))), .int .i64 (0)]) rfl (opvs_cons rfl (opvs_cons rfl opvs_nil)) (by kernel_rfl) (sd rfl (yl_buildSlice (cs := [.int .i64 (2), .string (bs (([] : Str))), .string (bs (([] : Str))), .int .i64 (0)]) Try.un60 Try.ty163 (by decide) rfl (opvs_cons rfl opvs_nil) (by kernel_rfl) ?_)))))))))
      intro b316 w317 hs318 hz319 hB320 hE321
      have hO322 : OwnL w317 b316 (b316 + 1) 163 4 (RF e_Op) (some ⟨b316, 0, none⟩) 1 1 ([(⟨2, ([] : Str), ([] : Str), 0⟩ : DOp)] : List DOp) := OwnL.of_box (S := fun _ => False) hB320 (Nat.le_refl _) (Nat.lt_succ_self _) (EncL.cons (c := [.int .i64 (2), .string (bs (([] : Str))), .string (bs (([] : Str))), .int .i64 (0)]) rfl rfl EncL.nil) (Nat.le_of_ble_eq_true rfl) (fun h => h) (fun _ h => False.elim h)
      refine sd rfl (yl_appendL (S := (fun _ => False)) (lo := w317.heap.size) (hi := w317.heap.size) (xs := ([] : List DOp)) (ys := ([(⟨2, ([] : Str), ([] : Str), 0⟩ : DOp)] : List DOp)) good_Op Try.un60 Try.ty163 rfl (Nat.le_of_ble_eq_true rfl) rfl rfl rfl (OwnL.nil w317 w317.heap.size w317.heap.size 163 4 (RF e_Op)) (EncL.cons (c := [.int .i64 (2), .string (bs (([] : Str))), .string (bs (([] : Str))), .int .i64 (0)]) rfl rfl EncL.nil) (Or.inr ⟨_, _, rfl, rfl, hB320.cells (o := 0) (n := 4) rfl⟩) rfl (by first | omega | (simp only [List.length_append, List.length_cons, List.length_nil, List.length_take, List.length_drop, List.length_replicate, List.length_set, toS_length]; omega)) (by first | omega | (simp only [List.length_append, List.length_cons, List.length_nil, List.length_take, List.length_drop, List.length_replicate, List.length_set, toS_length]; omega)) (by omega) (by omega) (fun _ h _ => False.elim h) (by omega) ?_)
      intro A323 c324 w325 row326 hO327 hG328 hrg329
      have hG328z := hG328.size
      refine sd rfl (yl_assign rfl rfl (SeqR.done (tn (CW.seq (CW.region (sd rfl (yl_move rfl rfl (sd rfl (yl_assign rfl rfl (SeqR.done (tn ?_)))))))))))
      refine CW.ret (rr rfl (.cons rfl .nil) ?_)
      have hM330 : (s_l26Idx p_t p_x p_a) = ((([] : List DOp) ++ ([(⟨2, ([] : Str), ([] : Str), 0⟩ : DOp)] : List DOp))) := by simp only [s_l26Idx, hb32, hb306, hb307, hb308, hb315, cond_true, cond_false, loopE_done, loopE_ret]
      rw [hM330]
      exact ⟨A323, c324, w317.heap.size, w325.heap.size, rfl, hO327, (okL.mk (xs := (([] : List DOp) ++ ([(⟨2, ([] : Str), ([] : Str), 0⟩ : DOp)] : List DOp))) (by first | omega | (simp only [List.length_append, List.length_cons, List.length_nil, List.length_take, List.length_drop, List.length_replicate, List.length_set, toS_length]; omega)) (okE.append okE.nil ((okL.mk (Nat.le_of_ble_eq_true rfl) (okE.cons ⟨(okS.lit rfl), (okS.lit rfl)⟩ okE.nil))).2)), (by omega), (Below.grown (Ex.trans (Ex.trans (Ex.trans (Ex.trans (Ex.trans (Ex.refl w) hE19) hE25) hE31) hE304) hE321) hG328 (by omega) (fun k hk => by have := hrg329 k hk; omega))⟩
     ·have hb315p := dec_f hb315
      refine CW.cond_f rfl hb315 (CW.skip (tn (CW.seq (CW.region (sd rfl (yl_move rfl rfl (sd rfl (yl_assign rfl rfl (SeqR.done (tn ?_))))))))))
      refine CW.ret (rr rfl (.cons rfl .nil) ?_)
      have hM337 : (s_l26Idx p_t p_x p_a) = (([] : List DOp)) := by simp only [s_l26Idx, hb32, hb306, hb307, hb308, hb315, cond_true, cond_false, loopE_done, loopE_ret]
      rw [hM337]
      exact ⟨none, 0, w301.heap.size, w301.heap.size, rfl, (OwnL.nil _ _ _ _ _ _), (okL.nil _), (by omega), (Ex.trans (Ex.trans (Ex.trans (Ex.trans (Ex.refl w) hE19) hE25) hE31) hE304)⟩
   ·refine sy rfl rfl (not_f hb307) (yl_move rfl rfl (sy rfl rfl (not_f hb307) (yl_move rfl rfl (sy rfl rfl (not_f hb307) (yl_sneq (a := (s_l25Entry p_t p_x p_a.Old)) (b := ([] : Str)) rfl rfl rfl (sd rfl (yl_pick_t rfl rfl (not_f hb307) rfl (sd rfl (yl_move rfl rfl (sy rfl rfl (not_f hb307) (yl_fieldAddr Try.fd152_2 rfl rfl ?_)))))))))))
    have q342 := Box.ex q291 hE304
    refine sy rfl rfl (not_f hb307) (yl_load1 Try.ty3 rfl rfl ((q342.cell 2).trans rfl) (sy rfl rfl (not_f hb307) (yl_geq rfl rfl rfl (sd rfl (yl_pick_t rfl rfl (not_f hb307) rfl (SeqR.done (tn (bcase (decide (1 ≤ p_x.Stage)) (fun hb343 => ?_) (fun hb343 => ?_)))))))))
    ·have hb343p := dec_t hb343
     refine CW.cond_t rfl hb343 (CW.region (sd rfl (yl_move rfl rfl (sd rfl (yl_move rfl rfl (sd rfl (yl_build (cs := [.int .i64 (3), .string (bs ((s_l25Entry p_t p_x p_a.Old))), .string (bs (([] : Str))), .int .i64 (0)]) rfl (opvs_cons rfl (opvs_cons rfl opvs_nil)) (by kernel_rfl) (sd rfl (yl_buildSlice (cs := [.int .i64 (3), .string (bs ((s_l25Entry p_t p_x p_a.Old))), .string (bs (([] : Str))), .int .i64 (0)]) Try.un60 Try.ty163 (by decide) rfl (opvs_cons rfl opvs_nil) (by kernel_rfl) ?_)))))))))
     intro b344 w345 hs346 hz347 hB348 hE349
     have hO350 : OwnL w345 b344 (b344 + 1) 163 4 (RF e_Op) (some ⟨b344, 0, none⟩) 1 1 ([(⟨3, (s_l25Entry p_t p_x p_a.Old), ([] : Str), 0⟩ : DOp)] : List DOp) := OwnL.of_box (S := fun _ => False) hB348 (Nat.le_refl _) (Nat.lt_succ_self _) (EncL.cons (c := [.int .i64 (3), .string (bs ((s_l25Entry p_t p_x p_a.Old))), .string (bs (([] : Str))), .int .i64 (0)]) rfl rfl EncL.nil) (Nat.le_of_ble_eq_true rfl) (fun h => h) (fun _ h => False.elim h)
     refine sd rfl (yl_appendL (S := (fun _ => False)) (lo := w345.heap.size) (hi := w345.heap.size) (xs := ([] : List DOp)) (ys := ([(⟨3, (s_l25Entry p_t p_x p_a.Old), ([] : Str), 0⟩ : DOp)] : List DOp)) good_Op Try.un60 Try.ty163 rfl (Nat.le_of_ble_eq_true rfl) rfl rfl rfl (OwnL.nil w345 w345.heap.size w345.heap.size 163 4 (RF e_Op)) (EncL.cons (c := [.int .i64 (3), .string (bs ((s_l25Entry p_t p_x p_a.Old))), .string (bs (([] : Str))), .int .i64 (0)]) rfl rfl EncL.nil) (Or.inr ⟨_, _, rfl, rfl, hB348.cells (o := 0) (n := 4) rfl⟩) rfl (by first | omega | (simp only [List.length_append, List.length_cons, List.length_nil, List.length_take, List.length_drop, List.length_replicate, List.length_set, toS_length]; omega)) (by first | omega | (simp only [List.length_append, List.length_cons, List.length_nil, List.length_take, List.length_drop, List.length_replicate, List.length_set, toS_length]; omega)) (by omega) (by omega) (fun _ h _ => False.elim h) (by omega) ?_)
     intro A351 c352 w353 row354 hO355 hG356 hrg357
     have hG356z := hG356.size
     refine sd rfl (yl_assign rfl rfl (SeqR.done (tn (CW.seq (CW.seq (CW.region (sd rfl (yl_move rfl rfl (sd rfl (yl_sneq (a := ([] : Str)) (b := ([] : Str)) rfl rfl rfl (sd rfl (yl_move rfl rfl ?_))))))))))))
     refine bcase (([] : Str) == ([] : Str)) (fun hb358 => ?_) (fun hb358 => ?_)
     ·refine sz rfl rfl (not_t hb358) (sz rfl rfl (not_t hb358) (sz rfl rfl (not_t hb358) (sd rfl (yl_pick_f rfl rfl (not_t hb358) rfl (SeqR.done (tn (CW.cond_f rfl rfl (CW.skip (tn ?_)))))))))
      refine CW.seq (CW.region (sd rfl (yl_move rfl rfl (sd rfl (yl_assign rfl rfl (SeqR.done (tn (CW.ret (rr rfl (.cons rfl .nil) ?_)))))))))
      have hM359 : (s_l26Idx p_t p_x p_a) = ((([] : List DOp) ++ ([(⟨3, (s_l25Entry p_t p_x p_a.Old), ([] : Str), 0⟩ : DOp)] : List DOp))) := by simp only [s_l26Idx, hb32, hb306, hb307, hb343, hb358, cond_true, cond_false, loopE_done, loopE_ret]
      rw [hM359]
      exact ⟨A351, c352, w345.heap.size, w353.heap.size, rfl, hO355, (okL.mk (xs := (([] : List DOp) ++ ([(⟨3, (s_l25Entry p_t p_x p_a.Old), ([] : Str), 0⟩ : DOp)] : List DOp))) (by first | omega | (simp only [List.length_append, List.length_cons, List.length_nil, List.length_take, List.length_drop, List.length_replicate, List.length_set, toS_length]; omega)) (okE.append okE.nil ((okL.mk (Nat.le_of_ble_eq_true rfl) (okE.cons ⟨ho302, (okS.lit rfl)⟩ okE.nil))).2)), (by omega), (Below.grown (Ex.trans (Ex.trans (Ex.trans (Ex.trans (Ex.trans (Ex.refl w) hE19) hE25) hE31) hE304) hE349) hG356 (by omega) (fun k hk => by have := hrg357 k hk; omega))⟩
     ·refine sy rfl rfl (not_f hb358) (yl_fieldAddr Try.fd152_2 rfl rfl (sy rfl rfl (not_f hb358) (yl_load1 Try.ty3 rfl rfl (((Box.grown (Box.ex q342 hE349) hG356 (fun k hk => by have := hrg357 k hk; omega)).cell 2).trans rfl) (sy rfl rfl (not_f hb358) (yl_geq rfl rfl rfl (sd rfl (yl_pick_t rfl rfl (not_f hb358) rfl (SeqR.done (tn (bcase (decide (2 ≤ p_x.Stage)) (fun hb368 => ?_) (fun hb368 => ?_)))))))))))
      ·have hb368p := dec_t hb368
       refine CW.cond_t rfl hb368 (CW.region (sd rfl (yl_move rfl rfl (sd rfl (yl_move rfl rfl (sd rfl (yl_build (cs := [.int .i64 (2), .string (bs (([] : Str))), .string (bs (([] : Str))), .int .i64 (0)]) rfl (opvs_cons rfl (opvs_cons rfl opvs_nil)) (by kernel_rfl) (sd rfl (yl_buildSlice (cs := [.int .i64 (2), .string (bs (([] : Str))), .string (bs (([] : Str))), .int .i64 (0)]) Try.un60 Try.ty163 (by decide) rfl (opvs_cons rfl opvs_nil) (by kernel_rfl) ?_)))))))))
       intro b369 w370 hs371 hz372 hB373 hE374
       have hO375 : OwnL w370 b369 (b369 + 1) 163 4 (RF e_Op) (some ⟨b369, 0, none⟩) 1 1 ([(⟨2, ([] : Str), ([] : Str), 0⟩ : DOp)] : List DOp) := OwnL.of_box (S := fun _ => False) hB373 (Nat.le_refl _) (Nat.lt_succ_self _) (EncL.cons (c := [.int .i64 (2), .string (bs (([] : Str))), .string (bs (([] : Str))), .int .i64 (0)]) rfl rfl EncL.nil) (Nat.le_of_ble_eq_true rfl) (fun h => h) (fun _ h => False.elim h)
       refine sd rfl (yl_appendL (S := (fun _ => False)) (lo := w345.heap.size) (hi := w353.heap.size) (xs := (([] : List DOp) ++ ([(⟨3, (s_l25Entry p_t p_x p_a.Old), ([] : Str), 0⟩ : DOp)] : List DOp))) (ys := ([(⟨2, ([] : Str), ([] : Str), 0⟩ : DOp)] : List DOp)) good_Op Try.un60 Try.ty163 rfl (Nat.le_of_ble_eq_true rfl) rfl rfl rfl (OwnL.ex good_Op hO355 hE374) (EncL.cons (c := [.int .i64 (2), .string (bs (([] : Str))), .string (bs (([] : Str))), .int .i64 (0)]) rfl rfl EncL.nil) (Or.inr ⟨_, _, rfl, rfl, hB373.cells (o := 0) (n := 4) rfl⟩) rfl (by first | omega | (simp only [List.length_append, List.length_cons, List.length_nil, List.length_take, List.length_drop, List.length_replicate, List.length_set, toS_length]; omega)) (by first | omega | (simp only [List.length_append, List.length_cons, List.length_nil, List.length_take, List.length_drop, List.length_replicate, List.length_set, toS_length]; omega)) (by omega) (by omega) (fun _ h _ => False.elim h) (by omega) ?_)
       intro A377 c378 w379 row380 hO381 hG382 hrg383
       have hG382z := hG382.size
       refine sd rfl (yl_assign rfl rfl (SeqR.done (tn (CW.seq (CW.region (sd rfl (yl_move rfl rfl (sd rfl (yl_assign rfl rfl (SeqR.done (tn ?_)))))))))))
       refine CW.ret (rr rfl (.cons rfl .nil) ?_)
       have hM384 : (s_l26Idx p_t p_x p_a) = (((([] : List DOp) ++ ([(⟨3, (s_l25Entry p_t p_x p_a.Old), ([] : Str), 0⟩ : DOp)] : List DOp)) ++ ([(⟨2, ([] : Str), ([] : Str), 0⟩ : DOp)] : List DOp))) := by simp only [s_l26Idx, hb32, hb306, hb307, hb343, hb358, hb368, cond_true, cond_false, loopE_done, loopE_ret]
       rw [hM384]
       exact ⟨A377, c378, w345.heap.size, w379.heap.size, rfl, hO381, (okL.mk (xs := ((([] : List DOp) ++ ([(⟨3, (s_l25Entry p_t p_x p_a.Old), ([] : Str), 0⟩ : DOp)] : List DOp)) ++ ([(⟨2, ([] : Str), ([] : Str), 0⟩ : DOp)] : List DOp))) (by first | omega | (simp only [List.length_append, List.length_cons, List.length_nil, List.length_take, List.length_drop, List.length_replicate, List.length_set, toS_length]; omega)) (okE.append (okE.append okE.nil ((okL.mk (Nat.le_of_ble_eq_true rfl) (okE.cons ⟨ho302, (okS.lit rfl)⟩ okE.nil))).2) ((okL.mk (Nat.le_of_ble_eq_true rfl) (okE.cons ⟨(okS.lit rfl), (okS.lit rfl)⟩ okE.nil))).2)), (by omega), (Below.grown (Ex.trans (Below.grown (Ex.trans (Ex.trans (Ex.trans (Ex.trans (Ex.trans (Ex.refl w) hE19) hE25) hE31) hE304) hE349) hG356 (by omega) (fun k hk => by have := hrg357 k hk; omega)) hE374) hG382 (by omega) (fun k hk => by have := hrg383 k hk; omega))⟩
      ·have hb368p := dec_f hb368
       refine CW.cond_f rfl hb368 (CW.skip (tn (CW.seq (CW.region (sd rfl (yl_move rfl rfl (sd rfl (yl_assign rfl rfl (SeqR.done (tn ?_))))))))))
       refine CW.ret (rr rfl (.cons rfl .nil) ?_)
       have hM393 : (s_l26Idx p_t p_x p_a) = ((([] : List DOp) ++ ([(⟨3, (s_l25Entry p_t p_x p_a.Old), ([] : Str), 0⟩ : DOp)] : List DOp))) := by simp only [s_l26Idx, hb32, hb306, hb307, hb343, hb358, hb368, cond_true, cond_false, loopE_done, loopE_ret]
       rw [hM393]
       exact ⟨A351, c352, w345.heap.size, w353.heap.size, rfl, hO355, (okL.mk (xs := (([] : List DOp) ++ ([(⟨3, (s_l25Entry p_t p_x p_a.Old), ([] : Str), 0⟩ : DOp)] : List DOp))) (by first | omega | (simp only [List.length_append, List.length_cons, List.length_nil, List.length_take, List.length_drop, List.length_replicate, List.length_set, toS_length]; omega)) (okE.append okE.nil ((okL.mk (Nat.le_of_ble_eq_true rfl) (okE.cons ⟨ho302, (okS.lit rfl)⟩ okE.nil))).2)), (by omega), (Below.grown (Ex.trans (Ex.trans (Ex.trans (Ex.trans (Ex.trans (Ex.refl w) hE19) hE25) hE31) hE304) hE349) hG356 (by omega) (fun k hk => by have := hrg357 k hk; omega))⟩
    ·have hb343p := dec_f hb343
     refine CW.cond_f rfl hb343 (CW.skip (tn (CW.seq (CW.seq (CW.region (sd rfl (yl_move rfl rfl (sd rfl (yl_sneq (a := ([] : Str)) (b := ([] : Str)) rfl rfl rfl (sd rfl (yl_move rfl rfl ?_)))))))))))
     refine bcase (([] : Str) == ([] : Str)) (fun hb400 => ?_) (fun hb400 => ?_)
     ·refine sz rfl rfl (not_t hb400) (sz rfl rfl (not_t hb400) (sz rfl rfl (not_t hb400) (sd rfl (yl_pick_f rfl rfl (not_t hb400) rfl (SeqR.done (tn (CW.cond_f rfl rfl (CW.skip (tn ?_)))))))))
      refine CW.seq (CW.region (sd rfl (yl_move rfl rfl (sd rfl (yl_assign rfl rfl (SeqR.done (tn (CW.ret (rr rfl (.cons rfl .nil) ?_)))))))))
      have hM401 : (s_l26Idx p_t p_x p_a) = (([] : List DOp)) := by simp only [s_l26Idx, hb32, hb306, hb307, hb343, hb400, cond_true, cond_false, loopE_done, loopE_ret]
      rw [hM401]
      exact ⟨none, 0, w301.heap.size, w301.heap.size, rfl, (OwnL.nil _ _ _ _ _ _), (okL.nil _), (by omega), (Ex.trans (Ex.trans (Ex.trans (Ex.trans (Ex.refl w) hE19) hE25) hE31) hE304)⟩
     ·refine sy rfl rfl (not_f hb400) (yl_fieldAddr Try.fd152_2 rfl rfl (sy rfl rfl (not_f hb400) (yl_load1 Try.ty3 rfl rfl ((q342.cell 2).trans rfl) (sy rfl rfl (not_f hb400) (yl_geq rfl rfl rfl (sd rfl (yl_pick_t rfl rfl (not_f hb400) rfl (SeqR.done (tn (bcase (decide (2 ≤ p_x.Stage)) (fun hb406 => ?_) (fun hb406 => ?_)))))))))))
      ·have hb406p := dec_t hb406
       refine CW.cond_t rfl hb406 (CW.region (sd rfl (yl_move rfl rfl (sd rfl (yl_move rfl rfl (sd rfl (yl_build (cs := [.int .i64 (2), .string (bs (([] : Str))), .string (bs (([] : Str))), .int .i64 (0)]) rfl (opvs_cons rfl (opvs_cons rfl opvs_nil)) (by kernel_rfl) (sd rfl (yl_buildSlice (cs := [.int .i64 (2), .string (bs (([] : Str))), .string (bs (([] : Str))), .int .i64 (0)]) Try.un60 Try.ty163 (by decide) rfl (opvs_cons rfl opvs_nil) (by kernel_rfl) ?_)))))))))
       intro b407 w408 hs409 hz410 hB411 hE412
       have hO413 : OwnL w408 b407 (b407 + 1) 163 4 (RF e_Op) (some ⟨b407, 0, none⟩) 1 1 ([(⟨2, ([] : Str), ([] : Str), 0⟩ : DOp)] : List DOp) := OwnL.of_box (S := fun _ => False) hB411 (Nat.le_refl _) (Nat.lt_succ_self _) (EncL.cons (c := [.int .i64 (2), .string (bs (([] : Str))), .string (bs (([] : Str))), .int .i64 (0)]) rfl rfl EncL.nil) (Nat.le_of_ble_eq_true rfl) (fun h => h) (fun _ h => False.elim h)
       refine sd rfl (yl_appendL (S := (fun _ => False)) (lo := w408.heap.size) (hi := w408.heap.size) (xs := ([] : List DOp)) (ys := ([(⟨2, ([] : Str), ([] : Str), 0⟩ : DOp)] : List DOp)) good_Op Try.un60 Try.ty163 rfl (Nat.le_of_ble_eq_true rfl) rfl rfl rfl (OwnL.nil w408 w408.heap.size w408.heap.size 163 4 (RF e_Op)) (EncL.cons (c := [.int .i64 (2), .string (bs (([] : Str))), .string (bs (([] : Str))), .int .i64 (0)]) rfl rfl EncL.nil) (Or.inr ⟨_, _, rfl, rfl, hB411.cells (o := 0) (n := 4) rfl⟩) rfl (by first | omega | (simp only [List.length_append, List.length_cons, List.length_nil, List.length_take, List.length_drop, List.length_replicate, List.length_set, toS_length]; omega)) (by first | omega | (simp only [List.length_append, List.length_cons, List.length_nil, List.length_take, List.length_drop, List.length_replicate, List.length_set, toS_length]; omega)) (by omega) (by omega) (fun _ h _ => False.elim h) (by omega) ?_)
       intro A414 c415 w416 row417 hO418 hG419 hrg420
       have hG419z := hG419.size
       refine sd rfl (yl_assign rfl rfl (SeqR.done (tn (CW.seq (CW.region (sd rfl (yl_move rfl rfl (sd rfl (yl_assign rfl rfl (SeqR.done (tn ?_)))))))))))
       refine CW.ret (rr rfl (.cons rfl .nil) ?_)
       have hM421 : (s_l26Idx p_t p_x p_a) = ((([] : List DOp) ++ ([(⟨2, ([] : Str), ([] : Str), 0⟩ : DOp)] : List DOp))) := by simp only [s_l26Idx, hb32, hb306, hb307, hb343, hb400, hb406, cond_true, cond_false, loopE_done, loopE_ret]
       rw [hM421]
       exact ⟨A414, c415, w408.heap.size, w416.heap.size, rfl, hO418, (okL.mk (xs := (([] : List DOp) ++ ([(⟨2, ([] : Str), ([] : Str), 0⟩ : DOp)] : List DOp))) (by first | omega | (simp only [List.length_append, List.length_cons, List.length_nil, List.length_take, List.length_drop, List.length_replicate, List.length_set, toS_length]; omega)) (okE.append okE.nil ((okL.mk (Nat.le_of_ble_eq_true rfl) (okE.cons ⟨(okS.lit rfl), (okS.lit rfl)⟩ okE.nil))).2)), (by omega), (Below.grown (Ex.trans (Ex.trans (Ex.trans (Ex.trans (Ex.trans (Ex.refl w) hE19) hE25) hE31) hE304) hE412) hG419 (by omega) (fun k hk => by have := hrg420 k hk; omega))⟩
      ·have hb406p := dec_f hb406
       refine CW.cond_f rfl hb406 (CW.skip (tn (CW.seq (CW.region (sd rfl (yl_move rfl rfl (sd rfl (yl_assign rfl rfl (SeqR.done (tn ?_))))))))))
       refine CW.ret (rr rfl (.cons rfl .nil) ?_)
       have hM428 : (s_l26Idx p_t p_x p_a) = (([] : List DOp)) := by simp only [s_l26Idx, hb32, hb306, hb307, hb343, hb400, hb406, cond_true, cond_false, loopE_done, loopE_ret]
       rw [hM428]
       exact ⟨none, 0, w301.heap.size, w301.heap.size, rfl, (OwnL.nil _ _ _ _ _ _), (okL.nil _), (by omega), (Ex.trans (Ex.trans (Ex.trans (Ex.trans (Ex.refl w) hE19) hE25) hE31) hE304)⟩
  ·have hb306p := dec_f hb306
   refine CW.cond_t rfl (not_f hb306) (CW.region (sd rfl (yl_loadN (cs := [.string (bs (p_t.Name)), .slice A1 p_t.Cols.length c1, .slice A2 p_t.Idxs.length c2]) Try.ty65 rfl rfl ((Box.ex q290 hE304).cells (n := 3) rfl) rfl ?_)))
   have q434 := Box.ex q291 hE304
   refine sd rfl (yl_loadN (cs := [.string (bs (p_x.Name)), .int .i64 (p_x.Col), .int .i64 (p_x.Stage)]) Try.ty152 rfl rfl (q434.cells (n := 3) rfl) rfl (sd rfl (yl_fieldAddr Try.fd93_2 rfl rfl (sd rfl (yl_loadN (cs := [.slice A6 p_a.New.Vals.length c6]) Try.ty67 rfl rfl (q305.cells (n := 1) rfl) rfl (sd rfl (yl_call Try.en164 rfl (opvs_cons rfl (opvs_cons rfl (opvs_cons rfl opvs_nil))) (Cal.mono (c_s_l25Entry p_t p_x p_a.New (RdS.up (RdS.ex good_Str q294 hE304) good_Str) (RdS.up (RdS.ex good_Idx q297 hE304) good_Idx) (RdS.up (RdS.ex good_Str (RdS.ex good_Str (RdS.ex good_Str (RdS.ex good_Str h6 hE19) hE25) hE31) hE304) good_Str) o3 o4 o7.2 (by first | omega | assumption | (simp only [IntKind.wrap_i64] at *; omega)) (by first | omega | assumption | (simp only [IntKind.wrap_i64] at *; omega)) (pre0.1 (by omega)).2) ?_))))))))
   rintro v443 w441 ⟨rfl, ho442, hE444⟩
   have hE444z := Ex.size hE444
   refine sd rfl (yl_assign rfl rfl (SeqR.done (tn (CW.seq (CW.seq (CW.region (sd rfl (yl_move rfl rfl (sd rfl (yl_sneq (a := (s_l25Entry p_t p_x p_a.Old)) (b := ([] : Str)) rfl rfl rfl (sd rfl (yl_move rfl rfl ?_))))))))))))
   refine bcase ((s_l25Entry p_t p_x p_a.Old) == ([] : Str)) (fun hb445 => ?_) (fun hb445 => ?_)
   ·refine sz rfl rfl (not_t hb445) (sz rfl rfl (not_t hb445) (sz rfl rfl (not_t hb445) (sd rfl (yl_pick_f rfl rfl (not_t hb445) rfl (sd rfl (yl_move rfl rfl (sz rfl rfl rfl (sz rfl rfl rfl (sz rfl rfl rfl (sd rfl (yl_pick_f rfl rfl rfl rfl ?_)))))))))))
    refine SeqR.done (tn (CW.cond_f rfl rfl (CW.skip (tn (CW.seq (CW.seq (CW.region (sd rfl (yl_move rfl rfl ?_)))))))))
    refine sd rfl (yl_sneq (a := (s_l25Entry p_t p_x p_a.New)) (b := ([] : Str)) rfl rfl rfl (sd rfl (yl_move rfl rfl (bcase ((s_l25Entry p_t p_x p_a.New) == ([] : Str)) (fun hb446 => ?_) (fun hb446 => ?_)))))
    ·refine sz rfl rfl (not_t hb446) (sz rfl rfl (not_t hb446) (sz rfl rfl (not_t hb446) (sd rfl (yl_pick_f rfl rfl (not_t hb446) rfl (SeqR.done (tn (CW.cond_f rfl rfl (CW.skip (tn ?_)))))))))
     refine CW.seq (CW.region (sd rfl (yl_move rfl rfl (sd rfl (yl_assign rfl rfl (SeqR.done (tn (CW.ret (rr rfl (.cons rfl .nil) ?_)))))))))
     have hM447 : (s_l26Idx p_t p_x p_a) = (([] : List DOp)) := by simp only [s_l26Idx, hb32, hb306, hb445, hb446, cond_true, cond_false, loopE_done, loopE_ret]
     rw [hM447]
     exact ⟨none, 0, w441.heap.size, w441.heap.size, rfl, (OwnL.nil _ _ _ _ _ _), (okL.nil _), (by omega), (Ex.trans (Ex.trans (Ex.trans (Ex.trans (Ex.trans (Ex.refl w) hE19) hE25) hE31) hE304) hE444)⟩
    ·refine sy rfl rfl (not_f hb446) (yl_fieldAddr Try.fd152_2 rfl rfl (sy rfl rfl (not_f hb446) (yl_load1 Try.ty3 rfl rfl (((Box.ex q434 hE444).cell 2).trans rfl) (sy rfl rfl (not_f hb446) (yl_geq rfl rfl rfl (sd rfl (yl_pick_t rfl rfl (not_f hb446) rfl (SeqR.done (tn (bcase (decide (2 ≤ p_x.Stage)) (fun hb454 => ?_) (fun hb454 => ?_)))))))))))
     ·have hb454p := dec_t hb454
      refine CW.cond_t rfl hb454 (CW.region (sd rfl (yl_move rfl rfl (sd rfl (yl_move rfl rfl (sd rfl (yl_build (cs := [.int .i64 (2), .string (bs ((s_l25Entry p_t p_x p_a.New))), .string (bs (([] : Str))), .int .i64 (0)]) rfl (opvs_cons rfl (opvs_cons rfl opvs_nil)) (by kernel_rfl) (sd rfl (yl_buildSlice (cs := [.int .i64 (2), .string (bs ((s_l25Entry p_t p_x p_a.New))), .string (bs (([] : Str))), .int .i64 (0)]) Try.un60 Try.ty163 (by decide) rfl (opvs_cons rfl opvs_nil) (by kernel_rfl) ?_)))))))))
      intro b455 w456 hs457 hz458 hB459 hE460
      have hO461 : OwnL w456 b455 (b455 + 1) 163 4 (RF e_Op) (some ⟨b455, 0, none⟩) 1 1 ([(⟨2, (s_l25Entry p_t p_x p_a.New), ([] : Str), 0⟩ : DOp)] : List DOp) := OwnL.of_box (S := fun _ => False) hB459 (Nat.le_refl _) (Nat.lt_succ_self _) (EncL.cons (c := [.int .i64 (2), .string (bs ((s_l25Entry p_t p_x p_a.New))), .string (bs (([] : Str))), .int .i64 (0)]) rfl rfl EncL.nil) (Nat.le_of_ble_eq_true rfl) (fun h => h) (fun _ h => False.elim h)
      refine sd rfl (yl_appendL (S := (fun _ => False)) (lo := w456.heap.size) (hi := w456.heap.size) (xs := ([] : List DOp)) (ys := ([(⟨2, (s_l25Entry p_t p_x p_a.New), ([] : Str), 0⟩ : DOp)] : List DOp)) good_Op Try.un60 Try.ty163 rfl (Nat.le_of_ble_eq_true rfl) rfl rfl rfl (OwnL.nil w456 w456.heap.size w456.heap.size 163 4 (RF e_Op)) (EncL.cons (c := [.int .i64 (2), .string (bs ((s_l25Entry p_t p_x p_a.New))), .string (bs (([] : Str))), .int .i64 (0)]) rfl rfl EncL.nil) (Or.inr ⟨_, _, rfl, rfl, hB459.cells (o := 0) (n := 4) rfl⟩) rfl (by first | omega | (simp only [List.length_append, List.length_cons, List.length_nil, List.length_take, List.length_drop, List.length_replicate, List.length_set, toS_length]; omega)) (by first | omega | (simp only [List.length_append, List.length_cons, List.length_nil, List.length_take, List.length_drop, List.length_replicate, List.length_set, toS_length]; omega)) (by omega) (by omega) (fun _ h _ => False.elim h) (by omega) ?_)
      intro A462 c463 w464 row465 hO466 hG467 hrg468
      have hG467z := hG467.size
      refine sd rfl (yl_assign rfl rfl (SeqR.done (tn (CW.seq (CW.region (sd rfl (yl_move rfl rfl (sd rfl (yl_assign rfl rfl (SeqR.done (tn ?_)))))))))))
      refine CW.ret (rr rfl (.cons rfl .nil) ?_)
      have hM469 : (s_l26Idx p_t p_x p_a) = ((([] : List DOp) ++ ([(⟨2, (s_l25Entry p_t p_x p_a.New), ([] : Str), 0⟩ : DOp)] : List DOp))) := by simp only [s_l26Idx, hb32, hb306, hb445, hb446, hb454, cond_true, cond_false, loopE_done, loopE_ret]
      rw [hM469]
      exact ⟨A462, c463, w456.heap.size, w464.heap.size, rfl, hO466, (okL.mk (xs := (([] : List DOp) ++ ([(⟨2, (s_l25Entry p_t p_x p_a.New), ([] : Str), 0⟩ : DOp)] : List DOp))) (by first | omega | (simp only [List.length_append, List.length_cons, List.length_nil, List.length_take, List.length_drop, List.length_replicate, List.length_set, toS_length]; omega)) (okE.append okE.nil ((okL.mk (Nat.le_of_ble_eq_true rfl) (okE.cons ⟨ho442, (okS.lit rfl)⟩ okE.nil))).2)), (by omega), (Below.grown (Ex.trans (Ex.trans (Ex.trans (Ex.trans (Ex.trans (Ex.trans (Ex.refl w) hE19) hE25) hE31) hE304) hE444) hE460) hG467 (by omega) (fun k hk => by have := hrg468 k hk; omega))⟩
     ·have hb454p := dec_f hb454
      refine CW.cond_f rfl hb454 (CW.skip (tn (CW.seq (CW.region (sd rfl (yl_move rfl rfl (sd rfl (yl_assign rfl rfl (SeqR.done (tn ?_))))))))))
      refine CW.ret (rr rfl (.cons rfl .nil) ?_)
      have hM477 : (s_l26Idx p_t p_x p_a) = (([] : List DOp)) := by simp only [s_l26Idx, hb32, hb306, hb445, hb446, hb454, cond_true, cond_false, loopE_done, loopE_ret]
      rw [hM477]
      exact ⟨none, 0, w441.heap.size, w441.heap.size, rfl, (OwnL.nil _ _ _ _ _ _), (okL.nil _), (by omega), (Ex.trans (Ex.trans (Ex.trans (Ex.trans (Ex.trans (Ex.refl w) hE19) hE25) hE31) hE304) hE444)⟩
   ·refine sy rfl rfl (not_f hb445) (yl_move rfl rfl (sy rfl rfl (not_f hb445) (yl_move rfl rfl (sy rfl rfl (not_f hb445) (yl_sneq (a := (s_l25Entry p_t p_x p_a.Old)) (b := (s_l25Entry p_t p_x p_a.New)) rfl rfl rfl (sd rfl (yl_pick_t rfl rfl (not_f hb445) rfl (sd rfl (yl_move rfl rfl (bcase ((s_l25Entry p_t p_x p_a.Old) == (s_l25Entry p_t p_x p_a.New)) (fun hb483 => ?_) (fun hb483 => ?_)))))))))))
    ·refine sz rfl rfl (not_t hb483) (sz rfl rfl (not_t hb483) (sz rfl rfl (not_t hb483) (sd rfl (yl_pick_f rfl rfl (not_t hb483) rfl (SeqR.done (tn (CW.cond_f rfl rfl (CW.skip (tn ?_)))))))))
     refine CW.seq (CW.seq (CW.region (sd rfl (yl_move rfl rfl (sd rfl (yl_sneq (a := (s_l25Entry p_t p_x p_a.New)) (b := ([] : Str)) rfl rfl rfl (sd rfl (yl_move rfl rfl (bcase ((s_l25Entry p_t p_x p_a.New) == ([] : Str)) (fun hb484 => ?_) (fun hb484 => ?_))))))))))
     ·refine sz rfl rfl (not_t hb484) (sz rfl rfl (not_t hb484) (sz rfl rfl (not_t hb484) (sd rfl (yl_pick_f rfl rfl (not_t hb484) rfl (SeqR.done (tn (CW.cond_f rfl rfl (CW.skip (tn ?_)))))))))
      refine CW.seq (CW.region (sd rfl (yl_move rfl rfl (sd rfl (yl_assign rfl rfl (SeqR.done (tn (CW.ret (rr rfl (.cons rfl .nil) ?_)))))))))
      have hM485 : (s_l26Idx p_t p_x p_a) = (([] : List DOp)) := by simp only [s_l26Idx, hb32, hb306, hb445, hb483, hb484, cond_true, cond_false, loopE_done, loopE_ret]
      rw [hM485]
      exact ⟨none, 0, w441.heap.size, w441.heap.size, rfl, (OwnL.nil _ _ _ _ _ _), (okL.nil _), (by omega), (Ex.trans (Ex.trans (Ex.trans (Ex.trans (Ex.trans (Ex.refl w) hE19) hE25) hE31) hE304) hE444)⟩
     ·refine sy rfl rfl (not_f hb484) (yl_fieldAddr Try.fd152_2 rfl rfl (sy rfl rfl (not_f hb484) (yl_load1 Try.ty3 rfl rfl (((Box.ex q434 hE444).cell 2).trans rfl) (sy rfl rfl (not_f hb484) (yl_geq rfl rfl rfl (sd rfl (yl_pick_t rfl rfl (not_f hb484) rfl (SeqR.done (tn (bcase (decide (2 ≤ p_x.Stage)) (fun hb492 => ?_) (fun hb492 => ?_)))))))))))
      ·have hb492p := dec_t hb492
       refine CW.cond_t rfl hb492 (CW.region (sd rfl (yl_move rfl rfl (sd rfl (yl_move rfl rfl (sd rfl (yl_build (cs := [.int .i64 (2), .string (bs ((s_l25Entry p_t p_x p_a.New))), .string (bs (([] : Str))), .int .i64 (0)]) rfl (opvs_cons rfl (opvs_cons rfl opvs_nil)) (by kernel_rfl) (sd rfl (yl_buildSlice (cs := [.int .i64 (2), .string (bs ((s_l25Entry p_t p_x p_a.New))), .string (bs (([] : Str))), .int .i64 (0)]) Try.un60 Try.ty163 (by decide) rfl (opvs_cons rfl opvs_nil) (by kernel_rfl) ?_)))))))))
       intro b493 w494 hs495 hz496 hB497 hE498
       have hO499 : OwnL w494 b493 (b493 + 1) 163 4 (RF e_Op) (some ⟨b493, 0, none⟩) 1 1 ([(⟨2, (s_l25Entry p_t p_x p_a.New), ([] : Str), 0⟩ : DOp)] : List DOp) := OwnL.of_box (S := fun _ => False) hB497 (Nat.le_refl _) (Nat.lt_succ_self _) (EncL.cons (c := [.int .i64 (2), .string (bs ((s_l25Entry p_t p_x p_a.New))), .string (bs (([] : Str))), .int .i64 (0)]) rfl rfl EncL.nil) (Nat.le_of_ble_eq_true rfl) (fun h => h) (fun _ h => False.elim h)
       refine sd rfl (yl_appendL (S := (fun _ => False)) (lo := w494.heap.size) (hi := w494.heap.size) (xs := ([] : List DOp)) (ys := ([(⟨2, (s_l25Entry p_t p_x p_a.New), ([] : Str), 0⟩ : DOp)] : List DOp)) good_Op Try.un60 Try.ty163 rfl (Nat.le_of_ble_eq_true rfl) rfl rfl rfl (OwnL.nil w494 w494.heap.size w494.heap.size 163 4 (RF e_Op)) (EncL.cons (c := [.int .i64 (2), .string (bs ((s_l25Entry p_t p_x p_a.New))), .string (bs (([] : Str))), .int .i64 (0)]) rfl rfl EncL.nil) (Or.inr ⟨_, _, rfl, rfl, hB497.cells (o := 0) (n := 4) rfl⟩) rfl (by first | omega | (simp only [List.length_append, List.length_cons, List.length_nil, List.length_take, List.length_drop, List.length_replicate, List.length_set, toS_length]; omega)) (by first | omega | (simp only [List.length_append, List.length_cons, List.length_nil, List.length_take, List.length_drop, List.length_replicate, List.length_set, toS_length]; omega)) (by omega) (by omega) (fun _ h _ => False.elim h) (by omega) ?_)
       intro A500 c501 w502 row503 hO504 hG505 hrg506
       have hG505z := hG505.size
       refine sd rfl (yl_assign rfl rfl (SeqR.done (tn (CW.seq (CW.region (sd rfl (yl_move rfl rfl (sd rfl (yl_assign rfl rfl (SeqR.done (tn ?_)))))))))))
       refine CW.ret (rr rfl (.cons rfl .nil) ?_)
       have hM507 : (s_l26Idx p_t p_x p_a) = ((([] : List DOp) ++ ([(⟨2, (s_l25Entry p_t p_x p_a.New), ([] : Str), 0⟩ : DOp)] : List DOp))) := by simp only [s_l26Idx, hb32, hb306, hb445, hb483, hb484, hb492, cond_true, cond_false, loopE_done, loopE_ret]
       rw [hM507]
       exact ⟨A500, c501, w494.heap.size, w502.heap.size, rfl, hO504, (okL.mk (xs := (([] : List DOp) ++ ([(⟨2, (s_l25Entry p_t p_x p_a.New), ([] : Str), 0⟩ : DOp)] : List DOp))) (by first | omega | (simp only [List.length_append, List.length_cons, List.length_nil, List.length_take, List.length_drop, List.length_replicate, List.length_set, toS_length]; omega)) (okE.append okE.nil ((okL.mk (Nat.le_of_ble_eq_true rfl) (okE.cons ⟨ho442, (okS.lit rfl)⟩ okE.nil))).2)), (by omega), (Below.grown (Ex.trans (Ex.trans (Ex.trans (Ex.trans (Ex.trans (Ex.trans (Ex.refl w) hE19) hE25) hE31) hE304) hE444) hE498) hG505 (by omega) (fun k hk => by have := hrg506 k hk; omega))⟩
      ·have hb492p := dec_f hb492
       refine CW.cond_f rfl hb492 (CW.skip (tn (CW.seq (CW.region (sd rfl (yl_move rfl rfl (sd rfl (yl_assign rfl rfl (SeqR.done (tn ?_))))))))))
       refine CW.ret (rr rfl (.cons rfl .nil) ?_)
       have hM515 : (s_l26Idx p_t p_x p_a) = (([] : List DOp)) := by simp only [s_l26Idx, hb32, hb306, hb445, hb483, hb484, hb492, cond_true, cond_false, loopE_done, loopE_ret]
       rw [hM515]
       exact ⟨none, 0, w441.heap.size, w441.heap.size, rfl, (OwnL.nil _ _ _ _ _ _), (okL.nil _), (by omega), (Ex.trans (Ex.trans (Ex.trans (Ex.trans (Ex.trans (Ex.refl w) hE19) hE25) hE31) hE304) hE444)⟩
    ·refine sy rfl rfl (not_f hb483) (yl_fieldAddr Try.fd152_2 rfl rfl ?_)
     have q521 := Box.ex q434 hE444
     refine sy rfl rfl (not_f hb483) (yl_load1 Try.ty3 rfl rfl ((q521.cell 2).trans rfl) (sy rfl rfl (not_f hb483) (yl_geq rfl rfl rfl (sd rfl (yl_pick_t rfl rfl (not_f hb483) rfl (SeqR.done (tn (bcase (decide (1 ≤ p_x.Stage)) (fun hb522 => ?_) (fun hb522 => ?_)))))))))
     ·have hb522p := dec_t hb522
      refine CW.cond_t rfl hb522 (CW.region (sd rfl (yl_move rfl rfl (sd rfl (yl_move rfl rfl (sd rfl (yl_build (cs := [.int .i64 (3), .string (bs ((s_l25Entry p_t p_x p_a.Old))), .string (bs (([] : Str))), .int .i64 (0)]) rfl (opvs_cons rfl (opvs_cons rfl opvs_nil)) (by kernel_rfl) (sd rfl (yl_buildSlice (cs := [.int .i64 (3), .string (bs ((s_l25Entry p_t p_x p_a.Old))), .string (bs (([] : Str))), .int .i64 (0)]) Try.un60 Try.ty163 (by decide) rfl (opvs_cons rfl opvs_nil) (by kernel_rfl) ?_)))))))))
      intro b523 w524 hs525 hz526 hB527 hE528
      have hO529 : OwnL w524 b523 (b523 + 1) 163 4 (RF e_Op) (some ⟨b523, 0, none⟩) 1 1 ([(⟨3, (s_l25Entry p_t p_x p_a.Old), ([] : Str), 0⟩ : DOp)] : List DOp) := OwnL.of_box (S := fun _ => False) hB527 (Nat.le_refl _) (Nat.lt_succ_self _) (EncL.cons (c := [.int .i64 (3), .string (bs ((s_l25Entry p_t p_x p_a.Old))), .string (bs (([] : Str))), .int .i64 (0)]) rfl rfl EncL.nil) (Nat.le_of_ble_eq_true rfl) (fun h => h) (fun _ h => False.elim h)
      refine sd rfl (yl_appendL (S := (fun _ => False)) (lo := w524.heap.size) (hi := w524.heap.size) (xs := ([] : List DOp)) (ys := ([(⟨3, (s_l25Entry p_t p_x p_a.Old), ([] : Str), 0⟩ : DOp)] : List DOp)) good_Op Try.un60 Try.ty163 rfl (Nat.le_of_ble_eq_true rfl) rfl rfl rfl (OwnL.nil w524 w524.heap.size w524.heap.size 163 4 (RF e_Op)) (EncL.cons (c := [.int .i64 (3), .string (bs ((s_l25Entry p_t p_x p_a.Old))), .string (bs (([] : Str))), .int .i64 (0)]) rfl rfl EncL.nil) (Or.inr ⟨_, _, rfl, rfl, hB527.cells (o := 0) (n := 4) rfl⟩) rfl (by first | omega | (simp only [List.length_append, List.length_cons, List.length_nil, List.length_take, List.length_drop, List.length_replicate, List.length_set, toS_length]; omega)) (by first | omega | (simp only [List.length_append, List.length_cons, List.length_nil, List.length_take, List.length_drop, List.length_replicate, List.length_set, toS_length]; omega)) (by omega) (by omega) (fun _ h _ => False.elim h) (by omega) ?_)
      intro A530 c531 w532 row533 hO534 hG535 hrg536
      have hG535z := hG535.size
      refine sd rfl (yl_assign rfl rfl (SeqR.done (tn (CW.seq (CW.seq (CW.region (sd rfl (yl_move rfl rfl (sd rfl (yl_sneq (a := (s_l25Entry p_t p_x p_a.New)) (b := ([] : Str)) rfl rfl rfl (sd rfl (yl_move rfl rfl ?_))))))))))))
      refine bcase ((s_l25Entry p_t p_x p_a.New) == ([] : Str)) (fun hb537 => ?_) (fun hb537 => ?_)
      ·refine sz rfl rfl (not_t hb537) (sz rfl rfl (not_t hb537) (sz rfl rfl (not_t hb537) (sd rfl (yl_pick_f rfl rfl (not_t hb537) rfl (SeqR.done (tn (CW.cond_f rfl rfl (CW.skip (tn ?_)))))))))
       refine CW.seq (CW.region (sd rfl (yl_move rfl rfl (sd rfl (yl_assign rfl rfl (SeqR.done (tn (CW.ret (rr rfl (.cons rfl .nil) ?_)))))))))
       have hM538 : (s_l26Idx p_t p_x p_a) = ((([] : List DOp) ++ ([(⟨3, (s_l25Entry p_t p_x p_a.Old), ([] : Str), 0⟩ : DOp)] : List DOp))) := by simp only [s_l26Idx, hb32, hb306, hb445, hb483, hb522, hb537, cond_true, cond_false, loopE_done, loopE_ret]
       rw [hM538]
       exact ⟨A530, c531, w524.heap.size, w532.heap.size, rfl, hO534, (okL.mk (xs := (([] : List DOp) ++ ([(⟨3, (s_l25Entry p_t p_x p_a.Old), ([] : Str), 0⟩ : DOp)] : List DOp))) (by first | omega | (simp only [List.length_append, List.length_cons, List.length_nil, List.length_take, List.length_drop, List.length_replicate, List.length_set, toS_length]; omega)) (okE.append okE.nil ((okL.mk (Nat.le_of_ble_eq_true rfl) (okE.cons ⟨ho302, (okS.lit rfl)⟩ okE.nil))).2)), (by omega), (Below.grown (Ex.trans (Ex.trans (Ex.trans (Ex.trans (Ex.trans (Ex.trans (Ex.refl w) hE19) hE25) hE31) hE304) hE444) hE528) hG535 (by omega) (fun k hk => by have := hrg536 k hk; omega))⟩
      ·refine sy rfl rfl (not_f hb537) (yl_fieldAddr Try.fd152_2 rfl rfl (sy rfl rfl (not_f hb537) (yl_load1 Try.ty3 rfl rfl (((Box.grown (Box.ex q521 hE528) hG535 (fun k hk => by have := hrg536 k hk; omega)).cell 2).trans rfl) (sy rfl rfl (not_f hb537) (yl_geq rfl rfl rfl (sd rfl (yl_pick_t rfl rfl (not_f hb537) rfl (SeqR.done (tn (bcase (decide (2 ≤ p_x.Stage)) (fun hb548 => ?_) (fun hb548 => ?_)))))))))))
       ·have hb548p := dec_t hb548
        refine CW.cond_t rfl hb548 (CW.region (sd rfl (yl_move rfl rfl (sd rfl (yl_move rfl rfl (sd rfl (yl_build (cs := [.int .i64 (2), .string (bs ((s_l25Entry p_t p_x p_a.New))), .string (bs (([] : Str))), .int .i64 (0)]) rfl (opvs_cons rfl (opvs_cons rfl opvs_nil)) (by kernel_rfl) (sd rfl (yl_buildSlice (cs := [.int .i64 (2), .string (bs ((s_l25Entry p_t p_x p_a.New))), .string (bs (([] : Str))), .int .i64 (0)]) Try.un60 Try.ty163 (by decide) rfl (opvs_cons rfl opvs_nil) (by kernel_rfl) ?_)))))))))
        intro b549 w550 hs551 hz552 hB553 hE554
        have hO555 : OwnL w550 b549 (b549 + 1) 163 4 (RF e_Op) (some ⟨b549, 0, none⟩) 1 1 ([(⟨2, (s_l25Entry p_t p_x p_a.New), ([] : Str), 0⟩ : DOp)] : List DOp) := OwnL.of_box (S := fun _ => False) hB553 (Nat.le_refl _) (Nat.lt_succ_self _) (EncL.cons (c := [.int .i64 (2), .string (bs ((s_l25Entry p_t p_x p_a.New))), .string (bs (([] : Str))), .int .i64 (0)]) rfl rfl EncL.nil) (Nat.le_of_ble_eq_true rfl) (fun h => h) (fun _ h => False.elim h)
        refine sd rfl (yl_appendL (S := (fun _ => False)) (lo := w524.heap.size) (hi := w532.heap.size) (xs := (([] : List DOp) ++ ([(⟨3, (s_l25Entry p_t p_x p_a.Old), ([] : Str), 0⟩ : DOp)] : List DOp))) (ys := ([(⟨2, (s_l25Entry p_t p_x p_a.New), ([] : Str), 0⟩ : DOp)] : List DOp)) good_Op Try.un60 Try.ty163 rfl (Nat.le_of_ble_eq_true rfl) rfl rfl rfl (OwnL.ex good_Op hO534 hE554) (EncL.cons (c := [.int .i64 (2), .string (bs ((s_l25Entry p_t p_x p_a.New))), .string (bs (([] : Str))), .int .i64 (0)]) rfl rfl EncL.nil) (Or.inr ⟨_, _, rfl, rfl, hB553.cells (o := 0) (n := 4) rfl⟩) rfl (by first | omega | (simp only [List.length_append, List.length_cons, List.length_nil, List.length_take, List.length_drop, List.length_replicate, List.length_set, toS_length]; omega)) (by first | omega | (simp only [List.length_append, List.length_cons, List.length_nil, List.length_take, List.length_drop, List.length_replicate, List.length_set, toS_length]; omega)) (by omega) (by omega) (fun _ h _ => False.elim h) (by omega) ?_)
        intro A557 c558 w559 row560 hO561 hG562 hrg563
        have hG562z := hG562.size
        refine sd rfl (yl_assign rfl rfl (SeqR.done (tn (CW.seq (CW.region (sd rfl (yl_move rfl rfl (sd rfl (yl_assign rfl rfl (SeqR.done (tn ?_)))))))))))
        refine CW.ret (rr rfl (.cons rfl .nil) ?_)
        have hM564 : (s_l26Idx p_t p_x p_a) = (((([] : List DOp) ++ ([(⟨3, (s_l25Entry p_t p_x p_a.Old), ([] : Str), 0⟩ : DOp)] : List DOp)) ++ ([(⟨2, (s_l25Entry p_t p_x p_a.New), ([] : Str), 0⟩ : DOp)] : List DOp))) := by simp only [s_l26Idx, hb32, hb306, hb445, hb483, hb522, hb537, hb548, cond_true, cond_false, loopE_done, loopE_ret]
        rw [hM564]
        exact ⟨A557, c558, w524.heap.size, w559.heap.size, rfl, hO561, (okL.mk (xs := ((([] : List DOp) ++ ([(⟨3, (s_l25Entry p_t p_x p_a.Old), ([] : Str), 0⟩ : DOp)] : List DOp)) ++ ([(⟨2, (s_l25Entry p_t p_x p_a.New), ([] : Str), 0⟩ : DOp)] : List DOp))) (by first | omega | (simp only [List.length_append, List.length_cons, List.length_nil, List.length_take, List.length_drop, List.length_replicate, List.length_set, toS_length]; omega)) (okE.append (okE.append okE.nil ((okL.mk (Nat.le_of_ble_eq_true rfl) (okE.cons ⟨ho302, (okS.lit rfl)⟩ okE.nil))).2) ((okL.mk (Nat.le_of_ble_eq_true rfl) (okE.cons ⟨ho442, (okS.lit rfl)⟩ okE.nil))).2)), (by omega), (Below.grown (Ex.trans (Below.grown (Ex.trans (Ex.trans (Ex.trans (Ex.trans (Ex.trans (Ex.trans (Ex.refl w) hE19) hE25) hE31) hE304) hE444) hE528) hG535 (by omega) (fun k hk => by have := hrg536 k hk; omega)) hE554) hG562 (by omega) (fun k hk => by have := hrg563 k hk; omega))⟩
       ·have hb548p := dec_f hb548
        refine CW.cond_f rfl hb548 (CW.skip (tn (CW.seq (CW.region (sd rfl (yl_move rfl rfl (sd rfl (yl_assign rfl rfl (SeqR.done (tn ?_))))))))))
        refine CW.ret (rr rfl (.cons rfl .nil) ?_)
        have hM574 : (s_l26Idx p_t p_x p_a) = ((([] : List DOp) ++ ([(⟨3, (s_l25Entry p_t p_x p_a.Old), ([] : Str), 0⟩ : DOp)] : List DOp))) := by simp only [s_l26Idx, hb32, hb306, hb445, hb483, hb522, hb537, hb548, cond_true, cond_false, loopE_done, loopE_ret]
        rw [hM574]
        exact ⟨A530, c531, w524.heap.size, w532.heap.size, rfl, hO534, (okL.mk (xs := (([] : List DOp) ++ ([(⟨3, (s_l25Entry p_t p_x p_a.Old), ([] : Str), 0⟩ : DOp)] : List DOp))) (by first | omega | (simp only [List.length_append, List.length_cons, List.length_nil, List.length_take, List.length_drop, List.length_replicate, List.length_set, toS_length]; omega)) (okE.append okE.nil ((okL.mk (Nat.le_of_ble_eq_true rfl) (okE.cons ⟨ho302, (okS.lit rfl)⟩ okE.nil))).2)), (by omega), (Below.grown (Ex.trans (Ex.trans (Ex.trans (Ex.trans (Ex.trans (Ex.trans (Ex.refl w) hE19) hE25) hE31) hE304) hE444) hE528) hG535 (by omega) (fun k hk => by have := hrg536 k hk; omega))⟩
     ·have hb522p := dec_f hb522
      refine CW.cond_f rfl hb522 (CW.skip (tn (CW.seq (CW.seq (CW.region (sd rfl (yl_move rfl rfl (sd rfl (yl_sneq (a := (s_l25Entry p_t p_x p_a.New)) (b := ([] : Str)) rfl rfl rfl (sd rfl (yl_move rfl rfl ?_)))))))))))
      refine bcase ((s_l25Entry p_t p_x p_a.New) == ([] : Str)) (fun hb582 => ?_) (fun hb582 => ?_)
      ·refine sz rfl rfl (not_t hb582) (sz rfl rfl (not_t hb582) (sz rfl rfl (not_t hb582) (sd rfl (yl_pick_f rfl rfl (not_t hb582) rfl (SeqR.done (tn (CW.cond_f rfl rfl (CW.skip (tn ?_)))))))))
       refine CW.seq (CW.region (sd rfl (yl_move rfl rfl (sd rfl (yl_assign rfl rfl (SeqR.done (tn (CW.ret (rr rfl (.cons rfl .nil) ?_)))))))))
       have hM583 : (s_l26Idx p_t p_x p_a) = (([] : List DOp)) := by simp only [s_l26Idx, hb32, hb306, hb445, hb483, hb522, hb582, cond_true, cond_false, loopE_done, loopE_ret]
       rw [hM583]
       exact ⟨none, 0, w441.heap.size, w441.heap.size, rfl, (OwnL.nil _ _ _ _ _ _), (okL.nil _), (by omega), (Ex.trans (Ex.trans (Ex.trans (Ex.trans (Ex.trans (Ex.refl w) hE19) hE25) hE31) hE304) hE444)⟩
      ·refine sy rfl rfl (not_f hb582) (yl_fieldAddr Try.fd152_2 rfl rfl (sy rfl rfl (not_f hb582) (yl_load1 Try.ty3 rfl rfl ((q521.cell 2).trans rfl) (sy rfl rfl (not_f hb582) (yl_geq rfl rfl rfl (sd rfl (yl_pick_t rfl rfl (not_f hb582) rfl (SeqR.done (tn (bcase (decide (2 ≤ p_x.Stage)) (fun hb589 => ?_) (fun hb589 => ?_)))))))))))
       ·have hb589p := dec_t hb589
        refine CW.cond_t rfl hb589 (CW.region (sd rfl (yl_move rfl rfl (sd rfl (yl_move rfl rfl (sd rfl (yl_build (cs := [.int .i64 (2), .string (bs ((s_l25Entry p_t p_x p_a.New))), .string (bs (([] : Str))), .int .i64 (0)]) rfl (opvs_cons rfl (opvs_cons rfl opvs_nil)) (by kernel_rfl) (sd rfl (yl_buildSlice (cs := [.int .i64 (2), .string (bs ((s_l25Entry p_t p_x p_a.New))), .string (bs (([] : Str))), .int .i64 (0)]) Try.un60 Try.ty163 (by decide) rfl (opvs_cons rfl opvs_nil) (by kernel_rfl) ?_)))))))))
        intro b590 w591 hs592 hz593 hB594 hE595
        have hO596 : OwnL w591 b590 (b590 + 1) 163 4 (RF e_Op) (some ⟨b590, 0, none⟩) 1 1 ([(⟨2, (s_l25Entry p_t p_x p_a.New), ([] : Str), 0⟩ : DOp)] : List DOp) := OwnL.of_box (S := fun _ => False) hB594 (Nat.le_refl _) (Nat.lt_succ_self _) (EncL.cons (c := [.int .i64 (2), .string (bs ((s_l25Entry p_t p_x p_a.New))), .string (bs (([] : Str))), .int .i64 (0)]) rfl rfl EncL.nil) (Nat.le_of_ble_eq_true rfl) (fun h => h) (fun _ h => False.elim h)
        refine sd rfl (yl_appendL (S := (fun _ => False)) (lo := w591.heap.size) (hi := w591.heap.size) (xs := ([] : List DOp)) (ys := ([(⟨2, (s_l25Entry p_t p_x p_a.New), ([] : Str), 0⟩ : DOp)] : List DOp)) good_Op Try.un60 Try.ty163 rfl (Nat.le_of_ble_eq_true rfl) rfl rfl rfl (OwnL.nil w591 w591.heap.size w591.heap.size 163 4 (RF e_Op)) (EncL.cons (c := [.int .i64 (2), .string (bs ((s_l25Entry p_t p_x p_a.New))), .string (bs (([] : Str))), .int .i64 (0)]) rfl rfl EncL.nil) (Or.inr ⟨_, _, rfl, rfl, hB594.cells (o := 0) (n := 4) rfl⟩) rfl (by first | omega | (simp only [List.length_append, List.length_cons, List.length_nil, List.length_take, List.length_drop, List.length_replicate, List.length_set, toS_length]; omega)) (by first | omega | (simp only [List.length_append, List.length_cons, List.length_nil, List.length_take, List.length_drop, List.length_replicate, List.length_set, toS_length]; omega)) (by omega) (by omega) (fun _ h _ => False.elim h) (by omega) ?_)
        intro A597 c598 w599 row600 hO601 hG602 hrg603
        have hG602z := hG602.size
        refine sd rfl (yl_assign rfl rfl (SeqR.done (tn (CW.seq (CW.region (sd rfl (yl_move rfl rfl (sd rfl (yl_assign rfl rfl (SeqR.done (tn ?_)))))))))))
        refine CW.ret (rr rfl (.cons rfl .nil) ?_)
        have hM604 : (s_l26Idx p_t p_x p_a) = ((([] : List DOp) ++ ([(⟨2, (s_l25Entry p_t p_x p_a.New), ([] : Str), 0⟩ : DOp)] : List DOp))) := by simp only [s_l26Idx, hb32, hb306, hb445, hb483, hb522, hb582, hb589, cond_true, cond_false, loopE_done, loopE_ret]
        rw [hM604]
        exact ⟨A597, c598, w591.heap.size, w599.heap.size, rfl, hO601, (okL.mk (xs := (([] : List DOp) ++ ([(⟨2, (s_l25Entry p_t p_x p_a.New), ([] : Str), 0⟩ : DOp)] : List DOp))) (by first | omega | (simp only [List.length_append, List.length_cons, List.length_nil, List.length_take, List.length_drop, List.length_replicate, List.length_set, toS_length]; omega)) (okE.append okE.nil ((okL.mk (Nat.le_of_ble_eq_true rfl) (okE.cons ⟨ho442, (okS.lit rfl)⟩ okE.nil))).2)), (by omega), (Below.grown (Ex.trans (Ex.trans (Ex.trans (Ex.trans (Ex.trans (Ex.trans (Ex.refl w) hE19) hE25) hE31) hE304) hE444) hE595) hG602 (by omega) (fun k hk => by have := hrg603 k hk; omega))⟩
       ·have hb589p := dec_f hb589
        refine CW.cond_f rfl hb589 (CW.skip (tn (CW.seq (CW.region (sd rfl (yl_move rfl rfl (sd rfl (yl_assign rfl rfl (SeqR.done (tn ?_))))))))))
        refine CW.ret (rr rfl (.cons rfl .nil) ?_)
        have hM612 : (s_l26Idx p_t p_x p_a) = (([] : List DOp)) := by simp only [s_l26Idx, hb32, hb306, hb445, hb483, hb522, hb582, hb589, cond_true, cond_false, loopE_done, loopE_ret]
        rw [hM612]
        exact ⟨none, 0, w441.heap.size, w441.heap.size, rfl, (OwnL.nil _ _ _ _ _ _), (okL.nil _), (by omega), (Ex.trans (Ex.trans (Ex.trans (Ex.trans (Ex.trans (Ex.refl w) hE19) hE25) hE31) hE304) hE444)⟩
set_option maxRecDepth 100000 in
set_option maxHeartbeats 2000000 in
theorem c_s_l26Ops {A1 : Option Addr} {c1 : Nat} {A2 : Option Addr} {c2 : Nat} {A4 : Option Addr} {c4 : Nat} {A5 : Option Addr} {c5 : Nat} {w : World} (p_t : DTable) (p_a : DRowAct) (h1 : RdS w (Iv 0 w.heap.size) (RF e_Str) 1 A1 p_t.Cols.length c1 p_t.Cols) (h2 : RdS w (Iv 0 w.heap.size) (RF e_Idx) 3 A2 p_t.Idxs.length c2 p_t.Idxs) (h4 : RdS w (Iv 0 w.heap.size) (RF e_Str) 1 A4 p_a.Old.Vals.length c4 p_a.Old.Vals) (h5 : RdS w (Iv 0 w.heap.size) (RF e_Str) 1 A5 p_a.New.Vals.length c5 p_a.New.Vals) (o3 : ok_Table p_t) (o6 : ok_RowAct p_a) (pre0 : s_GoodTable p_t = true) (pre1 : actOf p_t p_a) : Cal Try.prog 124 #[.agg #[.string (bs (p_t.Name)), .slice A1 p_t.Cols.length c1, .slice A2 p_t.Idxs.length c2], .agg #[.int .i64 (p_a.Kind), .slice A4 p_a.Old.Vals.length c4, .slice A5 p_a.New.Vals.length c5]] w fun v w' => ∃ A_1 c_1 lo_1 hi_1, v = .slice A_1 ((s_l26Ops p_t p_a).length) c_1 ∧ OwnL w' lo_1 hi_1 163 4 (RF e_Op) A_1 ((s_l26Ops p_t p_a).length) c_1 (s_l26Ops p_t p_a) ∧ (w.heap.size ≤ lo_1 ∧ lo_1 ≤ hi_1 ∧ hi_1 ≤ w'.heap.size) ∧ Ex w w' := by
 have hol7 : p_t.Name.length ≤ 1073741824 := o3.1
 have hol8 := o3.2.1.1
 have hol9 := o3.2.2.1
 have hol10 := o6.1.1
 have hol11 := o6.2.1
 have hof := actOf_len pre0 pre1
 refine Cal.of (vs := [.agg #[.string (bs (p_t.Name)), .slice A1 p_t.Cols.length c1, .slice A2 p_t.Idxs.length c2], .agg #[.int .i64 (p_a.Kind), .slice A4 p_a.Old.Vals.length c4, .slice A5 p_a.New.Vals.length c5]]) Try.func124 rfl Try.ntmps124 rfl (CW.seq (CW.region (sd rfl (yl_box (cs := [.string (bs (p_t.Name)), .slice A1 p_t.Cols.length c1, .slice A2 p_t.Idxs.length c2]) rfl rfl rfl ?_))))
 intro b12 w13 hs14 hz15 hB16 hE17
 refine sd rfl (yl_box (cs := [.int .i64 (p_a.Kind), .slice A4 p_a.Old.Vals.length c4, .slice A5 p_a.New.Vals.length c5]) rfl rfl rfl ?_)
 intro b18 w19 hs20 hz21 hB22 hE23
 refine sd rfl (yl_assign rfl rfl (SeqR.done (tn (CW.seq (CW.region ?_)))))
 have q24 := Box.ex hB16 hE23
 refine sd rfl (yl_loadN (cs := [.string (bs (p_t.Name)), .slice A1 p_t.Cols.length c1, .slice A2 p_t.Idxs.length c2]) Try.ty65 rfl rfl (q24.cells (n := 3) rfl) rfl (sd rfl (yl_loadN (cs := [.int .i64 (p_a.Kind), .slice A4 p_a.Old.Vals.length c4, .slice A5 p_a.New.Vals.length c5]) Try.ty93 rfl rfl (hB22.cells (n := 3) rfl) rfl ?_)))
 have q26 := RdS.ex good_Str (RdS.ex good_Str h1 hE17) hE23
 have q28 := RdS.ex good_Idx (RdS.ex good_Idx h2 hE17) hE23
 have q30 := RdS.ex good_Str (RdS.ex good_Str h4 hE17) hE23
 have q32 := RdS.ex good_Str (RdS.ex good_Str h5 hE17) hE23
 refine sd rfl (yl_call Try.en176 rfl (opvs_cons rfl (opvs_cons rfl opvs_nil)) (Cal.mono (c_s_l26Head p_t p_a (RdS.up q26 good_Str) (RdS.up q28 good_Idx) (RdS.up q30 good_Str) (RdS.up q32 good_Str) o3 o6 (by first | omega | assumption | (simp only [IntKind.wrap_i64] at *; omega)) (by first | omega | assumption | (simp only [IntKind.wrap_i64] at *; omega))) ?_))
 rintro v35 w33 ⟨A34, c34, lo34, hi34, rfl, h34, hrn37, hE36⟩
 have hE36z := Ex.size hE36
 have hrf38 := rf_l26Head p_t p_a
 refine sd rfl (yl_assign rfl rfl (SeqR.done (tn (CW.seq (CW.seq (CW.region (sd rfl (yl_fieldAddr Try.fd65_2 rfl rfl ?_))))))))
 have q39 := Box.ex q24 hE36
 refine sd rfl (yl_load1 Try.ty63 rfl rfl ((q39.cell 2).trans rfl) (sd rfl (yl_len Try.un63 rfl rfl (sd rfl (yl_move rfl rfl (SeqR.done (tn (CW.block (CW.loop (fun m104 L105 w106 => ∃ (k40 : Nat) (x100 : List DOp) (A101 : Option Addr) (c102 : Nat) (u103 : Nat), m104 = p_t.Idxs.length - k40 ∧ k40 ≤ p_t.Idxs.length ∧ w33.heap.size ≤ w106.heap.size ∧ lkp L105 2 = some (.pointer (some ⟨b12, 0, none⟩)) ∧ lkp L105 3 = some (.pointer (some ⟨b18, 0, none⟩)) ∧ lkp L105 5 = some (.slice A101 x100.length c102) ∧ lkp L105 12 = some (.slice A2 p_t.Idxs.length c2) ∧ lkp L105 13 = some (.int .i64 ((p_t.Idxs.length : Int))) ∧ lkp L105 14 = some (.int .i64 ((k40 : Int))) ∧ Box w106 b12 65 [.string (bs (p_t.Name)), .slice A1 p_t.Cols.length c1, .slice A2 p_t.Idxs.length c2] ∧ RdS w106 (Iv 0 w.heap.size) (RF e_Str) 1 A1 p_t.Cols.length c1 p_t.Cols ∧ RdS w106 (Iv 0 w.heap.size) (RF e_Idx) 3 A2 p_t.Idxs.length c2 p_t.Idxs ∧ Box w106 b18 93 [.int .i64 (p_a.Kind), .slice A4 p_a.Old.Vals.length c4, .slice A5 p_a.New.Vals.length c5] ∧ RdS w106 (Iv 0 w.heap.size) (RF e_Str) 1 A4 p_a.Old.Vals.length c4 p_a.Old.Vals ∧ RdS w106 (Iv 0 w.heap.size) (RF e_Str) 1 A5 p_a.New.Vals.length c5 p_a.New.Vals ∧ OwnL w106 lo34 u103 163 4 (RF e_Op) A101 x100.length c102 x100 ∧ Ex w w106 ∧ (lo34 ≤ u103 ∧ u103 ≤ w106.heap.size) ∧ x100.length ≤ (s_l26Head p_t p_a).length + 3 * (k40 - 0) ∧ loopM (B_s_l26Ops_0 p_t p_a) (p_t.Idxs.length - k40) k40 (x100) = loopM (B_s_l26Ops_0 p_t p_a) (p_t.Idxs.length - 0) 0 ((s_l26Head p_t p_a))) (p_t.Idxs.length - 0) ?_ ?_)))))))))
 ·exact ⟨0, (s_l26Head p_t p_a), A34, c34, hi34, rfl, (by omega), Nat.le_refl _, rfl, rfl, rfl, rfl, rfl, rfl, q39, (RdS.ex good_Str q26 hE36), (RdS.ex good_Idx q28 hE36), (Box.ex hB22 hE36), (RdS.ex good_Str q30 hE36), (RdS.ex good_Str q32 hE36), h34, (Ex.trans (Ex.trans (Ex.trans (Ex.refl w) hE17) hE23) hE36), (by omega), (by first | (simp; done) | (first | omega | (simp only [List.length_append, List.length_cons, List.length_nil, List.length_set, toS_length]; omega))), rfl⟩
 ·rintro m115 L116 w117 ⟨k40, x100, A101, c102, u103, rfl, hk118, hsz120, hl121, hl122, hl123, hl124, hl125, hl126, hf127, hf128, hf129, hf130, hf131, hf132, hf133, hf134, hu135, hln136, hI119⟩
  refine CW.sub (Sub.cons hl121 (Sub.cons hl122 (Sub.cons hl123 (Sub.cons hl124 (Sub.cons hl125 (Sub.cons hl126 (Sub.nil _))))))) ?_
  have hf127z := Box.lt hf127
  have hf130z := Box.lt hf130
  have hf134z := Ex.size hf134
  have hbg137 := RdS.big hf129
  rcases Nat.lt_or_ge k40 p_t.Idxs.length with hlt138 | hlt138
  ·have hrd := actOf_round pre0 pre1 hlt138
   refine CW.seq (CW.region (sd rfl (yl_lss rfl rfl rfl (SeqR.done (tn (CW.seq (CW.cond_t rfl (lt_t hlt138) (CW.skip (tn ?_)))))))))
   refine CW.seq (CW.block (CW.seq (CW.region ?_)))
   obtain ⟨eb139, eo139, ec139, eA139, eS139, ebl139, el139, eR139, eC139⟩ := RdS.atD hf129 d_Idx (i := k40) (by first | omega | assumption)
   obtain rfl := eR139
   have eC139 : Cells w117 eb139 (eo139 + k40 * 3) [.string (bs ((p_t.Idxs.getD k40 d_Idx).Name)), .int .i64 ((p_t.Idxs.getD k40 d_Idx).Col), .int .i64 ((p_t.Idxs.getD k40 d_Idx).Stage)] := eC139
   refine sd rfl (yl_indexAddrN Try.un63 Try.ty152 rfl rfl rfl eA139 (by first | omega | assumption | (simp only [IntKind.wrap_i64] at *; omega)) (sd rfl (yl_loadN (cs := [.string (bs ((p_t.Idxs.getD k40 d_Idx).Name)), .int .i64 ((p_t.Idxs.getD k40 d_Idx).Col), .int .i64 ((p_t.Idxs.getD k40 d_Idx).Stage)]) Try.ty152 rfl rfl eC139 rfl (sd rfl (yl_alloc Try.ty152 (cs := [.string (bs (([] : Str))), .int .i64 (0), .int .i64 (0)]) rfl rfl ?_)))))
   intro b140 w141 hs142 hz143 hB144 hE145
   refine SeqR.u rfl rfl (yl_store (vs := [.string (bs ((p_t.Idxs.getD k40 d_Idx).Name)), .int .i64 ((p_t.Idxs.getD k40 d_Idx).Col), .int .i64 ((p_t.Idxs.getD k40 d_Idx).Stage)]) Try.ty152 rfl rfl rfl rfl rfl rfl hB144 (Nat.le_of_ble_eq_true rfl) ?_)
   intro w146 hB147 hO148
   have hB147 : Box w146 b140 152 [.string (bs ((p_t.Idxs.getD k40 d_Idx).Name)), .int .i64 ((p_t.Idxs.getD k40 d_Idx).Col), .int .i64 ((p_t.Idxs.getD k40 d_Idx).Stage)] := hB147
   have hO148z := hO148.size
   refine SeqR.done (tn (CW.region (sd rfl (yl_move rfl rfl ?_))))
   have q150 := Box.only (Box.ex hf127 hE145) hO148 (by omega)
   refine sd rfl (yl_loadN (cs := [.string (bs (p_t.Name)), .slice A1 p_t.Cols.length c1, .slice A2 p_t.Idxs.length c2]) Try.ty65 rfl rfl (q150.cells (n := 3) rfl) rfl (sd rfl (yl_loadN (cs := [.string (bs ((p_t.Idxs.getD k40 d_Idx).Name)), .int .i64 ((p_t.Idxs.getD k40 d_Idx).Col), .int .i64 ((p_t.Idxs.getD k40 d_Idx).Stage)]) Try.ty152 rfl rfl (hB147.cells (n := 3) rfl) rfl ?_)))
   have q152 := Box.only (Box.ex hf130 hE145) hO148 (by omega)
   refine sd rfl (yl_loadN (cs := [.int .i64 (p_a.Kind), .slice A4 p_a.Old.Vals.length c4, .slice A5 p_a.New.Vals.length c5]) Try.ty93 rfl rfl (q152.cells (n := 3) rfl) rfl ?_)
   have q154 := RdS.only good_Str (RdS.ex good_Str hf128 hE145) hO148 (by simp only [Iv]; omega)
   have q156 := RdS.only good_Idx (RdS.ex good_Idx hf129 hE145) hO148 (by simp only [Iv]; omega)
   have q158 := RdS.only good_Str (RdS.ex good_Str hf131 hE145) hO148 (by simp only [Iv]; omega)
   have q160 := RdS.only good_Str (RdS.ex good_Str hf132 hE145) hO148 (by simp only [Iv]; omega)
   refine sd rfl (yl_call Try.en177 rfl (opvs_cons rfl (opvs_cons rfl (opvs_cons rfl opvs_nil))) (Cal.mono (c_s_l26Idx p_t (p_t.Idxs.getD k40 d_Idx) p_a (RdS.up q154 good_Str) (RdS.up q156 good_Idx) (RdS.up q158 good_Str) (RdS.up q160 good_Str) o3 (okL.getD o3.2.2 ok_d_Idx _) o6 (by first | omega | assumption | (simp only [IntKind.wrap_i64] at *; omega)) (by first | omega | assumption | (simp only [IntKind.wrap_i64] at *; omega)) (by first | omega | assumption | (simp only [IntKind.wrap_i64] at *; omega))) ?_))
   rintro v164 w161 ⟨A162, c162, lo162, hi162, rfl, h162, ho163, hrn166, hE165⟩
   have hE165z := Ex.size hE165
   have hrf167 := rf_l26Idx p_t (p_t.Idxs.getD k40 d_Idx) p_a
   obtain ⟨nw172, he173, hs174⟩ := RdS.src (OwnL.rd good_Op h162)
   have hol175 : (s_l26Idx p_t (p_t.Idxs.getD k40 d_Idx) p_a).length ≤ 1073741824 := ho163.1
   refine sd rfl (yl_appendL (S := (fun _ => False)) (lo := lo34) (hi := u103) (xs := x100) (ys := (s_l26Idx p_t (p_t.Idxs.getD k40 d_Idx) p_a)) good_Op Try.un60 Try.ty163 rfl (Nat.le_of_ble_eq_true rfl) rfl rfl rfl (OwnL.ex good_Op (OwnL.only good_Op (OwnL.ex good_Op hf133 hE145) hO148 (by omega)) hE165) he173 hs174 rfl (by first | omega | (simp only [List.length_append, List.length_cons, List.length_nil, List.length_take, List.length_drop, List.length_replicate, List.length_set, toS_length]; omega)) (by first | omega | (simp only [List.length_append, List.length_cons, List.length_nil, List.length_take, List.length_drop, List.length_replicate, List.length_set, toS_length]; omega)) (by omega) (by omega) (fun _ h _ => False.elim h) (by omega) ?_)
   intro A176 c177 w178 row179 hO180 hG181 hrg182
   have hG181z := hG181.size
   refine sd rfl (yl_assign rfl rfl (SeqR.done (bn (tn (CW.region (sd rfl (yl_inc rfl rfl rfl (by omega) (sd rfl (yl_move rfl rfl (SeqR.done (tn ?_)))))))))))
   have hB183 : B_s_l26Ops_0 p_t p_a k40 (x100) = .cont ((x100 ++ (s_l26Idx p_t (p_t.Idxs.getD k40 d_Idx) p_a))) := by simp only [B_s_l26Ops_0, cond_true, cond_false, loopE_done, loopE_ret]
   exact ⟨p_t.Idxs.length - (k40 + 1), by omega, k40 + 1, (x100 ++ (s_l26Idx p_t (p_t.Idxs.getD k40 d_Idx) p_a)), A176, c177, w178.heap.size, rfl, hlt138, (by omega), rfl, rfl, rfl, rfl, rfl, rfl, (Box.grown (Box.ex q150 hE165) hG181 (fun k hk => by have := hrg182 k hk; omega)), (RdS.grown good_Str (RdS.ex good_Str q154 hE165) hG181 (fun k hk => by have := hrg182 k hk; simp only [Iv]; omega)), (RdS.grown good_Idx (RdS.ex good_Idx q156 hE165) hG181 (fun k hk => by have := hrg182 k hk; simp only [Iv]; omega)), (Box.grown (Box.ex q152 hE165) hG181 (fun k hk => by have := hrg182 k hk; omega)), (RdS.grown good_Str (RdS.ex good_Str q158 hE165) hG181 (fun k hk => by have := hrg182 k hk; simp only [Iv]; omega)), (RdS.grown good_Str (RdS.ex good_Str q160 hE165) hG181 (fun k hk => by have := hrg182 k hk; simp only [Iv]; omega)), hO180, (Below.grown (Ex.trans (Below.only (Ex.trans hf134 hE145) hO148 (by omega)) hE165) hG181 (by omega) (fun k hk => by have := hrg182 k hk; omega)), (by omega), (by first | omega | (simp only [List.length_append, List.length_cons, List.length_nil, List.length_set, toS_length]; omega)), (loopM.cont hlt138 hB183).symm.trans hI119⟩
  ·refine CW.seq (CW.region (sd rfl (yl_lss rfl rfl rfl (SeqR.done (tn (CW.seq (CW.cond_f rfl (lt_f hlt138) (CW.exit (tx ?_)))))))))
   refine tx ?_
   have hL200 : loopM (B_s_l26Ops_0 p_t p_a) (p_t.Idxs.length - 0) 0 ((s_l26Head p_t p_a)) = .done (x100) := hI119.symm.trans (loopM.stop hlt138)
   refine bx (tn (CW.seq (CW.region (sd rfl (yl_move rfl rfl (sd rfl (yl_assign rfl rfl (SeqR.done (tn (CW.ret ?_))))))))))
   refine rr rfl (.cons rfl .nil) ?_
   have hM201 : (s_l26Ops p_t p_a) = (x100) := by simp only [s_l26Ops, hL200, cond_true, cond_false, loopE_done, loopE_ret]
   rw [hM201]
   exact ⟨A101, c102, lo34, u103, rfl, hf133, (by omega), hf134⟩
set_option maxRecDepth 100000 in
set_option maxHeartbeats 2000000 in
theorem c_s_OpsFor {A1 : Option Addr} {c1 : Nat} {A2 : Option Addr} {c2 : Nat} {A4 : Option Addr} {c4 : Nat} {A5 : Option Addr} {c5 : Nat} {w : World} (p_t : DTable) (p_a : DRowAct) (h1 : RdS w (Iv 0 w.heap.size) (RF e_Str) 1 A1 p_t.Cols.length c1 p_t.Cols) (h2 : RdS w (Iv 0 w.heap.size) (RF e_Idx) 3 A2 p_t.Idxs.length c2 p_t.Idxs) (h4 : RdS w (Iv 0 w.heap.size) (RF e_Str) 1 A4 p_a.Old.Vals.length c4 p_a.Old.Vals) (h5 : RdS w (Iv 0 w.heap.size) (RF e_Str) 1 A5 p_a.New.Vals.length c5 p_a.New.Vals) (o3 : ok_Table p_t) (o6 : ok_RowAct p_a) : Cal Try.prog 57 #[.agg #[.string (bs (p_t.Name)), .slice A1 p_t.Cols.length c1, .slice A2 p_t.Idxs.length c2], .agg #[.int .i64 (p_a.Kind), .slice A4 p_a.Old.Vals.length c4, .slice A5 p_a.New.Vals.length c5]] w fun v w' => ∃ A_1 c_1 lo_1 hi_1, v = .tuple #[.slice A_1 (((s_OpsFor p_t p_a).1).length) c_1, .bool ((s_OpsFor p_t p_a).2)] ∧ OwnL w' lo_1 hi_1 163 4 (RF e_Op) A_1 (((s_OpsFor p_t p_a).1).length) c_1 ((s_OpsFor p_t p_a).1) ∧ (w.heap.size ≤ lo_1 ∧ lo_1 ≤ hi_1 ∧ hi_1 ≤ w'.heap.size) ∧ Ex w w' := by
 have hol7 : p_t.Name.length ≤ 1073741824 := o3.1
 have hol8 := o3.2.1.1
 have hol9 := o3.2.2.1
 have hol10 := o6.1.1
 have hol11 := o6.2.1
 refine Cal.of (vs := [.agg #[.string (bs (p_t.Name)), .slice A1 p_t.Cols.length c1, .slice A2 p_t.Idxs.length c2], .agg #[.int .i64 (p_a.Kind), .slice A4 p_a.Old.Vals.length c4, .slice A5 p_a.New.Vals.length c5]]) Try.func57 rfl Try.ntmps57 rfl (CW.seq (CW.region (sd rfl (yl_box (cs := [.string (bs (p_t.Name)), .slice A1 p_t.Cols.length c1, .slice A2 p_t.Idxs.length c2]) rfl rfl rfl ?_))))
 intro b12 w13 hs14 hz15 hB16 hE17
 refine sd rfl (yl_box (cs := [.int .i64 (p_a.Kind), .slice A4 p_a.Old.Vals.length c4, .slice A5 p_a.New.Vals.length c5]) rfl rfl rfl ?_)
 intro b18 w19 hs20 hz21 hB22 hE23
 refine sd rfl (yl_assign rfl rfl (sd rfl (yl_assign rfl rfl (SeqR.done (tn (CW.seq (CW.seq (CW.region ?_))))))))
 have q24 := Box.ex hB16 hE23
 refine sd rfl (yl_loadN (cs := [.string (bs (p_t.Name)), .slice A1 p_t.Cols.length c1, .slice A2 p_t.Idxs.length c2]) Try.ty65 rfl rfl (q24.cells (n := 3) rfl) rfl (sd rfl (yl_loadN (cs := [.int .i64 (p_a.Kind), .slice A4 p_a.Old.Vals.length c4, .slice A5 p_a.New.Vals.length c5]) Try.ty93 rfl rfl (hB22.cells (n := 3) rfl) rfl ?_)))
 have q26 := RdS.ex good_Str (RdS.ex good_Str h1 hE17) hE23
 have q28 := RdS.ex good_Idx (RdS.ex good_Idx h2 hE17) hE23
 have q30 := RdS.ex good_Str (RdS.ex good_Str h4 hE17) hE23
 have q32 := RdS.ex good_Str (RdS.ex good_Str h5 hE17) hE23
 refine sd rfl (yl_call Try.en123 rfl (opvs_cons rfl (opvs_cons rfl opvs_nil)) (Cal.mono (c_s_GoodAct p_t p_a (RdS.up q26 good_Str) (RdS.up q28 good_Idx) (RdS.up q30 good_Str) (RdS.up q32 good_Str) o3 o6) ?_))
 rintro v34 w33 ⟨rfl, hE35⟩
 have hE35z := Ex.size hE35
 refine sd rfl (yl_not rfl rfl (SeqR.done (tn (bcase (s_GoodAct p_t p_a) (fun hb36 => ?_) (fun hb36 => ?_)))))
 ·refine CW.cond_f rfl (not_t hb36) (CW.skip (tn (CW.seq (CW.region (sd rfl (yl_loadN (cs := [.string (bs (p_t.Name)), .slice A1 p_t.Cols.length c1, .slice A2 p_t.Idxs.length c2]) Try.ty65 rfl rfl ((Box.ex q24 hE35).cells (n := 3) rfl) rfl (sd rfl (yl_loadN (cs := [.int .i64 (p_a.Kind), .slice A4 p_a.Old.Vals.length c4, .slice A5 p_a.New.Vals.length c5]) Try.ty93 rfl rfl ((Box.ex hB22 hE35).cells (n := 3) rfl) rfl (sd rfl (yl_call Try.en124 rfl (opvs_cons rfl (opvs_cons rfl opvs_nil)) (Cal.mono (c_s_l26Ops p_t p_a (RdS.up (RdS.ex good_Str q26 hE35) good_Str) (RdS.up (RdS.ex good_Idx q28 hE35) good_Idx) (RdS.up (RdS.ex good_Str q30 hE35) good_Str) (RdS.up (RdS.ex good_Str q32 hE35) good_Str) o3 o6 (f_s_GoodAct hb36).1 (f_s_GoodAct hb36).2) ?_)))))))))))
  rintro v45 w43 ⟨A44, c44, lo44, hi44, rfl, h44, hrn47, hE46⟩
  have hE46z := Ex.size hE46
  refine sd rfl (yl_assign rfl rfl (sd rfl (yl_assign rfl rfl (SeqR.done (tn (CW.ret (rr rfl (.cons rfl (.cons rfl .nil)) ?_)))))))
  have hM48 : (s_OpsFor p_t p_a) = (((s_l26Ops p_t p_a), true)) := by simp only [s_OpsFor, hb36, cond_true, cond_false, loopE_done, loopE_ret]
  rw [hM48]
  exact ⟨A44, c44, lo44, hi44, rfl, h44, (by omega), (Ex.trans (Ex.trans (Ex.trans (Ex.trans (Ex.refl w) hE17) hE23) hE35) hE46)⟩
 ·refine CW.cond_t rfl (not_f hb36) (CW.seq (CW.region (sd rfl (yl_assign rfl rfl (sd rfl (yl_assign rfl rfl (SeqR.done (tn (CW.ret (tr ?_))))))))))
  refine rr rfl (.cons rfl (.cons rfl .nil)) ?_
  have hM53 : (s_OpsFor p_t p_a) = ((([] : List DOp), false)) := by simp only [s_OpsFor, hb36, cond_true, cond_false, loopE_done, loopE_ret]
  rw [hM53]
  exact ⟨none, 0, w33.heap.size, w33.heap.size, rfl, (OwnL.nil _ _ _ _ _ _), (by omega), (Ex.trans (Ex.trans (Ex.trans (Ex.refl w) hE17) hE23) hE35)⟩
set_option maxRecDepth 100000 in
set_option maxHeartbeats 2000000 in
theorem c_l_toRow {A1 : Option Addr} {c1 : Nat} {w : World} (p_a : DRow) (h1 : RdS w (Iv 0 w.heap.size) (RF e_Str) 1 A1 p_a.Vals.length c1 p_a.Vals) (o2 : ok_Row p_a) : Cal Try.prog 36 #[.agg #[.slice A1 p_a.Vals.length c1]] w fun v w' => ∃ A_1 c_1 lo_1 hi_1, v = .agg #[.slice A_1 p_a.Vals.length c_1] ∧ OwnL w' lo_1 hi_1 9 1 (RF e_Str) A_1 p_a.Vals.length c_1 p_a.Vals ∧ (w.heap.size ≤ lo_1 ∧ lo_1 ≤ hi_1 ∧ hi_1 ≤ w'.heap.size) ∧ Ex w w' := by
 have hol3 := o2.1
 refine Cal.of (vs := [.agg #[.slice A1 p_a.Vals.length c1]]) Try.func36 rfl Try.ntmps36 rfl (CW.seq (CW.region (sd rfl (yl_box (cs := [.slice A1 p_a.Vals.length c1]) rfl rfl rfl ?_))))
 intro b4 w5 hs6 hz7 hB8 hE9
 refine sd rfl (yl_alloc Try.ty67 (cs := [.slice none 0 0]) rfl rfl ?_)
 intro b10 w11 hs12 hz13 hB14 hE15
 refine SeqR.done (tn (CW.seq (CW.region (sd rfl (yl_alloc Try.ty67 (cs := [.slice none 0 0]) rfl rfl ?_)))))
 intro b16 w17 hs18 hz19 hB20 hE21
 refine SeqR.done (tn (CW.seq (CW.region (sd rfl (yl_fieldAddr Try.fd57_0 rfl rfl (sd rfl (yl_load1 Try.ty52 rfl rfl (((Box.ex (Box.ex hB8 hE15) hE21).cell 0).trans rfl) (sd rfl (yl_call Try.en106 rfl (opvs_cons rfl opvs_nil) (Cal.mono (c_l_toStringS p_a.Vals (RdS.up (RdS.ex good_Str (RdS.ex good_Str (RdS.ex good_Str h1 hE9) hE15) hE21) good_Str) o2) ?_))))))))))
 rintro v29 w27 ⟨A28, c28, lo28, hi28, rfl, h28, hrn31, hE30⟩
 have hE30z := Ex.size hE30
 refine sd rfl (yl_fieldAddr Try.fd67_0 rfl rfl (SeqR.u rfl rfl (yl_store (vs := [.slice A28 p_a.Vals.length c28]) Try.ty52 rfl rfl rfl rfl rfl rfl (Box.ex hB20 hE30) (Nat.le_of_ble_eq_true rfl) ?_)))
 intro w33 hB34 hO35
 have hB34 : Box w33 b16 67 [.slice A28 p_a.Vals.length c28] := hB34
 have hO35z := hO35.size
 refine SeqR.done (tn (CW.seq (CW.region (sd rfl (yl_loadN (cs := [.slice A28 p_a.Vals.length c28]) Try.ty67 rfl rfl (hB34.cells (n := 1) rfl) rfl (SeqR.u rfl rfl (yl_store (vs := [.slice A28 p_a.Vals.length c28]) Try.ty67 rfl rfl rfl rfl rfl rfl (Box.only (Box.ex (Box.ex hB14 hE21) hE30) hO35 (by omega)) (Nat.le_of_ble_eq_true rfl) ?_)))))))
 intro w39 hB40 hO41
 have hB40 : Box w39 b10 67 [.slice A28 p_a.Vals.length c28] := hB40
 have hO41z := hO41.size
 refine SeqR.done (tn (CW.ret (rr rfl (.cons ⟨_, rfl, run_loadN Try.ty67 (cs := [.slice A28 p_a.Vals.length c28]) rfl (hB40.cells (n := 1) rfl)⟩ .nil) ?_)))
 have hM42 : p_a = (p_a) := (to_Row _).symm.trans <| by simp only [l_toRow, cond_true, cond_false, loopE_done, loopE_ret]
 rw [hM42]
 exact ⟨A28, c28, lo28, hi28, rfl, (OwnL.only good_Str (OwnL.only good_Str h28 hO35 (by omega)) hO41 (by omega)), (by omega), (Below.only (Below.only (Ex.trans (Ex.trans (Ex.trans (Ex.trans (Ex.refl w) hE9) hE15) hE21) hE30) hO35 (by omega)) hO41 (by omega))⟩
set_option maxRecDepth 100000 in
set_option maxHeartbeats 2000000 in
theorem c_l_toRowAct {A1 : Option Addr} {c1 : Nat} {A2 : Option Addr} {c2 : Nat} {w : World} (p_a : DRowAct) (h1 : RdS w (Iv 0 w.heap.size) (RF e_Str) 1 A1 p_a.Old.Vals.length c1 p_a.Old.Vals) (h2 : RdS w (Iv 0 w.heap.size) (RF e_Str) 1 A2 p_a.New.Vals.length c2 p_a.New.Vals) (o3 : ok_RowAct p_a) : Cal Try.prog 58 #[.agg #[.int .i64 (p_a.Kind), .slice A1 p_a.Old.Vals.length c1, .slice A2 p_a.New.Vals.length c2]] w fun v w' => ∃ A_1 c_1 lo_1 hi_1 A_2 c_2 lo_2 hi_2, v = .agg #[.int .i64 (p_a.Kind), .slice A_1 p_a.Old.Vals.length c_1, .slice A_2 p_a.New.Vals.length c_2] ∧ OwnL w' lo_1 hi_1 9 1 (RF e_Str) A_1 p_a.Old.Vals.length c_1 p_a.Old.Vals ∧ OwnL w' lo_2 hi_2 9 1 (RF e_Str) A_2 p_a.New.Vals.length c_2 p_a.New.Vals ∧ (w.heap.size ≤ lo_1 ∧ lo_1 ≤ hi_1 ∧ hi_1 ≤ w'.heap.size) ∧ (w.heap.size ≤ lo_2 ∧ lo_2 ≤ hi_2 ∧ hi_2 ≤ w'.heap.size) ∧ (hi_1 ≤ lo_2 ∨ hi_2 ≤ lo_1) ∧ Ex w w' := by
 have hol4 := o3.1.1
 have hol5 := o3.2.1
 refine Cal.of (vs := [.agg #[.int .i64 (p_a.Kind), .slice A1 p_a.Old.Vals.length c1, .slice A2 p_a.New.Vals.length c2]]) Try.func58 rfl Try.ntmps58 rfl (CW.seq (CW.region (sd rfl (yl_box (cs := [.int .i64 (p_a.Kind), .slice A1 p_a.Old.Vals.length c1, .slice A2 p_a.New.Vals.length c2]) rfl rfl rfl ?_))))
 intro b6 w7 hs8 hz9 hB10 hE11
 refine sd rfl (yl_alloc Try.ty93 (cs := [.int .i64 (0), .slice none 0 0, .slice none 0 0]) rfl rfl ?_)
 intro b12 w13 hs14 hz15 hB16 hE17
 refine SeqR.done (tn (CW.seq (CW.region (sd rfl (yl_alloc Try.ty93 (cs := [.int .i64 (0), .slice none 0 0, .slice none 0 0]) rfl rfl ?_)))))
 intro b18 w19 hs20 hz21 hB22 hE23
 refine SeqR.done (tn (CW.seq (CW.region (sd rfl (yl_fieldAddr Try.fd89_0 rfl rfl ?_)))))
 have q25 := Box.ex (Box.ex hB10 hE17) hE23
 refine sd rfl (yl_load1 Try.ty3 rfl rfl ((q25.cell 0).trans rfl) (sd rfl (yl_fieldAddr Try.fd93_0 rfl rfl (SeqR.u rfl rfl (yl_store (vs := [.int .i64 (p_a.Kind)]) Try.ty3 rfl rfl rfl rfl rfl rfl hB22 (Nat.le_of_ble_eq_true rfl) ?_)))))
 intro w26 hB27 hO28
 have hB27 : Box w26 b18 93 [.int .i64 (p_a.Kind), .slice none 0 0, .slice none 0 0] := hB27
 have hO28z := hO28.size
 refine SeqR.done (tn (CW.seq (CW.region (sd rfl (yl_fieldAddr Try.fd89_1 rfl rfl ?_)))))
 have q29 := Box.only q25 hO28 (by omega)
 refine sd rfl (yl_loadN (cs := [.slice A1 p_a.Old.Vals.length c1]) Try.ty57 rfl rfl (q29.cells (n := 1) rfl) rfl (sd rfl (yl_call Try.en36 rfl (opvs_cons rfl opvs_nil) (Cal.mono (c_l_toRow p_a.Old (RdS.up (RdS.only good_Str (RdS.ex good_Str (RdS.ex good_Str (RdS.ex good_Str h1 hE11) hE17) hE23) hO28 (by simp only [Iv]; omega)) good_Str) o3.1) ?_))))
 rintro v36 w34 ⟨A35, c35, lo35, hi35, rfl, h35, hrn38, hE37⟩
 have hE37z := Ex.size hE37
 refine sd rfl (yl_fieldAddr Try.fd93_1 rfl rfl (SeqR.u rfl rfl (yl_store (vs := [.slice A35 p_a.Old.Vals.length c35]) Try.ty67 rfl rfl rfl rfl rfl rfl (Box.ex hB27 hE37) (Nat.le_of_ble_eq_true rfl) ?_)))
 intro w40 hB41 hO42
 have hB41 : Box w40 b18 93 [.int .i64 (p_a.Kind), .slice A35 p_a.Old.Vals.length c35, .slice none 0 0] := hB41
 have hO42z := hO42.size
 refine SeqR.done (tn (CW.seq (CW.region (sd rfl (yl_fieldAddr Try.fd89_2 rfl rfl (sd rfl (yl_loadN (cs := [.slice A2 p_a.New.Vals.length c2]) Try.ty57 rfl rfl ((Box.only (Box.ex q29 hE37) hO42 (by omega)).cells (n := 1) rfl) rfl (sd rfl (yl_call Try.en36 rfl (opvs_cons rfl opvs_nil) (Cal.mono (c_l_toRow p_a.New (RdS.up (RdS.only good_Str (RdS.ex good_Str (RdS.only good_Str (RdS.ex good_Str (RdS.ex good_Str (RdS.ex good_Str h2 hE11) hE17) hE23) hO28 (by simp only [Iv]; omega)) hE37) hO42 (by simp only [Iv]; omega)) good_Str) o3.2) ?_))))))))))
 rintro v53 w51 ⟨A52, c52, lo52, hi52, rfl, h52, hrn55, hE54⟩
 have hE54z := Ex.size hE54
 refine sd rfl (yl_fieldAddr Try.fd93_2 rfl rfl (SeqR.u rfl rfl (yl_store (vs := [.slice A52 p_a.New.Vals.length c52]) Try.ty67 rfl rfl rfl rfl rfl rfl (Box.ex hB41 hE54) (Nat.le_of_ble_eq_true rfl) ?_)))
 intro w57 hB58 hO59
 have hB58 : Box w57 b18 93 [.int .i64 (p_a.Kind), .slice A35 p_a.Old.Vals.length c35, .slice A52 p_a.New.Vals.length c52] := hB58
 have hO59z := hO59.size
 refine SeqR.done (tn (CW.seq (CW.region (sd rfl (yl_loadN (cs := [.int .i64 (p_a.Kind), .slice A35 p_a.Old.Vals.length c35, .slice A52 p_a.New.Vals.length c52]) Try.ty93 rfl rfl (hB58.cells (n := 3) rfl) rfl (SeqR.u rfl rfl (yl_store (vs := [.int .i64 (p_a.Kind), .slice A35 p_a.Old.Vals.length c35, .slice A52 p_a.New.Vals.length c52]) Try.ty93 rfl rfl rfl rfl rfl rfl (Box.only (Box.ex (Box.only (Box.ex (Box.only (Box.ex hB16 hE23) hO28 (by omega)) hE37) hO42 (by omega)) hE54) hO59 (by omega)) (Nat.le_of_ble_eq_true rfl) ?_)))))))
 intro w66 hB67 hO68
 have hB67 : Box w66 b12 93 [.int .i64 (p_a.Kind), .slice A35 p_a.Old.Vals.length c35, .slice A52 p_a.New.Vals.length c52] := hB67
 have hO68z := hO68.size
 refine SeqR.done (tn (CW.ret (rr rfl (.cons ⟨_, rfl, run_loadN Try.ty93 (cs := [.int .i64 (p_a.Kind), .slice A35 p_a.Old.Vals.length c35, .slice A52 p_a.New.Vals.length c52]) rfl (hB67.cells (n := 3) rfl)⟩ .nil) ?_)))
 have hM69 : p_a = (p_a) := (to_RowAct _).symm.trans <| by simp only [l_toRowAct, cond_true, cond_false, loopE_done, loopE_ret]
 rw [hM69]
 exact ⟨A35, c35, lo35, hi35, A52, c52, lo52, hi52, rfl, (OwnL.only good_Str (OwnL.only good_Str (OwnL.ex good_Str (OwnL.only good_Str h35 hO42 (by omega)) hE54) hO59 (by omega)) hO68 (by omega)), (OwnL.only good_Str (OwnL.only good_Str h52 hO59 (by omega)) hO68 (by omega)), (by omega), (by omega), (by omega), (Below.only (Below.only (Ex.trans (Below.only (Ex.trans (Below.only (Ex.trans (Ex.trans (Ex.trans (Ex.refl w) hE11) hE17) hE23) hO28 (by omega)) hE37) hO42 (by omega)) hE54) hO59 (by omega)) hO68 (by omega))⟩
set_option maxRecDepth 100000 in
set_option maxHeartbeats 2000000 in
theorem c_i_within {w : World} (p_n : Int) (p_low : Int) (p_high : Int) : Cal Try.prog 142 #[.int .i64 (p_n), .int .i64 (p_low), .int .i64 (p_high)] w fun v w' => v = .bool ((i_within p_n p_low p_high)) ∧ Ex w w' := by
 refine Cal.of (vs := [.int .i64 (p_n), .int .i64 (p_low), .int .i64 (p_high)]) Try.func142 rfl Try.ntmps142 rfl (CW.seq (CW.region (sd rfl (yl_assign rfl rfl (SeqR.done (tn (CW.seq (CW.region (sd rfl (yl_move rfl rfl ?_))))))))))
 refine sd rfl (yl_move rfl rfl (sd rfl (yl_geq rfl rfl rfl (sd rfl (yl_move rfl rfl (bcase (decide (p_low ≤ p_n)) (fun hb1 => ?_) (fun hb1 => ?_)))))))
 ·have hb1p := dec_t hb1
  refine sy rfl rfl hb1 (yl_move rfl rfl (sy rfl rfl hb1 (yl_move rfl rfl (sy rfl rfl hb1 (yl_leq rfl rfl rfl (sd rfl (yl_pick_t rfl rfl hb1 rfl (sd rfl (yl_assign rfl rfl (SeqR.done (tn (CW.ret (rr rfl (.cons rfl .nil) ?_)))))))))))))
  have hM2 : (i_within p_n p_low p_high) = (decide (p_n ≤ p_high)) := by simp only [i_within, hb1, cond_true, cond_false, loopE_done, loopE_ret]
  rw [hM2]
  exact ⟨rfl, (Ex.refl w)⟩
 ·have hb1p := dec_f hb1
  refine sz rfl rfl hb1 (sz rfl rfl hb1 (sz rfl rfl hb1 (sd rfl (yl_pick_f rfl rfl hb1 rfl (sd rfl (yl_assign rfl rfl (SeqR.done (tn (CW.ret (rr rfl (.cons rfl .nil) ?_))))))))))
  have hM3 : (i_within p_n p_low p_high) = (false) := by simp only [i_within, hb1, cond_true, cond_false, loopE_done, loopE_ret]
  rw [hM3]
  exact ⟨rfl, (Ex.refl w)⟩
set_option maxRecDepth 100000 in
set_option maxHeartbeats 2000000 in
theorem c_i_areLetters {w : World} (p_s : Str) (p_most : Int) (o1 : okS p_s) : Cal Try.prog 210 #[.string (bs (p_s)), .int .i64 (p_most)] w fun v w' => v = .bool ((i_areLetters p_s p_most)) ∧ Ex w w' := by
 have hol2 : p_s.length ≤ 1073741824 := o1
 refine Cal.of (vs := [.string (bs (p_s)), .int .i64 (p_most)]) Try.func210 rfl Try.ntmps210 rfl (CW.seq (CW.region (sd rfl (yl_assign rfl rfl (SeqR.done (tn (CW.seq (CW.seq (CW.region ?_)))))))))
 refine sd rfl (yl_move rfl rfl (sd rfl (yl_slen Try.un9 (a := p_s) rfl rfl (sd rfl (yl_move rfl rfl (SeqR.done (tn (CW.block (CW.loop (fun m4 L5 w6 => ∃ (k3 : Nat), m4 = p_s.length - k3 ∧ k3 ≤ p_s.length ∧ w.heap.size ≤ w6.heap.size ∧ lkp L5 0 = some (.string (bs (p_s))) ∧ lkp L5 1 = some (.int .i64 (p_most)) ∧ lkp L5 7 = some (.int .i64 ((p_s.length : Int))) ∧ lkp L5 8 = some (.int .i64 ((k3 : Int))) ∧ Ex w w6 ∧ loopM (B_i_areLetters_0 p_s p_most) (p_s.length - k3) k3 () = loopM (B_i_areLetters_0 p_s p_most) (p_s.length - 0) 0 ()) (p_s.length - 0) ?_ ?_)))))))))
 ·exact ⟨0, rfl, (by omega), Nat.le_refl _, rfl, rfl, rfl, rfl, (Ex.refl w), rfl⟩
 ·rintro m7 L8 w9 ⟨k3, rfl, hk10, hsz12, hl13, hl14, hl15, hl16, hf17, hI11⟩
  refine CW.sub (Sub.cons hl13 (Sub.cons hl14 (Sub.cons hl15 (Sub.cons hl16 (Sub.nil _))))) ?_
  have hf17z := Ex.size hf17
  have hbg18 : p_s.length ≤ 1073741824 := o1
  rcases Nat.lt_or_ge k3 p_s.length with hlt19 | hlt19
  ·refine CW.seq (CW.region (sd rfl (yl_lss rfl rfl rfl (SeqR.done (tn (CW.seq (CW.cond_t rfl (lt_t hlt19) (CW.skip (tn ?_)))))))))
   refine CW.seq (CW.block (CW.seq (CW.region (sd rfl (yl_move rfl rfl (sd rfl (yl_assign rfl rfl (SeqR.done (tn (CW.seq ?_))))))))))
   refine CW.region (sd rfl (yl_move rfl rfl (sd rfl (yl_move rfl rfl (sd rfl (yl_sindexN Try.un9 (a := p_s) rfl rfl rfl (by first | omega | assumption | (simp only [IntKind.wrap_i64] at *; omega)) (sd rfl (yl_lss rfl rfl rfl (sd rfl (yl_move rfl rfl (bcase (decide (((p_s.getD k3 0).toNat : Int) < 97)) (fun hb20 => ?_) (fun hb20 => ?_))))))))))))
   ·have hb20p := dec_t hb20
    refine sz rfl rfl hb20 (sz rfl rfl hb20 (sz rfl rfl hb20 (sz rfl rfl hb20 (sd rfl (yl_pick_t rfl rfl hb20 rfl (SeqR.done (tn (CW.cond_t rfl rfl (CW.seq ?_)))))))))
    refine CW.region (sd rfl (yl_assign rfl rfl (SeqR.done (tn (CW.ret (br (tr (tr ?_))))))))
    have hB22 : B_i_areLetters_0 p_s p_most k3 () = .ret false := by simp only [B_i_areLetters_0, hb20, cond_true, cond_false, loopE_done, loopE_ret]
    have hL21 : loopM (B_i_areLetters_0 p_s p_most) (p_s.length - 0) 0 () = .ret false := hI11.symm.trans (loopM.ret hlt19 hB22)
    refine br (tr (rr rfl (.cons rfl .nil) ?_))
    have hM23 : (i_areLetters p_s p_most) = (false) := by simp only [i_areLetters, hb20, hL21, cond_true, cond_false, loopE_done, loopE_ret]
    rw [hM23]
    exact ⟨rfl, hf17⟩
   ·have hb20p := dec_f hb20
    refine sy rfl rfl hb20 (yl_move rfl rfl (sy rfl rfl hb20 (yl_move rfl rfl (sy rfl rfl hb20 (yl_sindexN Try.un9 (a := p_s) rfl rfl rfl (by first | omega | assumption | (simp only [IntKind.wrap_i64] at *; omega)) (sy rfl rfl hb20 (yl_gtr rfl rfl rfl (sd rfl (yl_pick_f rfl rfl hb20 rfl (SeqR.done (tn (bcase (decide (122 < ((p_s.getD k3 0).toNat : Int))) (fun hb24 => ?_) (fun hb24 => ?_)))))))))))))
    ·have hb24p := dec_t hb24
     refine CW.cond_t rfl hb24 (CW.seq (CW.region (sd rfl (yl_assign rfl rfl (SeqR.done (tn (CW.ret (br (tr ?_)))))))))
     refine tr ?_
     have hB26 : B_i_areLetters_0 p_s p_most k3 () = .ret false := by simp only [B_i_areLetters_0, hb20, hb24, cond_true, cond_false, loopE_done, loopE_ret]
     have hL25 : loopM (B_i_areLetters_0 p_s p_most) (p_s.length - 0) 0 () = .ret false := hI11.symm.trans (loopM.ret hlt19 hB26)
     refine br (tr (rr rfl (.cons rfl .nil) ?_))
     have hM27 : (i_areLetters p_s p_most) = (false) := by simp only [i_areLetters, hb20, hb24, hL25, cond_true, cond_false, loopE_done, loopE_ret]
     rw [hM27]
     exact ⟨rfl, hf17⟩
    ·have hb24p := dec_f hb24
     refine CW.cond_f rfl hb24 (CW.skip (bn (tn (CW.region (sd rfl (yl_inc rfl rfl rfl (by omega) (sd rfl (yl_move rfl rfl (SeqR.done (tn ?_))))))))))
     have hB28 : B_i_areLetters_0 p_s p_most k3 () = .cont () := by simp only [B_i_areLetters_0, hb20, hb24, cond_true, cond_false, loopE_done, loopE_ret]
     exact ⟨p_s.length - (k3 + 1), by omega, k3 + 1, rfl, hlt19, (by omega), rfl, rfl, rfl, rfl, hf17, (loopM.cont hlt19 hB28).symm.trans hI11⟩
  ·refine CW.seq (CW.region (sd rfl (yl_lss rfl rfl rfl (SeqR.done (tn (CW.seq (CW.cond_f rfl (lt_f hlt19) (CW.exit (tx ?_)))))))))
   refine tx ?_
   have hL29 : loopM (B_i_areLetters_0 p_s p_most) (p_s.length - 0) 0 () = .done () := hI11.symm.trans (loopM.stop hlt19)
   refine bx (tn (CW.seq (CW.region (sd rfl (yl_move rfl rfl (sd rfl (yl_slen Try.un9 (a := p_s) rfl rfl (sd rfl (yl_move rfl rfl (sd rfl (yl_call Try.en142 rfl (opvs_cons rfl (opvs_cons rfl (opvs_cons rfl opvs_nil))) (Cal.mono (c_i_within (p_s.length : Int) 1 p_most) ?_))))))))))))
   rintro v31 w30 ⟨rfl, hE32⟩
   have hE32z := Ex.size hE32
   refine sd rfl (yl_assign rfl rfl (SeqR.done (tn (CW.ret (rr rfl (.cons rfl .nil) ?_)))))
   have hM33 : (i_areLetters p_s p_most) = ((i_within (p_s.length : Int) 1 p_most)) := by simp only [i_areLetters, hL29, cond_true, cond_false, loopE_done, loopE_ret]
   rw [hM33]
   exact ⟨rfl, (Ex.trans hf17 hE32)⟩
end Go.Proofs.Ytjeafbkejeallaa
