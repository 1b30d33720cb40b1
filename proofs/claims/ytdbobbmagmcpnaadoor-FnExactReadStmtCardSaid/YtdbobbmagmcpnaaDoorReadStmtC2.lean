/- Read Stmt: what each call returns, part 2. -/
import Derived.Test.YtdbobbmagmcpnaaDoorReadStmtC1
set_option linter.unusedVariables false
set_option linter.unusedSimpArgs false
namespace Go.Proofs.YtdbobbmagmcpnaaDoor
open Go.RowKit Go.X
set_option maxRecDepth 100000 in
set_option maxHeartbeats 2000000 in
theorem c_s_l3Bytes {w : World} (p_s : Str) (p_more : Str) (o1 : okS p_s) (o2 : okS p_more) : Cal Tryd.prog 82 #[.string (bs (p_s)), .string (bs (p_more))] w fun v w' => v = .bool ((s_l3Bytes p_s p_more)) ∧ Ex w w' := by
 have hol3 : p_s.length ≤ 1073741824 := o1
 have hol4 : p_more.length ≤ 1073741824 := o2
 refine Cal.of (vs := [.string (bs (p_s)), .string (bs (p_more))]) Tryd.func82 rfl Tryd.ntmps82 rfl (CW.seq (CW.region (sd rfl (yl_assign rfl rfl (SeqR.done (tn (CW.seq (CW.seq (CW.region ?_)))))))))
 refine sd rfl (yl_assign rfl rfl (SeqR.done (tn (CW.block (CW.loop (fun m6 L7 w8 => ∃ (k5 : Nat), m6 = p_s.length - k5 ∧ k5 ≤ p_s.length ∧ w.heap.size ≤ w8.heap.size ∧ lkp L7 0 = some (.string (bs (p_s))) ∧ lkp L7 1 = some (.string (bs (p_more))) ∧ lkp L7 5 = some (.int .i64 ((k5 : Int))) ∧ Ex w w8 ∧ loopM (B_s_l3Bytes_0 p_s p_more) (p_s.length - k5) k5 () = loopM (B_s_l3Bytes_0 p_s p_more) (p_s.length - 0) 0 ()) (p_s.length - 0) ?_ ?_)))))
 ·exact ⟨0, rfl, (by omega), Nat.le_refl _, rfl, rfl, rfl, (Ex.refl w), rfl⟩
 ·rintro m9 L10 w11 ⟨k5, rfl, hk12, hsz14, hl15, hl16, hl17, hf18, hI13⟩
  refine CW.sub (Sub.cons hl15 (Sub.cons hl16 (Sub.cons hl17 (Sub.nil _)))) ?_
  have hf18z := Ex.size hf18
  have hbg19 : p_s.length ≤ 1073741824 := o1
  rcases Nat.lt_or_ge k5 p_s.length with hlt20 | hlt20
  ·refine CW.seq (CW.seq (CW.region (sd rfl (yl_move rfl rfl (sd rfl (yl_move rfl rfl (sd rfl (yl_slen Tryd.un9 (a := p_s) rfl rfl (sd rfl (yl_lss rfl rfl rfl (SeqR.done (tn ?_))))))))))))
   refine CW.cond_t rfl (lt_t hlt20) (CW.skip (tn (CW.seq (CW.block (CW.seq (CW.region (sd rfl (yl_move rfl rfl (sd rfl (yl_move rfl rfl ?_))))))))))
   refine sd rfl (yl_sindexN Tryd.un9 (a := p_s) rfl rfl rfl (by first | omega | assumption | (simp only [IntKind.wrap_i64] at *; omega)) (sd rfl (yl_geq rfl rfl rfl (sd rfl (yl_move rfl rfl (bcase (decide (97 ≤ ((p_s.getD k5 0).toNat : Int))) (fun hb21 => ?_) (fun hb21 => ?_)))))))
   ·have hb21p := dec_t hb21
    refine sy rfl rfl hb21 (yl_move rfl rfl (sy rfl rfl hb21 (yl_move rfl rfl (sy rfl rfl hb21 (yl_sindexN Tryd.un9 (a := p_s) rfl rfl rfl (by first | omega | assumption | (simp only [IntKind.wrap_i64] at *; omega)) (sy rfl rfl hb21 (yl_leq rfl rfl rfl (sd rfl (yl_pick_t rfl rfl hb21 rfl (sd rfl (yl_move rfl rfl (bcase (decide (((p_s.getD k5 0).toNat : Int) ≤ 122)) (fun hb22 => ?_) (fun hb22 => ?_)))))))))))))
    ·have hb22p := dec_t hb22
     refine sz rfl rfl hb22 (sz rfl rfl hb22 (sz rfl rfl hb22 (sz rfl rfl hb22 (sz rfl rfl hb22 (sq rfl rfl (sq rfl rfl (sq rfl rfl (sq rfl rfl ?_))))))))
     refine sz rfl rfl hb22 (sd rfl (yl_pick_t rfl rfl hb22 rfl (sd rfl (yl_assign rfl rfl (SeqR.done (tn (CW.seq (CW.seq (CW.region (sd rfl (yl_assign rfl rfl ?_)))))))))))
     refine SeqR.done (tn (CW.block (CW.loop (fun m25 L26 w27 => ∃ (k23 : Nat) (x24 : Bool), m25 = p_more.length - k23 ∧ k23 ≤ p_more.length ∧ w11.heap.size ≤ w27.heap.size ∧ lkp L26 0 = some (.string (bs (p_s))) ∧ lkp L26 1 = some (.string (bs (p_more))) ∧ lkp L26 5 = some (.int .i64 ((k5 : Int))) ∧ lkp L26 6 = some (.bool (x24)) ∧ lkp L26 7 = some (.int .i64 ((k23 : Int))) ∧ lkp L26 19 = some (.string (bs (p_s))) ∧ lkp L26 20 = some (.int .i64 ((k5 : Int))) ∧ lkp L26 21 = some (.int .u8 (((p_s.getD k5 0).toNat : Int))) ∧ lkp L26 22 = some (.bool (decide (((p_s.getD k5 0).toNat : Int) ≤ 122))) ∧ lkp L26 25 = some (undef) ∧ lkp L26 26 = some (undef) ∧ lkp L26 27 = some (undef) ∧ lkp L26 28 = some (undef) ∧ lkp L26 29 = some (undef) ∧ lkp L26 30 = some (undef) ∧ lkp L26 31 = some (undef) ∧ lkp L26 32 = some (undef) ∧ lkp L26 33 = some (undef) ∧ lkp L26 34 = some (undef) ∧ Ex w w27 ∧ loopM (B_s_l3Bytes_1 p_s p_more k5) (p_more.length - k23) k23 (x24) = loopM (B_s_l3Bytes_1 p_s p_more k5) (p_more.length - 0) 0 (true)) (p_more.length - 0) ?_ ?_)))
     ·exact ⟨0, true, rfl, (by omega), Nat.le_refl _, rfl, rfl, rfl, rfl, rfl, rfl, rfl, rfl, rfl, rfl, rfl, rfl, rfl, rfl, rfl, rfl, rfl, rfl, rfl, hf18, rfl⟩
     ·rintro m28 L29 w30 ⟨k23, x24, rfl, hk31, hsz33, hl34, hl35, hl36, hl37, hl38, hl39, hl40, hl41, hl42, hl43, hl44, hl45, hl46, hl47, hl48, hl49, hl50, hl51, hl52, hf53, hI32⟩
      refine CW.sub (Sub.cons hl34 (Sub.cons hl35 (Sub.cons hl36 (Sub.cons hl37 (Sub.cons hl38 (Sub.cons hl39 (Sub.cons hl40 (Sub.cons hl41 (Sub.cons hl42 (Sub.cons hl43 (Sub.cons hl44 (Sub.cons hl45 (Sub.cons hl46 (Sub.cons hl47 (Sub.cons hl48 (Sub.cons hl49 (Sub.cons hl50 (Sub.cons hl51 (Sub.cons hl52 (Sub.nil _)))))))))))))))))))) ?_
      have hf53z := Ex.size hf53
      have hbg54 : p_more.length ≤ 1073741824 := o2
      rcases Nat.lt_or_ge k23 p_more.length with hlt55 | hlt55
      ·refine CW.seq (CW.seq (CW.region (sd rfl (yl_move rfl rfl (sd rfl (yl_move rfl rfl (sd rfl (yl_slen Tryd.un9 (a := p_more) rfl rfl (sd rfl (yl_lss rfl rfl rfl (SeqR.done (tn ?_))))))))))))
       refine CW.cond_t rfl (lt_t hlt55) (CW.skip (tn (CW.seq (CW.block (bcase (x24) (fun hb56 => ?_) (fun hb56 => ?_))))))
       ·refine CW.drawsI 11 (vgetI [DetI (.bool (x24)), DetI (.bool (x24)), DetI (undef), DetI (undef), DetI (undef), DetI (undef), DetI (undef), DetI (undef), DetI (undef), DetI (.bool (true)), DetI (.bool (true))]) Tryd.follows rfl rfl rfl rfl rfl rfl (vgetI_stable ⟨StableI.det _, StableI.det _, StableI.det _, StableI.det _, StableI.det _, StableI.det _, StableI.det _, StableI.det _, StableI.det _, StableI.det _, StableI.det _, trivial⟩) ⟨?_, ?_, ?_, ?_, ?_, ?_, ?_, ?_, ?_, ?_, ?_, trivial⟩ ?_
        ·exact fun _ _ h => os rfl ((yl_move rfl (h.old 6 _ rfl rfl) kI))
        ·exact fun _ _ h => os rfl ((yl_move rfl (h.dt 0 42 rfl rfl rfl) kI))
        ·exact fun _ _ h => OpR.skip rfl rfl (h.dt 1 43 rfl rfl rfl) hb56 ⟨rfl, Ex.refl _⟩
        ·exact fun _ _ h => OpR.skip rfl rfl (h.dt 1 43 rfl rfl rfl) hb56 ⟨rfl, Ex.refl _⟩
        ·exact fun _ _ h => OpR.skip rfl rfl (h.dt 1 43 rfl rfl rfl) hb56 ⟨rfl, Ex.refl _⟩
        ·exact fun _ _ h => OpR.skip rfl rfl (h.dt 1 43 rfl rfl rfl) hb56 ⟨rfl, Ex.refl _⟩
        ·exact fun _ _ h => OpR.skip rfl rfl (h.dt 1 43 rfl rfl rfl) hb56 ⟨rfl, Ex.refl _⟩
        ·exact fun _ _ h => OpR.skip rfl rfl (h.dt 1 43 rfl rfl rfl) hb56 ⟨rfl, Ex.refl _⟩
        ·exact fun _ _ h => OpR.skip rfl rfl (h.dt 1 43 rfl rfl rfl) hb56 ⟨rfl, Ex.refl _⟩
        ·exact fun _ _ h => os rfl ((yl_pick_t rfl (h.dt 1 43 rfl rfl rfl) hb56 rfl kI))
        ·exact fun _ _ h => os rfl ((yl_assign rfl (h.dt 9 51 rfl rfl rfl) kI))
        ·intro fl116 fh117 L113 w114 hp115
         have hE118 := hp115.ex
         have hE118z := Ex.size hE118
         refine SeqR.done (bn (tn (CW.sub (Sub.cons (d := 0) (hp115.old 0 _ rfl rfl) (Sub.cons (d := 1) (hp115.old 1 _ rfl rfl) (Sub.cons (d := 5) (hp115.old 5 _ rfl rfl) (Sub.cons (d := 6) (hp115.nt 10 6 rfl rfl rfl) (Sub.cons (d := 7) (hp115.old 7 _ rfl rfl) (Sub.cons (d := 19) (hp115.old 19 _ rfl rfl) (Sub.cons (d := 20) (hp115.old 20 _ rfl rfl) (Sub.cons (d := 21) (hp115.old 21 _ rfl rfl) (Sub.cons (d := 22) (hp115.old 22 _ rfl rfl) (Sub.cons (d := 25) (hp115.old 25 _ rfl rfl) (Sub.cons (d := 26) (hp115.old 26 _ rfl rfl) (Sub.cons (d := 27) (hp115.old 27 _ rfl rfl) (Sub.cons (d := 28) (hp115.old 28 _ rfl rfl) (Sub.cons (d := 29) (hp115.old 29 _ rfl rfl) (Sub.cons (d := 30) (hp115.old 30 _ rfl rfl) (Sub.cons (d := 31) (hp115.old 31 _ rfl rfl) (Sub.cons (d := 32) (hp115.old 32 _ rfl rfl) (Sub.cons (d := 33) (hp115.old 33 _ rfl rfl) (Sub.cons (d := 34) (hp115.old 34 _ rfl rfl) (Sub.cons (d := 44) (hp115.nt 2 44 rfl rfl rfl) (Sub.cons (d := 45) (hp115.nt 3 45 rfl rfl rfl) (Sub.cons (d := 46) (hp115.nt 4 46 rfl rfl rfl) (Sub.cons (d := 47) (hp115.nt 5 47 rfl rfl rfl) (Sub.cons (d := 48) (hp115.nt 6 48 rfl rfl rfl) (Sub.cons (d := 49) (hp115.nt 7 49 rfl rfl rfl) (Sub.cons (d := 50) (hp115.nt 8 50 rfl rfl rfl) (Sub.nil _))))))))))))))))))))))))))) (CW.region (sd rfl (yl_move rfl rfl (sd rfl (yl_inc rfl rfl rfl (by omega) (sd rfl (yl_assign rfl rfl (SeqR.done ?_)))))))))))
         refine tn ?_
         have hB145 : B_s_l3Bytes_1 p_s p_more k5 k23 (x24) = .cont (true) := by simp only [B_s_l3Bytes_1, hb21, hb22, hb56, cond_true, cond_false, loopE_done, loopE_ret]
         exact ⟨p_more.length - (k23 + 1), by omega, k23 + 1, true, rfl, hlt55, (by omega), rfl, rfl, rfl, rfl, rfl, rfl, rfl, rfl, rfl, rfl, rfl, rfl, rfl, rfl, rfl, rfl, rfl, rfl, rfl, (Ex.trans hf53 hE118), (loopM.cont hlt55 hB145).symm.trans hI32⟩
       ·refine CW.drawsI 11 (vgetI [DetI (.bool (x24)), DetI (.bool (x24)), DetI (.string (bs (p_s))), DetI (.int .i64 ((k5 : Int))), DetI (.int .u8 (((p_s.getD k5 0).toNat : Int))), DetI (.string (bs (p_more))), DetI (.int .i64 ((k23 : Int))), DetI (.int .u8 (((p_more.getD k23 0).toNat : Int))), DetI (.bool (decide (((p_s.getD k5 0).toNat : Int) = ((p_more.getD k23 0).toNat : Int)))), DetI (.bool (decide (((p_s.getD k5 0).toNat : Int) = ((p_more.getD k23 0).toNat : Int)))), DetI (.bool (decide (((p_s.getD k5 0).toNat : Int) = ((p_more.getD k23 0).toNat : Int))))]) Tryd.follows rfl rfl rfl rfl rfl rfl (vgetI_stable ⟨StableI.det _, StableI.det _, StableI.det _, StableI.det _, StableI.det _, StableI.det _, StableI.det _, StableI.det _, StableI.det _, StableI.det _, StableI.det _, trivial⟩) ⟨?_, ?_, ?_, ?_, ?_, ?_, ?_, ?_, ?_, ?_, ?_, trivial⟩ ?_
        ·exact fun _ _ h => os rfl ((yl_move rfl (h.old 6 _ rfl rfl) kI))
        ·exact fun _ _ h => os rfl ((yl_move rfl (h.dt 0 42 rfl rfl rfl) kI))
        ·exact fun _ _ h => OpR.want rfl rfl (h.dt 1 43 rfl rfl rfl) hb56 (Yl.sameI (yl_move rfl (h.old 0 _ rfl rfl) kI))
        ·exact fun _ _ h => OpR.want rfl rfl (h.dt 1 43 rfl rfl rfl) hb56 (Yl.sameI (yl_move rfl (h.old 5 _ rfl rfl) kI))
        ·intro L169 w170 hi171
         have hE172 := hi171.ex
         have hE172z := Ex.size hE172
         exact OpR.want rfl rfl (hi171.dt 1 43 rfl rfl rfl) hb56 (Yl.sameI (yl_sindexN Tryd.un9 (a := p_s) rfl (hi171.dt 2 44 rfl rfl rfl) (hi171.dt 3 45 rfl rfl rfl) (by first | omega | assumption | (simp only [IntKind.wrap_i64] at *; omega)) kI))
        ·exact fun _ _ h => OpR.want rfl rfl (h.dt 1 43 rfl rfl rfl) hb56 (Yl.sameI (yl_move rfl (h.old 1 _ rfl rfl) kI))
        ·exact fun _ _ h => OpR.want rfl rfl (h.dt 1 43 rfl rfl rfl) hb56 (Yl.sameI (yl_move rfl (h.old 7 _ rfl rfl) kI))
        ·intro L188 w189 hi190
         have hE191 := hi190.ex
         have hE191z := Ex.size hE191
         exact OpR.want rfl rfl (hi190.dt 1 43 rfl rfl rfl) hb56 (Yl.sameI (yl_sindexN Tryd.un9 (a := p_more) rfl (hi190.dt 5 47 rfl rfl rfl) (hi190.dt 6 48 rfl rfl rfl) (by first | omega | assumption | (simp only [IntKind.wrap_i64] at *; omega)) kI))
        ·exact fun _ _ h => OpR.want rfl rfl (h.dt 1 43 rfl rfl rfl) hb56 (Yl.sameI (yl_eql rfl (h.dt 4 46 rfl rfl rfl) (h.dt 7 49 rfl rfl rfl) kI))
        ·exact fun _ _ h => os rfl ((yl_pick_f rfl (h.dt 1 43 rfl rfl rfl) hb56 (h.dt 8 50 rfl rfl rfl) kI))
        ·exact fun _ _ h => os rfl ((yl_assign rfl (h.dt 9 51 rfl rfl rfl) kI))
        ·intro fl216 fh217 L213 w214 hp215
         have hE218 := hp215.ex
         have hE218z := Ex.size hE218
         refine SeqR.done (bn (tn (CW.sub (Sub.cons (d := 0) (hp215.old 0 _ rfl rfl) (Sub.cons (d := 1) (hp215.old 1 _ rfl rfl) (Sub.cons (d := 5) (hp215.old 5 _ rfl rfl) (Sub.cons (d := 6) (hp215.nt 10 6 rfl rfl rfl) (Sub.cons (d := 7) (hp215.old 7 _ rfl rfl) (Sub.cons (d := 19) (hp215.old 19 _ rfl rfl) (Sub.cons (d := 20) (hp215.old 20 _ rfl rfl) (Sub.cons (d := 21) (hp215.old 21 _ rfl rfl) (Sub.cons (d := 22) (hp215.old 22 _ rfl rfl) (Sub.cons (d := 25) (hp215.old 25 _ rfl rfl) (Sub.cons (d := 26) (hp215.old 26 _ rfl rfl) (Sub.cons (d := 27) (hp215.old 27 _ rfl rfl) (Sub.cons (d := 28) (hp215.old 28 _ rfl rfl) (Sub.cons (d := 29) (hp215.old 29 _ rfl rfl) (Sub.cons (d := 30) (hp215.old 30 _ rfl rfl) (Sub.cons (d := 31) (hp215.old 31 _ rfl rfl) (Sub.cons (d := 32) (hp215.old 32 _ rfl rfl) (Sub.cons (d := 33) (hp215.old 33 _ rfl rfl) (Sub.cons (d := 34) (hp215.old 34 _ rfl rfl) (Sub.cons (d := 44) (hp215.nt 2 44 rfl rfl rfl) (Sub.cons (d := 45) (hp215.nt 3 45 rfl rfl rfl) (Sub.cons (d := 46) (hp215.nt 4 46 rfl rfl rfl) (Sub.cons (d := 47) (hp215.nt 5 47 rfl rfl rfl) (Sub.cons (d := 48) (hp215.nt 6 48 rfl rfl rfl) (Sub.cons (d := 49) (hp215.nt 7 49 rfl rfl rfl) (Sub.cons (d := 50) (hp215.nt 8 50 rfl rfl rfl) (Sub.nil _))))))))))))))))))))))))))) (CW.region (sd rfl (yl_move rfl rfl (sd rfl (yl_inc rfl rfl rfl (by omega) (sd rfl (yl_assign rfl rfl (SeqR.done ?_)))))))))))
         refine tn ?_
         have hB245 : B_s_l3Bytes_1 p_s p_more k5 k23 (x24) = .cont (decide (((p_s.getD k5 0).toNat : Int) = ((p_more.getD k23 0).toNat : Int))) := by simp only [B_s_l3Bytes_1, hb21, hb22, hb56, cond_true, cond_false, loopE_done, loopE_ret]
         exact ⟨p_more.length - (k23 + 1), by omega, k23 + 1, decide (((p_s.getD k5 0).toNat : Int) = ((p_more.getD k23 0).toNat : Int)), rfl, hlt55, (by omega), rfl, rfl, rfl, rfl, rfl, rfl, rfl, rfl, rfl, rfl, rfl, rfl, rfl, rfl, rfl, rfl, rfl, rfl, rfl, (Ex.trans hf53 hE218), (loopM.cont hlt55 hB245).symm.trans hI32⟩
      ·refine CW.seq (CW.seq (CW.region (sd rfl (yl_move rfl rfl (sd rfl (yl_move rfl rfl (sd rfl (yl_slen Tryd.un9 (a := p_more) rfl rfl (sd rfl (yl_lss rfl rfl rfl (SeqR.done (tn ?_))))))))))))
       refine CW.cond_f rfl (lt_f hlt55) (CW.exit (tx (tx ?_)))
       have hL247 : loopM (B_s_l3Bytes_1 p_s p_more k5) (p_more.length - 0) 0 (true) = .done (x24) := hI32.symm.trans (loopM.stop hlt55)
       refine bx (tn (CW.seq (CW.region (sd rfl (yl_move rfl rfl (sd rfl (yl_not rfl rfl (SeqR.done (tn (bcase (x24) (fun hb248 => ?_) (fun hb248 => ?_)))))))))))
       ·refine CW.cond_f rfl (not_t hb248) (CW.skip (bn (tn (CW.region (sd rfl (yl_move rfl rfl (sd rfl (yl_inc rfl rfl rfl (by omega) (sd rfl (yl_assign rfl rfl (SeqR.done ?_)))))))))))
        refine tn ?_
        have hB249 : B_s_l3Bytes_0 p_s p_more k5 () = .cont () := by simp only [B_s_l3Bytes_0, hb21, hb22, hb248, hL247, cond_true, cond_false, loopE_done, loopE_ret]
        exact ⟨p_s.length - (k5 + 1), by omega, k5 + 1, rfl, hlt20, (by omega), rfl, rfl, rfl, hf53, (loopM.cont hlt20 hB249).symm.trans hI13⟩
       ·refine CW.cond_t rfl (not_f hb248) (CW.seq (CW.region (sd rfl (yl_assign rfl rfl (SeqR.done (tn (CW.ret (br (tr ?_)))))))))
        refine tr ?_
        have hB251 : B_s_l3Bytes_0 p_s p_more k5 () = .ret false := by simp only [B_s_l3Bytes_0, hb21, hb22, hb248, hL247, cond_true, cond_false, loopE_done, loopE_ret]
        have hL250 : loopM (B_s_l3Bytes_0 p_s p_more) (p_s.length - 0) 0 () = .ret false := hI13.symm.trans (loopM.ret hlt20 hB251)
        refine br (tr (rr rfl (.cons rfl .nil) ?_))
        have hM252 : (s_l3Bytes p_s p_more) = (false) := by simp only [s_l3Bytes, hb21, hb22, hb248, hL247, hL250, cond_true, cond_false, loopE_done, loopE_ret]
        rw [hM252]
        exact ⟨rfl, hf53⟩
    ·have hb22p := dec_f hb22
     refine sy rfl rfl hb22 (yl_move rfl rfl (sy rfl rfl hb22 (yl_move rfl rfl (sy rfl rfl hb22 (yl_sindexN Tryd.un9 (a := p_s) rfl rfl rfl (by first | omega | assumption | (simp only [IntKind.wrap_i64] at *; omega)) (sy rfl rfl hb22 (yl_geq rfl rfl rfl (sy rfl rfl hb22 (yl_move rfl rfl (bcase (decide (48 ≤ ((p_s.getD k5 0).toNat : Int))) (fun hb253 => ?_) (fun hb253 => ?_)))))))))))
     ·have hb253p := dec_t hb253
      refine sy rfl rfl hb253 (yl_move rfl rfl (sy rfl rfl hb253 (yl_move rfl rfl (sy rfl rfl hb253 (yl_sindexN Tryd.un9 (a := p_s) rfl rfl rfl (by first | omega | assumption | (simp only [IntKind.wrap_i64] at *; omega)) (sy rfl rfl hb253 (yl_leq rfl rfl rfl (sy rfl rfl hb22 (yl_pick_t rfl rfl hb253 rfl (sd rfl (yl_pick_f rfl rfl hb22 rfl (sd rfl (yl_assign rfl rfl (SeqR.done (tn ?_)))))))))))))))
      refine CW.seq (CW.seq (CW.region (sd rfl (yl_assign rfl rfl (SeqR.done (tn (CW.block (CW.loop (fun m256 L257 w258 => ∃ (k254 : Nat) (x255 : Bool), m256 = p_more.length - k254 ∧ k254 ≤ p_more.length ∧ w11.heap.size ≤ w258.heap.size ∧ lkp L257 0 = some (.string (bs (p_s))) ∧ lkp L257 1 = some (.string (bs (p_more))) ∧ lkp L257 5 = some (.int .i64 ((k5 : Int))) ∧ lkp L257 6 = some (.bool (x255)) ∧ lkp L257 7 = some (.int .i64 ((k254 : Int))) ∧ lkp L257 19 = some (.string (bs (p_s))) ∧ lkp L257 20 = some (.int .i64 ((k5 : Int))) ∧ lkp L257 21 = some (.int .u8 (((p_s.getD k5 0).toNat : Int))) ∧ lkp L257 22 = some (.bool (decide (((p_s.getD k5 0).toNat : Int) ≤ 122))) ∧ lkp L257 25 = some (.string (bs (p_s))) ∧ lkp L257 26 = some (.int .i64 ((k5 : Int))) ∧ lkp L257 27 = some (.int .u8 (((p_s.getD k5 0).toNat : Int))) ∧ lkp L257 28 = some (.bool (decide (48 ≤ ((p_s.getD k5 0).toNat : Int)))) ∧ lkp L257 29 = some (.bool (decide (48 ≤ ((p_s.getD k5 0).toNat : Int)))) ∧ lkp L257 30 = some (.string (bs (p_s))) ∧ lkp L257 31 = some (.int .i64 ((k5 : Int))) ∧ lkp L257 32 = some (.int .u8 (((p_s.getD k5 0).toNat : Int))) ∧ lkp L257 33 = some (.bool (decide (((p_s.getD k5 0).toNat : Int) ≤ 57))) ∧ lkp L257 34 = some (.bool (decide (((p_s.getD k5 0).toNat : Int) ≤ 57))) ∧ Ex w w258 ∧ loopM (B_s_l3Bytes_1 p_s p_more k5) (p_more.length - k254) k254 (x255) = loopM (B_s_l3Bytes_1 p_s p_more k5) (p_more.length - 0) 0 (decide (((p_s.getD k5 0).toNat : Int) ≤ 57))) (p_more.length - 0) ?_ ?_))))))))
      ·exact ⟨0, decide (((p_s.getD k5 0).toNat : Int) ≤ 57), rfl, (by omega), Nat.le_refl _, rfl, rfl, rfl, rfl, rfl, rfl, rfl, rfl, rfl, rfl, rfl, rfl, rfl, rfl, rfl, rfl, rfl, rfl, rfl, hf18, rfl⟩
      ·rintro m259 L260 w261 ⟨k254, x255, rfl, hk262, hsz264, hl265, hl266, hl267, hl268, hl269, hl270, hl271, hl272, hl273, hl274, hl275, hl276, hl277, hl278, hl279, hl280, hl281, hl282, hl283, hf284, hI263⟩
       refine CW.sub (Sub.cons hl265 (Sub.cons hl266 (Sub.cons hl267 (Sub.cons hl268 (Sub.cons hl269 (Sub.cons hl270 (Sub.cons hl271 (Sub.cons hl272 (Sub.cons hl273 (Sub.cons hl274 (Sub.cons hl275 (Sub.cons hl276 (Sub.cons hl277 (Sub.cons hl278 (Sub.cons hl279 (Sub.cons hl280 (Sub.cons hl281 (Sub.cons hl282 (Sub.cons hl283 (Sub.nil _)))))))))))))))))))) ?_
       have hf284z := Ex.size hf284
       have hbg285 : p_more.length ≤ 1073741824 := o2
       rcases Nat.lt_or_ge k254 p_more.length with hlt286 | hlt286
       ·refine CW.seq (CW.seq (CW.region (sd rfl (yl_move rfl rfl (sd rfl (yl_move rfl rfl (sd rfl (yl_slen Tryd.un9 (a := p_more) rfl rfl (sd rfl (yl_lss rfl rfl rfl (SeqR.done (tn ?_))))))))))))
        refine CW.cond_t rfl (lt_t hlt286) (CW.skip (tn (CW.seq (CW.block (bcase (x255) (fun hb287 => ?_) (fun hb287 => ?_))))))
        ·refine CW.drawsI 11 (vgetI [DetI (.bool (x255)), DetI (.bool (x255)), DetI (undef), DetI (undef), DetI (undef), DetI (undef), DetI (undef), DetI (undef), DetI (undef), DetI (.bool (true)), DetI (.bool (true))]) Tryd.follows rfl rfl rfl rfl rfl rfl (vgetI_stable ⟨StableI.det _, StableI.det _, StableI.det _, StableI.det _, StableI.det _, StableI.det _, StableI.det _, StableI.det _, StableI.det _, StableI.det _, StableI.det _, trivial⟩) ⟨?_, ?_, ?_, ?_, ?_, ?_, ?_, ?_, ?_, ?_, ?_, trivial⟩ ?_
         ·exact fun _ _ h => os rfl ((yl_move rfl (h.old 6 _ rfl rfl) kI))
         ·exact fun _ _ h => os rfl ((yl_move rfl (h.dt 0 42 rfl rfl rfl) kI))
         ·exact fun _ _ h => OpR.skip rfl rfl (h.dt 1 43 rfl rfl rfl) hb287 ⟨rfl, Ex.refl _⟩
         ·exact fun _ _ h => OpR.skip rfl rfl (h.dt 1 43 rfl rfl rfl) hb287 ⟨rfl, Ex.refl _⟩
         ·exact fun _ _ h => OpR.skip rfl rfl (h.dt 1 43 rfl rfl rfl) hb287 ⟨rfl, Ex.refl _⟩
         ·exact fun _ _ h => OpR.skip rfl rfl (h.dt 1 43 rfl rfl rfl) hb287 ⟨rfl, Ex.refl _⟩
         ·exact fun _ _ h => OpR.skip rfl rfl (h.dt 1 43 rfl rfl rfl) hb287 ⟨rfl, Ex.refl _⟩
         ·exact fun _ _ h => OpR.skip rfl rfl (h.dt 1 43 rfl rfl rfl) hb287 ⟨rfl, Ex.refl _⟩
         ·exact fun _ _ h => OpR.skip rfl rfl (h.dt 1 43 rfl rfl rfl) hb287 ⟨rfl, Ex.refl _⟩
         ·exact fun _ _ h => os rfl ((yl_pick_t rfl (h.dt 1 43 rfl rfl rfl) hb287 rfl kI))
         ·exact fun _ _ h => os rfl ((yl_assign rfl (h.dt 9 51 rfl rfl rfl) kI))
         ·intro fl347 fh348 L344 w345 hp346
          have hE349 := hp346.ex
          have hE349z := Ex.size hE349
          refine SeqR.done (bn (tn (CW.sub (Sub.cons (d := 0) (hp346.old 0 _ rfl rfl) (Sub.cons (d := 1) (hp346.old 1 _ rfl rfl) (Sub.cons (d := 5) (hp346.old 5 _ rfl rfl) (Sub.cons (d := 6) (hp346.nt 10 6 rfl rfl rfl) (Sub.cons (d := 7) (hp346.old 7 _ rfl rfl) (Sub.cons (d := 19) (hp346.old 19 _ rfl rfl) (Sub.cons (d := 20) (hp346.old 20 _ rfl rfl) (Sub.cons (d := 21) (hp346.old 21 _ rfl rfl) (Sub.cons (d := 22) (hp346.old 22 _ rfl rfl) (Sub.cons (d := 25) (hp346.old 25 _ rfl rfl) (Sub.cons (d := 26) (hp346.old 26 _ rfl rfl) (Sub.cons (d := 27) (hp346.old 27 _ rfl rfl) (Sub.cons (d := 28) (hp346.old 28 _ rfl rfl) (Sub.cons (d := 29) (hp346.old 29 _ rfl rfl) (Sub.cons (d := 30) (hp346.old 30 _ rfl rfl) (Sub.cons (d := 31) (hp346.old 31 _ rfl rfl) (Sub.cons (d := 32) (hp346.old 32 _ rfl rfl) (Sub.cons (d := 33) (hp346.old 33 _ rfl rfl) (Sub.cons (d := 34) (hp346.old 34 _ rfl rfl) (Sub.cons (d := 44) (hp346.nt 2 44 rfl rfl rfl) (Sub.cons (d := 45) (hp346.nt 3 45 rfl rfl rfl) (Sub.cons (d := 46) (hp346.nt 4 46 rfl rfl rfl) (Sub.cons (d := 47) (hp346.nt 5 47 rfl rfl rfl) (Sub.cons (d := 48) (hp346.nt 6 48 rfl rfl rfl) (Sub.cons (d := 49) (hp346.nt 7 49 rfl rfl rfl) (Sub.cons (d := 50) (hp346.nt 8 50 rfl rfl rfl) (Sub.nil _))))))))))))))))))))))))))) (CW.region (sd rfl (yl_move rfl rfl (sd rfl (yl_inc rfl rfl rfl (by omega) (sd rfl (yl_assign rfl rfl (SeqR.done ?_)))))))))))
          refine tn ?_
          have hB376 : B_s_l3Bytes_1 p_s p_more k5 k254 (x255) = .cont (true) := by simp only [B_s_l3Bytes_1, hb21, hb22, hb253, hb287, cond_true, cond_false, loopE_done, loopE_ret]
          exact ⟨p_more.length - (k254 + 1), by omega, k254 + 1, true, rfl, hlt286, (by omega), rfl, rfl, rfl, rfl, rfl, rfl, rfl, rfl, rfl, rfl, rfl, rfl, rfl, rfl, rfl, rfl, rfl, rfl, rfl, (Ex.trans hf284 hE349), (loopM.cont hlt286 hB376).symm.trans hI263⟩
        ·refine CW.drawsI 11 (vgetI [DetI (.bool (x255)), DetI (.bool (x255)), DetI (.string (bs (p_s))), DetI (.int .i64 ((k5 : Int))), DetI (.int .u8 (((p_s.getD k5 0).toNat : Int))), DetI (.string (bs (p_more))), DetI (.int .i64 ((k254 : Int))), DetI (.int .u8 (((p_more.getD k254 0).toNat : Int))), DetI (.bool (decide (((p_s.getD k5 0).toNat : Int) = ((p_more.getD k254 0).toNat : Int)))), DetI (.bool (decide (((p_s.getD k5 0).toNat : Int) = ((p_more.getD k254 0).toNat : Int)))), DetI (.bool (decide (((p_s.getD k5 0).toNat : Int) = ((p_more.getD k254 0).toNat : Int))))]) Tryd.follows rfl rfl rfl rfl rfl rfl (vgetI_stable ⟨StableI.det _, StableI.det _, StableI.det _, StableI.det _, StableI.det _, StableI.det _, StableI.det _, StableI.det _, StableI.det _, StableI.det _, StableI.det _, trivial⟩) ⟨?_, ?_, ?_, ?_, ?_, ?_, ?_, ?_, ?_, ?_, ?_, trivial⟩ ?_
         ·exact fun _ _ h => os rfl ((yl_move rfl (h.old 6 _ rfl rfl) kI))
         ·exact fun _ _ h => os rfl ((yl_move rfl (h.dt 0 42 rfl rfl rfl) kI))
         ·exact fun _ _ h => OpR.want rfl rfl (h.dt 1 43 rfl rfl rfl) hb287 (Yl.sameI (yl_move rfl (h.old 0 _ rfl rfl) kI))
         ·exact fun _ _ h => OpR.want rfl rfl (h.dt 1 43 rfl rfl rfl) hb287 (Yl.sameI (yl_move rfl (h.old 5 _ rfl rfl) kI))
         ·intro L400 w401 hi402
          have hE403 := hi402.ex
          have hE403z := Ex.size hE403
          exact OpR.want rfl rfl (hi402.dt 1 43 rfl rfl rfl) hb287 (Yl.sameI (yl_sindexN Tryd.un9 (a := p_s) rfl (hi402.dt 2 44 rfl rfl rfl) (hi402.dt 3 45 rfl rfl rfl) (by first | omega | assumption | (simp only [IntKind.wrap_i64] at *; omega)) kI))
         ·exact fun _ _ h => OpR.want rfl rfl (h.dt 1 43 rfl rfl rfl) hb287 (Yl.sameI (yl_move rfl (h.old 1 _ rfl rfl) kI))
         ·exact fun _ _ h => OpR.want rfl rfl (h.dt 1 43 rfl rfl rfl) hb287 (Yl.sameI (yl_move rfl (h.old 7 _ rfl rfl) kI))
         ·intro L419 w420 hi421
          have hE422 := hi421.ex
          have hE422z := Ex.size hE422
          exact OpR.want rfl rfl (hi421.dt 1 43 rfl rfl rfl) hb287 (Yl.sameI (yl_sindexN Tryd.un9 (a := p_more) rfl (hi421.dt 5 47 rfl rfl rfl) (hi421.dt 6 48 rfl rfl rfl) (by first | omega | assumption | (simp only [IntKind.wrap_i64] at *; omega)) kI))
         ·exact fun _ _ h => OpR.want rfl rfl (h.dt 1 43 rfl rfl rfl) hb287 (Yl.sameI (yl_eql rfl (h.dt 4 46 rfl rfl rfl) (h.dt 7 49 rfl rfl rfl) kI))
         ·exact fun _ _ h => os rfl ((yl_pick_f rfl (h.dt 1 43 rfl rfl rfl) hb287 (h.dt 8 50 rfl rfl rfl) kI))
         ·exact fun _ _ h => os rfl ((yl_assign rfl (h.dt 9 51 rfl rfl rfl) kI))
         ·intro fl447 fh448 L444 w445 hp446
          have hE449 := hp446.ex
          have hE449z := Ex.size hE449
          refine SeqR.done (bn (tn (CW.sub (Sub.cons (d := 0) (hp446.old 0 _ rfl rfl) (Sub.cons (d := 1) (hp446.old 1 _ rfl rfl) (Sub.cons (d := 5) (hp446.old 5 _ rfl rfl) (Sub.cons (d := 6) (hp446.nt 10 6 rfl rfl rfl) (Sub.cons (d := 7) (hp446.old 7 _ rfl rfl) (Sub.cons (d := 19) (hp446.old 19 _ rfl rfl) (Sub.cons (d := 20) (hp446.old 20 _ rfl rfl) (Sub.cons (d := 21) (hp446.old 21 _ rfl rfl) (Sub.cons (d := 22) (hp446.old 22 _ rfl rfl) (Sub.cons (d := 25) (hp446.old 25 _ rfl rfl) (Sub.cons (d := 26) (hp446.old 26 _ rfl rfl) (Sub.cons (d := 27) (hp446.old 27 _ rfl rfl) (Sub.cons (d := 28) (hp446.old 28 _ rfl rfl) (Sub.cons (d := 29) (hp446.old 29 _ rfl rfl) (Sub.cons (d := 30) (hp446.old 30 _ rfl rfl) (Sub.cons (d := 31) (hp446.old 31 _ rfl rfl) (Sub.cons (d := 32) (hp446.old 32 _ rfl rfl) (Sub.cons (d := 33) (hp446.old 33 _ rfl rfl) (Sub.cons (d := 34) (hp446.old 34 _ rfl rfl) (Sub.cons (d := 44) (hp446.nt 2 44 rfl rfl rfl) (Sub.cons (d := 45) (hp446.nt 3 45 rfl rfl rfl) (Sub.cons (d := 46) (hp446.nt 4 46 rfl rfl rfl) (Sub.cons (d := 47) (hp446.nt 5 47 rfl rfl rfl) (Sub.cons (d := 48) (hp446.nt 6 48 rfl rfl rfl) (Sub.cons (d := 49) (hp446.nt 7 49 rfl rfl rfl) (Sub.cons (d := 50) (hp446.nt 8 50 rfl rfl rfl) (Sub.nil _))))))))))))))))))))))))))) (CW.region (sd rfl (yl_move rfl rfl (sd rfl (yl_inc rfl rfl rfl (by omega) (sd rfl (yl_assign rfl rfl (SeqR.done ?_)))))))))))
          refine tn ?_
          have hB476 : B_s_l3Bytes_1 p_s p_more k5 k254 (x255) = .cont (decide (((p_s.getD k5 0).toNat : Int) = ((p_more.getD k254 0).toNat : Int))) := by simp only [B_s_l3Bytes_1, hb21, hb22, hb253, hb287, cond_true, cond_false, loopE_done, loopE_ret]
          exact ⟨p_more.length - (k254 + 1), by omega, k254 + 1, decide (((p_s.getD k5 0).toNat : Int) = ((p_more.getD k254 0).toNat : Int)), rfl, hlt286, (by omega), rfl, rfl, rfl, rfl, rfl, rfl, rfl, rfl, rfl, rfl, rfl, rfl, rfl, rfl, rfl, rfl, rfl, rfl, rfl, (Ex.trans hf284 hE449), (loopM.cont hlt286 hB476).symm.trans hI263⟩
       ·refine CW.seq (CW.seq (CW.region (sd rfl (yl_move rfl rfl (sd rfl (yl_move rfl rfl (sd rfl (yl_slen Tryd.un9 (a := p_more) rfl rfl (sd rfl (yl_lss rfl rfl rfl (SeqR.done (tn ?_))))))))))))
        refine CW.cond_f rfl (lt_f hlt286) (CW.exit (tx (tx ?_)))
        have hL478 : loopM (B_s_l3Bytes_1 p_s p_more k5) (p_more.length - 0) 0 (decide (((p_s.getD k5 0).toNat : Int) ≤ 57)) = .done (x255) := hI263.symm.trans (loopM.stop hlt286)
        refine bx (tn (CW.seq (CW.region (sd rfl (yl_move rfl rfl (sd rfl (yl_not rfl rfl (SeqR.done (tn (bcase (x255) (fun hb479 => ?_) (fun hb479 => ?_)))))))))))
        ·refine CW.cond_f rfl (not_t hb479) (CW.skip (bn (tn (CW.region (sd rfl (yl_move rfl rfl (sd rfl (yl_inc rfl rfl rfl (by omega) (sd rfl (yl_assign rfl rfl (SeqR.done ?_)))))))))))
         refine tn ?_
         have hB480 : B_s_l3Bytes_0 p_s p_more k5 () = .cont () := by simp only [B_s_l3Bytes_0, hb21, hb22, hb253, hb479, hL478, cond_true, cond_false, loopE_done, loopE_ret]
         exact ⟨p_s.length - (k5 + 1), by omega, k5 + 1, rfl, hlt20, (by omega), rfl, rfl, rfl, hf284, (loopM.cont hlt20 hB480).symm.trans hI13⟩
        ·refine CW.cond_t rfl (not_f hb479) (CW.seq (CW.region (sd rfl (yl_assign rfl rfl (SeqR.done (tn (CW.ret (br (tr ?_)))))))))
         refine tr ?_
         have hB482 : B_s_l3Bytes_0 p_s p_more k5 () = .ret false := by simp only [B_s_l3Bytes_0, hb21, hb22, hb253, hb479, hL478, cond_true, cond_false, loopE_done, loopE_ret]
         have hL481 : loopM (B_s_l3Bytes_0 p_s p_more) (p_s.length - 0) 0 () = .ret false := hI13.symm.trans (loopM.ret hlt20 hB482)
         refine br (tr (rr rfl (.cons rfl .nil) ?_))
         have hM483 : (s_l3Bytes p_s p_more) = (false) := by simp only [s_l3Bytes, hb21, hb22, hb253, hb479, hL478, hL481, cond_true, cond_false, loopE_done, loopE_ret]
         rw [hM483]
         exact ⟨rfl, hf284⟩
     ·have hb253p := dec_f hb253
      refine sz rfl rfl hb253 (sz rfl rfl hb253 (sz rfl rfl hb253 (sz rfl rfl hb253 (sy rfl rfl hb22 (yl_pick_f rfl rfl hb253 rfl (sd rfl (yl_pick_f rfl rfl hb22 rfl (sd rfl (yl_assign rfl rfl (SeqR.done (tn ?_)))))))))))
      refine CW.seq (CW.seq (CW.region (sd rfl (yl_assign rfl rfl (SeqR.done (tn (CW.block (CW.loop (fun m486 L487 w488 => ∃ (k484 : Nat) (x485 : Bool), m486 = p_more.length - k484 ∧ k484 ≤ p_more.length ∧ w11.heap.size ≤ w488.heap.size ∧ lkp L487 0 = some (.string (bs (p_s))) ∧ lkp L487 1 = some (.string (bs (p_more))) ∧ lkp L487 5 = some (.int .i64 ((k5 : Int))) ∧ lkp L487 6 = some (.bool (x485)) ∧ lkp L487 7 = some (.int .i64 ((k484 : Int))) ∧ lkp L487 19 = some (.string (bs (p_s))) ∧ lkp L487 20 = some (.int .i64 ((k5 : Int))) ∧ lkp L487 21 = some (.int .u8 (((p_s.getD k5 0).toNat : Int))) ∧ lkp L487 22 = some (.bool (decide (((p_s.getD k5 0).toNat : Int) ≤ 122))) ∧ lkp L487 25 = some (.string (bs (p_s))) ∧ lkp L487 26 = some (.int .i64 ((k5 : Int))) ∧ lkp L487 27 = some (.int .u8 (((p_s.getD k5 0).toNat : Int))) ∧ lkp L487 28 = some (.bool (decide (48 ≤ ((p_s.getD k5 0).toNat : Int)))) ∧ lkp L487 29 = some (.bool (decide (48 ≤ ((p_s.getD k5 0).toNat : Int)))) ∧ lkp L487 30 = some (undef) ∧ lkp L487 31 = some (undef) ∧ lkp L487 32 = some (undef) ∧ lkp L487 33 = some (undef) ∧ lkp L487 34 = some (.bool (false)) ∧ Ex w w488 ∧ loopM (B_s_l3Bytes_1 p_s p_more k5) (p_more.length - k484) k484 (x485) = loopM (B_s_l3Bytes_1 p_s p_more k5) (p_more.length - 0) 0 (false)) (p_more.length - 0) ?_ ?_))))))))
      ·exact ⟨0, false, rfl, (by omega), Nat.le_refl _, rfl, rfl, rfl, rfl, rfl, rfl, rfl, rfl, rfl, rfl, rfl, rfl, rfl, rfl, rfl, rfl, rfl, rfl, rfl, hf18, rfl⟩
      ·rintro m489 L490 w491 ⟨k484, x485, rfl, hk492, hsz494, hl495, hl496, hl497, hl498, hl499, hl500, hl501, hl502, hl503, hl504, hl505, hl506, hl507, hl508, hl509, hl510, hl511, hl512, hl513, hf514, hI493⟩
       refine CW.sub (Sub.cons hl495 (Sub.cons hl496 (Sub.cons hl497 (Sub.cons hl498 (Sub.cons hl499 (Sub.cons hl500 (Sub.cons hl501 (Sub.cons hl502 (Sub.cons hl503 (Sub.cons hl504 (Sub.cons hl505 (Sub.cons hl506 (Sub.cons hl507 (Sub.cons hl508 (Sub.cons hl509 (Sub.cons hl510 (Sub.cons hl511 (Sub.cons hl512 (Sub.cons hl513 (Sub.nil _)))))))))))))))))))) ?_
       have hf514z := Ex.size hf514
       have hbg515 : p_more.length ≤ 1073741824 := o2
       rcases Nat.lt_or_ge k484 p_more.length with hlt516 | hlt516
       ·refine CW.seq (CW.seq (CW.region (sd rfl (yl_move rfl rfl (sd rfl (yl_move rfl rfl (sd rfl (yl_slen Tryd.un9 (a := p_more) rfl rfl (sd rfl (yl_lss rfl rfl rfl (SeqR.done (tn ?_))))))))))))
        refine CW.cond_t rfl (lt_t hlt516) (CW.skip (tn (CW.seq (CW.block (bcase (x485) (fun hb517 => ?_) (fun hb517 => ?_))))))
        ·refine CW.drawsI 11 (vgetI [DetI (.bool (x485)), DetI (.bool (x485)), DetI (undef), DetI (undef), DetI (undef), DetI (undef), DetI (undef), DetI (undef), DetI (undef), DetI (.bool (true)), DetI (.bool (true))]) Tryd.follows rfl rfl rfl rfl rfl rfl (vgetI_stable ⟨StableI.det _, StableI.det _, StableI.det _, StableI.det _, StableI.det _, StableI.det _, StableI.det _, StableI.det _, StableI.det _, StableI.det _, StableI.det _, trivial⟩) ⟨?_, ?_, ?_, ?_, ?_, ?_, ?_, ?_, ?_, ?_, ?_, trivial⟩ ?_
         ·exact fun _ _ h => os rfl ((yl_move rfl (h.old 6 _ rfl rfl) kI))
         ·exact fun _ _ h => os rfl ((yl_move rfl (h.dt 0 42 rfl rfl rfl) kI))
         ·exact fun _ _ h => OpR.skip rfl rfl (h.dt 1 43 rfl rfl rfl) hb517 ⟨rfl, Ex.refl _⟩
         ·exact fun _ _ h => OpR.skip rfl rfl (h.dt 1 43 rfl rfl rfl) hb517 ⟨rfl, Ex.refl _⟩
         ·exact fun _ _ h => OpR.skip rfl rfl (h.dt 1 43 rfl rfl rfl) hb517 ⟨rfl, Ex.refl _⟩
         ·exact fun _ _ h => OpR.skip rfl rfl (h.dt 1 43 rfl rfl rfl) hb517 ⟨rfl, Ex.refl _⟩
         ·exact fun _ _ h => OpR.skip rfl rfl (h.dt 1 43 rfl rfl rfl) hb517 ⟨rfl, Ex.refl _⟩
         ·exact fun _ _ h => OpR.skip rfl rfl (h.dt 1 43 rfl rfl rfl) hb517 ⟨rfl, Ex.refl _⟩
         ·exact fun _ _ h => OpR.skip rfl rfl (h.dt 1 43 rfl rfl rfl) hb517 ⟨rfl, Ex.refl _⟩
         ·exact fun _ _ h => os rfl ((yl_pick_t rfl (h.dt 1 43 rfl rfl rfl) hb517 rfl kI))
         ·exact fun _ _ h => os rfl ((yl_assign rfl (h.dt 9 51 rfl rfl rfl) kI))
         ·intro fl577 fh578 L574 w575 hp576
          have hE579 := hp576.ex
          have hE579z := Ex.size hE579
          refine SeqR.done (bn (tn (CW.sub (Sub.cons (d := 0) (hp576.old 0 _ rfl rfl) (Sub.cons (d := 1) (hp576.old 1 _ rfl rfl) (Sub.cons (d := 5) (hp576.old 5 _ rfl rfl) (Sub.cons (d := 6) (hp576.nt 10 6 rfl rfl rfl) (Sub.cons (d := 7) (hp576.old 7 _ rfl rfl) (Sub.cons (d := 19) (hp576.old 19 _ rfl rfl) (Sub.cons (d := 20) (hp576.old 20 _ rfl rfl) (Sub.cons (d := 21) (hp576.old 21 _ rfl rfl) (Sub.cons (d := 22) (hp576.old 22 _ rfl rfl) (Sub.cons (d := 25) (hp576.old 25 _ rfl rfl) (Sub.cons (d := 26) (hp576.old 26 _ rfl rfl) (Sub.cons (d := 27) (hp576.old 27 _ rfl rfl) (Sub.cons (d := 28) (hp576.old 28 _ rfl rfl) (Sub.cons (d := 29) (hp576.old 29 _ rfl rfl) (Sub.cons (d := 30) (hp576.old 30 _ rfl rfl) (Sub.cons (d := 31) (hp576.old 31 _ rfl rfl) (Sub.cons (d := 32) (hp576.old 32 _ rfl rfl) (Sub.cons (d := 33) (hp576.old 33 _ rfl rfl) (Sub.cons (d := 34) (hp576.old 34 _ rfl rfl) (Sub.cons (d := 44) (hp576.nt 2 44 rfl rfl rfl) (Sub.cons (d := 45) (hp576.nt 3 45 rfl rfl rfl) (Sub.cons (d := 46) (hp576.nt 4 46 rfl rfl rfl) (Sub.cons (d := 47) (hp576.nt 5 47 rfl rfl rfl) (Sub.cons (d := 48) (hp576.nt 6 48 rfl rfl rfl) (Sub.cons (d := 49) (hp576.nt 7 49 rfl rfl rfl) (Sub.cons (d := 50) (hp576.nt 8 50 rfl rfl rfl) (Sub.nil _))))))))))))))))))))))))))) (CW.region (sd rfl (yl_move rfl rfl (sd rfl (yl_inc rfl rfl rfl (by omega) (sd rfl (yl_assign rfl rfl (SeqR.done ?_)))))))))))
          refine tn ?_
          have hB606 : B_s_l3Bytes_1 p_s p_more k5 k484 (x485) = .cont (true) := by simp only [B_s_l3Bytes_1, hb21, hb22, hb253, hb517, cond_true, cond_false, loopE_done, loopE_ret]
          exact ⟨p_more.length - (k484 + 1), by omega, k484 + 1, true, rfl, hlt516, (by omega), rfl, rfl, rfl, rfl, rfl, rfl, rfl, rfl, rfl, rfl, rfl, rfl, rfl, rfl, rfl, rfl, rfl, rfl, rfl, (Ex.trans hf514 hE579), (loopM.cont hlt516 hB606).symm.trans hI493⟩
        ·refine CW.drawsI 11 (vgetI [DetI (.bool (x485)), DetI (.bool (x485)), DetI (.string (bs (p_s))), DetI (.int .i64 ((k5 : Int))), DetI (.int .u8 (((p_s.getD k5 0).toNat : Int))), DetI (.string (bs (p_more))), DetI (.int .i64 ((k484 : Int))), DetI (.int .u8 (((p_more.getD k484 0).toNat : Int))), DetI (.bool (decide (((p_s.getD k5 0).toNat : Int) = ((p_more.getD k484 0).toNat : Int)))), DetI (.bool (decide (((p_s.getD k5 0).toNat : Int) = ((p_more.getD k484 0).toNat : Int)))), DetI (.bool (decide (((p_s.getD k5 0).toNat : Int) = ((p_more.getD k484 0).toNat : Int))))]) Tryd.follows rfl rfl rfl rfl rfl rfl (vgetI_stable ⟨StableI.det _, StableI.det _, StableI.det _, StableI.det _, StableI.det _, StableI.det _, StableI.det _, StableI.det _, StableI.det _, StableI.det _, StableI.det _, trivial⟩) ⟨?_, ?_, ?_, ?_, ?_, ?_, ?_, ?_, ?_, ?_, ?_, trivial⟩ ?_
         ·exact fun _ _ h => os rfl ((yl_move rfl (h.old 6 _ rfl rfl) kI))
         ·exact fun _ _ h => os rfl ((yl_move rfl (h.dt 0 42 rfl rfl rfl) kI))
         ·exact fun _ _ h => OpR.want rfl rfl (h.dt 1 43 rfl rfl rfl) hb517 (Yl.sameI (yl_move rfl (h.old 0 _ rfl rfl) kI))
         ·exact fun _ _ h => OpR.want rfl rfl (h.dt 1 43 rfl rfl rfl) hb517 (Yl.sameI (yl_move rfl (h.old 5 _ rfl rfl) kI))
         ·intro L630 w631 hi632
          have hE633 := hi632.ex
          have hE633z := Ex.size hE633
          exact OpR.want rfl rfl (hi632.dt 1 43 rfl rfl rfl) hb517 (Yl.sameI (yl_sindexN Tryd.un9 (a := p_s) rfl (hi632.dt 2 44 rfl rfl rfl) (hi632.dt 3 45 rfl rfl rfl) (by first | omega | assumption | (simp only [IntKind.wrap_i64] at *; omega)) kI))
         ·exact fun _ _ h => OpR.want rfl rfl (h.dt 1 43 rfl rfl rfl) hb517 (Yl.sameI (yl_move rfl (h.old 1 _ rfl rfl) kI))
         ·exact fun _ _ h => OpR.want rfl rfl (h.dt 1 43 rfl rfl rfl) hb517 (Yl.sameI (yl_move rfl (h.old 7 _ rfl rfl) kI))
         ·intro L649 w650 hi651
          have hE652 := hi651.ex
          have hE652z := Ex.size hE652
          exact OpR.want rfl rfl (hi651.dt 1 43 rfl rfl rfl) hb517 (Yl.sameI (yl_sindexN Tryd.un9 (a := p_more) rfl (hi651.dt 5 47 rfl rfl rfl) (hi651.dt 6 48 rfl rfl rfl) (by first | omega | assumption | (simp only [IntKind.wrap_i64] at *; omega)) kI))
         ·exact fun _ _ h => OpR.want rfl rfl (h.dt 1 43 rfl rfl rfl) hb517 (Yl.sameI (yl_eql rfl (h.dt 4 46 rfl rfl rfl) (h.dt 7 49 rfl rfl rfl) kI))
         ·exact fun _ _ h => os rfl ((yl_pick_f rfl (h.dt 1 43 rfl rfl rfl) hb517 (h.dt 8 50 rfl rfl rfl) kI))
         ·exact fun _ _ h => os rfl ((yl_assign rfl (h.dt 9 51 rfl rfl rfl) kI))
         ·intro fl677 fh678 L674 w675 hp676
          have hE679 := hp676.ex
          have hE679z := Ex.size hE679
          refine SeqR.done (bn (tn (CW.sub (Sub.cons (d := 0) (hp676.old 0 _ rfl rfl) (Sub.cons (d := 1) (hp676.old 1 _ rfl rfl) (Sub.cons (d := 5) (hp676.old 5 _ rfl rfl) (Sub.cons (d := 6) (hp676.nt 10 6 rfl rfl rfl) (Sub.cons (d := 7) (hp676.old 7 _ rfl rfl) (Sub.cons (d := 19) (hp676.old 19 _ rfl rfl) (Sub.cons (d := 20) (hp676.old 20 _ rfl rfl) (Sub.cons (d := 21) (hp676.old 21 _ rfl rfl) (Sub.cons (d := 22) (hp676.old 22 _ rfl rfl) (Sub.cons (d := 25) (hp676.old 25 _ rfl rfl) (Sub.cons (d := 26) (hp676.old 26 _ rfl rfl) (Sub.cons (d := 27) (hp676.old 27 _ rfl rfl) (Sub.cons (d := 28) (hp676.old 28 _ rfl rfl) (Sub.cons (d := 29) (hp676.old 29 _ rfl rfl) (Sub.cons (d := 30) (hp676.old 30 _ rfl rfl) (Sub.cons (d := 31) (hp676.old 31 _ rfl rfl) (Sub.cons (d := 32) (hp676.old 32 _ rfl rfl) (Sub.cons (d := 33) (hp676.old 33 _ rfl rfl) (Sub.cons (d := 34) (hp676.old 34 _ rfl rfl) (Sub.cons (d := 44) (hp676.nt 2 44 rfl rfl rfl) (Sub.cons (d := 45) (hp676.nt 3 45 rfl rfl rfl) (Sub.cons (d := 46) (hp676.nt 4 46 rfl rfl rfl) (Sub.cons (d := 47) (hp676.nt 5 47 rfl rfl rfl) (Sub.cons (d := 48) (hp676.nt 6 48 rfl rfl rfl) (Sub.cons (d := 49) (hp676.nt 7 49 rfl rfl rfl) (Sub.cons (d := 50) (hp676.nt 8 50 rfl rfl rfl) (Sub.nil _))))))))))))))))))))))))))) (CW.region (sd rfl (yl_move rfl rfl (sd rfl (yl_inc rfl rfl rfl (by omega) (sd rfl (yl_assign rfl rfl (SeqR.done ?_)))))))))))
          refine tn ?_
          have hB706 : B_s_l3Bytes_1 p_s p_more k5 k484 (x485) = .cont (decide (((p_s.getD k5 0).toNat : Int) = ((p_more.getD k484 0).toNat : Int))) := by simp only [B_s_l3Bytes_1, hb21, hb22, hb253, hb517, cond_true, cond_false, loopE_done, loopE_ret]
          exact ⟨p_more.length - (k484 + 1), by omega, k484 + 1, decide (((p_s.getD k5 0).toNat : Int) = ((p_more.getD k484 0).toNat : Int)), rfl, hlt516, (by omega), rfl, rfl, rfl, rfl, rfl, rfl, rfl, rfl, rfl, rfl, rfl, rfl, rfl, rfl, rfl, rfl, rfl, rfl, rfl, (Ex.trans hf514 hE679), (loopM.cont hlt516 hB706).symm.trans hI493⟩
       ·refine CW.seq (CW.seq (CW.region (sd rfl (yl_move rfl rfl (sd rfl (yl_move rfl rfl (sd rfl (yl_slen Tryd.un9 (a := p_more) rfl rfl (sd rfl (yl_lss rfl rfl rfl (SeqR.done (tn ?_))))))))))))
        refine CW.cond_f rfl (lt_f hlt516) (CW.exit (tx (tx ?_)))
        have hL708 : loopM (B_s_l3Bytes_1 p_s p_more k5) (p_more.length - 0) 0 (false) = .done (x485) := hI493.symm.trans (loopM.stop hlt516)
        refine bx (tn (CW.seq (CW.region (sd rfl (yl_move rfl rfl (sd rfl (yl_not rfl rfl (SeqR.done (tn (bcase (x485) (fun hb709 => ?_) (fun hb709 => ?_)))))))))))
        ·refine CW.cond_f rfl (not_t hb709) (CW.skip (bn (tn (CW.region (sd rfl (yl_move rfl rfl (sd rfl (yl_inc rfl rfl rfl (by omega) (sd rfl (yl_assign rfl rfl (SeqR.done ?_)))))))))))
         refine tn ?_
         have hB710 : B_s_l3Bytes_0 p_s p_more k5 () = .cont () := by simp only [B_s_l3Bytes_0, hb21, hb22, hb253, hb709, hL708, cond_true, cond_false, loopE_done, loopE_ret]
         exact ⟨p_s.length - (k5 + 1), by omega, k5 + 1, rfl, hlt20, (by omega), rfl, rfl, rfl, hf514, (loopM.cont hlt20 hB710).symm.trans hI13⟩
        ·refine CW.cond_t rfl (not_f hb709) (CW.seq (CW.region (sd rfl (yl_assign rfl rfl (SeqR.done (tn (CW.ret (br (tr ?_)))))))))
         refine tr ?_
         have hB712 : B_s_l3Bytes_0 p_s p_more k5 () = .ret false := by simp only [B_s_l3Bytes_0, hb21, hb22, hb253, hb709, hL708, cond_true, cond_false, loopE_done, loopE_ret]
         have hL711 : loopM (B_s_l3Bytes_0 p_s p_more) (p_s.length - 0) 0 () = .ret false := hI13.symm.trans (loopM.ret hlt20 hB712)
         refine br (tr (rr rfl (.cons rfl .nil) ?_))
         have hM713 : (s_l3Bytes p_s p_more) = (false) := by simp only [s_l3Bytes, hb21, hb22, hb253, hb709, hL708, hL711, cond_true, cond_false, loopE_done, loopE_ret]
         rw [hM713]
         exact ⟨rfl, hf514⟩
   ·have hb21p := dec_f hb21
    refine sz rfl rfl hb21 (sz rfl rfl hb21 (sz rfl rfl hb21 (sz rfl rfl hb21 (sd rfl (yl_pick_f rfl rfl hb21 rfl (sd rfl (yl_move rfl rfl (sy rfl rfl rfl (yl_move rfl rfl (sy rfl rfl rfl (yl_move rfl rfl (sy rfl rfl rfl (yl_sindexN Tryd.un9 (a := p_s) rfl rfl rfl (by first | omega | assumption | (simp only [IntKind.wrap_i64] at *; omega)) ?_)))))))))))))
    refine sy rfl rfl rfl (yl_geq rfl rfl rfl (sy rfl rfl rfl (yl_move rfl rfl (bcase (decide (48 ≤ ((p_s.getD k5 0).toNat : Int))) (fun hb714 => ?_) (fun hb714 => ?_)))))
    ·have hb714p := dec_t hb714
     refine sy rfl rfl hb714 (yl_move rfl rfl (sy rfl rfl hb714 (yl_move rfl rfl (sy rfl rfl hb714 (yl_sindexN Tryd.un9 (a := p_s) rfl rfl rfl (by first | omega | assumption | (simp only [IntKind.wrap_i64] at *; omega)) (sy rfl rfl hb714 (yl_leq rfl rfl rfl (sy rfl rfl rfl (yl_pick_t rfl rfl hb714 rfl (sd rfl (yl_pick_f rfl rfl rfl rfl (sd rfl (yl_assign rfl rfl (SeqR.done (tn ?_)))))))))))))))
     refine CW.seq (CW.seq (CW.region (sd rfl (yl_assign rfl rfl (SeqR.done (tn (CW.block (CW.loop (fun m717 L718 w719 => ∃ (k715 : Nat) (x716 : Bool), m717 = p_more.length - k715 ∧ k715 ≤ p_more.length ∧ w11.heap.size ≤ w719.heap.size ∧ lkp L718 0 = some (.string (bs (p_s))) ∧ lkp L718 1 = some (.string (bs (p_more))) ∧ lkp L718 5 = some (.int .i64 ((k5 : Int))) ∧ lkp L718 6 = some (.bool (x716)) ∧ lkp L718 7 = some (.int .i64 ((k715 : Int))) ∧ lkp L718 19 = some (undef) ∧ lkp L718 20 = some (undef) ∧ lkp L718 21 = some (undef) ∧ lkp L718 22 = some (undef) ∧ lkp L718 25 = some (.string (bs (p_s))) ∧ lkp L718 26 = some (.int .i64 ((k5 : Int))) ∧ lkp L718 27 = some (.int .u8 (((p_s.getD k5 0).toNat : Int))) ∧ lkp L718 28 = some (.bool (decide (48 ≤ ((p_s.getD k5 0).toNat : Int)))) ∧ lkp L718 29 = some (.bool (decide (48 ≤ ((p_s.getD k5 0).toNat : Int)))) ∧ lkp L718 30 = some (.string (bs (p_s))) ∧ lkp L718 31 = some (.int .i64 ((k5 : Int))) ∧ lkp L718 32 = some (.int .u8 (((p_s.getD k5 0).toNat : Int))) ∧ lkp L718 33 = some (.bool (decide (((p_s.getD k5 0).toNat : Int) ≤ 57))) ∧ lkp L718 34 = some (.bool (decide (((p_s.getD k5 0).toNat : Int) ≤ 57))) ∧ Ex w w719 ∧ loopM (B_s_l3Bytes_1 p_s p_more k5) (p_more.length - k715) k715 (x716) = loopM (B_s_l3Bytes_1 p_s p_more k5) (p_more.length - 0) 0 (decide (((p_s.getD k5 0).toNat : Int) ≤ 57))) (p_more.length - 0) ?_ ?_))))))))
     ·exact ⟨0, decide (((p_s.getD k5 0).toNat : Int) ≤ 57), rfl, (by omega), Nat.le_refl _, rfl, rfl, rfl, rfl, rfl, rfl, rfl, rfl, rfl, rfl, rfl, rfl, rfl, rfl, rfl, rfl, rfl, rfl, rfl, hf18, rfl⟩
     ·rintro m720 L721 w722 ⟨k715, x716, rfl, hk723, hsz725, hl726, hl727, hl728, hl729, hl730, hl731, hl732, hl733, hl734, hl735, hl736, hl737, hl738, hl739, hl740, hl741, hl742, hl743, hl744, hf745, hI724⟩
      refine CW.sub (Sub.cons hl726 (Sub.cons hl727 (Sub.cons hl728 (Sub.cons hl729 (Sub.cons hl730 (Sub.cons hl731 (Sub.cons hl732 (Sub.cons hl733 (Sub.cons hl734 (Sub.cons hl735 (Sub.cons hl736 (Sub.cons hl737 (Sub.cons hl738 (Sub.cons hl739 (Sub.cons hl740 (Sub.cons hl741 (Sub.cons hl742 (Sub.cons hl743 (Sub.cons hl744 (Sub.nil _)))))))))))))))))))) ?_
      have hf745z := Ex.size hf745
      have hbg746 : p_more.length ≤ 1073741824 := o2
      rcases Nat.lt_or_ge k715 p_more.length with hlt747 | hlt747
      ·refine CW.seq (CW.seq (CW.region (sd rfl (yl_move rfl rfl (sd rfl (yl_move rfl rfl (sd rfl (yl_slen Tryd.un9 (a := p_more) rfl rfl (sd rfl (yl_lss rfl rfl rfl (SeqR.done (tn ?_))))))))))))
       refine CW.cond_t rfl (lt_t hlt747) (CW.skip (tn (CW.seq (CW.block (bcase (x716) (fun hb748 => ?_) (fun hb748 => ?_))))))
       ·refine CW.drawsI 11 (vgetI [DetI (.bool (x716)), DetI (.bool (x716)), DetI (undef), DetI (undef), DetI (undef), DetI (undef), DetI (undef), DetI (undef), DetI (undef), DetI (.bool (true)), DetI (.bool (true))]) Tryd.follows rfl rfl rfl rfl rfl rfl (vgetI_stable ⟨StableI.det _, StableI.det _, StableI.det _, StableI.det _, StableI.det _, StableI.det _, StableI.det _, StableI.det _, StableI.det _, StableI.det _, StableI.det _, trivial⟩) ⟨?_, ?_, ?_, ?_, ?_, ?_, ?_, ?_, ?_, ?_, ?_, trivial⟩ ?_
        ·exact fun _ _ h => os rfl ((yl_move rfl (h.old 6 _ rfl rfl) kI))
        ·exact fun _ _ h => os rfl ((yl_move rfl (h.dt 0 42 rfl rfl rfl) kI))
        ·exact fun _ _ h => OpR.skip rfl rfl (h.dt 1 43 rfl rfl rfl) hb748 ⟨rfl, Ex.refl _⟩
        ·exact fun _ _ h => OpR.skip rfl rfl (h.dt 1 43 rfl rfl rfl) hb748 ⟨rfl, Ex.refl _⟩
        ·exact fun _ _ h => OpR.skip rfl rfl (h.dt 1 43 rfl rfl rfl) hb748 ⟨rfl, Ex.refl _⟩
        ·exact fun _ _ h => OpR.skip rfl rfl (h.dt 1 43 rfl rfl rfl) hb748 ⟨rfl, Ex.refl _⟩
        ·exact fun _ _ h => OpR.skip rfl rfl (h.dt 1 43 rfl rfl rfl) hb748 ⟨rfl, Ex.refl _⟩
        ·exact fun _ _ h => OpR.skip rfl rfl (h.dt 1 43 rfl rfl rfl) hb748 ⟨rfl, Ex.refl _⟩
        ·exact fun _ _ h => OpR.skip rfl rfl (h.dt 1 43 rfl rfl rfl) hb748 ⟨rfl, Ex.refl _⟩
        ·exact fun _ _ h => os rfl ((yl_pick_t rfl (h.dt 1 43 rfl rfl rfl) hb748 rfl kI))
        ·exact fun _ _ h => os rfl ((yl_assign rfl (h.dt 9 51 rfl rfl rfl) kI))
        ·intro fl808 fh809 L805 w806 hp807
         have hE810 := hp807.ex
         have hE810z := Ex.size hE810
         refine SeqR.done (bn (tn (CW.sub (Sub.cons (d := 0) (hp807.old 0 _ rfl rfl) (Sub.cons (d := 1) (hp807.old 1 _ rfl rfl) (Sub.cons (d := 5) (hp807.old 5 _ rfl rfl) (Sub.cons (d := 6) (hp807.nt 10 6 rfl rfl rfl) (Sub.cons (d := 7) (hp807.old 7 _ rfl rfl) (Sub.cons (d := 19) (hp807.old 19 _ rfl rfl) (Sub.cons (d := 20) (hp807.old 20 _ rfl rfl) (Sub.cons (d := 21) (hp807.old 21 _ rfl rfl) (Sub.cons (d := 22) (hp807.old 22 _ rfl rfl) (Sub.cons (d := 25) (hp807.old 25 _ rfl rfl) (Sub.cons (d := 26) (hp807.old 26 _ rfl rfl) (Sub.cons (d := 27) (hp807.old 27 _ rfl rfl) (Sub.cons (d := 28) (hp807.old 28 _ rfl rfl) (Sub.cons (d := 29) (hp807.old 29 _ rfl rfl) (Sub.cons (d := 30) (hp807.old 30 _ rfl rfl) (Sub.cons (d := 31) (hp807.old 31 _ rfl rfl) (Sub.cons (d := 32) (hp807.old 32 _ rfl rfl) (Sub.cons (d := 33) (hp807.old 33 _ rfl rfl) (Sub.cons (d := 34) (hp807.old 34 _ rfl rfl) (Sub.cons (d := 44) (hp807.nt 2 44 rfl rfl rfl) (Sub.cons (d := 45) (hp807.nt 3 45 rfl rfl rfl) (Sub.cons (d := 46) (hp807.nt 4 46 rfl rfl rfl) (Sub.cons (d := 47) (hp807.nt 5 47 rfl rfl rfl) (Sub.cons (d := 48) (hp807.nt 6 48 rfl rfl rfl) (Sub.cons (d := 49) (hp807.nt 7 49 rfl rfl rfl) (Sub.cons (d := 50) (hp807.nt 8 50 rfl rfl rfl) (Sub.nil _))))))))))))))))))))))))))) (CW.region (sd rfl (yl_move rfl rfl (sd rfl (yl_inc rfl rfl rfl (by omega) (sd rfl (yl_assign rfl rfl (SeqR.done ?_)))))))))))
         refine tn ?_
         have hB837 : B_s_l3Bytes_1 p_s p_more k5 k715 (x716) = .cont (true) := by simp only [B_s_l3Bytes_1, hb21, hb714, hb748, cond_true, cond_false, loopE_done, loopE_ret]
         exact ⟨p_more.length - (k715 + 1), by omega, k715 + 1, true, rfl, hlt747, (by omega), rfl, rfl, rfl, rfl, rfl, rfl, rfl, rfl, rfl, rfl, rfl, rfl, rfl, rfl, rfl, rfl, rfl, rfl, rfl, (Ex.trans hf745 hE810), (loopM.cont hlt747 hB837).symm.trans hI724⟩
       ·refine CW.drawsI 11 (vgetI [DetI (.bool (x716)), DetI (.bool (x716)), DetI (.string (bs (p_s))), DetI (.int .i64 ((k5 : Int))), DetI (.int .u8 (((p_s.getD k5 0).toNat : Int))), DetI (.string (bs (p_more))), DetI (.int .i64 ((k715 : Int))), DetI (.int .u8 (((p_more.getD k715 0).toNat : Int))), DetI (.bool (decide (((p_s.getD k5 0).toNat : Int) = ((p_more.getD k715 0).toNat : Int)))), DetI (.bool (decide (((p_s.getD k5 0).toNat : Int) = ((p_more.getD k715 0).toNat : Int)))), DetI (.bool (decide (((p_s.getD k5 0).toNat : Int) = ((p_more.getD k715 0).toNat : Int))))]) Tryd.follows rfl rfl rfl rfl rfl rfl (vgetI_stable ⟨StableI.det _, StableI.det _, StableI.det _, StableI.det _, StableI.det _, StableI.det _, StableI.det _, StableI.det _, StableI.det _, StableI.det _, StableI.det _, trivial⟩) ⟨?_, ?_, ?_, ?_, ?_, ?_, ?_, ?_, ?_, ?_, ?_, trivial⟩ ?_
        ·exact fun _ _ h => os rfl ((yl_move rfl (h.old 6 _ rfl rfl) kI))
        ·exact fun _ _ h => os rfl ((yl_move rfl (h.dt 0 42 rfl rfl rfl) kI))
        ·exact fun _ _ h => OpR.want rfl rfl (h.dt 1 43 rfl rfl rfl) hb748 (Yl.sameI (yl_move rfl (h.old 0 _ rfl rfl) kI))
        ·exact fun _ _ h => OpR.want rfl rfl (h.dt 1 43 rfl rfl rfl) hb748 (Yl.sameI (yl_move rfl (h.old 5 _ rfl rfl) kI))
        ·intro L861 w862 hi863
         have hE864 := hi863.ex
         have hE864z := Ex.size hE864
         exact OpR.want rfl rfl (hi863.dt 1 43 rfl rfl rfl) hb748 (Yl.sameI (yl_sindexN Tryd.un9 (a := p_s) rfl (hi863.dt 2 44 rfl rfl rfl) (hi863.dt 3 45 rfl rfl rfl) (by first | omega | assumption | (simp only [IntKind.wrap_i64] at *; omega)) kI))
        ·exact fun _ _ h => OpR.want rfl rfl (h.dt 1 43 rfl rfl rfl) hb748 (Yl.sameI (yl_move rfl (h.old 1 _ rfl rfl) kI))
        ·exact fun _ _ h => OpR.want rfl rfl (h.dt 1 43 rfl rfl rfl) hb748 (Yl.sameI (yl_move rfl (h.old 7 _ rfl rfl) kI))
        ·intro L880 w881 hi882
         have hE883 := hi882.ex
         have hE883z := Ex.size hE883
         exact OpR.want rfl rfl (hi882.dt 1 43 rfl rfl rfl) hb748 (Yl.sameI (yl_sindexN Tryd.un9 (a := p_more) rfl (hi882.dt 5 47 rfl rfl rfl) (hi882.dt 6 48 rfl rfl rfl) (by first | omega | assumption | (simp only [IntKind.wrap_i64] at *; omega)) kI))
        ·exact fun _ _ h => OpR.want rfl rfl (h.dt 1 43 rfl rfl rfl) hb748 (Yl.sameI (yl_eql rfl (h.dt 4 46 rfl rfl rfl) (h.dt 7 49 rfl rfl rfl) kI))
        ·exact fun _ _ h => os rfl ((yl_pick_f rfl (h.dt 1 43 rfl rfl rfl) hb748 (h.dt 8 50 rfl rfl rfl) kI))
        ·exact fun _ _ h => os rfl ((yl_assign rfl (h.dt 9 51 rfl rfl rfl) kI))
        ·intro fl908 fh909 L905 w906 hp907
         have hE910 := hp907.ex
         have hE910z := Ex.size hE910
         refine SeqR.done (bn (tn (CW.sub (Sub.cons (d := 0) (hp907.old 0 _ rfl rfl) (Sub.cons (d := 1) (hp907.old 1 _ rfl rfl) (Sub.cons (d := 5) (hp907.old 5 _ rfl rfl) (Sub.cons (d := 6) (hp907.nt 10 6 rfl rfl rfl) (Sub.cons (d := 7) (hp907.old 7 _ rfl rfl) (Sub.cons (d := 19) (hp907.old 19 _ rfl rfl) (Sub.cons (d := 20) (hp907.old 20 _ rfl rfl) (Sub.cons (d := 21) (hp907.old 21 _ rfl rfl) (Sub.cons (d := 22) (hp907.old 22 _ rfl rfl) (Sub.cons (d := 25) (hp907.old 25 _ rfl rfl) (Sub.cons (d := 26) (hp907.old 26 _ rfl rfl) (Sub.cons (d := 27) (hp907.old 27 _ rfl rfl) (Sub.cons (d := 28) (hp907.old 28 _ rfl rfl) (Sub.cons (d := 29) (hp907.old 29 _ rfl rfl) (Sub.cons (d := 30) (hp907.old 30 _ rfl rfl) (Sub.cons (d := 31) (hp907.old 31 _ rfl rfl) (Sub.cons (d := 32) (hp907.old 32 _ rfl rfl) (Sub.cons (d := 33) (hp907.old 33 _ rfl rfl) (Sub.cons (d := 34) (hp907.old 34 _ rfl rfl) (Sub.cons (d := 44) (hp907.nt 2 44 rfl rfl rfl) (Sub.cons (d := 45) (hp907.nt 3 45 rfl rfl rfl) (Sub.cons (d := 46) (hp907.nt 4 46 rfl rfl rfl) (Sub.cons (d := 47) (hp907.nt 5 47 rfl rfl rfl) (Sub.cons (d := 48) (hp907.nt 6 48 rfl rfl rfl) (Sub.cons (d := 49) (hp907.nt 7 49 rfl rfl rfl) (Sub.cons (d := 50) (hp907.nt 8 50 rfl rfl rfl) (Sub.nil _))))))))))))))))))))))))))) (CW.region (sd rfl (yl_move rfl rfl (sd rfl (yl_inc rfl rfl rfl (by omega) (sd rfl (yl_assign rfl rfl (SeqR.done ?_)))))))))))
         refine tn ?_
         have hB937 : B_s_l3Bytes_1 p_s p_more k5 k715 (x716) = .cont (decide (((p_s.getD k5 0).toNat : Int) = ((p_more.getD k715 0).toNat : Int))) := by simp only [B_s_l3Bytes_1, hb21, hb714, hb748, cond_true, cond_false, loopE_done, loopE_ret]
         exact ⟨p_more.length - (k715 + 1), by omega, k715 + 1, decide (((p_s.getD k5 0).toNat : Int) = ((p_more.getD k715 0).toNat : Int)), rfl, hlt747, (by omega), rfl, rfl, rfl, rfl, rfl, rfl, rfl, rfl, rfl, rfl, rfl, rfl, rfl, rfl, rfl, rfl, rfl, rfl, rfl, (Ex.trans hf745 hE910), (loopM.cont hlt747 hB937).symm.trans hI724⟩
      ·refine CW.seq (CW.seq (CW.region (sd rfl (yl_move rfl rfl (sd rfl (yl_move rfl rfl (sd rfl (yl_slen Tryd.un9 (a := p_more) rfl rfl (sd rfl (yl_lss rfl rfl rfl (SeqR.done (tn ?_))))))))))))
       refine CW.cond_f rfl (lt_f hlt747) (CW.exit (tx (tx ?_)))
       have hL939 : loopM (B_s_l3Bytes_1 p_s p_more k5) (p_more.length - 0) 0 (decide (((p_s.getD k5 0).toNat : Int) ≤ 57)) = .done (x716) := hI724.symm.trans (loopM.stop hlt747)
       refine bx (tn (CW.seq (CW.region (sd rfl (yl_move rfl rfl (sd rfl (yl_not rfl rfl (SeqR.done (tn (bcase (x716) (fun hb940 => ?_) (fun hb940 => ?_)))))))))))
       ·refine CW.cond_f rfl (not_t hb940) (CW.skip (bn (tn (CW.region (sd rfl (yl_move rfl rfl (sd rfl (yl_inc rfl rfl rfl (by omega) (sd rfl (yl_assign rfl rfl (SeqR.done ?_)))))))))))
        refine tn ?_
        have hB941 : B_s_l3Bytes_0 p_s p_more k5 () = .cont () := by simp only [B_s_l3Bytes_0, hb21, hb714, hb940, hL939, cond_true, cond_false, loopE_done, loopE_ret]
        exact ⟨p_s.length - (k5 + 1), by omega, k5 + 1, rfl, hlt20, (by omega), rfl, rfl, rfl, hf745, (loopM.cont hlt20 hB941).symm.trans hI13⟩
       ·refine CW.cond_t rfl (not_f hb940) (CW.seq (CW.region (sd rfl (yl_assign rfl rfl (SeqR.done (tn (CW.ret (br (tr ?_)))))))))
        refine tr ?_
        have hB943 : B_s_l3Bytes_0 p_s p_more k5 () = .ret false := by simp only [B_s_l3Bytes_0, hb21, hb714, hb940, hL939, cond_true, cond_false, loopE_done, loopE_ret]
        have hL942 : loopM (B_s_l3Bytes_0 p_s p_more) (p_s.length - 0) 0 () = .ret false := hI13.symm.trans (loopM.ret hlt20 hB943)
        refine br (tr (rr rfl (.cons rfl .nil) ?_))
        have hM944 : (s_l3Bytes p_s p_more) = (false) := by simp only [s_l3Bytes, hb21, hb714, hb940, hL939, hL942, cond_true, cond_false, loopE_done, loopE_ret]
        rw [hM944]
        exact ⟨rfl, hf745⟩
    ·have hb714p := dec_f hb714
     refine sz rfl rfl hb714 (sz rfl rfl hb714 (sz rfl rfl hb714 (sz rfl rfl hb714 (sy rfl rfl rfl (yl_pick_f rfl rfl hb714 rfl (sd rfl (yl_pick_f rfl rfl rfl rfl (sd rfl (yl_assign rfl rfl (SeqR.done (tn ?_)))))))))))
     refine CW.seq (CW.seq (CW.region (sd rfl (yl_assign rfl rfl (SeqR.done (tn (CW.block (CW.loop (fun m947 L948 w949 => ∃ (k945 : Nat) (x946 : Bool), m947 = p_more.length - k945 ∧ k945 ≤ p_more.length ∧ w11.heap.size ≤ w949.heap.size ∧ lkp L948 0 = some (.string (bs (p_s))) ∧ lkp L948 1 = some (.string (bs (p_more))) ∧ lkp L948 5 = some (.int .i64 ((k5 : Int))) ∧ lkp L948 6 = some (.bool (x946)) ∧ lkp L948 7 = some (.int .i64 ((k945 : Int))) ∧ lkp L948 19 = some (undef) ∧ lkp L948 20 = some (undef) ∧ lkp L948 21 = some (undef) ∧ lkp L948 22 = some (undef) ∧ lkp L948 25 = some (.string (bs (p_s))) ∧ lkp L948 26 = some (.int .i64 ((k5 : Int))) ∧ lkp L948 27 = some (.int .u8 (((p_s.getD k5 0).toNat : Int))) ∧ lkp L948 28 = some (.bool (decide (48 ≤ ((p_s.getD k5 0).toNat : Int)))) ∧ lkp L948 29 = some (.bool (decide (48 ≤ ((p_s.getD k5 0).toNat : Int)))) ∧ lkp L948 30 = some (undef) ∧ lkp L948 31 = some (undef) ∧ lkp L948 32 = some (undef) ∧ lkp L948 33 = some (undef) ∧ lkp L948 34 = some (.bool (false)) ∧ Ex w w949 ∧ loopM (B_s_l3Bytes_1 p_s p_more k5) (p_more.length - k945) k945 (x946) = loopM (B_s_l3Bytes_1 p_s p_more k5) (p_more.length - 0) 0 (false)) (p_more.length - 0) ?_ ?_))))))))
     ·exact ⟨0, false, rfl, (by omega), Nat.le_refl _, rfl, rfl, rfl, rfl, rfl, rfl, rfl, rfl, rfl, rfl, rfl, rfl, rfl, rfl, rfl, rfl, rfl, rfl, rfl, hf18, rfl⟩
     ·rintro m950 L951 w952 ⟨k945, x946, rfl, hk953, hsz955, hl956, hl957, hl958, hl959, hl960, hl961, hl962, hl963, hl964, hl965, hl966, hl967, hl968, hl969, hl970, hl971, hl972, hl973, hl974, hf975, hI954⟩
      refine CW.sub (Sub.cons hl956 (Sub.cons hl957 (Sub.cons hl958 (Sub.cons hl959 (Sub.cons hl960 (Sub.cons hl961 (Sub.cons hl962 (Sub.cons hl963 (Sub.cons hl964 (Sub.cons hl965 (Sub.cons hl966 (Sub.cons hl967 (Sub.cons hl968 (Sub.cons hl969 (Sub.cons hl970 (Sub.cons hl971 (Sub.cons hl972 (Sub.cons hl973 (Sub.cons hl974 (Sub.nil _)))))))))))))))))))) ?_
      have hf975z := Ex.size hf975
      have hbg976 : p_more.length ≤ 1073741824 := o2
      rcases Nat.lt_or_ge k945 p_more.length with hlt977 | hlt977
      ·refine CW.seq (CW.seq (CW.region (sd rfl (yl_move rfl rfl (sd rfl (yl_move rfl rfl (sd rfl (yl_slen Tryd.un9 (a := p_more) rfl rfl (sd rfl (yl_lss rfl rfl rfl (SeqR.done (tn ?_))))))))))))
       refine CW.cond_t rfl (lt_t hlt977) (CW.skip (tn (CW.seq (CW.block (bcase (x946) (fun hb978 => ?_) (fun hb978 => ?_))))))
       ·refine CW.drawsI 11 (vgetI [DetI (.bool (x946)), DetI (.bool (x946)), DetI (undef), DetI (undef), DetI (undef), DetI (undef), DetI (undef), DetI (undef), DetI (undef), DetI (.bool (true)), DetI (.bool (true))]) Tryd.follows rfl rfl rfl rfl rfl rfl (vgetI_stable ⟨StableI.det _, StableI.det _, StableI.det _, StableI.det _, StableI.det _, StableI.det _, StableI.det _, StableI.det _, StableI.det _, StableI.det _, StableI.det _, trivial⟩) ⟨?_, ?_, ?_, ?_, ?_, ?_, ?_, ?_, ?_, ?_, ?_, trivial⟩ ?_
        ·exact fun _ _ h => os rfl ((yl_move rfl (h.old 6 _ rfl rfl) kI))
        ·exact fun _ _ h => os rfl ((yl_move rfl (h.dt 0 42 rfl rfl rfl) kI))
        ·exact fun _ _ h => OpR.skip rfl rfl (h.dt 1 43 rfl rfl rfl) hb978 ⟨rfl, Ex.refl _⟩
        ·exact fun _ _ h => OpR.skip rfl rfl (h.dt 1 43 rfl rfl rfl) hb978 ⟨rfl, Ex.refl _⟩
        ·exact fun _ _ h => OpR.skip rfl rfl (h.dt 1 43 rfl rfl rfl) hb978 ⟨rfl, Ex.refl _⟩
        ·exact fun _ _ h => OpR.skip rfl rfl (h.dt 1 43 rfl rfl rfl) hb978 ⟨rfl, Ex.refl _⟩
        ·exact fun _ _ h => OpR.skip rfl rfl (h.dt 1 43 rfl rfl rfl) hb978 ⟨rfl, Ex.refl _⟩
        ·exact fun _ _ h => OpR.skip rfl rfl (h.dt 1 43 rfl rfl rfl) hb978 ⟨rfl, Ex.refl _⟩
        ·exact fun _ _ h => OpR.skip rfl rfl (h.dt 1 43 rfl rfl rfl) hb978 ⟨rfl, Ex.refl _⟩
        ·exact fun _ _ h => os rfl ((yl_pick_t rfl (h.dt 1 43 rfl rfl rfl) hb978 rfl kI))
        ·exact fun _ _ h => os rfl ((yl_assign rfl (h.dt 9 51 rfl rfl rfl) kI))
        ·intro fl1038 fh1039 L1035 w1036 hp1037
         have hE1040 := hp1037.ex
         have hE1040z := Ex.size hE1040
         refine SeqR.done (bn (tn (CW.sub (Sub.cons (d := 0) (hp1037.old 0 _ rfl rfl) (Sub.cons (d := 1) (hp1037.old 1 _ rfl rfl) (Sub.cons (d := 5) (hp1037.old 5 _ rfl rfl) (Sub.cons (d := 6) (hp1037.nt 10 6 rfl rfl rfl) (Sub.cons (d := 7) (hp1037.old 7 _ rfl rfl) (Sub.cons (d := 19) (hp1037.old 19 _ rfl rfl) (Sub.cons (d := 20) (hp1037.old 20 _ rfl rfl) (Sub.cons (d := 21) (hp1037.old 21 _ rfl rfl) (Sub.cons (d := 22) (hp1037.old 22 _ rfl rfl) (Sub.cons (d := 25) (hp1037.old 25 _ rfl rfl) (Sub.cons (d := 26) (hp1037.old 26 _ rfl rfl) (Sub.cons (d := 27) (hp1037.old 27 _ rfl rfl) (Sub.cons (d := 28) (hp1037.old 28 _ rfl rfl) (Sub.cons (d := 29) (hp1037.old 29 _ rfl rfl) (Sub.cons (d := 30) (hp1037.old 30 _ rfl rfl) (Sub.cons (d := 31) (hp1037.old 31 _ rfl rfl) (Sub.cons (d := 32) (hp1037.old 32 _ rfl rfl) (Sub.cons (d := 33) (hp1037.old 33 _ rfl rfl) (Sub.cons (d := 34) (hp1037.old 34 _ rfl rfl) (Sub.cons (d := 44) (hp1037.nt 2 44 rfl rfl rfl) (Sub.cons (d := 45) (hp1037.nt 3 45 rfl rfl rfl) (Sub.cons (d := 46) (hp1037.nt 4 46 rfl rfl rfl) (Sub.cons (d := 47) (hp1037.nt 5 47 rfl rfl rfl) (Sub.cons (d := 48) (hp1037.nt 6 48 rfl rfl rfl) (Sub.cons (d := 49) (hp1037.nt 7 49 rfl rfl rfl) (Sub.cons (d := 50) (hp1037.nt 8 50 rfl rfl rfl) (Sub.nil _))))))))))))))))))))))))))) (CW.region (sd rfl (yl_move rfl rfl (sd rfl (yl_inc rfl rfl rfl (by omega) (sd rfl (yl_assign rfl rfl (SeqR.done ?_)))))))))))
         refine tn ?_
         have hB1067 : B_s_l3Bytes_1 p_s p_more k5 k945 (x946) = .cont (true) := by simp only [B_s_l3Bytes_1, hb21, hb714, hb978, cond_true, cond_false, loopE_done, loopE_ret]
         exact ⟨p_more.length - (k945 + 1), by omega, k945 + 1, true, rfl, hlt977, (by omega), rfl, rfl, rfl, rfl, rfl, rfl, rfl, rfl, rfl, rfl, rfl, rfl, rfl, rfl, rfl, rfl, rfl, rfl, rfl, (Ex.trans hf975 hE1040), (loopM.cont hlt977 hB1067).symm.trans hI954⟩
       ·refine CW.drawsI 11 (vgetI [DetI (.bool (x946)), DetI (.bool (x946)), DetI (.string (bs (p_s))), DetI (.int .i64 ((k5 : Int))), DetI (.int .u8 (((p_s.getD k5 0).toNat : Int))), DetI (.string (bs (p_more))), DetI (.int .i64 ((k945 : Int))), DetI (.int .u8 (((p_more.getD k945 0).toNat : Int))), DetI (.bool (decide (((p_s.getD k5 0).toNat : Int) = ((p_more.getD k945 0).toNat : Int)))), DetI (.bool (decide (((p_s.getD k5 0).toNat : Int) = ((p_more.getD k945 0).toNat : Int)))), DetI (.bool (decide (((p_s.getD k5 0).toNat : Int) = ((p_more.getD k945 0).toNat : Int))))]) Tryd.follows rfl rfl rfl rfl rfl rfl (vgetI_stable ⟨StableI.det _, StableI.det _, StableI.det _, StableI.det _, StableI.det _, StableI.det _, StableI.det _, StableI.det _, StableI.det _, StableI.det _, StableI.det _, trivial⟩) ⟨?_, ?_, ?_, ?_, ?_, ?_, ?_, ?_, ?_, ?_, ?_, trivial⟩ ?_
        ·exact fun _ _ h => os rfl ((yl_move rfl (h.old 6 _ rfl rfl) kI))
        ·exact fun _ _ h => os rfl ((yl_move rfl (h.dt 0 42 rfl rfl rfl) kI))
        ·exact fun _ _ h => OpR.want rfl rfl (h.dt 1 43 rfl rfl rfl) hb978 (Yl.sameI (yl_move rfl (h.old 0 _ rfl rfl) kI))
        ·exact fun _ _ h => OpR.want rfl rfl (h.dt 1 43 rfl rfl rfl) hb978 (Yl.sameI (yl_move rfl (h.old 5 _ rfl rfl) kI))
        ·intro L1091 w1092 hi1093
         have hE1094 := hi1093.ex
         have hE1094z := Ex.size hE1094
         exact OpR.want rfl rfl (hi1093.dt 1 43 rfl rfl rfl) hb978 (Yl.sameI (yl_sindexN Tryd.un9 (a := p_s) rfl (hi1093.dt 2 44 rfl rfl rfl) (hi1093.dt 3 45 rfl rfl rfl) (by first | omega | assumption | (simp only [IntKind.wrap_i64] at *; omega)) kI))
        ·exact fun _ _ h => OpR.want rfl rfl (h.dt 1 43 rfl rfl rfl) hb978 (Yl.sameI (yl_move rfl (h.old 1 _ rfl rfl) kI))
        ·exact fun _ _ h => OpR.want rfl rfl (h.dt 1 43 rfl rfl rfl) hb978 (Yl.sameI (yl_move rfl (h.old 7 _ rfl rfl) kI))
        ·intro L1110 w1111 hi1112
         have hE1113 := hi1112.ex
         have hE1113z := Ex.size hE1113
         exact OpR.want rfl rfl (hi1112.dt 1 43 rfl rfl rfl) hb978 (Yl.sameI (yl_sindexN Tryd.un9 (a := p_more) rfl (hi1112.dt 5 47 rfl rfl rfl) (hi1112.dt 6 48 rfl rfl rfl) (by first | omega | assumption | (simp only [IntKind.wrap_i64] at *; omega)) kI))
        ·exact fun _ _ h => OpR.want rfl rfl (h.dt 1 43 rfl rfl rfl) hb978 (Yl.sameI (yl_eql rfl (h.dt 4 46 rfl rfl rfl) (h.dt 7 49 rfl rfl rfl) kI))
        ·exact fun _ _ h => os rfl ((yl_pick_f rfl (h.dt 1 43 rfl rfl rfl) hb978 (h.dt 8 50 rfl rfl rfl) kI))
        ·exact fun _ _ h => os rfl ((yl_assign rfl (h.dt 9 51 rfl rfl rfl) kI))
        ·intro fl1138 fh1139 L1135 w1136 hp1137
         have hE1140 := hp1137.ex
         have hE1140z := Ex.size hE1140
         refine SeqR.done (bn (tn (CW.sub (Sub.cons (d := 0) (hp1137.old 0 _ rfl rfl) (Sub.cons (d := 1) (hp1137.old 1 _ rfl rfl) (Sub.cons (d := 5) (hp1137.old 5 _ rfl rfl) (Sub.cons (d := 6) (hp1137.nt 10 6 rfl rfl rfl) (Sub.cons (d := 7) (hp1137.old 7 _ rfl rfl) (Sub.cons (d := 19) (hp1137.old 19 _ rfl rfl) (Sub.cons (d := 20) (hp1137.old 20 _ rfl rfl) (Sub.cons (d := 21) (hp1137.old 21 _ rfl rfl) (Sub.cons (d := 22) (hp1137.old 22 _ rfl rfl) (Sub.cons (d := 25) (hp1137.old 25 _ rfl rfl) (Sub.cons (d := 26) (hp1137.old 26 _ rfl rfl) (Sub.cons (d := 27) (hp1137.old 27 _ rfl rfl) (Sub.cons (d := 28) (hp1137.old 28 _ rfl rfl) (Sub.cons (d := 29) (hp1137.old 29 _ rfl rfl) (Sub.cons (d := 30) (hp1137.old 30 _ rfl rfl) (Sub.cons (d := 31) (hp1137.old 31 _ rfl rfl) (Sub.cons (d := 32) (hp1137.old 32 _ rfl rfl) (Sub.cons (d := 33) (hp1137.old 33 _ rfl rfl) (Sub.cons (d := 34) (hp1137.old 34 _ rfl rfl) (Sub.cons (d := 44) (hp1137.nt 2 44 rfl rfl rfl) (Sub.cons (d := 45) (hp1137.nt 3 45 rfl rfl rfl) (Sub.cons (d := 46) (hp1137.nt 4 46 rfl rfl rfl) (Sub.cons (d := 47) (hp1137.nt 5 47 rfl rfl rfl) (Sub.cons (d := 48) (hp1137.nt 6 48 rfl rfl rfl) (Sub.cons (d := 49) (hp1137.nt 7 49 rfl rfl rfl) (Sub.cons (d := 50) (hp1137.nt 8 50 rfl rfl rfl) (Sub.nil _))))))))))))))))))))))))))) (CW.region (sd rfl (yl_move rfl rfl (sd rfl (yl_inc rfl rfl rfl (by omega) (sd rfl (yl_assign rfl rfl (SeqR.done ?_)))))))))))
         refine tn ?_
         have hB1167 : B_s_l3Bytes_1 p_s p_more k5 k945 (x946) = .cont (decide (((p_s.getD k5 0).toNat : Int) = ((p_more.getD k945 0).toNat : Int))) := by simp only [B_s_l3Bytes_1, hb21, hb714, hb978, cond_true, cond_false, loopE_done, loopE_ret]
         exact ⟨p_more.length - (k945 + 1), by omega, k945 + 1, decide (((p_s.getD k5 0).toNat : Int) = ((p_more.getD k945 0).toNat : Int)), rfl, hlt977, (by omega), rfl, rfl, rfl, rfl, rfl, rfl, rfl, rfl, rfl, rfl, rfl, rfl, rfl, rfl, rfl, rfl, rfl, rfl, rfl, (Ex.trans hf975 hE1140), (loopM.cont hlt977 hB1167).symm.trans hI954⟩
      ·refine CW.seq (CW.seq (CW.region (sd rfl (yl_move rfl rfl (sd rfl (yl_move rfl rfl (sd rfl (yl_slen Tryd.un9 (a := p_more) rfl rfl (sd rfl (yl_lss rfl rfl rfl (SeqR.done (tn ?_))))))))))))
       refine CW.cond_f rfl (lt_f hlt977) (CW.exit (tx (tx ?_)))
       have hL1169 : loopM (B_s_l3Bytes_1 p_s p_more k5) (p_more.length - 0) 0 (false) = .done (x946) := hI954.symm.trans (loopM.stop hlt977)
       refine bx (tn (CW.seq (CW.region (sd rfl (yl_move rfl rfl (sd rfl (yl_not rfl rfl (SeqR.done (tn (bcase (x946) (fun hb1170 => ?_) (fun hb1170 => ?_)))))))))))
       ·refine CW.cond_f rfl (not_t hb1170) (CW.skip (bn (tn (CW.region (sd rfl (yl_move rfl rfl (sd rfl (yl_inc rfl rfl rfl (by omega) (sd rfl (yl_assign rfl rfl (SeqR.done ?_)))))))))))
        refine tn ?_
        have hB1171 : B_s_l3Bytes_0 p_s p_more k5 () = .cont () := by simp only [B_s_l3Bytes_0, hb21, hb714, hb1170, hL1169, cond_true, cond_false, loopE_done, loopE_ret]
        exact ⟨p_s.length - (k5 + 1), by omega, k5 + 1, rfl, hlt20, (by omega), rfl, rfl, rfl, hf975, (loopM.cont hlt20 hB1171).symm.trans hI13⟩
       ·refine CW.cond_t rfl (not_f hb1170) (CW.seq (CW.region (sd rfl (yl_assign rfl rfl (SeqR.done (tn (CW.ret (br (tr ?_)))))))))
        refine tr ?_
        have hB1173 : B_s_l3Bytes_0 p_s p_more k5 () = .ret false := by simp only [B_s_l3Bytes_0, hb21, hb714, hb1170, hL1169, cond_true, cond_false, loopE_done, loopE_ret]
        have hL1172 : loopM (B_s_l3Bytes_0 p_s p_more) (p_s.length - 0) 0 () = .ret false := hI13.symm.trans (loopM.ret hlt20 hB1173)
        refine br (tr (rr rfl (.cons rfl .nil) ?_))
        have hM1174 : (s_l3Bytes p_s p_more) = (false) := by simp only [s_l3Bytes, hb21, hb714, hb1170, hL1169, hL1172, cond_true, cond_false, loopE_done, loopE_ret]
        rw [hM1174]
        exact ⟨rfl, hf975⟩
  ·refine CW.seq (CW.seq (CW.region (sd rfl (yl_move rfl rfl (sd rfl (yl_move rfl rfl (sd rfl (yl_slen Tryd.un9 (a := p_s) rfl rfl (sd rfl (yl_lss rfl rfl rfl (SeqR.done (tn ?_))))))))))))
   refine CW.cond_f rfl (lt_f hlt20) (CW.exit (tx (tx ?_)))
   have hL1175 : loopM (B_s_l3Bytes_0 p_s p_more) (p_s.length - 0) 0 () = .done () := hI13.symm.trans (loopM.stop hlt20)
   refine bx (tn (CW.seq (CW.region (sd rfl (yl_assign rfl rfl (SeqR.done (tn (CW.ret (rr rfl (.cons rfl .nil) ?_)))))))))
   have hM1176 : (s_l3Bytes p_s p_more) = (true) := by simp only [s_l3Bytes, hL1175, cond_true, cond_false, loopE_done, loopE_ret]
   rw [hM1176]
   exact ⟨rfl, hf18⟩
set_option maxRecDepth 100000 in
set_option maxHeartbeats 2000000 in
theorem c_s_l25Field {w : World} (p_s : Str) (o1 : okS p_s) : Cal Tryd.prog 63 #[.string (bs (p_s))] w fun v w' => v = .bool ((s_l25Field p_s)) ∧ Ex w w' := by
 have hol2 : p_s.length ≤ 1073741824 := o1
 refine Cal.of (vs := [.string (bs (p_s))]) Tryd.func63 rfl Tryd.ntmps63 rfl (CW.seq (CW.region (sd rfl (yl_assign rfl rfl (SeqR.done (tn (CW.seq (CW.region (sd rfl (yl_move rfl rfl ?_))))))))))
 refine sd rfl (yl_slen Tryd.un9 (a := p_s) rfl rfl (sd rfl (yl_call Tryd.en45 rfl (opvs_cons rfl (opvs_cons rfl (opvs_cons rfl opvs_nil))) (Cal.mono (c_s_l1In (p_s.length : Int) 1 3) ?_))))
 rintro v4 w3 ⟨rfl, hE5⟩
 have hE5z := Ex.size hE5
 refine sd rfl (yl_move rfl rfl (bcase (s_l1In (p_s.length : Int) 1 3) (fun hb6 => ?_) (fun hb6 => ?_)))
 ·have hb6p := f_l1In hb6
  refine sy rfl rfl hb6 (yl_move rfl rfl (sy rfl rfl hb6 (yl_call Tryd.en82 rfl (opvs_cons rfl (opvs_cons rfl opvs_nil)) (Cal.mono (c_s_l3Bytes p_s ([] : Str) o1 (okS.lit rfl)) ?_))))
  rintro v8 w7 ⟨rfl, hE9⟩
  have hE9z := Ex.size hE9
  refine sd rfl (yl_pick_t rfl rfl hb6 rfl (sd rfl (yl_assign rfl rfl (SeqR.done (tn (CW.ret (rr rfl (.cons rfl .nil) ?_)))))))
  have hM10 : (s_l25Field p_s) = ((s_l3Bytes p_s ([] : Str))) := by simp only [s_l25Field, hb6, cond_true, cond_false, loopE_done, loopE_ret]
  rw [hM10]
  exact ⟨rfl, (Ex.trans (Ex.trans (Ex.refl w) hE5) hE9)⟩
 ·refine sz rfl rfl hb6 (sz rfl rfl hb6 (sd rfl (yl_pick_f rfl rfl hb6 rfl (sd rfl (yl_assign rfl rfl (SeqR.done (tn (CW.ret (rr rfl (.cons rfl .nil) ?_)))))))))
  have hM13 : (s_l25Field p_s) = (false) := by simp only [s_l25Field, hb6, cond_true, cond_false, loopE_done, loopE_ret]
  rw [hM13]
  exact ⟨rfl, (Ex.trans (Ex.refl w) hE5)⟩
set_option maxRecDepth 100000 in
set_option maxHeartbeats 2000000 in
theorem c_s_l25Good {A1 : Option Addr} {c1 : Nat} {A2 : Option Addr} {c2 : Nat} {A4 : Option Addr} {c4 : Nat} {w : World} (p_t : DTable) (p_r : DRow) (h1 : RdS w (Iv 0 w.heap.size) (RF e_Str) 1 A1 p_t.Cols.length c1 p_t.Cols) (h2 : RdS w (Iv 0 w.heap.size) (RF e_Idx) 3 A2 p_t.Idxs.length c2 p_t.Idxs) (h4 : RdS w (Iv 0 w.heap.size) (RF e_Str) 1 A4 p_r.Vals.length c4 p_r.Vals) (o3 : ok_Table p_t) (o5 : ok_Row p_r) : Cal Tryd.prog 41 #[.agg #[.string (bs (p_t.Name)), .slice A1 p_t.Cols.length c1, .slice A2 p_t.Idxs.length c2], .agg #[.slice A4 p_r.Vals.length c4]] w fun v w' => v = .bool ((s_l25Good p_t p_r)) ∧ Ex w w' := by
 have hol6 : p_t.Name.length ≤ 1073741824 := o3.1
 have hol7 := o3.2.1.1
 have hol8 := o3.2.2.1
 have hol9 := o5.1
 refine Cal.of (vs := [.agg #[.string (bs (p_t.Name)), .slice A1 p_t.Cols.length c1, .slice A2 p_t.Idxs.length c2], .agg #[.slice A4 p_r.Vals.length c4]]) Tryd.func41 rfl Tryd.ntmps41 rfl (CW.seq (CW.region (sd rfl (yl_box (cs := [.string (bs (p_t.Name)), .slice A1 p_t.Cols.length c1, .slice A2 p_t.Idxs.length c2]) rfl rfl rfl ?_))))
 intro b10 w11 hs12 hz13 hB14 hE15
 refine sd rfl (yl_box (cs := [.slice A4 p_r.Vals.length c4]) rfl rfl rfl ?_)
 intro b16 w17 hs18 hz19 hB20 hE21
 refine sd rfl (yl_assign rfl rfl (SeqR.done (tn (CW.seq (CW.seq (CW.region (sd rfl (yl_fieldAddr Tryd.fd31_0 rfl rfl (sd rfl (yl_load1 Tryd.ty22 rfl rfl ((hB20.cell 0).trans rfl) (sd rfl (yl_len Tryd.un22 rfl rfl ?_))))))))))))
 refine sd rfl (yl_move rfl rfl (SeqR.done (tn (CW.block (CW.loop (fun m23 L24 w25 => ∃ (k22 : Nat), m23 = p_r.Vals.length - k22 ∧ k22 ≤ p_r.Vals.length ∧ w17.heap.size ≤ w25.heap.size ∧ lkp L24 2 = some (.pointer (some ⟨b10, 0, none⟩)) ∧ lkp L24 3 = some (.pointer (some ⟨b16, 0, none⟩)) ∧ lkp L24 8 = some (.slice A4 p_r.Vals.length c4) ∧ lkp L24 9 = some (.int .i64 ((p_r.Vals.length : Int))) ∧ lkp L24 10 = some (.int .i64 ((k22 : Int))) ∧ Box w25 b10 36 [.string (bs (p_t.Name)), .slice A1 p_t.Cols.length c1, .slice A2 p_t.Idxs.length c2] ∧ RdS w25 (Iv 0 w.heap.size) (RF e_Str) 1 A1 p_t.Cols.length c1 p_t.Cols ∧ RdS w25 (Iv 0 w.heap.size) (RF e_Idx) 3 A2 p_t.Idxs.length c2 p_t.Idxs ∧ Box w25 b16 31 [.slice A4 p_r.Vals.length c4] ∧ RdS w25 (Iv 0 w.heap.size) (RF e_Str) 1 A4 p_r.Vals.length c4 p_r.Vals ∧ Ex w w25 ∧ loopM (B_s_l25Good_0 p_t p_r) (p_r.Vals.length - k22) k22 () = loopM (B_s_l25Good_0 p_t p_r) (p_r.Vals.length - 0) 0 ()) (p_r.Vals.length - 0) ?_ ?_)))))
 ·exact ⟨0, rfl, (by omega), Nat.le_refl _, rfl, rfl, rfl, rfl, rfl, (Box.ex hB14 hE21), (RdS.ex good_Str (RdS.ex good_Str h1 hE15) hE21), (RdS.ex good_Idx (RdS.ex good_Idx h2 hE15) hE21), hB20, (RdS.ex good_Str (RdS.ex good_Str h4 hE15) hE21), (Ex.trans (Ex.trans (Ex.refl w) hE15) hE21), rfl⟩
 ·rintro m35 L36 w37 ⟨k22, rfl, hk38, hsz40, hl41, hl42, hl43, hl44, hl45, hf46, hf47, hf48, hf49, hf50, hf51, hI39⟩
  refine CW.sub (Sub.cons hl41 (Sub.cons hl42 (Sub.cons hl43 (Sub.cons hl44 (Sub.cons hl45 (Sub.nil _)))))) ?_
  have hf46z := Box.lt hf46
  have hf49z := Box.lt hf49
  have hf51z := Ex.size hf51
  have hbg52 := RdS.big hf50
  rcases Nat.lt_or_ge k22 p_r.Vals.length with hlt53 | hlt53
  ·refine CW.seq (CW.region (sd rfl (yl_lss rfl rfl rfl (SeqR.done (tn (CW.seq (CW.cond_t rfl (lt_t hlt53) (CW.skip (tn ?_)))))))))
   refine CW.seq (CW.block (CW.seq (CW.region ?_)))
   obtain ⟨eb54, eo54, ec54, eA54, eS54, ebl54, el54, eR54, eC54⟩ := RdS.atD hf50 d_Str (i := k22) (by first | omega | assumption)
   obtain rfl := eR54
   have eC54 : Cells w37 eb54 (eo54 + k22 * 1) [.string (bs ((p_r.Vals.getD k22 d_Str)))] := eC54
   refine sd rfl (yl_indexAddrN Tryd.un22 Tryd.ty9 rfl rfl rfl eA54 (by first | omega | assumption | (simp only [IntKind.wrap_i64] at *; omega)) (sd rfl (yl_load1 Tryd.ty9 rfl rfl (eC54 0 _ rfl) (sd rfl (yl_assign rfl rfl (SeqR.done (tn (CW.seq (CW.region (sd rfl (yl_move rfl rfl (sd rfl (yl_call Tryd.en63 rfl (opvs_cons rfl opvs_nil) (Cal.mono (c_s_l25Field (p_r.Vals.getD k22 d_Str) (okL.getD o5 ok_d_Str _)) ?_))))))))))))))
   rintro v56 w55 ⟨rfl, hE57⟩
   have hE57z := Ex.size hE57
   refine sd rfl (yl_not rfl rfl (SeqR.done (tn (bcase (s_l25Field (p_r.Vals.getD k22 d_Str)) (fun hb58 => ?_) (fun hb58 => ?_)))))
   ·refine CW.cond_f rfl (not_t hb58) (CW.skip (bn (tn (CW.region (sd rfl (yl_inc rfl rfl rfl (by omega) (sd rfl (yl_move rfl rfl (SeqR.done (tn ?_))))))))))
    have hB59 : B_s_l25Good_0 p_t p_r k22 () = .cont () := by simp only [B_s_l25Good_0, hb58, cond_true, cond_false, loopE_done, loopE_ret]
    exact ⟨p_r.Vals.length - (k22 + 1), by omega, k22 + 1, rfl, hlt53, (by omega), rfl, rfl, rfl, rfl, rfl, (Box.ex hf46 hE57), (RdS.ex good_Str hf47 hE57), (RdS.ex good_Idx hf48 hE57), (Box.ex hf49 hE57), (RdS.ex good_Str hf50 hE57), (Ex.trans hf51 hE57), (loopM.cont hlt53 hB59).symm.trans hI39⟩
   ·refine CW.cond_t rfl (not_f hb58) (CW.seq (CW.region (sd rfl (yl_assign rfl rfl (SeqR.done (tn (CW.ret (br (tr ?_)))))))))
    refine tr ?_
    have hB67 : B_s_l25Good_0 p_t p_r k22 () = .ret false := by simp only [B_s_l25Good_0, hb58, cond_true, cond_false, loopE_done, loopE_ret]
    have hL66 : loopM (B_s_l25Good_0 p_t p_r) (p_r.Vals.length - 0) 0 () = .ret false := hI39.symm.trans (loopM.ret hlt53 hB67)
    refine br (tr (rr rfl (.cons rfl .nil) ?_))
    have hM68 : (s_l25Good p_t p_r) = (false) := by simp only [s_l25Good, hb58, hL66, cond_true, cond_false, loopE_done, loopE_ret]
    rw [hM68]
    exact ⟨rfl, (Ex.trans hf51 hE57)⟩
  ·refine CW.seq (CW.region (sd rfl (yl_lss rfl rfl rfl (SeqR.done (tn (CW.seq (CW.cond_f rfl (lt_f hlt53) (CW.exit (tx ?_)))))))))
   refine tx ?_
   have hL70 : loopM (B_s_l25Good_0 p_t p_r) (p_r.Vals.length - 0) 0 () = .done () := hI39.symm.trans (loopM.stop hlt53)
   refine bx (tn (CW.seq (CW.region (sd rfl (yl_fieldAddr Tryd.fd31_0 rfl rfl (sd rfl (yl_load1 Tryd.ty22 rfl rfl ((hf49.cell 0).trans rfl) (sd rfl (yl_len Tryd.un22 rfl rfl (sd rfl (yl_fieldAddr Tryd.fd36_1 rfl rfl (sd rfl (yl_load1 Tryd.ty22 rfl rfl ((hf46.cell 1).trans rfl) ?_)))))))))))))
   refine sd rfl (yl_len Tryd.un22 rfl rfl (sd rfl (yl_eql rfl rfl rfl (sd rfl (yl_assign rfl rfl (SeqR.done (tn (CW.ret (rr rfl (.cons rfl .nil) ?_)))))))))
   have hM71 : (s_l25Good p_t p_r) = (decide ((p_r.Vals.length : Int) = (p_t.Cols.length : Int))) := by simp only [s_l25Good, hL70, cond_true, cond_false, loopE_done, loopE_ret]
   rw [hM71]
   exact ⟨rfl, hf51⟩
set_option maxRecDepth 100000 in
set_option maxHeartbeats 2000000 in
theorem c_s_l26Good {A1 : Option Addr} {c1 : Nat} {A2 : Option Addr} {c2 : Nat} {A4 : Option Addr} {c4 : Nat} {A5 : Option Addr} {c5 : Nat} {w : World} (p_t : DTable) (p_a : DRowAct) (h1 : RdS w (Iv 0 w.heap.size) (RF e_Str) 1 A1 p_t.Cols.length c1 p_t.Cols) (h2 : RdS w (Iv 0 w.heap.size) (RF e_Idx) 3 A2 p_t.Idxs.length c2 p_t.Idxs) (h4 : RdS w (Iv 0 w.heap.size) (RF e_Str) 1 A4 p_a.Old.Vals.length c4 p_a.Old.Vals) (h5 : RdS w (Iv 0 w.heap.size) (RF e_Str) 1 A5 p_a.New.Vals.length c5 p_a.New.Vals) (o3 : ok_Table p_t) (o6 : ok_RowAct p_a) (pre0 : (p_a.Kind = 3 → 0 < p_t.Cols.length ∨ 0 < p_a.Old.Vals.length)) : Cal Tryd.prog 74 #[.agg #[.string (bs (p_t.Name)), .slice A1 p_t.Cols.length c1, .slice A2 p_t.Idxs.length c2], .agg #[.int .i64 (p_a.Kind), .slice A4 p_a.Old.Vals.length c4, .slice A5 p_a.New.Vals.length c5]] w fun v w' => v = .bool ((s_l26Good p_t p_a)) ∧ Ex w w' := by
 have hol7 : p_t.Name.length ≤ 1073741824 := o3.1
 have hol8 := o3.2.1.1
 have hol9 := o3.2.2.1
 have hol10 := o6.1.1
 have hol11 := o6.2.1
 refine Cal.of (vs := [.agg #[.string (bs (p_t.Name)), .slice A1 p_t.Cols.length c1, .slice A2 p_t.Idxs.length c2], .agg #[.int .i64 (p_a.Kind), .slice A4 p_a.Old.Vals.length c4, .slice A5 p_a.New.Vals.length c5]]) Tryd.func74 rfl Tryd.ntmps74 rfl (CW.seq (CW.region (sd rfl (yl_box (cs := [.string (bs (p_t.Name)), .slice A1 p_t.Cols.length c1, .slice A2 p_t.Idxs.length c2]) rfl rfl rfl ?_))))
 intro b12 w13 hs14 hz15 hB16 hE17
 refine sd rfl (yl_box (cs := [.int .i64 (p_a.Kind), .slice A4 p_a.Old.Vals.length c4, .slice A5 p_a.New.Vals.length c5]) rfl rfl rfl ?_)
 intro b18 w19 hs20 hz21 hB22 hE23
 refine sd rfl (yl_assign rfl rfl (SeqR.done (tn (CW.seq (CW.seq (CW.region (sd rfl (yl_fieldAddr Tryd.fd46_0 rfl rfl (sd rfl (yl_load1 Tryd.ty3 rfl rfl ((hB22.cell 0).trans rfl) (SeqR.done ?_)))))))))))
 refine tn (CW.block (CW.seq (CW.region (sd rfl (yl_eql rfl rfl rfl (sd rfl (yl_assign rfl rfl (SeqR.done (tn (bcase (decide (p_a.Kind = 1)) (fun hb24 => ?_) (fun hb24 => ?_)))))))))))
 ·have hb24p := dec_t hb24
  refine CW.cond_t rfl hb24 (CW.seq (CW.region (sd rfl (yl_fieldAddr Tryd.fd46_1 rfl rfl (sd rfl (yl_fieldAddr Tryd.fd31_0 rfl rfl (sd rfl (yl_load1 Tryd.ty22 rfl rfl ((hB22.cell 1).trans rfl) (sd rfl (yl_len Tryd.un22 rfl rfl (sd rfl (yl_eql rfl rfl rfl (sd rfl (yl_move rfl rfl ?_))))))))))))))
  refine bcase (decide ((p_a.Old.Vals.length : Int) = 0)) (fun hb25 => ?_) (fun hb25 => ?_)
  ·have hb25p := dec_t hb25
   refine sy rfl rfl hb25 (yl_loadN (cs := [.string (bs (p_t.Name)), .slice A1 p_t.Cols.length c1, .slice A2 p_t.Idxs.length c2]) Tryd.ty36 rfl rfl ((Box.ex hB16 hE23).cells (n := 3) rfl) rfl (sy rfl rfl hb25 (yl_fieldAddr Tryd.fd46_2 rfl rfl (sy rfl rfl hb25 (yl_loadN (cs := [.slice A5 p_a.New.Vals.length c5]) Tryd.ty31 rfl rfl (hB22.cells (n := 1) rfl) rfl (sy rfl rfl hb25 (yl_call Tryd.en41 rfl (opvs_cons rfl (opvs_cons rfl opvs_nil)) (Cal.mono (c_s_l25Good p_t p_a.New (RdS.up (RdS.ex good_Str (RdS.ex good_Str h1 hE17) hE23) good_Str) (RdS.up (RdS.ex good_Idx (RdS.ex good_Idx h2 hE17) hE23) good_Idx) (RdS.up (RdS.ex good_Str (RdS.ex good_Str h5 hE17) hE23) good_Str) o3 o6.2) ?_))))))))
   rintro v34 w33 ⟨rfl, hE35⟩
   have hE35z := Ex.size hE35
   refine sd rfl (yl_pick_t rfl rfl hb25 rfl (sd rfl (yl_assign rfl rfl (SeqR.done (tn (CW.ret (br (tr (rr rfl (.cons rfl .nil) ?_)))))))))
   have hM36 : (s_l26Good p_t p_a) = ((s_l25Good p_t p_a.New)) := by simp only [s_l26Good, hb24, hb25, cond_true, cond_false, loopE_done, loopE_ret]
   rw [hM36]
   exact ⟨rfl, (Ex.trans (Ex.trans (Ex.trans (Ex.refl w) hE17) hE23) hE35)⟩
  ·have hb25p := dec_f hb25
   refine sz rfl rfl hb25 (sz rfl rfl hb25 (sz rfl rfl hb25 (sz rfl rfl hb25 (sd rfl (yl_pick_f rfl rfl hb25 rfl (sd rfl (yl_assign rfl rfl (SeqR.done (tn (CW.ret ?_))))))))))
   refine br (tr (rr rfl (.cons rfl .nil) ?_))
   have hM40 : (s_l26Good p_t p_a) = (false) := by simp only [s_l26Good, hb24, hb25, cond_true, cond_false, loopE_done, loopE_ret]
   rw [hM40]
   exact ⟨rfl, (Ex.trans (Ex.trans (Ex.refl w) hE17) hE23)⟩
 ·have hb24p := dec_f hb24
  refine CW.cond_f rfl hb24 (CW.seq (CW.region (sd rfl (yl_eql rfl rfl rfl (sd rfl (yl_assign rfl rfl (SeqR.done (tn (bcase (decide (p_a.Kind = 2)) (fun hb43 => ?_) (fun hb43 => ?_))))))))))
  ·have hb43p := dec_t hb43
   refine CW.cond_t rfl hb43 (CW.seq (CW.region (sd rfl (yl_fieldAddr Tryd.fd46_2 rfl rfl (sd rfl (yl_fieldAddr Tryd.fd31_0 rfl rfl (sd rfl (yl_load1 Tryd.ty22 rfl rfl ((hB22.cell 2).trans rfl) (sd rfl (yl_len Tryd.un22 rfl rfl (sd rfl (yl_eql rfl rfl rfl (sd rfl (yl_move rfl rfl ?_))))))))))))))
   refine bcase (decide ((p_a.New.Vals.length : Int) = 0)) (fun hb44 => ?_) (fun hb44 => ?_)
   ·have hb44p := dec_t hb44
    refine sy rfl rfl hb44 (yl_loadN (cs := [.string (bs (p_t.Name)), .slice A1 p_t.Cols.length c1, .slice A2 p_t.Idxs.length c2]) Tryd.ty36 rfl rfl ((Box.ex hB16 hE23).cells (n := 3) rfl) rfl (sy rfl rfl hb44 (yl_fieldAddr Tryd.fd46_1 rfl rfl (sy rfl rfl hb44 (yl_loadN (cs := [.slice A4 p_a.Old.Vals.length c4]) Tryd.ty31 rfl rfl (hB22.cells (n := 1) rfl) rfl (sy rfl rfl hb44 (yl_call Tryd.en41 rfl (opvs_cons rfl (opvs_cons rfl opvs_nil)) (Cal.mono (c_s_l25Good p_t p_a.Old (RdS.up (RdS.ex good_Str (RdS.ex good_Str h1 hE17) hE23) good_Str) (RdS.up (RdS.ex good_Idx (RdS.ex good_Idx h2 hE17) hE23) good_Idx) (RdS.up (RdS.ex good_Str (RdS.ex good_Str h4 hE17) hE23) good_Str) o3 o6.1) ?_))))))))
    rintro v53 w52 ⟨rfl, hE54⟩
    have hE54z := Ex.size hE54
    refine sd rfl (yl_pick_t rfl rfl hb44 rfl (sd rfl (yl_assign rfl rfl (SeqR.done (tn (CW.ret (br (tr (rr rfl (.cons rfl .nil) ?_)))))))))
    have hM55 : (s_l26Good p_t p_a) = ((s_l25Good p_t p_a.Old)) := by simp only [s_l26Good, hb24, hb43, hb44, cond_true, cond_false, loopE_done, loopE_ret]
    rw [hM55]
    exact ⟨rfl, (Ex.trans (Ex.trans (Ex.trans (Ex.refl w) hE17) hE23) hE54)⟩
   ·have hb44p := dec_f hb44
    refine sz rfl rfl hb44 (sz rfl rfl hb44 (sz rfl rfl hb44 (sz rfl rfl hb44 (sd rfl (yl_pick_f rfl rfl hb44 rfl (sd rfl (yl_assign rfl rfl (SeqR.done (tn (CW.ret ?_))))))))))
    refine br (tr (rr rfl (.cons rfl .nil) ?_))
    have hM59 : (s_l26Good p_t p_a) = (false) := by simp only [s_l26Good, hb24, hb43, hb44, cond_true, cond_false, loopE_done, loopE_ret]
    rw [hM59]
    exact ⟨rfl, (Ex.trans (Ex.trans (Ex.refl w) hE17) hE23)⟩
  ·have hb43p := dec_f hb43
   refine CW.cond_f rfl hb43 (CW.seq (CW.region (sd rfl (yl_eql rfl rfl rfl (sd rfl (yl_assign rfl rfl (SeqR.done (tn (bcase (decide (p_a.Kind = 3)) (fun hb62 => ?_) (fun hb62 => ?_))))))))))
   ·have hb62p := dec_t hb62
    refine CW.cond_t rfl hb62 (CW.seq (bcase (s_l25Good p_t p_a.Old) (fun hb71 => ?_) (fun hb71 => ?_)))
    ·obtain ⟨hb71p0, hb71p1⟩ := f_s_l25Good hb71
     refine bcase (s_l25Good p_t p_a.New) (fun hb83 => ?_) (fun hb83 => ?_)
     ·obtain ⟨hb83p0, hb83p1⟩ := f_s_l25Good hb83
      have q84 := Box.ex hB16 hE23
      have q86 := RdS.ex good_Str (RdS.ex good_Str h1 hE17) hE23
      have q88 := RdS.ex good_Idx (RdS.ex good_Idx h2 hE17) hE23
      have q90 := RdS.ex good_Str (RdS.ex good_Str h4 hE17) hE23
      have q93 := RdS.ex good_Str (RdS.ex good_Str h5 hE17) hE23
      obtain ⟨eb95, eo95, ec95, eA95, eS95, ebl95, el95, eR95, eC95⟩ := RdS.atD q90 d_Str (i := 0) (by first | omega | assumption)
      obtain rfl := eR95
      have eC95 : Cells w19 eb95 (eo95 + 0 * 1) [.string (bs ((p_a.Old.Vals.getD 0 d_Str)))] := eC95
      obtain ⟨eb96, eo96, ec96, eA96, eS96, ebl96, el96, eR96, eC96⟩ := RdS.atD q93 d_Str (i := 0) (by first | omega | assumption)
      obtain rfl := eR96
      have eC96 : Cells w19 eb96 (eo96 + 0 * 1) [.string (bs ((p_a.New.Vals.getD 0 d_Str)))] := eC96
      refine CW.drawsI 24 (vgetI [DetI (.agg #[.string (bs (p_t.Name)), .slice A1 p_t.Cols.length c1, .slice A2 p_t.Idxs.length c2]), DetI (.pointer (some ⟨b18, 0 + 1, none⟩)), DetI (.agg #[.slice A4 p_a.Old.Vals.length c4]), DetI (.bool ((s_l25Good p_t p_a.Old))), DetI (.bool ((s_l25Good p_t p_a.Old))), DetI (.agg #[.string (bs (p_t.Name)), .slice A1 p_t.Cols.length c1, .slice A2 p_t.Idxs.length c2]), DetI (.pointer (some ⟨b18, 0 + 2, none⟩)), DetI (.agg #[.slice A5 p_a.New.Vals.length c5]), DetI (.bool ((s_l25Good p_t p_a.New))), DetI (.bool ((s_l25Good p_t p_a.New))), DetI (.bool ((s_l25Good p_t p_a.New))), DetI (.pointer (some ⟨b18, 0 + 1, none⟩)), DetI (.pointer (some ⟨b18, 0 + 1 + 0, none⟩)), DetI (.slice A4 p_a.Old.Vals.length c4), DetI (.pointer (some ⟨eb95, eo95 + 0 * 1, none⟩)), DetI (.string (bs ((p_a.Old.Vals.getD 0 d_Str)))), DetI (.pointer (some ⟨b18, 0 + 2, none⟩)), DetI (.pointer (some ⟨b18, 0 + 2 + 0, none⟩)), DetI (.slice A5 p_a.New.Vals.length c5), DetI (.pointer (some ⟨eb96, eo96 + 0 * 1, none⟩)), DetI (.string (bs ((p_a.New.Vals.getD 0 d_Str)))), DetI (.bool ((p_a.Old.Vals.getD 0 d_Str) == (p_a.New.Vals.getD 0 d_Str))), DetI (.bool ((p_a.Old.Vals.getD 0 d_Str) == (p_a.New.Vals.getD 0 d_Str))), DetI (.bool ((p_a.Old.Vals.getD 0 d_Str) == (p_a.New.Vals.getD 0 d_Str)))]) Tryd.follows rfl rfl rfl rfl rfl rfl (vgetI_stable ⟨StableI.det _, StableI.det _, StableI.det _, StableI.det _, StableI.det _, StableI.det _, StableI.det _, StableI.det _, StableI.det _, StableI.det _, StableI.det _, StableI.det _, StableI.det _, StableI.det _, StableI.det _, StableI.det _, StableI.det _, StableI.det _, StableI.det _, StableI.det _, StableI.det _, StableI.det _, StableI.det _, StableI.det _, trivial⟩) ⟨?_, ?_, ?_, ?_, ?_, ?_, ?_, ?_, ?_, ?_, ?_, ?_, ?_, ?_, ?_, ?_, ?_, ?_, ?_, ?_, ?_, ?_, ?_, ?_, trivial⟩ ?_
      ·exact fun _ _ h => os rfl ((yl_loadN (cs := [.string (bs (p_t.Name)), .slice A1 p_t.Cols.length c1, .slice A2 p_t.Idxs.length c2]) Tryd.ty36 rfl (h.old 2 _ rfl rfl) ((Box.ex q84 h.ex).cells (n := 3) rfl) rfl kI))
      ·exact fun _ _ h => os rfl ((yl_fieldAddr Tryd.fd46_1 rfl (h.old 3 _ rfl rfl) kI))
      ·exact fun _ _ h => os rfl ((yl_loadN (cs := [.slice A4 p_a.Old.Vals.length c4]) Tryd.ty31 rfl (h.dt 1 36 rfl rfl rfl) ((Box.ex hB22 h.ex).cells (n := 1) rfl) rfl kI))
      ·intro L114 w115 hi116
       have hE117 := hi116.ex
       refine OpR.op' rfl (yl_call Tryd.en41 rfl (opvs_cons (hi116.dt 0 35 rfl rfl rfl) (opvs_cons (hi116.dt 2 37 rfl rfl rfl) opvs_nil)) (Cal.mono (c_s_l25Good p_t p_a.Old (RdS.up (RdS.ex good_Str q86 hE117) good_Str) (RdS.up (RdS.ex good_Idx q88 hE117) good_Idx) (RdS.up (RdS.ex good_Str q90 hE117) good_Str) o3 o6.1) ?_))
       rintro v124 w123 ⟨rfl, hE125⟩
       exact ⟨rfl, hE125⟩
      ·exact fun _ _ h => os rfl ((yl_move rfl (h.dt 3 38 rfl rfl rfl) kI))
      ·exact fun _ _ h => OpR.want rfl rfl (h.dt 4 39 rfl rfl rfl) hb71 (Yl.sameI (yl_loadN (cs := [.string (bs (p_t.Name)), .slice A1 p_t.Cols.length c1, .slice A2 p_t.Idxs.length c2]) Tryd.ty36 rfl (h.old 2 _ rfl rfl) ((Box.ex q84 h.ex).cells (n := 3) rfl) rfl kI))
      ·exact fun _ _ h => OpR.want rfl rfl (h.dt 4 39 rfl rfl rfl) hb71 (Yl.sameI (yl_fieldAddr Tryd.fd46_2 rfl (h.old 3 _ rfl rfl) kI))
      ·exact fun _ _ h => OpR.want rfl rfl (h.dt 4 39 rfl rfl rfl) hb71 (Yl.sameI (yl_loadN (cs := [.slice A5 p_a.New.Vals.length c5]) Tryd.ty31 rfl (h.dt 6 41 rfl rfl rfl) ((Box.ex hB22 h.ex).cells (n := 1) rfl) rfl kI))
      ·intro L151 w152 hi153
       have hE154 := hi153.ex
       refine OpR.want rfl rfl (hi153.dt 4 39 rfl rfl rfl) hb71 (yl_call Tryd.en41 rfl (opvs_cons (hi153.dt 5 40 rfl rfl rfl) (opvs_cons (hi153.dt 7 42 rfl rfl rfl) opvs_nil)) (Cal.mono (c_s_l25Good p_t p_a.New (RdS.up (RdS.ex good_Str q86 hE154) good_Str) (RdS.up (RdS.ex good_Idx q88 hE154) good_Idx) (RdS.up (RdS.ex good_Str q93 hE154) good_Str) o3 o6.2) ?_))
       rintro v162 w161 ⟨rfl, hE163⟩
       exact ⟨rfl, hE163⟩
      ·exact fun _ _ h => os rfl ((yl_pick_t rfl (h.dt 4 39 rfl rfl rfl) hb71 (h.dt 8 43 rfl rfl rfl) kI))
      ·exact fun _ _ h => os rfl ((yl_move rfl (h.dt 9 44 rfl rfl rfl) kI))
      ·exact fun _ _ h => OpR.want rfl rfl (h.dt 10 45 rfl rfl rfl) hb83 (Yl.sameI (yl_fieldAddr Tryd.fd46_1 rfl (h.old 3 _ rfl rfl) kI))
      ·exact fun _ _ h => OpR.want rfl rfl (h.dt 10 45 rfl rfl rfl) hb83 (Yl.sameI (yl_fieldAddr Tryd.fd31_0 rfl (h.dt 11 46 rfl rfl rfl) kI))
      ·exact fun _ _ h => OpR.want rfl rfl (h.dt 10 45 rfl rfl rfl) hb83 (Yl.sameI (yl_load1 Tryd.ty22 rfl (h.dt 12 47 rfl rfl rfl) (((Box.ex hB22 h.ex).cell 1).trans rfl) kI))
      ·intro L194 w195 hi196
       have hE197 := hi196.ex
       have hE197z := Ex.size hE197
       exact OpR.want rfl rfl (hi196.dt 10 45 rfl rfl rfl) hb83 (Yl.sameI (yl_indexAddrN Tryd.un22 Tryd.ty9 rfl (hi196.dt 13 48 rfl rfl rfl) rfl eA95 (by first | omega | assumption | (simp only [IntKind.wrap_i64] at *; omega)) kI))
      ·exact fun _ _ h => OpR.want rfl rfl (h.dt 10 45 rfl rfl rfl) hb83 (Yl.sameI (yl_load1 Tryd.ty9 rfl (h.dt 14 49 rfl rfl rfl) ((Cells.ex eC95 h.ex) 0 _ rfl) kI))
      ·exact fun _ _ h => OpR.want rfl rfl (h.dt 10 45 rfl rfl rfl) hb83 (Yl.sameI (yl_fieldAddr Tryd.fd46_2 rfl (h.old 3 _ rfl rfl) kI))
      ·exact fun _ _ h => OpR.want rfl rfl (h.dt 10 45 rfl rfl rfl) hb83 (Yl.sameI (yl_fieldAddr Tryd.fd31_0 rfl (h.dt 16 51 rfl rfl rfl) kI))
      ·exact fun _ _ h => OpR.want rfl rfl (h.dt 10 45 rfl rfl rfl) hb83 (Yl.sameI (yl_load1 Tryd.ty22 rfl (h.dt 17 52 rfl rfl rfl) (((Box.ex hB22 h.ex).cell 2).trans rfl) kI))
      ·intro L226 w227 hi228
       have hE229 := hi228.ex
       have hE229z := Ex.size hE229
       exact OpR.want rfl rfl (hi228.dt 10 45 rfl rfl rfl) hb83 (Yl.sameI (yl_indexAddrN Tryd.un22 Tryd.ty9 rfl (hi228.dt 18 53 rfl rfl rfl) rfl eA96 (by first | omega | assumption | (simp only [IntKind.wrap_i64] at *; omega)) kI))
      ·exact fun _ _ h => OpR.want rfl rfl (h.dt 10 45 rfl rfl rfl) hb83 (Yl.sameI (yl_load1 Tryd.ty9 rfl (h.dt 19 54 rfl rfl rfl) ((Cells.ex eC96 h.ex) 0 _ rfl) kI))
      ·exact fun _ _ h => OpR.want rfl rfl (h.dt 10 45 rfl rfl rfl) hb83 (Yl.sameI (yl_seql (a := (p_a.Old.Vals.getD 0 d_Str)) (b := (p_a.New.Vals.getD 0 d_Str)) rfl (h.dt 15 50 rfl rfl rfl) (h.dt 20 55 rfl rfl rfl) kI))
      ·exact fun _ _ h => os rfl ((yl_pick_t rfl (h.dt 10 45 rfl rfl rfl) hb83 (h.dt 21 56 rfl rfl rfl) kI))
      ·exact fun _ _ h => os rfl ((yl_assign rfl (h.dt 22 57 rfl rfl rfl) kI))
      ·intro fl260 fh261 L257 w258 hp259
       have hE262 := hp259.ex
       have hE262z := Ex.size hE262
       refine SeqR.done (tn (CW.sub (Sub.cons (d := 4) (hp259.nt 23 4 rfl rfl rfl) (Sub.nil _)) (CW.ret (br (tr (rr rfl (.cons rfl .nil) ?_))))))
       have hM264 : (s_l26Good p_t p_a) = ((p_a.Old.Vals.getD 0 d_Str) == (p_a.New.Vals.getD 0 d_Str)) := by simp only [s_l26Good, hb24, hb43, hb62, hb71, hb83, cond_true, cond_false, loopE_done, loopE_ret]
       rw [hM264]
       exact ⟨rfl, (Ex.trans (Ex.trans (Ex.trans (Ex.refl w) hE17) hE23) hE262)⟩
     ·have q268 := Box.ex hB16 hE23
      have q270 := RdS.ex good_Str (RdS.ex good_Str h1 hE17) hE23
      have q272 := RdS.ex good_Idx (RdS.ex good_Idx h2 hE17) hE23
      refine CW.drawsI 24 (vgetI [DetI (.agg #[.string (bs (p_t.Name)), .slice A1 p_t.Cols.length c1, .slice A2 p_t.Idxs.length c2]), DetI (.pointer (some ⟨b18, 0 + 1, none⟩)), DetI (.agg #[.slice A4 p_a.Old.Vals.length c4]), DetI (.bool ((s_l25Good p_t p_a.Old))), DetI (.bool ((s_l25Good p_t p_a.Old))), DetI (.agg #[.string (bs (p_t.Name)), .slice A1 p_t.Cols.length c1, .slice A2 p_t.Idxs.length c2]), DetI (.pointer (some ⟨b18, 0 + 2, none⟩)), DetI (.agg #[.slice A5 p_a.New.Vals.length c5]), DetI (.bool ((s_l25Good p_t p_a.New))), DetI (.bool ((s_l25Good p_t p_a.New))), DetI (.bool ((s_l25Good p_t p_a.New))), DetI (undef), DetI (undef), DetI (undef), DetI (undef), DetI (undef), DetI (undef), DetI (undef), DetI (undef), DetI (undef), DetI (undef), DetI (undef), DetI (.bool (false)), DetI (.bool (false))]) Tryd.follows rfl rfl rfl rfl rfl rfl (vgetI_stable ⟨StableI.det _, StableI.det _, StableI.det _, StableI.det _, StableI.det _, StableI.det _, StableI.det _, StableI.det _, StableI.det _, StableI.det _, StableI.det _, StableI.det _, StableI.det _, StableI.det _, StableI.det _, StableI.det _, StableI.det _, StableI.det _, StableI.det _, StableI.det _, StableI.det _, StableI.det _, StableI.det _, StableI.det _, trivial⟩) ⟨?_, ?_, ?_, ?_, ?_, ?_, ?_, ?_, ?_, ?_, ?_, ?_, ?_, ?_, ?_, ?_, ?_, ?_, ?_, ?_, ?_, ?_, ?_, ?_, trivial⟩ ?_
      ·exact fun _ _ h => os rfl ((yl_loadN (cs := [.string (bs (p_t.Name)), .slice A1 p_t.Cols.length c1, .slice A2 p_t.Idxs.length c2]) Tryd.ty36 rfl (h.old 2 _ rfl rfl) ((Box.ex q268 h.ex).cells (n := 3) rfl) rfl kI))
      ·exact fun _ _ h => os rfl ((yl_fieldAddr Tryd.fd46_1 rfl (h.old 3 _ rfl rfl) kI))
      ·exact fun _ _ h => os rfl ((yl_loadN (cs := [.slice A4 p_a.Old.Vals.length c4]) Tryd.ty31 rfl (h.dt 1 36 rfl rfl rfl) ((Box.ex hB22 h.ex).cells (n := 1) rfl) rfl kI))
      ·intro L296 w297 hi298
       have hE299 := hi298.ex
       refine OpR.op' rfl (yl_call Tryd.en41 rfl (opvs_cons (hi298.dt 0 35 rfl rfl rfl) (opvs_cons (hi298.dt 2 37 rfl rfl rfl) opvs_nil)) (Cal.mono (c_s_l25Good p_t p_a.Old (RdS.up (RdS.ex good_Str q270 hE299) good_Str) (RdS.up (RdS.ex good_Idx q272 hE299) good_Idx) (RdS.up (RdS.ex good_Str (RdS.ex good_Str (RdS.ex good_Str h4 hE17) hE23) hE299) good_Str) o3 o6.1) ?_))
       rintro v306 w305 ⟨rfl, hE307⟩
       exact ⟨rfl, hE307⟩
      ·exact fun _ _ h => os rfl ((yl_move rfl (h.dt 3 38 rfl rfl rfl) kI))
      ·exact fun _ _ h => OpR.want rfl rfl (h.dt 4 39 rfl rfl rfl) hb71 (Yl.sameI (yl_loadN (cs := [.string (bs (p_t.Name)), .slice A1 p_t.Cols.length c1, .slice A2 p_t.Idxs.length c2]) Tryd.ty36 rfl (h.old 2 _ rfl rfl) ((Box.ex q268 h.ex).cells (n := 3) rfl) rfl kI))
      ·exact fun _ _ h => OpR.want rfl rfl (h.dt 4 39 rfl rfl rfl) hb71 (Yl.sameI (yl_fieldAddr Tryd.fd46_2 rfl (h.old 3 _ rfl rfl) kI))
      ·exact fun _ _ h => OpR.want rfl rfl (h.dt 4 39 rfl rfl rfl) hb71 (Yl.sameI (yl_loadN (cs := [.slice A5 p_a.New.Vals.length c5]) Tryd.ty31 rfl (h.dt 6 41 rfl rfl rfl) ((Box.ex hB22 h.ex).cells (n := 1) rfl) rfl kI))
      ·intro L333 w334 hi335
       have hE336 := hi335.ex
       refine OpR.want rfl rfl (hi335.dt 4 39 rfl rfl rfl) hb71 (yl_call Tryd.en41 rfl (opvs_cons (hi335.dt 5 40 rfl rfl rfl) (opvs_cons (hi335.dt 7 42 rfl rfl rfl) opvs_nil)) (Cal.mono (c_s_l25Good p_t p_a.New (RdS.up (RdS.ex good_Str q270 hE336) good_Str) (RdS.up (RdS.ex good_Idx q272 hE336) good_Idx) (RdS.up (RdS.ex good_Str (RdS.ex good_Str (RdS.ex good_Str h5 hE17) hE23) hE336) good_Str) o3 o6.2) ?_))
       rintro v344 w343 ⟨rfl, hE345⟩
       exact ⟨rfl, hE345⟩
      ·exact fun _ _ h => os rfl ((yl_pick_t rfl (h.dt 4 39 rfl rfl rfl) hb71 (h.dt 8 43 rfl rfl rfl) kI))
      ·exact fun _ _ h => os rfl ((yl_move rfl (h.dt 9 44 rfl rfl rfl) kI))
      ·exact fun _ _ h => OpR.skip rfl rfl (h.dt 10 45 rfl rfl rfl) hb83 ⟨rfl, Ex.refl _⟩
      ·exact fun _ _ h => OpR.skip rfl rfl (h.dt 10 45 rfl rfl rfl) hb83 ⟨rfl, Ex.refl _⟩
      ·exact fun _ _ h => OpR.skip rfl rfl (h.dt 10 45 rfl rfl rfl) hb83 ⟨rfl, Ex.refl _⟩
      ·exact fun _ _ h => OpR.skip rfl rfl (h.dt 10 45 rfl rfl rfl) hb83 ⟨rfl, Ex.refl _⟩
      ·exact fun _ _ h => OpR.skip rfl rfl (h.dt 10 45 rfl rfl rfl) hb83 ⟨rfl, Ex.refl _⟩
      ·exact fun _ _ h => OpR.skip rfl rfl (h.dt 10 45 rfl rfl rfl) hb83 ⟨rfl, Ex.refl _⟩
      ·exact fun _ _ h => OpR.skip rfl rfl (h.dt 10 45 rfl rfl rfl) hb83 ⟨rfl, Ex.refl _⟩
      ·exact fun _ _ h => OpR.skip rfl rfl (h.dt 10 45 rfl rfl rfl) hb83 ⟨rfl, Ex.refl _⟩
      ·exact fun _ _ h => OpR.skip rfl rfl (h.dt 10 45 rfl rfl rfl) hb83 ⟨rfl, Ex.refl _⟩
      ·exact fun _ _ h => OpR.skip rfl rfl (h.dt 10 45 rfl rfl rfl) hb83 ⟨rfl, Ex.refl _⟩
      ·exact fun _ _ h => OpR.skip rfl rfl (h.dt 10 45 rfl rfl rfl) hb83 ⟨rfl, Ex.refl _⟩
      ·exact fun _ _ h => os rfl ((yl_pick_f rfl (h.dt 10 45 rfl rfl rfl) hb83 rfl kI))
      ·exact fun _ _ h => os rfl ((yl_assign rfl (h.dt 22 57 rfl rfl rfl) kI))
      ·intro fl426 fh427 L423 w424 hp425
       have hE428 := hp425.ex
       have hE428z := Ex.size hE428
       refine SeqR.done (tn (CW.sub (Sub.cons (d := 4) (hp425.nt 23 4 rfl rfl rfl) (Sub.nil _)) (CW.ret (br (tr (rr rfl (.cons rfl .nil) ?_))))))
       have hM430 : (s_l26Good p_t p_a) = (false) := by simp only [s_l26Good, hb24, hb43, hb62, hb71, hb83, cond_true, cond_false, loopE_done, loopE_ret]
       rw [hM430]
       exact ⟨rfl, (Ex.trans (Ex.trans (Ex.trans (Ex.refl w) hE17) hE23) hE428)⟩
    ·refine CW.drawsI 24 (vgetI [DetI (.agg #[.string (bs (p_t.Name)), .slice A1 p_t.Cols.length c1, .slice A2 p_t.Idxs.length c2]), DetI (.pointer (some ⟨b18, 0 + 1, none⟩)), DetI (.agg #[.slice A4 p_a.Old.Vals.length c4]), DetI (.bool ((s_l25Good p_t p_a.Old))), DetI (.bool ((s_l25Good p_t p_a.Old))), DetI (undef), DetI (undef), DetI (undef), DetI (undef), DetI (.bool (false)), DetI (.bool (false)), DetI (undef), DetI (undef), DetI (undef), DetI (undef), DetI (undef), DetI (undef), DetI (undef), DetI (undef), DetI (undef), DetI (undef), DetI (undef), DetI (.bool (false)), DetI (.bool (false))]) Tryd.follows rfl rfl rfl rfl rfl rfl (vgetI_stable ⟨StableI.det _, StableI.det _, StableI.det _, StableI.det _, StableI.det _, StableI.det _, StableI.det _, StableI.det _, StableI.det _, StableI.det _, StableI.det _, StableI.det _, StableI.det _, StableI.det _, StableI.det _, StableI.det _, StableI.det _, StableI.det _, StableI.det _, StableI.det _, StableI.det _, StableI.det _, StableI.det _, StableI.det _, trivial⟩) ⟨?_, ?_, ?_, ?_, ?_, ?_, ?_, ?_, ?_, ?_, ?_, ?_, ?_, ?_, ?_, ?_, ?_, ?_, ?_, ?_, ?_, ?_, ?_, ?_, trivial⟩ ?_
     ·exact fun _ _ h => os rfl ((yl_loadN (cs := [.string (bs (p_t.Name)), .slice A1 p_t.Cols.length c1, .slice A2 p_t.Idxs.length c2]) Tryd.ty36 rfl (h.old 2 _ rfl rfl) ((Box.ex (Box.ex hB16 hE23) h.ex).cells (n := 3) rfl) rfl kI))
     ·exact fun _ _ h => os rfl ((yl_fieldAddr Tryd.fd46_1 rfl (h.old 3 _ rfl rfl) kI))
     ·exact fun _ _ h => os rfl ((yl_loadN (cs := [.slice A4 p_a.Old.Vals.length c4]) Tryd.ty31 rfl (h.dt 1 36 rfl rfl rfl) ((Box.ex hB22 h.ex).cells (n := 1) rfl) rfl kI))
     ·intro L459 w460 hi461
      have hE462 := hi461.ex
      refine OpR.op' rfl (yl_call Tryd.en41 rfl (opvs_cons (hi461.dt 0 35 rfl rfl rfl) (opvs_cons (hi461.dt 2 37 rfl rfl rfl) opvs_nil)) (Cal.mono (c_s_l25Good p_t p_a.Old (RdS.up (RdS.ex good_Str (RdS.ex good_Str (RdS.ex good_Str h1 hE17) hE23) hE462) good_Str) (RdS.up (RdS.ex good_Idx (RdS.ex good_Idx (RdS.ex good_Idx h2 hE17) hE23) hE462) good_Idx) (RdS.up (RdS.ex good_Str (RdS.ex good_Str (RdS.ex good_Str h4 hE17) hE23) hE462) good_Str) o3 o6.1) ?_))
      rintro v469 w468 ⟨rfl, hE470⟩
      exact ⟨rfl, hE470⟩
     ·exact fun _ _ h => os rfl ((yl_move rfl (h.dt 3 38 rfl rfl rfl) kI))
     ·exact fun _ _ h => OpR.skip rfl rfl (h.dt 4 39 rfl rfl rfl) hb71 ⟨rfl, Ex.refl _⟩
     ·exact fun _ _ h => OpR.skip rfl rfl (h.dt 4 39 rfl rfl rfl) hb71 ⟨rfl, Ex.refl _⟩
     ·exact fun _ _ h => OpR.skip rfl rfl (h.dt 4 39 rfl rfl rfl) hb71 ⟨rfl, Ex.refl _⟩
     ·exact fun _ _ h => OpR.skip rfl rfl (h.dt 4 39 rfl rfl rfl) hb71 ⟨rfl, Ex.refl _⟩
     ·exact fun _ _ h => os rfl ((yl_pick_f rfl (h.dt 4 39 rfl rfl rfl) hb71 rfl kI))
     ·exact fun _ _ h => os rfl ((yl_move rfl (h.dt 9 44 rfl rfl rfl) kI))
     ·exact fun _ _ h => OpR.skip rfl rfl (h.dt 10 45 rfl rfl rfl) rfl ⟨rfl, Ex.refl _⟩
     ·exact fun _ _ h => OpR.skip rfl rfl (h.dt 10 45 rfl rfl rfl) rfl ⟨rfl, Ex.refl _⟩
     ·exact fun _ _ h => OpR.skip rfl rfl (h.dt 10 45 rfl rfl rfl) rfl ⟨rfl, Ex.refl _⟩
     ·exact fun _ _ h => OpR.skip rfl rfl (h.dt 10 45 rfl rfl rfl) rfl ⟨rfl, Ex.refl _⟩
     ·exact fun _ _ h => OpR.skip rfl rfl (h.dt 10 45 rfl rfl rfl) rfl ⟨rfl, Ex.refl _⟩
     ·exact fun _ _ h => OpR.skip rfl rfl (h.dt 10 45 rfl rfl rfl) rfl ⟨rfl, Ex.refl _⟩
     ·exact fun _ _ h => OpR.skip rfl rfl (h.dt 10 45 rfl rfl rfl) rfl ⟨rfl, Ex.refl _⟩
     ·exact fun _ _ h => OpR.skip rfl rfl (h.dt 10 45 rfl rfl rfl) rfl ⟨rfl, Ex.refl _⟩
     ·exact fun _ _ h => OpR.skip rfl rfl (h.dt 10 45 rfl rfl rfl) rfl ⟨rfl, Ex.refl _⟩
     ·exact fun _ _ h => OpR.skip rfl rfl (h.dt 10 45 rfl rfl rfl) rfl ⟨rfl, Ex.refl _⟩
     ·exact fun _ _ h => OpR.skip rfl rfl (h.dt 10 45 rfl rfl rfl) rfl ⟨rfl, Ex.refl _⟩
     ·exact fun _ _ h => os rfl ((yl_pick_f rfl (h.dt 10 45 rfl rfl rfl) rfl rfl kI))
     ·exact fun _ _ h => os rfl ((yl_assign rfl (h.dt 22 57 rfl rfl rfl) kI))
     ·intro fl576 fh577 L573 w574 hp575
      have hE578 := hp575.ex
      have hE578z := Ex.size hE578
      refine SeqR.done (tn (CW.sub (Sub.cons (d := 4) (hp575.nt 23 4 rfl rfl rfl) (Sub.nil _)) (CW.ret (br (tr (rr rfl (.cons rfl .nil) ?_))))))
      have hM580 : (s_l26Good p_t p_a) = (false) := by simp only [s_l26Good, hb24, hb43, hb62, hb71, cond_true, cond_false, loopE_done, loopE_ret]
      rw [hM580]
      exact ⟨rfl, (Ex.trans (Ex.trans (Ex.trans (Ex.refl w) hE17) hE23) hE578)⟩
   ·have hb62p := dec_f hb62
    refine CW.cond_f rfl hb62 (CW.skip (bn (tn (CW.seq (CW.region (sd rfl (yl_assign rfl rfl (SeqR.done (tn ?_)))))))))
    refine CW.ret (rr rfl (.cons rfl .nil) ?_)
    have hM584 : (s_l26Good p_t p_a) = (false) := by simp only [s_l26Good, hb24, hb43, hb62, cond_true, cond_false, loopE_done, loopE_ret]
    rw [hM584]
    exact ⟨rfl, (Ex.trans (Ex.trans (Ex.refl w) hE17) hE23)⟩
set_option maxRecDepth 100000 in
set_option maxHeartbeats 2000000 in
theorem c_s_l27Empty {A1 : Option Addr} {c1 : Nat} {A2 : Option Addr} {c2 : Nat} {w : World} (p_a : DRowAct) (h1 : RdS w (Iv 0 w.heap.size) (RF e_Str) 1 A1 p_a.Old.Vals.length c1 p_a.Old.Vals) (h2 : RdS w (Iv 0 w.heap.size) (RF e_Str) 1 A2 p_a.New.Vals.length c2 p_a.New.Vals) (o3 : ok_RowAct p_a) : Cal Tryd.prog 75 #[.agg #[.int .i64 (p_a.Kind), .slice A1 p_a.Old.Vals.length c1, .slice A2 p_a.New.Vals.length c2]] w fun v w' => v = .bool ((s_l27Empty p_a)) ∧ Ex w w' := by
 have hol4 := o3.1.1
 have hol5 := o3.2.1
 refine Cal.of (vs := [.agg #[.int .i64 (p_a.Kind), .slice A1 p_a.Old.Vals.length c1, .slice A2 p_a.New.Vals.length c2]]) Tryd.func75 rfl Tryd.ntmps75 rfl (CW.seq (CW.region (sd rfl (yl_box (cs := [.int .i64 (p_a.Kind), .slice A1 p_a.Old.Vals.length c1, .slice A2 p_a.New.Vals.length c2]) rfl rfl rfl ?_))))
 intro b6 w7 hs8 hz9 hB10 hE11
 refine sd rfl (yl_assign rfl rfl (SeqR.done (tn (CW.seq (CW.region (sd rfl (yl_fieldAddr Tryd.fd46_0 rfl rfl (sd rfl (yl_load1 Tryd.ty3 rfl rfl ((hB10.cell 0).trans rfl) (sd rfl (yl_eql rfl rfl rfl (sd rfl (yl_move rfl rfl ?_)))))))))))))
 refine bcase (decide (p_a.Kind = 0)) (fun hb12 => ?_) (fun hb12 => ?_)
 ·have hb12p := dec_t hb12
  refine sy rfl rfl hb12 (yl_fieldAddr Tryd.fd46_1 rfl rfl (sy rfl rfl hb12 (yl_fieldAddr Tryd.fd31_0 rfl rfl (sy rfl rfl hb12 (yl_load1 Tryd.ty22 rfl rfl ((hB10.cell 1).trans rfl) (sy rfl rfl hb12 (yl_len Tryd.un22 rfl rfl (sy rfl rfl hb12 (yl_eql rfl rfl rfl (sd rfl (yl_pick_t rfl rfl hb12 rfl (sd rfl (yl_move rfl rfl (bcase (decide ((p_a.Old.Vals.length : Int) = 0)) (fun hb13 => ?_) (fun hb13 => ?_)))))))))))))))
  ·have hb13p := dec_t hb13
   refine sy rfl rfl hb13 (yl_fieldAddr Tryd.fd46_2 rfl rfl (sy rfl rfl hb13 (yl_fieldAddr Tryd.fd31_0 rfl rfl (sy rfl rfl hb13 (yl_load1 Tryd.ty22 rfl rfl ((hB10.cell 2).trans rfl) (sy rfl rfl hb13 (yl_len Tryd.un22 rfl rfl (sy rfl rfl hb13 (yl_eql rfl rfl rfl (sd rfl (yl_pick_t rfl rfl hb13 rfl (sd rfl (yl_assign rfl rfl (SeqR.done (tn ?_)))))))))))))))
   refine CW.ret (rr rfl (.cons rfl .nil) ?_)
   have hM14 : (s_l27Empty p_a) = (decide ((p_a.New.Vals.length : Int) = 0)) := by simp only [s_l27Empty, hb12, hb13, cond_true, cond_false, loopE_done, loopE_ret]
   rw [hM14]
   exact ⟨rfl, (Ex.trans (Ex.refl w) hE11)⟩
  ·have hb13p := dec_f hb13
   refine sz rfl rfl hb13 (sz rfl rfl hb13 (sz rfl rfl hb13 (sz rfl rfl hb13 (sz rfl rfl hb13 (sd rfl (yl_pick_f rfl rfl hb13 rfl (sd rfl (yl_assign rfl rfl (SeqR.done (tn ?_))))))))))
   refine CW.ret (rr rfl (.cons rfl .nil) ?_)
   have hM16 : (s_l27Empty p_a) = (false) := by simp only [s_l27Empty, hb12, hb13, cond_true, cond_false, loopE_done, loopE_ret]
   rw [hM16]
   exact ⟨rfl, (Ex.trans (Ex.refl w) hE11)⟩
 ·have hb12p := dec_f hb12
  refine sz rfl rfl hb12 (sz rfl rfl hb12 (sz rfl rfl hb12 (sz rfl rfl hb12 (sz rfl rfl hb12 (sd rfl (yl_pick_f rfl rfl hb12 rfl (sd rfl (yl_move rfl rfl (sz rfl rfl rfl (sz rfl rfl rfl ?_))))))))))
  refine sz rfl rfl rfl (sz rfl rfl rfl (sz rfl rfl rfl (sd rfl (yl_pick_f rfl rfl rfl rfl (sd rfl (yl_assign rfl rfl (SeqR.done (tn (CW.ret (rr rfl (.cons rfl .nil) ?_))))))))))
  have hM18 : (s_l27Empty p_a) = (false) := by simp only [s_l27Empty, hb12, cond_true, cond_false, loopE_done, loopE_ret]
  rw [hM18]
  exact ⟨rfl, (Ex.trans (Ex.refl w) hE11)⟩
set_option maxRecDepth 100000 in
set_option maxHeartbeats 2000000 in
theorem c_s_l24Idx {A1 : Option Addr} {c1 : Nat} {A2 : Option Addr} {c2 : Nat} {w : World} (p_t : DTable) (p_name : Str) (h1 : RdS w (Iv 0 w.heap.size) (RF e_Str) 1 A1 p_t.Cols.length c1 p_t.Cols) (h2 : RdS w (Iv 0 w.heap.size) (RF e_Idx) 3 A2 p_t.Idxs.length c2 p_t.Idxs) (o3 : ok_Table p_t) (o4 : okS p_name) : Cal Tryd.prog 76 #[.agg #[.string (bs (p_t.Name)), .slice A1 p_t.Cols.length c1, .slice A2 p_t.Idxs.length c2], .string (bs (p_name))] w fun v w' => v = .int .i64 ((s_l24Idx p_t p_name)) ∧ Ex w w' := by
 have hol5 : p_t.Name.length ≤ 1073741824 := o3.1
 have hol6 := o3.2.1.1
 have hol7 := o3.2.2.1
 have hol8 : p_name.length ≤ 1073741824 := o4
 refine Cal.of (vs := [.agg #[.string (bs (p_t.Name)), .slice A1 p_t.Cols.length c1, .slice A2 p_t.Idxs.length c2], .string (bs (p_name))]) Tryd.func76 rfl Tryd.ntmps76 rfl (CW.seq (CW.region (sd rfl (yl_box (cs := [.string (bs (p_t.Name)), .slice A1 p_t.Cols.length c1, .slice A2 p_t.Idxs.length c2]) rfl rfl rfl ?_))))
 intro b9 w10 hs11 hz12 hB13 hE14
 refine sd rfl (yl_assign rfl rfl (SeqR.done (tn (CW.seq (CW.seq (CW.region (sd rfl (yl_fieldAddr Tryd.fd36_2 rfl rfl (sd rfl (yl_load1 Tryd.ty34 rfl rfl ((hB13.cell 2).trans rfl) (sd rfl (yl_len Tryd.un34 rfl rfl ?_))))))))))))
 refine sd rfl (yl_move rfl rfl (SeqR.done (tn (CW.block (CW.loop (fun m27 L28 w29 => ∃ (k15 : Nat), m27 = p_t.Idxs.length - k15 ∧ k15 ≤ p_t.Idxs.length ∧ w10.heap.size ≤ w29.heap.size ∧ lkp L28 1 = some (.string (bs (p_name))) ∧ lkp L28 8 = some (.slice A2 p_t.Idxs.length c2) ∧ lkp L28 9 = some (.int .i64 ((p_t.Idxs.length : Int))) ∧ lkp L28 10 = some (.int .i64 ((k15 : Int))) ∧ RdS w29 (Iv 0 w.heap.size) (RF e_Idx) 3 A2 p_t.Idxs.length c2 p_t.Idxs ∧ Ex w w29 ∧ loopM (B_s_l24Idx_0 p_t p_name) (p_t.Idxs.length - k15) k15 () = loopM (B_s_l24Idx_0 p_t p_name) (p_t.Idxs.length - 0) 0 ()) (p_t.Idxs.length - 0) ?_ ?_)))))
 ·exact ⟨0, rfl, (by omega), Nat.le_refl _, rfl, rfl, rfl, rfl, (RdS.ex good_Idx h2 hE14), (Ex.trans (Ex.refl w) hE14), rfl⟩
 ·rintro m32 L33 w34 ⟨k15, rfl, hk35, hsz37, hl38, hl39, hl40, hl41, hf42, hf43, hI36⟩
  refine CW.sub (Sub.cons hl38 (Sub.cons hl39 (Sub.cons hl40 (Sub.cons hl41 (Sub.nil _))))) ?_
  have hf43z := Ex.size hf43
  have hbg44 := RdS.big hf42
  rcases Nat.lt_or_ge k15 p_t.Idxs.length with hlt45 | hlt45
  ·refine CW.seq (CW.region (sd rfl (yl_lss rfl rfl rfl (SeqR.done (tn (CW.seq (CW.cond_t rfl (lt_t hlt45) (CW.skip (tn ?_)))))))))
   refine CW.seq (CW.block (CW.seq (CW.region (sd rfl (yl_move rfl rfl ?_)))))
   obtain ⟨eb46, eo46, ec46, eA46, eS46, ebl46, el46, eR46, eC46⟩ := RdS.atD hf42 d_Idx (i := k15) (by first | omega | assumption)
   obtain rfl := eR46
   have eC46 : Cells w34 eb46 (eo46 + k15 * 3) [.string (bs ((p_t.Idxs.getD k15 d_Idx).Name)), .int .i64 ((p_t.Idxs.getD k15 d_Idx).Col), .int .i64 ((p_t.Idxs.getD k15 d_Idx).Stage)] := eC46
   refine sd rfl (yl_indexAddrN Tryd.un34 Tryd.ty74 rfl rfl rfl eA46 (by first | omega | assumption | (simp only [IntKind.wrap_i64] at *; omega)) (sd rfl (yl_loadN (cs := [.string (bs ((p_t.Idxs.getD k15 d_Idx).Name)), .int .i64 ((p_t.Idxs.getD k15 d_Idx).Col), .int .i64 ((p_t.Idxs.getD k15 d_Idx).Stage)]) Tryd.ty74 rfl rfl eC46 rfl (sd rfl (yl_alloc Tryd.ty74 (cs := [.string (bs (([] : Str))), .int .i64 (0), .int .i64 (0)]) rfl rfl ?_)))))
   intro b47 w48 hs49 hz50 hB51 hE52
   refine sd rfl (yl_assign rfl rfl (SeqR.u rfl rfl (yl_store (vs := [.string (bs ((p_t.Idxs.getD k15 d_Idx).Name)), .int .i64 ((p_t.Idxs.getD k15 d_Idx).Col), .int .i64 ((p_t.Idxs.getD k15 d_Idx).Stage)]) Tryd.ty74 rfl rfl rfl rfl rfl rfl hB51 (Nat.le_of_ble_eq_true rfl) ?_)))
   intro w53 hB54 hO55
   have hB54 : Box w53 b47 74 [.string (bs ((p_t.Idxs.getD k15 d_Idx).Name)), .int .i64 ((p_t.Idxs.getD k15 d_Idx).Col), .int .i64 ((p_t.Idxs.getD k15 d_Idx).Stage)] := hB54
   have hO55z := hO55.size
   refine SeqR.done (tn (CW.seq (CW.region (sd rfl (yl_fieldAddr Tryd.fd74_0 rfl rfl (sd rfl (yl_load1 Tryd.ty9 rfl rfl ((hB54.cell 0).trans rfl) (sd rfl (yl_move rfl rfl (sd rfl (yl_seql (a := ((p_t.Idxs.getD k15 d_Idx).Name)) (b := p_name) rfl rfl rfl (SeqR.done ?_))))))))))))
   refine tn (bcase (((p_t.Idxs.getD k15 d_Idx).Name) == p_name) (fun hb56 => ?_) (fun hb56 => ?_))
   ·refine CW.cond_t rfl hb56 (CW.seq (CW.region (sd rfl (yl_move rfl rfl (sd rfl (yl_assign rfl rfl (SeqR.done (tn (CW.ret (br ?_))))))))))
    refine tr (tr ?_)
    have hB58 : B_s_l24Idx_0 p_t p_name k15 () = .ret (k15 : Int) := by simp only [B_s_l24Idx_0, hb56, cond_true, cond_false, loopE_done, loopE_ret]
    have hL57 : loopM (B_s_l24Idx_0 p_t p_name) (p_t.Idxs.length - 0) 0 () = .ret (k15 : Int) := hI36.symm.trans (loopM.ret hlt45 hB58)
    refine br (tr (rr rfl (.cons rfl .nil) ?_))
    have hM59 : (s_l24Idx p_t p_name) = ((k15 : Int)) := by simp only [s_l24Idx, hb56, hL57, cond_true, cond_false, loopE_done, loopE_ret]
    rw [hM59]
    exact ⟨rfl, (Below.only (Ex.trans hf43 hE52) hO55 (by omega))⟩
   ·refine CW.cond_f rfl hb56 (CW.skip (bn (tn (CW.region (sd rfl (yl_inc rfl rfl rfl (by omega) (sd rfl (yl_move rfl rfl (SeqR.done (tn ?_))))))))))
    have hB62 : B_s_l24Idx_0 p_t p_name k15 () = .cont () := by simp only [B_s_l24Idx_0, hb56, cond_true, cond_false, loopE_done, loopE_ret]
    exact ⟨p_t.Idxs.length - (k15 + 1), by omega, k15 + 1, rfl, hlt45, (by omega), rfl, rfl, rfl, rfl, (RdS.only good_Idx (RdS.ex good_Idx hf42 hE52) hO55 (by simp only [Iv]; omega)), (Below.only (Ex.trans hf43 hE52) hO55 (by omega)), (loopM.cont hlt45 hB62).symm.trans hI36⟩
  ·refine CW.seq (CW.region (sd rfl (yl_lss rfl rfl rfl (SeqR.done (tn (CW.seq (CW.cond_f rfl (lt_f hlt45) (CW.exit (tx ?_)))))))))
   refine tx ?_
   have hL67 : loopM (B_s_l24Idx_0 p_t p_name) (p_t.Idxs.length - 0) 0 () = .done () := hI36.symm.trans (loopM.stop hlt45)
   refine bx (tn (CW.seq (CW.region (sd rfl (yl_assign rfl rfl (SeqR.done (tn (CW.ret (rr rfl (.cons rfl .nil) ?_)))))))))
   have hM68 : (s_l24Idx p_t p_name) = (-1) := by simp only [s_l24Idx, hL67, cond_true, cond_false, loopE_done, loopE_ret]
   rw [hM68]
   exact ⟨rfl, hf43⟩
set_option maxRecDepth 100000 in
set_option maxHeartbeats 2000000 in
theorem c_s_l30Good {A1 : Option Addr} {c1 : Nat} {A2 : Option Addr} {c2 : Nat} {A4 : Option Addr} {c4 : Nat} {A5 : Option Addr} {c5 : Nat} {w : World} (p_0 : DTable) (p_1 : DStmt) (h1 : RdS w (Iv 0 w.heap.size) (RF e_Str) 1 A1 p_0.Cols.length c1 p_0.Cols) (h2 : RdS w (Iv 0 w.heap.size) (RF e_Idx) 3 A2 p_0.Idxs.length c2 p_0.Idxs) (h4 : RdS w (Iv 0 w.heap.size) (RF e_Str) 1 A4 p_1.Act.Old.Vals.length c4 p_1.Act.Old.Vals) (h5 : RdS w (Iv 0 w.heap.size) (RF e_Str) 1 A5 p_1.Act.New.Vals.length c5 p_1.Act.New.Vals) (o3 : ok_Table p_0) (o6 : ok_Stmt p_1) (pre0 : (p_1.Kind = 1 → p_1.Act.Kind = 3 → 0 < p_0.Cols.length ∨ 0 < p_1.Act.Old.Vals.length)) : Cal Tryd.prog 58 #[.agg #[.string (bs (p_0.Name)), .slice A1 p_0.Cols.length c1, .slice A2 p_0.Idxs.length c2], .agg #[.int .i64 (p_1.Kind), .int .i64 (p_1.Act.Kind), .slice A4 p_1.Act.Old.Vals.length c4, .slice A5 p_1.Act.New.Vals.length c5, .string (bs (p_1.Idx)), .string (bs (p_1.Low)), .string (bs (p_1.High))]] w fun v w' => v = .bool ((s_l30Good p_0 p_1)) ∧ Ex w w' := by
 have hol7 : p_0.Name.length ≤ 1073741824 := o3.1
 have hol8 := o3.2.1.1
 have hol9 := o3.2.2.1
 have hol10 := o6.1.1.1
 have hol11 := o6.1.2.1
 have hol12 : p_1.Idx.length ≤ 1073741824 := o6.2.1
 have hol13 : p_1.Low.length ≤ 1073741824 := o6.2.2.1
 have hol14 : p_1.High.length ≤ 1073741824 := o6.2.2.2
 refine Cal.of (vs := [.agg #[.string (bs (p_0.Name)), .slice A1 p_0.Cols.length c1, .slice A2 p_0.Idxs.length c2], .agg #[.int .i64 (p_1.Kind), .int .i64 (p_1.Act.Kind), .slice A4 p_1.Act.Old.Vals.length c4, .slice A5 p_1.Act.New.Vals.length c5, .string (bs (p_1.Idx)), .string (bs (p_1.Low)), .string (bs (p_1.High))]]) Tryd.func58 rfl Tryd.ntmps58 rfl (CW.seq (CW.region (sd rfl (yl_box (cs := [.string (bs (p_0.Name)), .slice A1 p_0.Cols.length c1, .slice A2 p_0.Idxs.length c2]) rfl rfl rfl ?_))))
 intro b15 w16 hs17 hz18 hB19 hE20
 refine sd rfl (yl_box (cs := [.int .i64 (p_1.Kind), .int .i64 (p_1.Act.Kind), .slice A4 p_1.Act.Old.Vals.length c4, .slice A5 p_1.Act.New.Vals.length c5, .string (bs (p_1.Idx)), .string (bs (p_1.Low)), .string (bs (p_1.High))]) rfl rfl rfl ?_)
 intro b21 w22 hs23 hz24 hB25 hE26
 refine sd rfl (yl_assign rfl rfl (SeqR.done (tn (CW.seq (CW.seq (CW.region (sd rfl (yl_fieldAddr Tryd.fd48_0 rfl rfl (sd rfl (yl_load1 Tryd.ty3 rfl rfl ((hB25.cell 0).trans rfl) (SeqR.done ?_)))))))))))
 refine tn (CW.block (CW.seq (CW.region (sd rfl (yl_eql rfl rfl rfl (sd rfl (yl_assign rfl rfl (SeqR.done (tn (bcase (decide (p_1.Kind = 1)) (fun hb27 => ?_) (fun hb27 => ?_)))))))))))
 ·have hb27p := dec_t hb27
  refine CW.cond_t rfl hb27 (CW.seq (CW.region (sd rfl (yl_loadN (cs := [.string (bs (p_0.Name)), .slice A1 p_0.Cols.length c1, .slice A2 p_0.Idxs.length c2]) Tryd.ty36 rfl rfl ((Box.ex hB19 hE26).cells (n := 3) rfl) rfl (sd rfl (yl_fieldAddr Tryd.fd48_1 rfl rfl (sd rfl (yl_loadN (cs := [.int .i64 (p_1.Act.Kind), .slice A4 p_1.Act.Old.Vals.length c4, .slice A5 p_1.Act.New.Vals.length c5]) Tryd.ty46 rfl rfl (hB25.cells (n := 3) rfl) rfl (sd rfl (yl_call Tryd.en74 rfl (opvs_cons rfl (opvs_cons rfl opvs_nil)) (Cal.mono (c_s_l26Good p_0 p_1.Act (RdS.up (RdS.ex good_Str (RdS.ex good_Str h1 hE20) hE26) good_Str) (RdS.up (RdS.ex good_Idx (RdS.ex good_Idx h2 hE20) hE26) good_Idx) (RdS.up (RdS.ex good_Str (RdS.ex good_Str h4 hE20) hE26) good_Str) (RdS.up (RdS.ex good_Str (RdS.ex good_Str h5 hE20) hE26) good_Str) o3 o6.1 (by first | omega | assumption | (simp only [IntKind.wrap_i64] at *; omega))) ?_)))))))))))
  rintro v38 w37 ⟨rfl, hE39⟩
  have hE39z := Ex.size hE39
  refine sd rfl (yl_move rfl rfl (bcase (s_l26Good p_0 p_1.Act) (fun hb40 => ?_) (fun hb40 => ?_)))
  ·refine sy rfl rfl hb40 (yl_fieldAddr Tryd.fd48_2 rfl rfl ?_)
   have q41 := Box.ex hB25 hE39
   refine sy rfl rfl hb40 (yl_load1 Tryd.ty9 rfl rfl ((q41.cell 4).trans rfl) (sy rfl rfl hb40 (yl_seql (a := p_1.Idx) (b := ([] : Str)) rfl rfl rfl (sd rfl (yl_pick_t rfl rfl hb40 rfl (sd rfl (yl_move rfl rfl (bcase (p_1.Idx == ([] : Str)) (fun hb42 => ?_) (fun hb42 => ?_)))))))))
   ·refine sy rfl rfl hb42 (yl_fieldAddr Tryd.fd48_3 rfl rfl (sy rfl rfl hb42 (yl_load1 Tryd.ty9 rfl rfl ((q41.cell 5).trans rfl) (sy rfl rfl hb42 (yl_seql (a := p_1.Low) (b := ([] : Str)) rfl rfl rfl (sd rfl (yl_pick_t rfl rfl hb42 rfl (sd rfl (yl_move rfl rfl (bcase (p_1.Low == ([] : Str)) (fun hb43 => ?_) (fun hb43 => ?_)))))))))))
    ·refine sy rfl rfl hb43 (yl_fieldAddr Tryd.fd48_4 rfl rfl (sy rfl rfl hb43 (yl_load1 Tryd.ty9 rfl rfl ((q41.cell 6).trans rfl) (sy rfl rfl hb43 (yl_seql (a := p_1.High) (b := ([] : Str)) rfl rfl rfl (sd rfl (yl_pick_t rfl rfl hb43 rfl (sd rfl (yl_assign rfl rfl (SeqR.done (tn (CW.ret (br ?_)))))))))))))
     refine tr (rr rfl (.cons rfl .nil) ?_)
     have hM44 : (s_l30Good p_0 p_1) = (p_1.High == ([] : Str)) := by simp only [s_l30Good, hb27, hb40, hb42, hb43, cond_true, cond_false, loopE_done, loopE_ret]
     rw [hM44]
     exact ⟨rfl, (Ex.trans (Ex.trans (Ex.trans (Ex.refl w) hE20) hE26) hE39)⟩
    ·refine sz rfl rfl hb43 (sz rfl rfl hb43 (sz rfl rfl hb43 (sd rfl (yl_pick_f rfl rfl hb43 rfl (sd rfl (yl_assign rfl rfl (SeqR.done (tn (CW.ret (br ?_))))))))))
     refine tr (rr rfl (.cons rfl .nil) ?_)
     have hM48 : (s_l30Good p_0 p_1) = (false) := by simp only [s_l30Good, hb27, hb40, hb42, hb43, cond_true, cond_false, loopE_done, loopE_ret]
     rw [hM48]
     exact ⟨rfl, (Ex.trans (Ex.trans (Ex.trans (Ex.refl w) hE20) hE26) hE39)⟩
   ·refine sz rfl rfl hb42 (sz rfl rfl hb42 (sz rfl rfl hb42 (sd rfl (yl_pick_f rfl rfl hb42 rfl (sd rfl (yl_move rfl rfl (sz rfl rfl rfl (sz rfl rfl rfl (sz rfl rfl rfl (sd rfl (yl_pick_f rfl rfl rfl rfl ?_)))))))))))
    refine sd rfl (yl_assign rfl rfl (SeqR.done (tn (CW.ret (br (tr (rr rfl (.cons rfl .nil) ?_)))))))
    have hM52 : (s_l30Good p_0 p_1) = (false) := by simp only [s_l30Good, hb27, hb40, hb42, cond_true, cond_false, loopE_done, loopE_ret]
    rw [hM52]
    exact ⟨rfl, (Ex.trans (Ex.trans (Ex.trans (Ex.refl w) hE20) hE26) hE39)⟩
  ·refine sz rfl rfl hb40 (sz rfl rfl hb40 (sz rfl rfl hb40 (sd rfl (yl_pick_f rfl rfl hb40 rfl (sd rfl (yl_move rfl rfl (sz rfl rfl rfl (sz rfl rfl rfl (sz rfl rfl rfl (sd rfl (yl_pick_f rfl rfl rfl rfl ?_)))))))))))
   refine sd rfl (yl_move rfl rfl (sz rfl rfl rfl (sz rfl rfl rfl (sz rfl rfl rfl (sd rfl (yl_pick_f rfl rfl rfl rfl (sd rfl (yl_assign rfl rfl (SeqR.done (tn (CW.ret ?_)))))))))))
   refine br (tr (rr rfl (.cons rfl .nil) ?_))
   have hM56 : (s_l30Good p_0 p_1) = (false) := by simp only [s_l30Good, hb27, hb40, cond_true, cond_false, loopE_done, loopE_ret]
   rw [hM56]
   exact ⟨rfl, (Ex.trans (Ex.trans (Ex.trans (Ex.refl w) hE20) hE26) hE39)⟩
 ·have hb27p := dec_f hb27
  refine CW.cond_f rfl hb27 (CW.seq (CW.region (sd rfl (yl_eql rfl rfl rfl (sd rfl (yl_assign rfl rfl (SeqR.done (tn (bcase (decide (p_1.Kind = 2)) (fun hb60 => ?_) (fun hb60 => ?_))))))))))
  ·have hb60p := dec_t hb60
   refine CW.cond_t rfl hb60 (CW.seq (CW.region (sd rfl (yl_fieldAddr Tryd.fd48_1 rfl rfl (sd rfl (yl_loadN (cs := [.int .i64 (p_1.Act.Kind), .slice A4 p_1.Act.Old.Vals.length c4, .slice A5 p_1.Act.New.Vals.length c5]) Tryd.ty46 rfl rfl (hB25.cells (n := 3) rfl) rfl (sd rfl (yl_call Tryd.en75 rfl (opvs_cons rfl opvs_nil) (Cal.mono (c_s_l27Empty p_1.Act (RdS.up (RdS.ex good_Str (RdS.ex good_Str h4 hE20) hE26) good_Str) (RdS.up (RdS.ex good_Str (RdS.ex good_Str h5 hE20) hE26) good_Str) o6.1) ?_)))))))))
   rintro v66 w65 ⟨rfl, hE67⟩
   have hE67z := Ex.size hE67
   refine sd rfl (yl_move rfl rfl (bcase (s_l27Empty p_1.Act) (fun hb68 => ?_) (fun hb68 => ?_)))
   ·refine sy rfl rfl hb68 (yl_fieldAddr Tryd.fd48_2 rfl rfl ?_)
    have q69 := Box.ex hB25 hE67
    refine sy rfl rfl hb68 (yl_load1 Tryd.ty9 rfl rfl ((q69.cell 4).trans rfl) (sy rfl rfl hb68 (yl_seql (a := p_1.Idx) (b := ([] : Str)) rfl rfl rfl (sd rfl (yl_pick_t rfl rfl hb68 rfl (sd rfl (yl_move rfl rfl (bcase (p_1.Idx == ([] : Str)) (fun hb70 => ?_) (fun hb70 => ?_)))))))))
    ·refine sy rfl rfl hb70 (yl_fieldAddr Tryd.fd48_3 rfl rfl (sy rfl rfl hb70 (yl_load1 Tryd.ty9 rfl rfl ((q69.cell 5).trans rfl) (sy rfl rfl hb70 (yl_call Tryd.en63 rfl (opvs_cons rfl opvs_nil) (Cal.mono (c_s_l25Field p_1.Low o6.2.2.1) ?_))))))
     rintro v72 w71 ⟨rfl, hE73⟩
     have hE73z := Ex.size hE73
     refine sd rfl (yl_pick_t rfl rfl hb70 rfl (sd rfl (yl_move rfl rfl (bcase (s_l25Field p_1.Low) (fun hb74 => ?_) (fun hb74 => ?_)))))
     ·refine sy rfl rfl hb74 (yl_fieldAddr Tryd.fd48_4 rfl rfl (sy rfl rfl hb74 (yl_load1 Tryd.ty9 rfl rfl (((Box.ex q69 hE73).cell 6).trans rfl) (sy rfl rfl hb74 (yl_seql (a := p_1.High) (b := ([] : Str)) rfl rfl rfl (sd rfl (yl_pick_t rfl rfl hb74 rfl (sd rfl (yl_assign rfl rfl (SeqR.done (tn (CW.ret (br ?_)))))))))))))
      refine tr (rr rfl (.cons rfl .nil) ?_)
      have hM76 : (s_l30Good p_0 p_1) = (p_1.High == ([] : Str)) := by simp only [s_l30Good, hb27, hb60, hb68, hb70, hb74, cond_true, cond_false, loopE_done, loopE_ret]
      rw [hM76]
      exact ⟨rfl, (Ex.trans (Ex.trans (Ex.trans (Ex.trans (Ex.refl w) hE20) hE26) hE67) hE73)⟩
     ·refine sz rfl rfl hb74 (sz rfl rfl hb74 (sz rfl rfl hb74 (sd rfl (yl_pick_f rfl rfl hb74 rfl (sd rfl (yl_assign rfl rfl (SeqR.done (tn (CW.ret (br ?_))))))))))
      refine tr (rr rfl (.cons rfl .nil) ?_)
      have hM81 : (s_l30Good p_0 p_1) = (false) := by simp only [s_l30Good, hb27, hb60, hb68, hb70, hb74, cond_true, cond_false, loopE_done, loopE_ret]
      rw [hM81]
      exact ⟨rfl, (Ex.trans (Ex.trans (Ex.trans (Ex.trans (Ex.refl w) hE20) hE26) hE67) hE73)⟩
    ·refine sz rfl rfl hb70 (sz rfl rfl hb70 (sz rfl rfl hb70 (sd rfl (yl_pick_f rfl rfl hb70 rfl (sd rfl (yl_move rfl rfl (sz rfl rfl rfl (sz rfl rfl rfl (sz rfl rfl rfl (sd rfl (yl_pick_f rfl rfl rfl rfl ?_)))))))))))
     refine sd rfl (yl_assign rfl rfl (SeqR.done (tn (CW.ret (br (tr (rr rfl (.cons rfl .nil) ?_)))))))
     have hM86 : (s_l30Good p_0 p_1) = (false) := by simp only [s_l30Good, hb27, hb60, hb68, hb70, cond_true, cond_false, loopE_done, loopE_ret]
     rw [hM86]
     exact ⟨rfl, (Ex.trans (Ex.trans (Ex.trans (Ex.refl w) hE20) hE26) hE67)⟩
   ·refine sz rfl rfl hb68 (sz rfl rfl hb68 (sz rfl rfl hb68 (sd rfl (yl_pick_f rfl rfl hb68 rfl (sd rfl (yl_move rfl rfl (sz rfl rfl rfl (sz rfl rfl rfl (sz rfl rfl rfl (sd rfl (yl_pick_f rfl rfl rfl rfl ?_)))))))))))
    refine sd rfl (yl_move rfl rfl (sz rfl rfl rfl (sz rfl rfl rfl (sz rfl rfl rfl (sd rfl (yl_pick_f rfl rfl rfl rfl (sd rfl (yl_assign rfl rfl (SeqR.done (tn (CW.ret ?_)))))))))))
    refine br (tr (rr rfl (.cons rfl .nil) ?_))
    have hM90 : (s_l30Good p_0 p_1) = (false) := by simp only [s_l30Good, hb27, hb60, hb68, cond_true, cond_false, loopE_done, loopE_ret]
    rw [hM90]
    exact ⟨rfl, (Ex.trans (Ex.trans (Ex.trans (Ex.refl w) hE20) hE26) hE67)⟩
  ·have hb60p := dec_f hb60
   refine CW.cond_f rfl hb60 (CW.seq (CW.region (sd rfl (yl_eql rfl rfl rfl (sd rfl (yl_assign rfl rfl (SeqR.done (tn (bcase (decide (p_1.Kind = 3)) (fun hb94 => ?_) (fun hb94 => ?_))))))))))
   ·have hb94p := dec_t hb94
    refine CW.cond_t rfl hb94 (CW.seq (CW.region (sd rfl (yl_fieldAddr Tryd.fd48_1 rfl rfl (sd rfl (yl_loadN (cs := [.int .i64 (p_1.Act.Kind), .slice A4 p_1.Act.Old.Vals.length c4, .slice A5 p_1.Act.New.Vals.length c5]) Tryd.ty46 rfl rfl (hB25.cells (n := 3) rfl) rfl (sd rfl (yl_call Tryd.en75 rfl (opvs_cons rfl opvs_nil) (Cal.mono (c_s_l27Empty p_1.Act (RdS.up (RdS.ex good_Str (RdS.ex good_Str h4 hE20) hE26) good_Str) (RdS.up (RdS.ex good_Str (RdS.ex good_Str h5 hE20) hE26) good_Str) o6.1) ?_)))))))))
    rintro v100 w99 ⟨rfl, hE101⟩
    have hE101z := Ex.size hE101
    refine sd rfl (yl_move rfl rfl (bcase (s_l27Empty p_1.Act) (fun hb102 => ?_) (fun hb102 => ?_)))
    ·refine sy rfl rfl hb102 (yl_loadN (cs := [.string (bs (p_0.Name)), .slice A1 p_0.Cols.length c1, .slice A2 p_0.Idxs.length c2]) Tryd.ty36 rfl rfl ((Box.ex (Box.ex hB19 hE26) hE101).cells (n := 3) rfl) rfl (sy rfl rfl hb102 (yl_fieldAddr Tryd.fd48_2 rfl rfl ?_)))
     have q105 := Box.ex hB25 hE101
     refine sy rfl rfl hb102 (yl_load1 Tryd.ty9 rfl rfl ((q105.cell 4).trans rfl) (sy rfl rfl hb102 (yl_call Tryd.en76 rfl (opvs_cons rfl (opvs_cons rfl opvs_nil)) (Cal.mono (c_s_l24Idx p_0 p_1.Idx (RdS.up (RdS.ex good_Str (RdS.ex good_Str (RdS.ex good_Str h1 hE20) hE26) hE101) good_Str) (RdS.up (RdS.ex good_Idx (RdS.ex good_Idx (RdS.ex good_Idx h2 hE20) hE26) hE101) good_Idx) o3 o6.2.1) ?_))))
     rintro v113 w112 ⟨rfl, hE114⟩
     have hE114z := Ex.size hE114
     have hrf115 := rf_s_l24Idx p_0 p_1.Idx
     refine sy rfl rfl hb102 (yl_geq rfl rfl rfl (sd rfl (yl_pick_t rfl rfl hb102 rfl (sd rfl (yl_move rfl rfl (bcase (decide (0 ≤ (s_l24Idx p_0 p_1.Idx))) (fun hb116 => ?_) (fun hb116 => ?_)))))))
     ·have hb116p := dec_t hb116
      refine sy rfl rfl hb116 (yl_fieldAddr Tryd.fd48_3 rfl rfl ?_)
      have q117 := Box.ex q105 hE114
      refine sy rfl rfl hb116 (yl_load1 Tryd.ty9 rfl rfl ((q117.cell 5).trans rfl) (sy rfl rfl hb116 (yl_call Tryd.en63 rfl (opvs_cons rfl opvs_nil) (Cal.mono (c_s_l25Field p_1.Low o6.2.2.1) ?_))))
      rintro v119 w118 ⟨rfl, hE120⟩
      have hE120z := Ex.size hE120
      refine sd rfl (yl_pick_t rfl rfl hb116 rfl (sd rfl (yl_move rfl rfl (bcase (s_l25Field p_1.Low) (fun hb121 => ?_) (fun hb121 => ?_)))))
      ·refine sy rfl rfl hb121 (yl_fieldAddr Tryd.fd48_4 rfl rfl (sy rfl rfl hb121 (yl_load1 Tryd.ty9 rfl rfl (((Box.ex q117 hE120).cell 6).trans rfl) (sy rfl rfl hb121 (yl_call Tryd.en63 rfl (opvs_cons rfl opvs_nil) (Cal.mono (c_s_l25Field p_1.High o6.2.2.2) ?_))))))
       rintro v124 w123 ⟨rfl, hE125⟩
       have hE125z := Ex.size hE125
       refine sd rfl (yl_pick_t rfl rfl hb121 rfl (sd rfl (yl_assign rfl rfl (SeqR.done (tn (CW.ret (br (tr (rr rfl (.cons rfl .nil) ?_)))))))))
       have hM126 : (s_l30Good p_0 p_1) = ((s_l25Field p_1.High)) := by simp only [s_l30Good, hb27, hb60, hb94, hb102, hb116, hb121, cond_true, cond_false, loopE_done, loopE_ret]
       rw [hM126]
       exact ⟨rfl, (Ex.trans (Ex.trans (Ex.trans (Ex.trans (Ex.trans (Ex.trans (Ex.refl w) hE20) hE26) hE101) hE114) hE120) hE125)⟩
      ·refine sz rfl rfl hb121 (sz rfl rfl hb121 (sz rfl rfl hb121 (sd rfl (yl_pick_f rfl rfl hb121 rfl (sd rfl (yl_assign rfl rfl (SeqR.done (tn (CW.ret (br ?_))))))))))
       refine tr (rr rfl (.cons rfl .nil) ?_)
       have hM133 : (s_l30Good p_0 p_1) = (false) := by simp only [s_l30Good, hb27, hb60, hb94, hb102, hb116, hb121, cond_true, cond_false, loopE_done, loopE_ret]
       rw [hM133]
       exact ⟨rfl, (Ex.trans (Ex.trans (Ex.trans (Ex.trans (Ex.trans (Ex.refl w) hE20) hE26) hE101) hE114) hE120)⟩
     ·have hb116p := dec_f hb116
      refine sz rfl rfl hb116 (sz rfl rfl hb116 (sz rfl rfl hb116 (sd rfl (yl_pick_f rfl rfl hb116 rfl (sd rfl (yl_move rfl rfl (sz rfl rfl rfl (sz rfl rfl rfl (sz rfl rfl rfl (sd rfl (yl_pick_f rfl rfl rfl rfl ?_)))))))))))
      refine sd rfl (yl_assign rfl rfl (SeqR.done (tn (CW.ret (br (tr (rr rfl (.cons rfl .nil) ?_)))))))
      have hM139 : (s_l30Good p_0 p_1) = (false) := by simp only [s_l30Good, hb27, hb60, hb94, hb102, hb116, cond_true, cond_false, loopE_done, loopE_ret]
      rw [hM139]
      exact ⟨rfl, (Ex.trans (Ex.trans (Ex.trans (Ex.trans (Ex.refl w) hE20) hE26) hE101) hE114)⟩
    ·refine sz rfl rfl hb102 (sz rfl rfl hb102 (sz rfl rfl hb102 (sz rfl rfl hb102 (sz rfl rfl hb102 (sd rfl (yl_pick_f rfl rfl hb102 rfl (sd rfl (yl_move rfl rfl (sz rfl rfl rfl (sz rfl rfl rfl ?_))))))))))
     refine sz rfl rfl rfl (sd rfl (yl_pick_f rfl rfl rfl rfl (sd rfl (yl_move rfl rfl (sz rfl rfl rfl (sz rfl rfl rfl (sz rfl rfl rfl (sd rfl (yl_pick_f rfl rfl rfl rfl (sd rfl (yl_assign rfl rfl (SeqR.done ?_))))))))))))
     refine tn (CW.ret (br (tr (rr rfl (.cons rfl .nil) ?_))))
     have hM144 : (s_l30Good p_0 p_1) = (false) := by simp only [s_l30Good, hb27, hb60, hb94, hb102, cond_true, cond_false, loopE_done, loopE_ret]
     rw [hM144]
     exact ⟨rfl, (Ex.trans (Ex.trans (Ex.trans (Ex.refl w) hE20) hE26) hE101)⟩
   ·have hb94p := dec_f hb94
    refine CW.cond_f rfl hb94 (CW.skip (bn (tn (CW.seq (CW.region (sd rfl (yl_assign rfl rfl (SeqR.done (tn ?_)))))))))
    refine CW.ret (rr rfl (.cons rfl .nil) ?_)
    have hM148 : (s_l30Good p_0 p_1) = (false) := by simp only [s_l30Good, hb27, hb60, hb94, cond_true, cond_false, loopE_done, loopE_ret]
    rw [hM148]
    exact ⟨rfl, (Ex.trans (Ex.trans (Ex.refl w) hE20) hE26)⟩
set_option maxRecDepth 100000 in
set_option maxHeartbeats 2000000 in
theorem c_s_l24Join {A1 : Option Addr} {c1 : Nat} {w : World} (p_l : List Str) (p_by : Str) (h1 : RdS w (Iv 0 w.heap.size) (RF e_Str) 1 A1 p_l.length c1 p_l) (o2 : (okL okS) p_l) (o3 : okS p_by) : Cal Tryd.prog 64 #[.slice A1 p_l.length c1, .string (bs (p_by))] w fun v w' => v = .string (bs ((s_l24Join p_l p_by))) ∧ Ex w w' := by
 have hol4 := o2.1
 have hol5 : p_by.length ≤ 1073741824 := o3
 refine Cal.of (vs := [.slice A1 p_l.length c1, .string (bs (p_by))]) Tryd.func64 rfl Tryd.ntmps64 rfl (CW.seq (CW.region (sd rfl (yl_assign rfl rfl (SeqR.done (tn (CW.seq (CW.region (sd rfl (yl_assign rfl rfl ?_))))))))))
 refine SeqR.done (tn (CW.seq (CW.seq (CW.region (sd rfl (yl_move rfl rfl (sd rfl (yl_len Tryd.un22 rfl rfl (sd rfl (yl_move rfl rfl (SeqR.done ?_)))))))))))
 refine tn (CW.block (CW.loop (fun m15 L16 w17 => ∃ (k6 : Nat) (x14 : Str), m15 = p_l.length - k6 ∧ k6 ≤ p_l.length ∧ w.heap.size ≤ w17.heap.size ∧ lkp L16 1 = some (.string (bs (p_by))) ∧ lkp L16 5 = some (.string (bs (x14))) ∧ lkp L16 8 = some (.slice A1 p_l.length c1) ∧ lkp L16 9 = some (.int .i64 ((p_l.length : Int))) ∧ lkp L16 10 = some (.int .i64 ((k6 : Int))) ∧ RdS w17 (Iv 0 w.heap.size) (RF e_Str) 1 A1 p_l.length c1 p_l ∧ Ex w w17 ∧ x14.length ≤ 0 + 2147483648 * (k6 - 0) ∧ loopM (B_s_l24Join_0 p_l p_by) (p_l.length - k6) k6 (x14) = loopM (B_s_l24Join_0 p_l p_by) (p_l.length - 0) 0 (([] : Str))) (p_l.length - 0) ?_ ?_))
 ·exact ⟨0, ([] : Str), rfl, (by omega), Nat.le_refl _, rfl, rfl, rfl, rfl, rfl, h1, (Ex.refl w), (by first | (simp; done) | (first | omega | (simp only [List.length_append, List.length_cons, List.length_nil, List.length_set, toS_length]; omega))), rfl⟩
 ·rintro m18 L19 w20 ⟨k6, x14, rfl, hk21, hsz23, hl24, hl25, hl26, hl27, hl28, hf29, hf30, hln31, hI22⟩
  refine CW.sub (Sub.cons hl24 (Sub.cons hl25 (Sub.cons hl26 (Sub.cons hl27 (Sub.cons hl28 (Sub.nil _)))))) ?_
  have hf30z := Ex.size hf30
  have hbg32 := RdS.big hf29
  rcases Nat.lt_or_ge k6 p_l.length with hlt33 | hlt33
  ·refine CW.seq (CW.region (sd rfl (yl_lss rfl rfl rfl (SeqR.done (tn (CW.seq (CW.cond_t rfl (lt_t hlt33) (CW.skip (tn ?_)))))))))
   refine CW.seq (CW.block (CW.seq (CW.region (sd rfl (yl_move rfl rfl ?_)))))
   obtain ⟨eb34, eo34, ec34, eA34, eS34, ebl34, el34, eR34, eC34⟩ := RdS.atD hf29 d_Str (i := k6) (by first | omega | assumption)
   obtain rfl := eR34
   have eC34 : Cells w20 eb34 (eo34 + k6 * 1) [.string (bs ((p_l.getD k6 d_Str)))] := eC34
   refine sd rfl (yl_indexAddrN Tryd.un22 Tryd.ty9 rfl rfl rfl eA34 (by first | omega | assumption | (simp only [IntKind.wrap_i64] at *; omega)) (sd rfl (yl_load1 Tryd.ty9 rfl rfl (eC34 0 _ rfl) (sd rfl (yl_assign rfl rfl (sd rfl (yl_assign rfl rfl (SeqR.done (tn (CW.seq (CW.seq (CW.region ?_))))))))))))
   refine sd rfl (yl_move rfl rfl (sd rfl (yl_gtr rfl rfl rfl (SeqR.done (tn (bcase (decide (0 < (k6 : Int))) (fun hb35 => ?_) (fun hb35 => ?_)))))))
   ·have hb35p := dec_t hb35
    refine CW.cond_t rfl hb35 (CW.region (sd rfl (yl_move rfl rfl (sd rfl (yl_move rfl rfl ?_)))))
    have hol36 : p_by.length ≤ 1073741824 := o3
    refine sd rfl (yl_sadd (a := x14) (b := p_by) rfl rfl rfl (by first | omega | (simp only [List.length_append, List.length_cons, List.length_nil, List.length_take, List.length_drop, toS_length]; omega)) (sd rfl (yl_assign rfl rfl (SeqR.done (tn (CW.region (sd rfl (yl_move rfl rfl (sd rfl (yl_move rfl rfl ?_))))))))))
    have hol37 : p_by.length ≤ 1073741824 := o3
    have hol38 : (p_l.getD k6 d_Str).length ≤ 1073741824 := (okL.getD o2 ok_d_Str _)
    refine sd rfl (yl_sadd (a := (x14 ++ p_by)) (b := (p_l.getD k6 d_Str)) rfl rfl rfl (by first | omega | (simp only [List.length_append, List.length_cons, List.length_nil, List.length_take, List.length_drop, toS_length]; omega)) (sd rfl (yl_assign rfl rfl (SeqR.done (bn (tn (CW.region (sd rfl (yl_inc rfl rfl rfl (by omega) (sd rfl (yl_move rfl rfl (SeqR.done ?_))))))))))))
    refine tn ?_
    have hB39 : B_s_l24Join_0 p_l p_by k6 (x14) = .cont ((x14 ++ p_by) ++ (p_l.getD k6 d_Str)) := by simp only [B_s_l24Join_0, hb35, cond_true, cond_false, loopE_done, loopE_ret]
    exact ⟨p_l.length - (k6 + 1), by omega, k6 + 1, (x14 ++ p_by) ++ (p_l.getD k6 d_Str), rfl, hlt33, (by omega), rfl, rfl, rfl, rfl, rfl, hf29, hf30, (by first | omega | (simp only [List.length_append, List.length_cons, List.length_nil, List.length_set, toS_length]; omega)), (loopM.cont hlt33 hB39).symm.trans hI22⟩
   ·have hb35p := dec_f hb35
    refine CW.cond_f rfl hb35 (CW.skip (tn (CW.region (sd rfl (yl_move rfl rfl (sd rfl (yl_move rfl rfl ?_)))))))
    have hol40 : (p_l.getD k6 d_Str).length ≤ 1073741824 := (okL.getD o2 ok_d_Str _)
    refine sd rfl (yl_sadd (a := x14) (b := (p_l.getD k6 d_Str)) rfl rfl rfl (by first | omega | (simp only [List.length_append, List.length_cons, List.length_nil, List.length_take, List.length_drop, toS_length]; omega)) (sd rfl (yl_assign rfl rfl (SeqR.done (bn (tn (CW.region (sd rfl (yl_inc rfl rfl rfl (by omega) (sd rfl (yl_move rfl rfl (SeqR.done ?_))))))))))))
    refine tn ?_
    have hB41 : B_s_l24Join_0 p_l p_by k6 (x14) = .cont (x14 ++ (p_l.getD k6 d_Str)) := by simp only [B_s_l24Join_0, hb35, cond_true, cond_false, loopE_done, loopE_ret]
    exact ⟨p_l.length - (k6 + 1), by omega, k6 + 1, x14 ++ (p_l.getD k6 d_Str), rfl, hlt33, (by omega), rfl, rfl, rfl, rfl, rfl, hf29, hf30, (by first | omega | (simp only [List.length_append, List.length_cons, List.length_nil, List.length_set, toS_length]; omega)), (loopM.cont hlt33 hB41).symm.trans hI22⟩
  ·refine CW.seq (CW.region (sd rfl (yl_lss rfl rfl rfl (SeqR.done (tn (CW.seq (CW.cond_f rfl (lt_f hlt33) (CW.exit (tx ?_)))))))))
   refine tx ?_
   have hL42 : loopM (B_s_l24Join_0 p_l p_by) (p_l.length - 0) 0 (([] : Str)) = .done (x14) := hI22.symm.trans (loopM.stop hlt33)
   refine bx (tn (CW.seq (CW.region (sd rfl (yl_move rfl rfl (sd rfl (yl_assign rfl rfl (SeqR.done (tn (CW.ret ?_))))))))))
   refine rr rfl (.cons rfl .nil) ?_
   have hM43 : (s_l24Join p_l p_by) = (x14) := by simp only [s_l24Join, hL42, cond_true, cond_false, loopE_done, loopE_ret]
   rw [hM43]
   exact ⟨rfl, hf30⟩
set_option maxRecDepth 100000 in
set_option maxHeartbeats 2000000 in
theorem c_s_l30Row {A1 : Option Addr} {c1 : Nat} {w : World} (p_r : DRow) (h1 : RdS w (Iv 0 w.heap.size) (RF e_Str) 1 A1 p_r.Vals.length c1 p_r.Vals) (o2 : ok_Row p_r) : Cal Tryd.prog 77 #[.agg #[.slice A1 p_r.Vals.length c1]] w fun v w' => v = .string (bs ((s_l30Row p_r))) ∧ Ex w w' := by
 have hol3 := o2.1
 refine Cal.of (vs := [.agg #[.slice A1 p_r.Vals.length c1]]) Tryd.func77 rfl Tryd.ntmps77 rfl (CW.seq (CW.region (sd rfl (yl_box (cs := [.slice A1 p_r.Vals.length c1]) rfl rfl rfl ?_))))
 intro b4 w5 hs6 hz7 hB8 hE9
 refine sd rfl (yl_assign rfl rfl (SeqR.done (tn (CW.seq (CW.region (sd rfl (yl_fieldAddr Tryd.fd31_0 rfl rfl (sd rfl (yl_load1 Tryd.ty22 rfl rfl ((hB8.cell 0).trans rfl) (sd rfl (yl_call Tryd.en64 rfl (opvs_cons rfl (opvs_cons rfl opvs_nil)) (Cal.mono (c_s_l24Join p_r.Vals ([44] : Str) (RdS.up (RdS.ex good_Str h1 hE9) good_Str) o2 (okS.lit rfl)) ?_))))))))))))
 rintro v12 w11 ⟨rfl, hE13⟩
 have hE13z := Ex.size hE13
 refine sd rfl (yl_assign rfl rfl (SeqR.done (tn (CW.ret (rr rfl (.cons rfl .nil) ?_)))))
 have hM14 : (s_l30Row p_r) = ((s_l24Join p_r.Vals ([44] : Str))) := by simp only [s_l30Row, cond_true, cond_false, loopE_done, loopE_ret]
 rw [hM14]
 exact ⟨rfl, (Ex.trans (Ex.trans (Ex.refl w) hE9) hE13)⟩
set_option maxRecDepth 100000 in
set_option maxHeartbeats 2000000 in
theorem c_s_l30Text {A1 : Option Addr} {c1 : Nat} {A2 : Option Addr} {c2 : Nat} {A4 : Option Addr} {c4 : Nat} {A5 : Option Addr} {c5 : Nat} {w : World} (p_0 : DTable) (p_1 : DStmt) (h1 : RdS w (Iv 0 w.heap.size) (RF e_Str) 1 A1 p_0.Cols.length c1 p_0.Cols) (h2 : RdS w (Iv 0 w.heap.size) (RF e_Idx) 3 A2 p_0.Idxs.length c2 p_0.Idxs) (h4 : RdS w (Iv 0 w.heap.size) (RF e_Str) 1 A4 p_1.Act.Old.Vals.length c4 p_1.Act.Old.Vals) (h5 : RdS w (Iv 0 w.heap.size) (RF e_Str) 1 A5 p_1.Act.New.Vals.length c5 p_1.Act.New.Vals) (o3 : ok_Table p_0) (o6 : ok_Stmt p_1) (pre0 : stmtFit p_1) : Cal Tryd.prog 59 #[.agg #[.string (bs (p_0.Name)), .slice A1 p_0.Cols.length c1, .slice A2 p_0.Idxs.length c2], .agg #[.int .i64 (p_1.Kind), .int .i64 (p_1.Act.Kind), .slice A4 p_1.Act.Old.Vals.length c4, .slice A5 p_1.Act.New.Vals.length c5, .string (bs (p_1.Idx)), .string (bs (p_1.Low)), .string (bs (p_1.High))]] w fun v w' => v = .string (bs ((s_l30Text p_0 p_1))) ∧ Ex w w' := by
 have hol7 : p_0.Name.length ≤ 1073741824 := o3.1
 have hol8 := o3.2.1.1
 have hol9 := o3.2.2.1
 have hol10 := o6.1.1.1
 have hol11 := o6.1.2.1
 have hol12 : p_1.Idx.length ≤ 1073741824 := o6.2.1
 have hol13 : p_1.Low.length ≤ 1073741824 := o6.2.2.1
 have hol14 : p_1.High.length ≤ 1073741824 := o6.2.2.2
 have hsr : _ → _ → _ := pre0
 refine Cal.of (vs := [.agg #[.string (bs (p_0.Name)), .slice A1 p_0.Cols.length c1, .slice A2 p_0.Idxs.length c2], .agg #[.int .i64 (p_1.Kind), .int .i64 (p_1.Act.Kind), .slice A4 p_1.Act.Old.Vals.length c4, .slice A5 p_1.Act.New.Vals.length c5, .string (bs (p_1.Idx)), .string (bs (p_1.Low)), .string (bs (p_1.High))]]) Tryd.func59 rfl Tryd.ntmps59 rfl (CW.seq (CW.region (sd rfl (yl_box (cs := [.string (bs (p_0.Name)), .slice A1 p_0.Cols.length c1, .slice A2 p_0.Idxs.length c2]) rfl rfl rfl ?_))))
 intro b15 w16 hs17 hz18 hB19 hE20
 refine sd rfl (yl_box (cs := [.int .i64 (p_1.Kind), .int .i64 (p_1.Act.Kind), .slice A4 p_1.Act.Old.Vals.length c4, .slice A5 p_1.Act.New.Vals.length c5, .string (bs (p_1.Idx)), .string (bs (p_1.Low)), .string (bs (p_1.High))]) rfl rfl rfl ?_)
 intro b21 w22 hs23 hz24 hB25 hE26
 refine sd rfl (yl_assign rfl rfl (SeqR.done (tn (CW.seq (CW.block (CW.seq (CW.region (sd rfl (yl_fieldAddr Tryd.fd48_0 rfl rfl (sd rfl (yl_load1 Tryd.ty3 rfl rfl ((hB25.cell 0).trans rfl) ?_)))))))))))
 refine sd rfl (yl_eql rfl rfl rfl (sd rfl (yl_assign rfl rfl (SeqR.done (tn (bcase (decide (p_1.Kind = 2)) (fun hb27 => ?_) (fun hb27 => ?_)))))))
 ·have hb27p := dec_t hb27
  refine CW.cond_t rfl hb27 (CW.seq (CW.region (sd rfl (yl_fieldAddr Tryd.fd36_0 rfl rfl (sd rfl (yl_load1 Tryd.ty9 rfl rfl (((Box.ex hB19 hE26).cell 0).trans rfl) ?_))))))
  have hol29 : p_0.Name.length ≤ 1073741824 := o3.1
  refine sd rfl (yl_sadd (a := ([103, 101, 116, 32] : Str)) (b := p_0.Name) rfl rfl rfl (by first | omega | (simp only [List.length_append, List.length_cons, List.length_nil, List.length_take, List.length_drop, toS_length]; omega)) ?_)
  have hol30 : p_0.Name.length ≤ 1073741824 := o3.1
  refine sd rfl (yl_sadd (a := (([103, 101, 116, 32] : Str) ++ p_0.Name)) (b := ([32] : Str)) rfl rfl rfl (by first | omega | (simp only [List.length_append, List.length_cons, List.length_nil, List.length_take, List.length_drop, toS_length]; omega)) (sd rfl (yl_fieldAddr Tryd.fd48_3 rfl rfl (sd rfl (yl_load1 Tryd.ty9 rfl rfl ((hB25.cell 5).trans rfl) ?_)))))
  have hol31 : p_0.Name.length ≤ 1073741824 := o3.1
  have hol32 : p_1.Low.length ≤ 1073741824 := o6.2.2.1
  refine sd rfl (yl_sadd (a := ((([103, 101, 116, 32] : Str) ++ p_0.Name) ++ ([32] : Str))) (b := p_1.Low) rfl rfl rfl (by first | omega | (simp only [List.length_append, List.length_cons, List.length_nil, List.length_take, List.length_drop, toS_length]; omega)) (sd rfl (yl_assign rfl rfl (SeqR.done (tn (CW.ret (br (tr (rr rfl (.cons rfl .nil) ?_)))))))))
  have hM33 : (s_l30Text p_0 p_1) = (((([103, 101, 116, 32] : Str) ++ p_0.Name) ++ ([32] : Str)) ++ p_1.Low) := by simp only [s_l30Text, hb27, cond_true, cond_false, loopE_done, loopE_ret]
  rw [hM33]
  exact ⟨rfl, (Ex.trans (Ex.trans (Ex.refl w) hE20) hE26)⟩
 ·have hb27p := dec_f hb27
  refine CW.cond_f rfl hb27 (CW.seq (CW.region (sd rfl (yl_fieldAddr Tryd.fd48_0 rfl rfl (sd rfl (yl_load1 Tryd.ty3 rfl rfl ((hB25.cell 0).trans rfl) (sd rfl (yl_eql rfl rfl rfl (sd rfl (yl_assign rfl rfl (SeqR.done (tn ?_))))))))))))
  refine bcase (decide (p_1.Kind = 3)) (fun hb36 => ?_) (fun hb36 => ?_)
  ·have hb36p := dec_t hb36
   refine CW.cond_t rfl hb36 (CW.seq (CW.region (sd rfl (yl_fieldAddr Tryd.fd36_0 rfl rfl (sd rfl (yl_load1 Tryd.ty9 rfl rfl (((Box.ex hB19 hE26).cell 0).trans rfl) ?_))))))
   have hol38 : p_0.Name.length ≤ 1073741824 := o3.1
   refine sd rfl (yl_sadd (a := ([114, 97, 110, 103, 101, 32] : Str)) (b := p_0.Name) rfl rfl rfl (by first | omega | (simp only [List.length_append, List.length_cons, List.length_nil, List.length_take, List.length_drop, toS_length]; omega)) ?_)
   have hol39 : p_0.Name.length ≤ 1073741824 := o3.1
   refine sd rfl (yl_sadd (a := (([114, 97, 110, 103, 101, 32] : Str) ++ p_0.Name)) (b := ([32] : Str)) rfl rfl rfl (by first | omega | (simp only [List.length_append, List.length_cons, List.length_nil, List.length_take, List.length_drop, toS_length]; omega)) (sd rfl (yl_fieldAddr Tryd.fd48_2 rfl rfl (sd rfl (yl_load1 Tryd.ty9 rfl rfl ((hB25.cell 4).trans rfl) ?_)))))
   have hol40 : p_0.Name.length ≤ 1073741824 := o3.1
   have hol41 : p_1.Idx.length ≤ 1073741824 := o6.2.1
   refine sd rfl (yl_sadd (a := ((([114, 97, 110, 103, 101, 32] : Str) ++ p_0.Name) ++ ([32] : Str))) (b := p_1.Idx) rfl rfl rfl (by first | omega | (simp only [List.length_append, List.length_cons, List.length_nil, List.length_take, List.length_drop, toS_length]; omega)) ?_)
   have hol42 : p_0.Name.length ≤ 1073741824 := o3.1
   have hol43 : p_1.Idx.length ≤ 1073741824 := o6.2.1
   refine sd rfl (yl_sadd (a := (((([114, 97, 110, 103, 101, 32] : Str) ++ p_0.Name) ++ ([32] : Str)) ++ p_1.Idx)) (b := ([32] : Str)) rfl rfl rfl (by first | omega | (simp only [List.length_append, List.length_cons, List.length_nil, List.length_take, List.length_drop, toS_length]; omega)) (sd rfl (yl_fieldAddr Tryd.fd48_3 rfl rfl (sd rfl (yl_load1 Tryd.ty9 rfl rfl ((hB25.cell 5).trans rfl) ?_)))))
   have hol44 : p_0.Name.length ≤ 1073741824 := o3.1
   have hol45 : p_1.Idx.length ≤ 1073741824 := o6.2.1
   have hol46 : p_1.Low.length ≤ 1073741824 := o6.2.2.1
   refine sd rfl (yl_sadd (a := ((((([114, 97, 110, 103, 101, 32] : Str) ++ p_0.Name) ++ ([32] : Str)) ++ p_1.Idx) ++ ([32] : Str))) (b := p_1.Low) rfl rfl rfl (by first | omega | (simp only [List.length_append, List.length_cons, List.length_nil, List.length_take, List.length_drop, toS_length]; omega)) ?_)
   have hol47 : p_0.Name.length ≤ 1073741824 := o3.1
   have hol48 : p_1.Idx.length ≤ 1073741824 := o6.2.1
   have hol49 : p_1.Low.length ≤ 1073741824 := o6.2.2.1
   refine sd rfl (yl_sadd (a := (((((([114, 97, 110, 103, 101, 32] : Str) ++ p_0.Name) ++ ([32] : Str)) ++ p_1.Idx) ++ ([32] : Str)) ++ p_1.Low)) (b := ([32] : Str)) rfl rfl rfl (by first | omega | (simp only [List.length_append, List.length_cons, List.length_nil, List.length_take, List.length_drop, toS_length]; omega)) (sd rfl (yl_fieldAddr Tryd.fd48_4 rfl rfl (sd rfl (yl_load1 Tryd.ty9 rfl rfl ((hB25.cell 6).trans rfl) ?_)))))
   have hol50 : p_0.Name.length ≤ 1073741824 := o3.1
   have hol51 : p_1.Idx.length ≤ 1073741824 := o6.2.1
   have hol52 : p_1.Low.length ≤ 1073741824 := o6.2.2.1
   have hol53 : p_1.High.length ≤ 1073741824 := o6.2.2.2
   refine sd rfl (yl_sadd (a := ((((((([114, 97, 110, 103, 101, 32] : Str) ++ p_0.Name) ++ ([32] : Str)) ++ p_1.Idx) ++ ([32] : Str)) ++ p_1.Low) ++ ([32] : Str))) (b := p_1.High) rfl rfl rfl (by first | omega | (simp only [List.length_append, List.length_cons, List.length_nil, List.length_take, List.length_drop, toS_length]; omega)) (sd rfl (yl_assign rfl rfl (SeqR.done (tn (CW.ret (br (tr (rr rfl (.cons rfl .nil) ?_)))))))))
   have hM54 : (s_l30Text p_0 p_1) = (((((((([114, 97, 110, 103, 101, 32] : Str) ++ p_0.Name) ++ ([32] : Str)) ++ p_1.Idx) ++ ([32] : Str)) ++ p_1.Low) ++ ([32] : Str)) ++ p_1.High) := by simp only [s_l30Text, hb27, hb36, cond_true, cond_false, loopE_done, loopE_ret]
   rw [hM54]
   exact ⟨rfl, (Ex.trans (Ex.trans (Ex.refl w) hE20) hE26)⟩
  ·have hb36p := dec_f hb36
   refine CW.cond_f rfl hb36 (CW.seq (CW.region (sd rfl (yl_fieldAddr Tryd.fd48_1 rfl rfl (sd rfl (yl_fieldAddr Tryd.fd46_0 rfl rfl (sd rfl (yl_load1 Tryd.ty3 rfl rfl ((hB25.cell 1).trans rfl) (sd rfl (yl_eql rfl rfl rfl (sd rfl (yl_assign rfl rfl (SeqR.done ?_)))))))))))))
   refine tn (bcase (decide (p_1.Act.Kind = 1)) (fun hb57 => ?_) (fun hb57 => ?_))
   ·have hb57p := dec_t hb57
    refine CW.cond_t rfl hb57 (CW.seq ?_)
    have hol59 : p_0.Name.length ≤ 1073741824 := o3.1
    have hol60 : p_0.Name.length ≤ 1073741824 := o3.1
    have hol64 : p_0.Name.length ≤ 1073741824 := o3.1
    refine CW.drawsI 10 (vgetI [DetI (.pointer (some ⟨b15, 0 + 0, none⟩)), DetI (.string (bs (p_0.Name))), DetI (.string (bs (([105, 110, 115, 101, 114, 116, 32] : Str) ++ p_0.Name))), DetI (.string (bs ((([105, 110, 115, 101, 114, 116, 32] : Str) ++ p_0.Name) ++ ([32] : Str)))), DetI (.pointer (some ⟨b21, 0 + 1, none⟩)), DetI (.pointer (some ⟨b21, 0 + 1 + 2, none⟩)), DetI (.agg #[.slice A5 p_1.Act.New.Vals.length c5]), DetI (.string (bs ((s_l30Row p_1.Act.New)))), DetI (.string (bs (((([105, 110, 115, 101, 114, 116, 32] : Str) ++ p_0.Name) ++ ([32] : Str)) ++ (s_l30Row p_1.Act.New)))), DetI (.string (bs (((([105, 110, 115, 101, 114, 116, 32] : Str) ++ p_0.Name) ++ ([32] : Str)) ++ (s_l30Row p_1.Act.New))))]) Tryd.follows rfl rfl rfl rfl rfl rfl (vgetI_stable ⟨StableI.det _, StableI.det _, StableI.det _, StableI.det _, StableI.det _, StableI.det _, StableI.det _, StableI.det _, StableI.det _, StableI.det _, trivial⟩) ⟨?_, ?_, ?_, ?_, ?_, ?_, ?_, ?_, ?_, ?_, trivial⟩ ?_
    ·exact fun _ _ h => os rfl ((yl_fieldAddr Tryd.fd36_0 rfl (h.old 2 _ rfl rfl) kI))
    ·exact fun _ _ h => os rfl ((yl_load1 Tryd.ty9 rfl (h.dt 0 40 rfl rfl rfl) (((Box.ex (Box.ex hB19 hE26) h.ex).cell 0).trans rfl) kI))
    ·intro L76 w77 hi78
     have hE79 := hi78.ex
     have hE79z := Ex.size hE79
     have hol81 : p_0.Name.length ≤ 1073741824 := o3.1
     exact os rfl ((yl_sadd (a := ([105, 110, 115, 101, 114, 116, 32] : Str)) (b := p_0.Name) rfl rfl (hi78.dt 1 41 rfl rfl rfl) (by first | omega | (simp only [List.length_append, List.length_cons, List.length_nil, List.length_take, List.length_drop, toS_length]; omega)) kI))
    ·intro L82 w83 hi84
     have hE85 := hi84.ex
     have hE85z := Ex.size hE85
     have hol87 : p_0.Name.length ≤ 1073741824 := o3.1
     exact os rfl ((yl_sadd (a := (([105, 110, 115, 101, 114, 116, 32] : Str) ++ p_0.Name)) (b := ([32] : Str)) rfl (hi84.dt 2 42 rfl rfl rfl) rfl (by first | omega | (simp only [List.length_append, List.length_cons, List.length_nil, List.length_take, List.length_drop, toS_length]; omega)) kI))
    ·exact fun _ _ h => os rfl ((yl_fieldAddr Tryd.fd48_1 rfl (h.old 3 _ rfl rfl) kI))
    ·exact fun _ _ h => os rfl ((yl_fieldAddr Tryd.fd46_2 rfl (h.dt 4 44 rfl rfl rfl) kI))
    ·exact fun _ _ h => os rfl ((yl_loadN (cs := [.slice A5 p_1.Act.New.Vals.length c5]) Tryd.ty31 rfl (h.dt 5 45 rfl rfl rfl) ((Box.ex hB25 h.ex).cells (n := 1) rfl) rfl kI))
    ·intro L104 w105 hi106
     have hE107 := hi106.ex
     refine OpR.op' rfl (yl_call Tryd.en77 rfl (opvs_cons (hi106.dt 6 46 rfl rfl rfl) opvs_nil) (Cal.mono (c_s_l30Row p_1.Act.New (RdS.up (RdS.ex good_Str (RdS.ex good_Str (RdS.ex good_Str h5 hE20) hE26) hE107) good_Str) o6.1.2) ?_))
     rintro v111 w110 ⟨rfl, hE112⟩
     exact ⟨rfl, hE112⟩
    ·intro L113 w114 hi115
     have hE116 := hi115.ex
     have hE116z := Ex.size hE116
     have hol119 : p_0.Name.length ≤ 1073741824 := o3.1
     exact os rfl ((yl_sadd (a := ((([105, 110, 115, 101, 114, 116, 32] : Str) ++ p_0.Name) ++ ([32] : Str))) (b := (s_l30Row p_1.Act.New)) rfl (hi115.dt 3 43 rfl rfl rfl) (hi115.dt 7 47 rfl rfl rfl) (by first | omega | (simp only [List.length_append, List.length_cons, List.length_nil, List.length_take, List.length_drop, toS_length]; omega)) kI))
    ·exact fun _ _ h => os rfl ((yl_assign rfl (h.dt 8 48 rfl rfl rfl) kI))
    ·intro fl128 fh129 L125 w126 hp127
     have hE130 := hp127.ex
     have hE130z := Ex.size hE130
     refine SeqR.done (tn (CW.sub (Sub.cons (d := 4) (hp127.nt 9 4 rfl rfl rfl) (Sub.nil _)) (CW.ret (br (tr (rr rfl (.cons rfl .nil) ?_))))))
     have hM132 : (s_l30Text p_0 p_1) = (((([105, 110, 115, 101, 114, 116, 32] : Str) ++ p_0.Name) ++ ([32] : Str)) ++ (s_l30Row p_1.Act.New)) := by simp only [s_l30Text, hb27, hb36, hb57, cond_true, cond_false, loopE_done, loopE_ret]
     rw [hM132]
     exact ⟨rfl, (Ex.trans (Ex.trans (Ex.trans (Ex.refl w) hE20) hE26) hE130)⟩
   ·have hb57p := dec_f hb57
    refine CW.cond_f rfl hb57 (CW.seq (CW.region (sd rfl (yl_fieldAddr Tryd.fd48_1 rfl rfl (sd rfl (yl_fieldAddr Tryd.fd46_0 rfl rfl (sd rfl (yl_load1 Tryd.ty3 rfl rfl ((hB25.cell 1).trans rfl) (sd rfl (yl_eql rfl rfl rfl (sd rfl (yl_assign rfl rfl (SeqR.done ?_)))))))))))))
    refine tn (bcase (decide (p_1.Act.Kind = 2)) (fun hb136 => ?_) (fun hb136 => ?_))
    ·have hb136p := dec_t hb136
     refine CW.cond_t rfl hb136 (CW.seq ?_)
     have hol138 : p_0.Name.length ≤ 1073741824 := o3.1
     have hol139 : p_0.Name.length ≤ 1073741824 := o3.1
     have hol143 : p_0.Name.length ≤ 1073741824 := o3.1
     refine CW.drawsI 10 (vgetI [DetI (.pointer (some ⟨b15, 0 + 0, none⟩)), DetI (.string (bs (p_0.Name))), DetI (.string (bs (([100, 101, 108, 101, 116, 101, 32] : Str) ++ p_0.Name))), DetI (.string (bs ((([100, 101, 108, 101, 116, 101, 32] : Str) ++ p_0.Name) ++ ([32] : Str)))), DetI (.pointer (some ⟨b21, 0 + 1, none⟩)), DetI (.pointer (some ⟨b21, 0 + 1 + 1, none⟩)), DetI (.agg #[.slice A4 p_1.Act.Old.Vals.length c4]), DetI (.string (bs ((s_l30Row p_1.Act.Old)))), DetI (.string (bs (((([100, 101, 108, 101, 116, 101, 32] : Str) ++ p_0.Name) ++ ([32] : Str)) ++ (s_l30Row p_1.Act.Old)))), DetI (.string (bs (((([100, 101, 108, 101, 116, 101, 32] : Str) ++ p_0.Name) ++ ([32] : Str)) ++ (s_l30Row p_1.Act.Old))))]) Tryd.follows rfl rfl rfl rfl rfl rfl (vgetI_stable ⟨StableI.det _, StableI.det _, StableI.det _, StableI.det _, StableI.det _, StableI.det _, StableI.det _, StableI.det _, StableI.det _, StableI.det _, trivial⟩) ⟨?_, ?_, ?_, ?_, ?_, ?_, ?_, ?_, ?_, ?_, trivial⟩ ?_
     ·exact fun _ _ h => os rfl ((yl_fieldAddr Tryd.fd36_0 rfl (h.old 2 _ rfl rfl) kI))
     ·exact fun _ _ h => os rfl ((yl_load1 Tryd.ty9 rfl (h.dt 0 54 rfl rfl rfl) (((Box.ex (Box.ex hB19 hE26) h.ex).cell 0).trans rfl) kI))
     ·intro L155 w156 hi157
      have hE158 := hi157.ex
      have hE158z := Ex.size hE158
      have hol160 : p_0.Name.length ≤ 1073741824 := o3.1
      exact os rfl ((yl_sadd (a := ([100, 101, 108, 101, 116, 101, 32] : Str)) (b := p_0.Name) rfl rfl (hi157.dt 1 55 rfl rfl rfl) (by first | omega | (simp only [List.length_append, List.length_cons, List.length_nil, List.length_take, List.length_drop, toS_length]; omega)) kI))
     ·intro L161 w162 hi163
      have hE164 := hi163.ex
      have hE164z := Ex.size hE164
      have hol166 : p_0.Name.length ≤ 1073741824 := o3.1
      exact os rfl ((yl_sadd (a := (([100, 101, 108, 101, 116, 101, 32] : Str) ++ p_0.Name)) (b := ([32] : Str)) rfl (hi163.dt 2 56 rfl rfl rfl) rfl (by first | omega | (simp only [List.length_append, List.length_cons, List.length_nil, List.length_take, List.length_drop, toS_length]; omega)) kI))
     ·exact fun _ _ h => os rfl ((yl_fieldAddr Tryd.fd48_1 rfl (h.old 3 _ rfl rfl) kI))
     ·exact fun _ _ h => os rfl ((yl_fieldAddr Tryd.fd46_1 rfl (h.dt 4 58 rfl rfl rfl) kI))
     ·exact fun _ _ h => os rfl ((yl_loadN (cs := [.slice A4 p_1.Act.Old.Vals.length c4]) Tryd.ty31 rfl (h.dt 5 59 rfl rfl rfl) ((Box.ex hB25 h.ex).cells (n := 1) rfl) rfl kI))
     ·intro L183 w184 hi185
      have hE186 := hi185.ex
      refine OpR.op' rfl (yl_call Tryd.en77 rfl (opvs_cons (hi185.dt 6 60 rfl rfl rfl) opvs_nil) (Cal.mono (c_s_l30Row p_1.Act.Old (RdS.up (RdS.ex good_Str (RdS.ex good_Str (RdS.ex good_Str h4 hE20) hE26) hE186) good_Str) o6.1.1) ?_))
      rintro v190 w189 ⟨rfl, hE191⟩
      exact ⟨rfl, hE191⟩
     ·intro L192 w193 hi194
      have hE195 := hi194.ex
      have hE195z := Ex.size hE195
      have hol198 : p_0.Name.length ≤ 1073741824 := o3.1
      exact os rfl ((yl_sadd (a := ((([100, 101, 108, 101, 116, 101, 32] : Str) ++ p_0.Name) ++ ([32] : Str))) (b := (s_l30Row p_1.Act.Old)) rfl (hi194.dt 3 57 rfl rfl rfl) (hi194.dt 7 61 rfl rfl rfl) (by first | omega | (simp only [List.length_append, List.length_cons, List.length_nil, List.length_take, List.length_drop, toS_length]; omega)) kI))
     ·exact fun _ _ h => os rfl ((yl_assign rfl (h.dt 8 62 rfl rfl rfl) kI))
     ·intro fl207 fh208 L204 w205 hp206
      have hE209 := hp206.ex
      have hE209z := Ex.size hE209
      refine SeqR.done (tn (CW.sub (Sub.cons (d := 4) (hp206.nt 9 4 rfl rfl rfl) (Sub.nil _)) (CW.ret (br (tr (rr rfl (.cons rfl .nil) ?_))))))
      have hM211 : (s_l30Text p_0 p_1) = (((([100, 101, 108, 101, 116, 101, 32] : Str) ++ p_0.Name) ++ ([32] : Str)) ++ (s_l30Row p_1.Act.Old)) := by simp only [s_l30Text, hb27, hb36, hb57, hb136, cond_true, cond_false, loopE_done, loopE_ret]
      rw [hM211]
      exact ⟨rfl, (Ex.trans (Ex.trans (Ex.trans (Ex.refl w) hE20) hE26) hE209)⟩
    ·have hb136p := dec_f hb136
     refine CW.cond_f rfl hb136 (CW.skip (bn (tn (CW.seq ?_))))
     have hol216 : p_0.Name.length ≤ 1073741824 := o3.1
     have hol217 : p_0.Name.length ≤ 1073741824 := o3.1
     have hol221 : p_0.Name.length ≤ 1073741824 := o3.1
     have hol222 : p_0.Name.length ≤ 1073741824 := o3.1
     have hol226 : p_0.Name.length ≤ 1073741824 := o3.1
     refine CW.drawsI 16 (vgetI [DetI (.pointer (some ⟨b15, 0 + 0, none⟩)), DetI (.string (bs (p_0.Name))), DetI (.string (bs (([117, 112, 100, 97, 116, 101, 32] : Str) ++ p_0.Name))), DetI (.string (bs ((([117, 112, 100, 97, 116, 101, 32] : Str) ++ p_0.Name) ++ ([32] : Str)))), DetI (.pointer (some ⟨b21, 0 + 1, none⟩)), DetI (.pointer (some ⟨b21, 0 + 1 + 1, none⟩)), DetI (.agg #[.slice A4 p_1.Act.Old.Vals.length c4]), DetI (.string (bs ((s_l30Row p_1.Act.Old)))), DetI (.string (bs (((([117, 112, 100, 97, 116, 101, 32] : Str) ++ p_0.Name) ++ ([32] : Str)) ++ (s_l30Row p_1.Act.Old)))), DetI (.string (bs ((((([117, 112, 100, 97, 116, 101, 32] : Str) ++ p_0.Name) ++ ([32] : Str)) ++ (s_l30Row p_1.Act.Old)) ++ ([32, 116, 111, 32] : Str)))), DetI (.pointer (some ⟨b21, 0 + 1, none⟩)), DetI (.pointer (some ⟨b21, 0 + 1 + 2, none⟩)), DetI (.agg #[.slice A5 p_1.Act.New.Vals.length c5]), DetI (.string (bs ((s_l30Row p_1.Act.New)))), DetI (.string (bs (((((([117, 112, 100, 97, 116, 101, 32] : Str) ++ p_0.Name) ++ ([32] : Str)) ++ (s_l30Row p_1.Act.Old)) ++ ([32, 116, 111, 32] : Str)) ++ (s_l30Row p_1.Act.New)))), DetI (.string (bs (((((([117, 112, 100, 97, 116, 101, 32] : Str) ++ p_0.Name) ++ ([32] : Str)) ++ (s_l30Row p_1.Act.Old)) ++ ([32, 116, 111, 32] : Str)) ++ (s_l30Row p_1.Act.New))))]) Tryd.follows rfl rfl rfl rfl rfl rfl (vgetI_stable ⟨StableI.det _, StableI.det _, StableI.det _, StableI.det _, StableI.det _, StableI.det _, StableI.det _, StableI.det _, StableI.det _, StableI.det _, StableI.det _, StableI.det _, StableI.det _, StableI.det _, StableI.det _, StableI.det _, trivial⟩) ⟨?_, ?_, ?_, ?_, ?_, ?_, ?_, ?_, ?_, ?_, ?_, ?_, ?_, ?_, ?_, ?_, trivial⟩ ?_
     ·exact fun _ _ h => os rfl ((yl_fieldAddr Tryd.fd36_0 rfl (h.old 2 _ rfl rfl) kI))
     ·exact fun _ _ h => os rfl ((yl_load1 Tryd.ty9 rfl (h.dt 0 63 rfl rfl rfl) (((Box.ex (Box.ex hB19 hE26) h.ex).cell 0).trans rfl) kI))
     ·intro L238 w239 hi240
      have hE241 := hi240.ex
      have hE241z := Ex.size hE241
      have hol243 : p_0.Name.length ≤ 1073741824 := o3.1
      exact os rfl ((yl_sadd (a := ([117, 112, 100, 97, 116, 101, 32] : Str)) (b := p_0.Name) rfl rfl (hi240.dt 1 64 rfl rfl rfl) (by first | omega | (simp only [List.length_append, List.length_cons, List.length_nil, List.length_take, List.length_drop, toS_length]; omega)) kI))
     ·intro L244 w245 hi246
      have hE247 := hi246.ex
      have hE247z := Ex.size hE247
      have hol249 : p_0.Name.length ≤ 1073741824 := o3.1
      exact os rfl ((yl_sadd (a := (([117, 112, 100, 97, 116, 101, 32] : Str) ++ p_0.Name)) (b := ([32] : Str)) rfl (hi246.dt 2 65 rfl rfl rfl) rfl (by first | omega | (simp only [List.length_append, List.length_cons, List.length_nil, List.length_take, List.length_drop, toS_length]; omega)) kI))
     ·exact fun _ _ h => os rfl ((yl_fieldAddr Tryd.fd48_1 rfl (h.old 3 _ rfl rfl) kI))
     ·exact fun _ _ h => os rfl ((yl_fieldAddr Tryd.fd46_1 rfl (h.dt 4 67 rfl rfl rfl) kI))
     ·exact fun _ _ h => os rfl ((yl_loadN (cs := [.slice A4 p_1.Act.Old.Vals.length c4]) Tryd.ty31 rfl (h.dt 5 68 rfl rfl rfl) ((Box.ex hB25 h.ex).cells (n := 1) rfl) rfl kI))
     ·intro L266 w267 hi268
      have hE269 := hi268.ex
      refine OpR.op' rfl (yl_call Tryd.en77 rfl (opvs_cons (hi268.dt 6 69 rfl rfl rfl) opvs_nil) (Cal.mono (c_s_l30Row p_1.Act.Old (RdS.up (RdS.ex good_Str (RdS.ex good_Str (RdS.ex good_Str h4 hE20) hE26) hE269) good_Str) o6.1.1) ?_))
      rintro v273 w272 ⟨rfl, hE274⟩
      exact ⟨rfl, hE274⟩
     ·intro L275 w276 hi277
      have hE278 := hi277.ex
      have hE278z := Ex.size hE278
      have hol281 : p_0.Name.length ≤ 1073741824 := o3.1
      exact os rfl ((yl_sadd (a := ((([117, 112, 100, 97, 116, 101, 32] : Str) ++ p_0.Name) ++ ([32] : Str))) (b := (s_l30Row p_1.Act.Old)) rfl (hi277.dt 3 66 rfl rfl rfl) (hi277.dt 7 70 rfl rfl rfl) (by first | omega | (simp only [List.length_append, List.length_cons, List.length_nil, List.length_take, List.length_drop, toS_length]; omega)) kI))
     ·intro L282 w283 hi284
      have hE285 := hi284.ex
      have hE285z := Ex.size hE285
      have hol287 : p_0.Name.length ≤ 1073741824 := o3.1
      exact os rfl ((yl_sadd (a := (((([117, 112, 100, 97, 116, 101, 32] : Str) ++ p_0.Name) ++ ([32] : Str)) ++ (s_l30Row p_1.Act.Old))) (b := ([32, 116, 111, 32] : Str)) rfl (hi284.dt 8 71 rfl rfl rfl) rfl (by first | omega | (simp only [List.length_append, List.length_cons, List.length_nil, List.length_take, List.length_drop, toS_length]; omega)) kI))
     ·exact fun _ _ h => os rfl ((yl_fieldAddr Tryd.fd48_1 rfl (h.old 3 _ rfl rfl) kI))
     ·exact fun _ _ h => os rfl ((yl_fieldAddr Tryd.fd46_2 rfl (h.dt 10 73 rfl rfl rfl) kI))
     ·exact fun _ _ h => os rfl ((yl_loadN (cs := [.slice A5 p_1.Act.New.Vals.length c5]) Tryd.ty31 rfl (h.dt 11 74 rfl rfl rfl) ((Box.ex hB25 h.ex).cells (n := 1) rfl) rfl kI))
     ·intro L304 w305 hi306
      have hE307 := hi306.ex
      refine OpR.op' rfl (yl_call Tryd.en77 rfl (opvs_cons (hi306.dt 12 75 rfl rfl rfl) opvs_nil) (Cal.mono (c_s_l30Row p_1.Act.New (RdS.up (RdS.ex good_Str (RdS.ex good_Str (RdS.ex good_Str h5 hE20) hE26) hE307) good_Str) o6.1.2) ?_))
      rintro v311 w310 ⟨rfl, hE312⟩
      exact ⟨rfl, hE312⟩
     ·intro L313 w314 hi315
      have hE316 := hi315.ex
      have hE316z := Ex.size hE316
      have hol319 : p_0.Name.length ≤ 1073741824 := o3.1
      exact os rfl ((yl_sadd (a := ((((([117, 112, 100, 97, 116, 101, 32] : Str) ++ p_0.Name) ++ ([32] : Str)) ++ (s_l30Row p_1.Act.Old)) ++ ([32, 116, 111, 32] : Str))) (b := (s_l30Row p_1.Act.New)) rfl (hi315.dt 9 72 rfl rfl rfl) (hi315.dt 13 76 rfl rfl rfl) (by first | omega | (simp only [List.length_append, List.length_cons, List.length_nil, List.length_take, List.length_drop, toS_length]; omega)) kI))
     ·exact fun _ _ h => os rfl ((yl_assign rfl (h.dt 14 77 rfl rfl rfl) kI))
     ·intro fl328 fh329 L325 w326 hp327
      have hE330 := hp327.ex
      have hE330z := Ex.size hE330
      refine SeqR.done (tn (CW.sub (Sub.cons (d := 4) (hp327.nt 15 4 rfl rfl rfl) (Sub.nil _)) (CW.ret (rr rfl (.cons rfl .nil) ?_))))
      have hM332 : (s_l30Text p_0 p_1) = (((((([117, 112, 100, 97, 116, 101, 32] : Str) ++ p_0.Name) ++ ([32] : Str)) ++ (s_l30Row p_1.Act.Old)) ++ ([32, 116, 111, 32] : Str)) ++ (s_l30Row p_1.Act.New)) := by simp only [s_l30Text, hb27, hb36, hb57, hb136, cond_true, cond_false, loopE_done, loopE_ret]
      rw [hM332]
      exact ⟨rfl, (Ex.trans (Ex.trans (Ex.trans (Ex.refl w) hE20) hE26) hE330)⟩
set_option maxRecDepth 100000 in
set_option maxHeartbeats 2000000 in
theorem c_s_l30Told {A1 : Option Addr} {c1 : Nat} {A2 : Option Addr} {c2 : Nat} {w : World} (p_t : DTable) (p_text : Str) (h1 : RdS w (Iv 0 w.heap.size) (RF e_Str) 1 A1 p_t.Cols.length c1 p_t.Cols) (h2 : RdS w (Iv 0 w.heap.size) (RF e_Idx) 3 A2 p_t.Idxs.length c2 p_t.Idxs) (o3 : ok_Table p_t) (o4 : okS p_text) : Cal Tryd.prog 34 #[.agg #[.string (bs (p_t.Name)), .slice A1 p_t.Cols.length c1, .slice A2 p_t.Idxs.length c2], .string (bs (p_text))] w fun v w' => ∃ A_1 c_1 lo_1 hi_1 A_2 c_2 lo_2 hi_2, v = .tuple #[.agg #[.int .i64 ((s_l30Told p_t p_text).1.Kind), .int .i64 ((s_l30Told p_t p_text).1.Act.Kind), .slice A_1 (((s_l30Told p_t p_text).1.Act.Old.Vals).length) c_1, .slice A_2 (((s_l30Told p_t p_text).1.Act.New.Vals).length) c_2, .string (bs ((s_l30Told p_t p_text).1.Idx)), .string (bs ((s_l30Told p_t p_text).1.Low)), .string (bs ((s_l30Told p_t p_text).1.High))], .bool ((s_l30Told p_t p_text).2)] ∧ OwnL w' lo_1 hi_1 9 1 (RF e_Str) A_1 (((s_l30Told p_t p_text).1.Act.Old.Vals).length) c_1 ((s_l30Told p_t p_text).1.Act.Old.Vals) ∧ OwnL w' lo_2 hi_2 9 1 (RF e_Str) A_2 (((s_l30Told p_t p_text).1.Act.New.Vals).length) c_2 ((s_l30Told p_t p_text).1.Act.New.Vals) ∧ ok_Stmt ((s_l30Told p_t p_text).1) ∧ (w.heap.size ≤ lo_1 ∧ lo_1 ≤ hi_1 ∧ hi_1 ≤ w'.heap.size) ∧ (w.heap.size ≤ lo_2 ∧ lo_2 ≤ hi_2 ∧ hi_2 ≤ w'.heap.size) ∧ (hi_1 ≤ lo_2 ∨ hi_2 ≤ lo_1) ∧ Ex w w' := by
 have hol5 : p_t.Name.length ≤ 1073741824 := o3.1
 have hol6 := o3.2.1.1
 have hol7 := o3.2.2.1
 have hol8 : p_text.length ≤ 1073741824 := o4
 obtain ⟨htf, htg⟩ := told_fit ‹okS p_text›
 refine Cal.of (vs := [.agg #[.string (bs (p_t.Name)), .slice A1 p_t.Cols.length c1, .slice A2 p_t.Idxs.length c2], .string (bs (p_text))]) Tryd.func34 rfl Tryd.ntmps34 rfl (CW.seq (CW.region (sd rfl (yl_box (cs := [.string (bs (p_t.Name)), .slice A1 p_t.Cols.length c1, .slice A2 p_t.Idxs.length c2]) rfl rfl rfl ?_))))
 intro b9 w10 hs11 hz12 hB13 hE14
 refine sd rfl (yl_alloc Tryd.ty48 (cs := [.int .i64 (0), .int .i64 (0), .slice none 0 0, .slice none 0 0, .string (bs (([] : Str))), .string (bs (([] : Str))), .string (bs (([] : Str)))]) rfl rfl ?_)
 intro b15 w16 hs17 hz18 hB19 hE20
 refine sd rfl (yl_assign rfl rfl (SeqR.done (tn (CW.seq (CW.region (sd rfl (yl_move rfl rfl (sd rfl (yl_call Tryd.en40 rfl (opvs_cons rfl (opvs_cons rfl opvs_nil)) (Cal.mono (c_s_l1Split p_text 32 o4) ?_))))))))))
 rintro v23 w21 ⟨A22, c22, lo22, hi22, rfl, h22, hrn25, hE24⟩
 have hE24z := Ex.size hE24
 have hrf26 := rf_l1Split p_text 32
 refine sd rfl (yl_call Tryd.en57 rfl (opvs_cons rfl opvs_nil) (Cal.mono (c_s_l30Read (s_l1Split p_text 32) (RdS.up (OwnL.rd good_Str h22) good_Str) (okL_l1Split o4)) ?_))
 rintro v32 w28 ⟨A29, c29, lo29, hi29, A30, c30, lo30, hi30, rfl, h29, h30, ho31, hrn34, hrn35, hrn36, hE33⟩
 have hE33z := Ex.size hE33
 refine sd rfl (yl_alloc Tryd.ty48 (cs := [.int .i64 (0), .int .i64 (0), .slice none 0 0, .slice none 0 0, .string (bs (([] : Str))), .string (bs (([] : Str))), .string (bs (([] : Str)))]) rfl rfl ?_)
 intro b37 w38 hs39 hz40 hB41 hE42
 refine SeqR.u rfl rfl (yl_store (vs := [.int .i64 ((s_l30Read (s_l1Split p_text 32)).Kind), .int .i64 ((s_l30Read (s_l1Split p_text 32)).Act.Kind), .slice A29 (((s_l30Read (s_l1Split p_text 32)).Act.Old.Vals).length) c29, .slice A30 (((s_l30Read (s_l1Split p_text 32)).Act.New.Vals).length) c30, .string (bs ((s_l30Read (s_l1Split p_text 32)).Idx)), .string (bs ((s_l30Read (s_l1Split p_text 32)).Low)), .string (bs ((s_l30Read (s_l1Split p_text 32)).High))]) Tryd.ty48 rfl rfl rfl rfl rfl rfl hB41 (Nat.le_of_ble_eq_true rfl) ?_)
 intro w43 hB44 hO45
 have hB44 : Box w43 b37 48 [.int .i64 ((s_l30Read (s_l1Split p_text 32)).Kind), .int .i64 ((s_l30Read (s_l1Split p_text 32)).Act.Kind), .slice A29 (((s_l30Read (s_l1Split p_text 32)).Act.Old.Vals).length) c29, .slice A30 (((s_l30Read (s_l1Split p_text 32)).Act.New.Vals).length) c30, .string (bs ((s_l30Read (s_l1Split p_text 32)).Idx)), .string (bs ((s_l30Read (s_l1Split p_text 32)).Low)), .string (bs ((s_l30Read (s_l1Split p_text 32)).High))] := hB44
 have hO45z := hO45.size
 refine SeqR.done (tn (CW.seq (bcase (s_l30Good p_t (s_l30Read (s_l1Split p_text 32))) (fun hb70 => ?_) (fun hb70 => ?_))))
 ·have q75 := Box.only (Box.ex (Box.ex (Box.ex (Box.ex hB13 hE20) hE24) hE33) hE42) hO45 (by omega)
  have q81 := RdS.only good_Str (RdS.ex good_Str (RdS.ex good_Str (RdS.ex good_Str (RdS.ex good_Str (RdS.ex good_Str h1 hE14) hE20) hE24) hE33) hE42) hO45 (by simp only [Iv]; omega)
  have q87 := RdS.only good_Idx (RdS.ex good_Idx (RdS.ex good_Idx (RdS.ex good_Idx (RdS.ex good_Idx (RdS.ex good_Idx h2 hE14) hE20) hE24) hE33) hE42) hO45 (by simp only [Iv]; omega)
  have q90 := OwnL.only good_Str (OwnL.ex good_Str h29 hE42) hO45 (by omega)
  have q93 := OwnL.only good_Str (OwnL.ex good_Str h30 hE42) hO45 (by omega)
  refine CW.drawsG 13 (fun G b => G.dn 11 = true ∧ InR [(b15, b15 + 1)] b) (fun i G b => (i = 11 ∧ b15 ≤ b ∧ b < b15 + 1)) (vgetG [DetG (.agg #[.int .i64 ((s_l30Read (s_l1Split p_text 32)).Kind), .int .i64 ((s_l30Read (s_l1Split p_text 32)).Act.Kind), .slice A29 (((s_l30Read (s_l1Split p_text 32)).Act.Old.Vals).length) c29, .slice A30 (((s_l30Read (s_l1Split p_text 32)).Act.New.Vals).length) c30, .string (bs ((s_l30Read (s_l1Split p_text 32)).Idx)), .string (bs ((s_l30Read (s_l1Split p_text 32)).Low)), .string (bs ((s_l30Read (s_l1Split p_text 32)).High))]), DetG (.agg #[.string (bs (p_t.Name)), .slice A1 p_t.Cols.length c1, .slice A2 p_t.Idxs.length c2]), DetG (.agg #[.int .i64 ((s_l30Read (s_l1Split p_text 32)).Kind), .int .i64 ((s_l30Read (s_l1Split p_text 32)).Act.Kind), .slice A29 (((s_l30Read (s_l1Split p_text 32)).Act.Old.Vals).length) c29, .slice A30 (((s_l30Read (s_l1Split p_text 32)).Act.New.Vals).length) c30, .string (bs ((s_l30Read (s_l1Split p_text 32)).Idx)), .string (bs ((s_l30Read (s_l1Split p_text 32)).Low)), .string (bs ((s_l30Read (s_l1Split p_text 32)).High))]), DetG (.bool ((s_l30Good p_t (s_l30Read (s_l1Split p_text 32))))), DetG (.bool ((s_l30Good p_t (s_l30Read (s_l1Split p_text 32))))), DetG (.agg #[.string (bs (p_t.Name)), .slice A1 p_t.Cols.length c1, .slice A2 p_t.Idxs.length c2]), DetG (.agg #[.int .i64 ((s_l30Read (s_l1Split p_text 32)).Kind), .int .i64 ((s_l30Read (s_l1Split p_text 32)).Act.Kind), .slice A29 (((s_l30Read (s_l1Split p_text 32)).Act.Old.Vals).length) c29, .slice A30 (((s_l30Read (s_l1Split p_text 32)).Act.New.Vals).length) c30, .string (bs ((s_l30Read (s_l1Split p_text 32)).Idx)), .string (bs ((s_l30Read (s_l1Split p_text 32)).Low)), .string (bs ((s_l30Read (s_l1Split p_text 32)).High))]), DetG (.string (bs ((s_l30Text p_t (s_l30Read (s_l1Split p_text 32)))))), DetG (.string (bs (p_text))), DetG (.bool ((s_l30Text p_t (s_l30Read (s_l1Split p_text 32))) == p_text)), DetG (.bool ((s_l30Text p_t (s_l30Read (s_l1Split p_text 32))) == p_text)), fun G v wq => Box wq b15 48 [.int .i64 ((s_l30Read (s_l1Split p_text 32)).Kind), .int .i64 ((s_l30Read (s_l1Split p_text 32)).Act.Kind), .slice A29 (((s_l30Read (s_l1Split p_text 32)).Act.Old.Vals).length) c29, .slice A30 (((s_l30Read (s_l1Split p_text 32)).Act.New.Vals).length) c30, .string (bs ((s_l30Read (s_l1Split p_text 32)).Idx)), .string (bs ((s_l30Read (s_l1Split p_text 32)).Low)), .string (bs ((s_l30Read (s_l1Split p_text 32)).High))], DetG (.bool ((s_l30Text p_t (s_l30Read (s_l1Split p_text 32))) == p_text))]) Tryd.follows rfl rfl rfl rfl rfl rfl (fun _ _ _ _ _ h => ⟨Gh.udn h.1, h.2⟩) (fun i G w lo hi b K hn hh hp => by exact (match hp with | ⟨e, q1, q2⟩ => by subst e; exact .inl ⟨Gh.sdn, .inl ⟨q1, q2⟩⟩)) (vgetG_kept ⟨(KeptG.det _), (KeptG.det _), (KeptG.det _), (KeptG.det _), (KeptG.det _), (KeptG.det _), (KeptG.det _), (KeptG.det _), (KeptG.det _), (KeptG.det _), (KeptG.det _), (by rintro i G v w w' K hn hh hj h0 e; exact (by exact Box.chg h0 e (fun hp => by obtain ⟨rfl, q1, q2⟩ := hp; rw [hj] at hn; cases hn))), (KeptG.det _), trivial⟩) ⟨?_, ?_, ?_, ?_, ?_, ?_, ?_, ?_, ?_, ?_, ?_, ?_, ?_, trivial⟩ ?_
  ·intro L100 w101 G99 hgk102
   have hE103 : Chg (fun b => InR [(b15, b15 + 1)] b ∨ w43.heap.size ≤ b) w43 w101 := hgk102.st.ex.imp (fun b _ h => h.imp (fun h => h.2) (fun h => h))
   have hE103z := Chg.size hE103
   exact OpR.op' rfl (Yl.sameG (yl_loadN (cs := [.int .i64 ((s_l30Read (s_l1Split p_text 32)).Kind), .int .i64 ((s_l30Read (s_l1Split p_text 32)).Act.Kind), .slice A29 (((s_l30Read (s_l1Split p_text 32)).Act.Old.Vals).length) c29, .slice A30 (((s_l30Read (s_l1Split p_text 32)).Act.New.Vals).length) c30, .string (bs ((s_l30Read (s_l1Split p_text 32)).Idx)), .string (bs ((s_l30Read (s_l1Split p_text 32)).Low)), .string (bs ((s_l30Read (s_l1Split p_text 32)).High))]) Tryd.ty48 rfl (hgk102.old 6 _ rfl rfl) ((Box.chg hB44 hE103 (by have := Box.lt hB44; simp only [InR, or_false]; omega)).cells (n := 7) rfl) rfl kI))
  ·intro L107 w108 G106 hgk109
   have hE110 : Chg (fun b => InR [(b15, b15 + 1)] b ∨ w43.heap.size ≤ b) w43 w108 := hgk109.st.ex.imp (fun b _ h => h.imp (fun h => h.2) (fun h => h))
   have hE110z := Chg.size hE110
   exact OpR.op' rfl (Yl.sameG (yl_loadN (cs := [.string (bs (p_t.Name)), .slice A1 p_t.Cols.length c1, .slice A2 p_t.Idxs.length c2]) Tryd.ty36 rfl (hgk109.old 2 _ rfl rfl) ((Box.chg q75 hE110 (by have := Box.lt q75; simp only [InR, or_false]; omega)).cells (n := 3) rfl) rfl kI))
  ·intro L114 w115 G113 hgk116
   have hE117 : Chg (fun b => InR [(b15, b15 + 1)] b ∨ w43.heap.size ≤ b) w43 w115 := hgk116.st.ex.imp (fun b _ h => h.imp (fun h => h.2) (fun h => h))
   have hE117z := Chg.size hE117
   exact OpR.op' rfl (Yl.sameG (yl_loadN (cs := [.int .i64 ((s_l30Read (s_l1Split p_text 32)).Kind), .int .i64 ((s_l30Read (s_l1Split p_text 32)).Act.Kind), .slice A29 (((s_l30Read (s_l1Split p_text 32)).Act.Old.Vals).length) c29, .slice A30 (((s_l30Read (s_l1Split p_text 32)).Act.New.Vals).length) c30, .string (bs ((s_l30Read (s_l1Split p_text 32)).Idx)), .string (bs ((s_l30Read (s_l1Split p_text 32)).Low)), .string (bs ((s_l30Read (s_l1Split p_text 32)).High))]) Tryd.ty48 rfl (hgk116.old 6 _ rfl rfl) ((Box.chg hB44 hE117 (by have := Box.lt hB44; simp only [InR, or_false]; omega)).cells (n := 7) rfl) rfl kI))
  ·intro L121 w122 G120 hgk123
   have hE124 : Chg (fun b => InR [(b15, b15 + 1)] b ∨ w43.heap.size ≤ b) w43 w122 := hgk123.st.ex.imp (fun b _ h => h.imp (fun h => h.2) (fun h => h))
   have hE124z := Chg.size hE124
   obtain ⟨_, hx125, rfl⟩ := hgk123.val 1 11 rfl rfl
   obtain ⟨_, hx126, rfl⟩ := hgk123.val 2 12 rfl rfl
   refine OpR.op' rfl (yl_call Tryd.en58 rfl (opvs_cons hx125 (opvs_cons hx126 opvs_nil)) (Cal.mono (c_s_l30Good p_t (s_l30Read (s_l1Split p_text 32)) (RdS.up (RdS.chg good_Str q81 hE124 (fun k hl hk => by simp only [InR, or_false, Iv, Ge] at hk ⊢; omega)) good_Str) (RdS.up (RdS.chg good_Idx q87 hE124 (fun k hl hk => by simp only [InR, or_false, Iv, Ge] at hk ⊢; omega)) good_Idx) (RdS.up (OwnL.rd good_Str (OwnL.chg good_Str q90 hE124 (fun k hl hk => by simp only [InR, or_false] at hk; omega))) good_Str) (RdS.up (OwnL.rd good_Str (OwnL.chg good_Str q93 hE124 (fun k hl hk => by simp only [InR, or_false] at hk; omega))) good_Str) o3 ho31 (by first | omega | assumption | (simp only [IntKind.wrap_i64] at *; omega))) ?_))
   rintro v134 w133 ⟨rfl, hE135⟩
   exact ⟨Chg.of_ex hE135, rfl⟩
  ·intro L137 w138 G136 hgk139
   have hE140 : Chg (fun b => InR [(b15, b15 + 1)] b ∨ w43.heap.size ≤ b) w43 w138 := hgk139.st.ex.imp (fun b _ h => h.imp (fun h => h.2) (fun h => h))
   have hE140z := Chg.size hE140
   obtain ⟨_, hx141, rfl⟩ := hgk139.val 3 13 rfl rfl
   exact OpR.op' rfl (Yl.sameG (yl_move rfl hx141 kI))
  ·intro L143 w144 G142 hgk145
   have hE146 : Chg (fun b => InR [(b15, b15 + 1)] b ∨ w43.heap.size ≤ b) w43 w144 := hgk145.st.ex.imp (fun b _ h => h.imp (fun h => h.2) (fun h => h))
   have hE146z := Chg.size hE146
   obtain ⟨_, hx147, rfl⟩ := hgk145.val 4 14 rfl rfl
   exact OpR.want rfl rfl hx147 hb70 (Yl.sameG (yl_loadN (cs := [.string (bs (p_t.Name)), .slice A1 p_t.Cols.length c1, .slice A2 p_t.Idxs.length c2]) Tryd.ty36 rfl (hgk145.old 2 _ rfl rfl) ((Box.chg q75 hE146 (by have := Box.lt q75; simp only [InR, or_false]; omega)).cells (n := 3) rfl) rfl kI))
  ·intro L151 w152 G150 hgk153
   have hE154 : Chg (fun b => InR [(b15, b15 + 1)] b ∨ w43.heap.size ≤ b) w43 w152 := hgk153.st.ex.imp (fun b _ h => h.imp (fun h => h.2) (fun h => h))
   have hE154z := Chg.size hE154
   obtain ⟨_, hx155, rfl⟩ := hgk153.val 4 14 rfl rfl
   exact OpR.want rfl rfl hx155 hb70 (Yl.sameG (yl_loadN (cs := [.int .i64 ((s_l30Read (s_l1Split p_text 32)).Kind), .int .i64 ((s_l30Read (s_l1Split p_text 32)).Act.Kind), .slice A29 (((s_l30Read (s_l1Split p_text 32)).Act.Old.Vals).length) c29, .slice A30 (((s_l30Read (s_l1Split p_text 32)).Act.New.Vals).length) c30, .string (bs ((s_l30Read (s_l1Split p_text 32)).Idx)), .string (bs ((s_l30Read (s_l1Split p_text 32)).Low)), .string (bs ((s_l30Read (s_l1Split p_text 32)).High))]) Tryd.ty48 rfl (hgk153.old 6 _ rfl rfl) ((Box.chg hB44 hE154 (by have := Box.lt hB44; simp only [InR, or_false]; omega)).cells (n := 7) rfl) rfl kI))
  ·intro L159 w160 G158 hgk161
   have hE162 : Chg (fun b => InR [(b15, b15 + 1)] b ∨ w43.heap.size ≤ b) w43 w160 := hgk161.st.ex.imp (fun b _ h => h.imp (fun h => h.2) (fun h => h))
   have hE162z := Chg.size hE162
   obtain ⟨_, hx163, rfl⟩ := hgk161.val 4 14 rfl rfl
   obtain ⟨_, hx164, rfl⟩ := hgk161.val 5 15 rfl rfl
   obtain ⟨_, hx165, rfl⟩ := hgk161.val 6 16 rfl rfl
   refine OpR.want rfl rfl hx163 hb70 (yl_call Tryd.en59 rfl (opvs_cons hx164 (opvs_cons hx165 opvs_nil)) (Cal.mono (c_s_l30Text p_t (s_l30Read (s_l1Split p_text 32)) (RdS.up (RdS.chg good_Str q81 hE162 (fun k hl hk => by simp only [InR, or_false, Iv, Ge] at hk ⊢; omega)) good_Str) (RdS.up (RdS.chg good_Idx q87 hE162 (fun k hl hk => by simp only [InR, or_false, Iv, Ge] at hk ⊢; omega)) good_Idx) (RdS.up (OwnL.rd good_Str (OwnL.chg good_Str q90 hE162 (fun k hl hk => by simp only [InR, or_false] at hk; omega))) good_Str) (RdS.up (OwnL.rd good_Str (OwnL.chg good_Str q93 hE162 (fun k hl hk => by simp only [InR, or_false] at hk; omega))) good_Str) o3 ho31 (by first | omega | assumption | (simp only [IntKind.wrap_i64] at *; omega))) ?_))
   rintro v173 w172 ⟨rfl, hE174⟩
   exact ⟨Chg.of_ex hE174, rfl⟩
  ·intro L176 w177 G175 hgk178
   have hE179 : Chg (fun b => InR [(b15, b15 + 1)] b ∨ w43.heap.size ≤ b) w43 w177 := hgk178.st.ex.imp (fun b _ h => h.imp (fun h => h.2) (fun h => h))
   have hE179z := Chg.size hE179
   obtain ⟨_, hx180, rfl⟩ := hgk178.val 4 14 rfl rfl
   exact OpR.want rfl rfl hx180 hb70 (Yl.sameG (yl_move rfl (hgk178.old 1 _ rfl rfl) kI))
  ·intro L183 w184 G182 hgk185
   have hE186 : Chg (fun b => InR [(b15, b15 + 1)] b ∨ w43.heap.size ≤ b) w43 w184 := hgk185.st.ex.imp (fun b _ h => h.imp (fun h => h.2) (fun h => h))
   have hE186z := Chg.size hE186
   obtain ⟨_, hx187, rfl⟩ := hgk185.val 4 14 rfl rfl
   obtain ⟨_, hx188, rfl⟩ := hgk185.val 7 17 rfl rfl
   obtain ⟨_, hx189, rfl⟩ := hgk185.val 8 18 rfl rfl
   exact OpR.want rfl rfl hx187 hb70 (Yl.sameG (yl_seql (a := (s_l30Text p_t (s_l30Read (s_l1Split p_text 32)))) (b := p_text) rfl hx188 hx189 kI))
  ·intro L191 w192 G190 hgk193
   have hE194 : Chg (fun b => InR [(b15, b15 + 1)] b ∨ w43.heap.size ≤ b) w43 w192 := hgk193.st.ex.imp (fun b _ h => h.imp (fun h => h.2) (fun h => h))
   have hE194z := Chg.size hE194
   obtain ⟨_, hx195, rfl⟩ := hgk193.val 9 19 rfl rfl
   obtain ⟨_, hx196, rfl⟩ := hgk193.val 4 14 rfl rfl
   exact OpR.op' rfl (Yl.sameG (yl_pick_t rfl hx196 hb70 hx195 kI))
  ·intro L198 w199 G197 hgk200
   have hE201 := hgk200.st.ex.ex (fun b h => h.elim (fun h => (Bool.false_ne_true (hgk200.new.symm.trans h.1)).elim) (fun h => h))
   have hE201z := Ex.size hE201
   obtain ⟨_, hx203, rfl⟩ := hgk200.val 0 10 rfl rfl
   refine OpR.op' rfl (yl_store (vs := [.int .i64 ((s_l30Read (s_l1Split p_text 32)).Kind), .int .i64 ((s_l30Read (s_l1Split p_text 32)).Act.Kind), .slice A29 (((s_l30Read (s_l1Split p_text 32)).Act.Old.Vals).length) c29, .slice A30 (((s_l30Read (s_l1Split p_text 32)).Act.New.Vals).length) c30, .string (bs ((s_l30Read (s_l1Split p_text 32)).Idx)), .string (bs ((s_l30Read (s_l1Split p_text 32)).Low)), .string (bs ((s_l30Read (s_l1Split p_text 32)).High))]) Tryd.ty48 rfl (hgk200.old 4 _ rfl rfl) hx203 rfl rfl rfl (Box.ex (Box.only (Box.ex (Box.ex (Box.ex hB19 hE24) hE33) hE42) hO45 (by omega)) hE201) (Nat.le_of_ble_eq_true rfl) ?_)
   intro w209 hB210 hO211
   have hO211z := hO211.size
   exact ⟨Chg.of_only hO211 (⟨rfl, Nat.le_refl _, by omega⟩), hB210⟩
  ·intro L213 w214 G212 hgk215
   have hE216 : Chg (fun b => InR [(b15, b15 + 1)] b ∨ w43.heap.size ≤ b) w43 w214 := hgk215.st.ex.imp (fun b _ h => h.imp (fun h => h.2) (fun h => h))
   have hE216z := Chg.size hE216
   obtain ⟨_, hx217, rfl⟩ := hgk215.val 10 20 rfl rfl
   exact OpR.op' rfl (Yl.sameG (yl_assign rfl hx217 kI))
  ·intro G218 L219 w220 hgp221
   have hE222 : Chg (fun b => InR [(b15, b15 + 1)] b ∨ w43.heap.size ≤ b) w43 w220 := hgp221.st.ex.imp (fun b _ h => h.imp (fun h => h.2) (fun h => h))
   have hE222z := Chg.size hE222
   obtain ⟨_, h224⟩ := hgp221.fact 11 rfl
   obtain ⟨_, hx225, rfl⟩ := hgp221.val 12 5 rfl rfl
   have hr226 := hgp221.st.rng 11 (hgp221.has 11 rfl)
   refine SeqR.done (tn (CW.sub (Sub.cons (d := 4) (hgp221.old 4 _ rfl rfl) (Sub.cons (d := 5) hx225 (Sub.nil _))) (CW.ret (rr rfl (.cons ⟨_, rfl, run_loadN Tryd.ty48 (cs := [.int .i64 ((s_l30Read (s_l1Split p_text 32)).Kind), .int .i64 ((s_l30Read (s_l1Split p_text 32)).Act.Kind), .slice A29 (((s_l30Read (s_l1Split p_text 32)).Act.Old.Vals).length) c29, .slice A30 (((s_l30Read (s_l1Split p_text 32)).Act.New.Vals).length) c30, .string (bs ((s_l30Read (s_l1Split p_text 32)).Idx)), .string (bs ((s_l30Read (s_l1Split p_text 32)).Low)), .string (bs ((s_l30Read (s_l1Split p_text 32)).High))]) rfl (h224.cells (n := 7) rfl)⟩ (.cons rfl .nil)) ?_))))
   have hM227 : (s_l30Told p_t p_text) = (((s_l30Read (s_l1Split p_text 32)), (s_l30Text p_t (s_l30Read (s_l1Split p_text 32))) == p_text)) := by simp only [s_l30Told, hb70, cond_true, cond_false, loopE_done, loopE_ret]
   rw [hM227]
   exact ⟨A29, c29, lo29, hi29, A30, c30, lo30, hi30, rfl, (OwnL.chg good_Str q90 hE222 (fun k hl hk => by simp only [InR, or_false] at hk; omega)), (OwnL.chg good_Str q93 hE222 (fun k hl hk => by simp only [InR, or_false] at hk; omega)), ho31, (by omega), (by omega), (by omega), (Ex.chg (Below.only (Ex.trans (Ex.trans (Ex.trans (Ex.trans (Ex.trans (Ex.refl w) hE14) hE20) hE24) hE33) hE42) hO45 (by omega)) hE222 (fun k hk => by simp only [InR, or_false] at hk; omega))⟩
 ·have q241 := Box.only (Box.ex (Box.ex (Box.ex (Box.ex hB13 hE20) hE24) hE33) hE42) hO45 (by omega)
  have q256 := OwnL.only good_Str (OwnL.ex good_Str h29 hE42) hO45 (by omega)
  have q259 := OwnL.only good_Str (OwnL.ex good_Str h30 hE42) hO45 (by omega)
  refine CW.drawsG 13 (fun G b => G.dn 11 = true ∧ InR [(b15, b15 + 1)] b) (fun i G b => (i = 11 ∧ b15 ≤ b ∧ b < b15 + 1)) (vgetG [DetG (.agg #[.int .i64 ((s_l30Read (s_l1Split p_text 32)).Kind), .int .i64 ((s_l30Read (s_l1Split p_text 32)).Act.Kind), .slice A29 (((s_l30Read (s_l1Split p_text 32)).Act.Old.Vals).length) c29, .slice A30 (((s_l30Read (s_l1Split p_text 32)).Act.New.Vals).length) c30, .string (bs ((s_l30Read (s_l1Split p_text 32)).Idx)), .string (bs ((s_l30Read (s_l1Split p_text 32)).Low)), .string (bs ((s_l30Read (s_l1Split p_text 32)).High))]), DetG (.agg #[.string (bs (p_t.Name)), .slice A1 p_t.Cols.length c1, .slice A2 p_t.Idxs.length c2]), DetG (.agg #[.int .i64 ((s_l30Read (s_l1Split p_text 32)).Kind), .int .i64 ((s_l30Read (s_l1Split p_text 32)).Act.Kind), .slice A29 (((s_l30Read (s_l1Split p_text 32)).Act.Old.Vals).length) c29, .slice A30 (((s_l30Read (s_l1Split p_text 32)).Act.New.Vals).length) c30, .string (bs ((s_l30Read (s_l1Split p_text 32)).Idx)), .string (bs ((s_l30Read (s_l1Split p_text 32)).Low)), .string (bs ((s_l30Read (s_l1Split p_text 32)).High))]), DetG (.bool ((s_l30Good p_t (s_l30Read (s_l1Split p_text 32))))), DetG (.bool ((s_l30Good p_t (s_l30Read (s_l1Split p_text 32))))), DetG (undef), DetG (undef), DetG (undef), DetG (undef), DetG (undef), DetG (.bool (false)), fun G v wq => Box wq b15 48 [.int .i64 ((s_l30Read (s_l1Split p_text 32)).Kind), .int .i64 ((s_l30Read (s_l1Split p_text 32)).Act.Kind), .slice A29 (((s_l30Read (s_l1Split p_text 32)).Act.Old.Vals).length) c29, .slice A30 (((s_l30Read (s_l1Split p_text 32)).Act.New.Vals).length) c30, .string (bs ((s_l30Read (s_l1Split p_text 32)).Idx)), .string (bs ((s_l30Read (s_l1Split p_text 32)).Low)), .string (bs ((s_l30Read (s_l1Split p_text 32)).High))], DetG (.bool (false))]) Tryd.follows rfl rfl rfl rfl rfl rfl (fun _ _ _ _ _ h => ⟨Gh.udn h.1, h.2⟩) (fun i G w lo hi b K hn hh hp => by exact (match hp with | ⟨e, q1, q2⟩ => by subst e; exact .inl ⟨Gh.sdn, .inl ⟨q1, q2⟩⟩)) (vgetG_kept ⟨(KeptG.det _), (KeptG.det _), (KeptG.det _), (KeptG.det _), (KeptG.det _), (KeptG.det _), (KeptG.det _), (KeptG.det _), (KeptG.det _), (KeptG.det _), (KeptG.det _), (by rintro i G v w w' K hn hh hj h0 e; exact (by exact Box.chg h0 e (fun hp => by obtain ⟨rfl, q1, q2⟩ := hp; rw [hj] at hn; cases hn))), (KeptG.det _), trivial⟩) ⟨?_, ?_, ?_, ?_, ?_, ?_, ?_, ?_, ?_, ?_, ?_, ?_, ?_, trivial⟩ ?_
  ·intro L263 w264 G262 hgk265
   have hE266 : Chg (fun b => InR [(b15, b15 + 1)] b ∨ w43.heap.size ≤ b) w43 w264 := hgk265.st.ex.imp (fun b _ h => h.imp (fun h => h.2) (fun h => h))
   have hE266z := Chg.size hE266
   exact OpR.op' rfl (Yl.sameG (yl_loadN (cs := [.int .i64 ((s_l30Read (s_l1Split p_text 32)).Kind), .int .i64 ((s_l30Read (s_l1Split p_text 32)).Act.Kind), .slice A29 (((s_l30Read (s_l1Split p_text 32)).Act.Old.Vals).length) c29, .slice A30 (((s_l30Read (s_l1Split p_text 32)).Act.New.Vals).length) c30, .string (bs ((s_l30Read (s_l1Split p_text 32)).Idx)), .string (bs ((s_l30Read (s_l1Split p_text 32)).Low)), .string (bs ((s_l30Read (s_l1Split p_text 32)).High))]) Tryd.ty48 rfl (hgk265.old 6 _ rfl rfl) ((Box.chg hB44 hE266 (by have := Box.lt hB44; simp only [InR, or_false]; omega)).cells (n := 7) rfl) rfl kI))
  ·intro L270 w271 G269 hgk272
   have hE273 : Chg (fun b => InR [(b15, b15 + 1)] b ∨ w43.heap.size ≤ b) w43 w271 := hgk272.st.ex.imp (fun b _ h => h.imp (fun h => h.2) (fun h => h))
   have hE273z := Chg.size hE273
   exact OpR.op' rfl (Yl.sameG (yl_loadN (cs := [.string (bs (p_t.Name)), .slice A1 p_t.Cols.length c1, .slice A2 p_t.Idxs.length c2]) Tryd.ty36 rfl (hgk272.old 2 _ rfl rfl) ((Box.chg q241 hE273 (by have := Box.lt q241; simp only [InR, or_false]; omega)).cells (n := 3) rfl) rfl kI))
  ·intro L277 w278 G276 hgk279
   have hE280 : Chg (fun b => InR [(b15, b15 + 1)] b ∨ w43.heap.size ≤ b) w43 w278 := hgk279.st.ex.imp (fun b _ h => h.imp (fun h => h.2) (fun h => h))
   have hE280z := Chg.size hE280
   exact OpR.op' rfl (Yl.sameG (yl_loadN (cs := [.int .i64 ((s_l30Read (s_l1Split p_text 32)).Kind), .int .i64 ((s_l30Read (s_l1Split p_text 32)).Act.Kind), .slice A29 (((s_l30Read (s_l1Split p_text 32)).Act.Old.Vals).length) c29, .slice A30 (((s_l30Read (s_l1Split p_text 32)).Act.New.Vals).length) c30, .string (bs ((s_l30Read (s_l1Split p_text 32)).Idx)), .string (bs ((s_l30Read (s_l1Split p_text 32)).Low)), .string (bs ((s_l30Read (s_l1Split p_text 32)).High))]) Tryd.ty48 rfl (hgk279.old 6 _ rfl rfl) ((Box.chg hB44 hE280 (by have := Box.lt hB44; simp only [InR, or_false]; omega)).cells (n := 7) rfl) rfl kI))
  ·intro L284 w285 G283 hgk286
   have hE287 : Chg (fun b => InR [(b15, b15 + 1)] b ∨ w43.heap.size ≤ b) w43 w285 := hgk286.st.ex.imp (fun b _ h => h.imp (fun h => h.2) (fun h => h))
   have hE287z := Chg.size hE287
   obtain ⟨_, hx288, rfl⟩ := hgk286.val 1 11 rfl rfl
   obtain ⟨_, hx289, rfl⟩ := hgk286.val 2 12 rfl rfl
   refine OpR.op' rfl (yl_call Tryd.en58 rfl (opvs_cons hx288 (opvs_cons hx289 opvs_nil)) (Cal.mono (c_s_l30Good p_t (s_l30Read (s_l1Split p_text 32)) (RdS.up (RdS.chg good_Str (RdS.only good_Str (RdS.ex good_Str (RdS.ex good_Str (RdS.ex good_Str (RdS.ex good_Str (RdS.ex good_Str h1 hE14) hE20) hE24) hE33) hE42) hO45 (by simp only [Iv]; omega)) hE287 (fun k hl hk => by simp only [InR, or_false, Iv, Ge] at hk ⊢; omega)) good_Str) (RdS.up (RdS.chg good_Idx (RdS.only good_Idx (RdS.ex good_Idx (RdS.ex good_Idx (RdS.ex good_Idx (RdS.ex good_Idx (RdS.ex good_Idx h2 hE14) hE20) hE24) hE33) hE42) hO45 (by simp only [Iv]; omega)) hE287 (fun k hl hk => by simp only [InR, or_false, Iv, Ge] at hk ⊢; omega)) good_Idx) (RdS.up (OwnL.rd good_Str (OwnL.chg good_Str q256 hE287 (fun k hl hk => by simp only [InR, or_false] at hk; omega))) good_Str) (RdS.up (OwnL.rd good_Str (OwnL.chg good_Str q259 hE287 (fun k hl hk => by simp only [InR, or_false] at hk; omega))) good_Str) o3 ho31 (by first | omega | assumption | (simp only [IntKind.wrap_i64] at *; omega))) ?_))
   rintro v297 w296 ⟨rfl, hE298⟩
   exact ⟨Chg.of_ex hE298, rfl⟩
  ·intro L300 w301 G299 hgk302
   have hE303 : Chg (fun b => InR [(b15, b15 + 1)] b ∨ w43.heap.size ≤ b) w43 w301 := hgk302.st.ex.imp (fun b _ h => h.imp (fun h => h.2) (fun h => h))
   have hE303z := Chg.size hE303
   obtain ⟨_, hx304, rfl⟩ := hgk302.val 3 13 rfl rfl
   exact OpR.op' rfl (Yl.sameG (yl_move rfl hx304 kI))
  ·intro L306 w307 G305 hgk308
   have hE309 : Chg (fun b => InR [(b15, b15 + 1)] b ∨ w43.heap.size ≤ b) w43 w307 := hgk308.st.ex.imp (fun b _ h => h.imp (fun h => h.2) (fun h => h))
   have hE309z := Chg.size hE309
   obtain ⟨_, hx310, rfl⟩ := hgk308.val 4 14 rfl rfl
   exact OpR.skip rfl rfl hx310 hb70 ⟨Chg.refl _ _, rfl⟩
  ·intro L312 w313 G311 hgk314
   have hE315 : Chg (fun b => InR [(b15, b15 + 1)] b ∨ w43.heap.size ≤ b) w43 w313 := hgk314.st.ex.imp (fun b _ h => h.imp (fun h => h.2) (fun h => h))
   have hE315z := Chg.size hE315
   obtain ⟨_, hx316, rfl⟩ := hgk314.val 4 14 rfl rfl
   exact OpR.skip rfl rfl hx316 hb70 ⟨Chg.refl _ _, rfl⟩
  ·intro L318 w319 G317 hgk320
   have hE321 : Chg (fun b => InR [(b15, b15 + 1)] b ∨ w43.heap.size ≤ b) w43 w319 := hgk320.st.ex.imp (fun b _ h => h.imp (fun h => h.2) (fun h => h))
   have hE321z := Chg.size hE321
   obtain ⟨_, hx322, rfl⟩ := hgk320.val 4 14 rfl rfl
   exact OpR.skip rfl rfl hx322 hb70 ⟨Chg.refl _ _, rfl⟩
  ·intro L324 w325 G323 hgk326
   have hE327 : Chg (fun b => InR [(b15, b15 + 1)] b ∨ w43.heap.size ≤ b) w43 w325 := hgk326.st.ex.imp (fun b _ h => h.imp (fun h => h.2) (fun h => h))
   have hE327z := Chg.size hE327
   obtain ⟨_, hx328, rfl⟩ := hgk326.val 4 14 rfl rfl
   exact OpR.skip rfl rfl hx328 hb70 ⟨Chg.refl _ _, rfl⟩
  ·intro L330 w331 G329 hgk332
   have hE333 : Chg (fun b => InR [(b15, b15 + 1)] b ∨ w43.heap.size ≤ b) w43 w331 := hgk332.st.ex.imp (fun b _ h => h.imp (fun h => h.2) (fun h => h))
   have hE333z := Chg.size hE333
   obtain ⟨_, hx334, rfl⟩ := hgk332.val 4 14 rfl rfl
   exact OpR.skip rfl rfl hx334 hb70 ⟨Chg.refl _ _, rfl⟩
  ·intro L336 w337 G335 hgk338
   have hE339 : Chg (fun b => InR [(b15, b15 + 1)] b ∨ w43.heap.size ≤ b) w43 w337 := hgk338.st.ex.imp (fun b _ h => h.imp (fun h => h.2) (fun h => h))
   have hE339z := Chg.size hE339
   obtain ⟨_, hx340, rfl⟩ := hgk338.val 9 19 rfl rfl
   obtain ⟨_, hx341, rfl⟩ := hgk338.val 4 14 rfl rfl
   exact OpR.op' rfl (Yl.sameG (yl_pick_f rfl hx341 hb70 rfl kI))
  ·intro L343 w344 G342 hgk345
   have hE346 := hgk345.st.ex.ex (fun b h => h.elim (fun h => (Bool.false_ne_true (hgk345.new.symm.trans h.1)).elim) (fun h => h))
   have hE346z := Ex.size hE346
   obtain ⟨_, hx348, rfl⟩ := hgk345.val 0 10 rfl rfl
   refine OpR.op' rfl (yl_store (vs := [.int .i64 ((s_l30Read (s_l1Split p_text 32)).Kind), .int .i64 ((s_l30Read (s_l1Split p_text 32)).Act.Kind), .slice A29 (((s_l30Read (s_l1Split p_text 32)).Act.Old.Vals).length) c29, .slice A30 (((s_l30Read (s_l1Split p_text 32)).Act.New.Vals).length) c30, .string (bs ((s_l30Read (s_l1Split p_text 32)).Idx)), .string (bs ((s_l30Read (s_l1Split p_text 32)).Low)), .string (bs ((s_l30Read (s_l1Split p_text 32)).High))]) Tryd.ty48 rfl (hgk345.old 4 _ rfl rfl) hx348 rfl rfl rfl (Box.ex (Box.only (Box.ex (Box.ex (Box.ex hB19 hE24) hE33) hE42) hO45 (by omega)) hE346) (Nat.le_of_ble_eq_true rfl) ?_)
   intro w354 hB355 hO356
   have hO356z := hO356.size
   exact ⟨Chg.of_only hO356 (⟨rfl, Nat.le_refl _, by omega⟩), hB355⟩
  ·intro L358 w359 G357 hgk360
   have hE361 : Chg (fun b => InR [(b15, b15 + 1)] b ∨ w43.heap.size ≤ b) w43 w359 := hgk360.st.ex.imp (fun b _ h => h.imp (fun h => h.2) (fun h => h))
   have hE361z := Chg.size hE361
   obtain ⟨_, hx362, rfl⟩ := hgk360.val 10 20 rfl rfl
   exact OpR.op' rfl (Yl.sameG (yl_assign rfl hx362 kI))
  ·intro G363 L364 w365 hgp366
   have hE367 : Chg (fun b => InR [(b15, b15 + 1)] b ∨ w43.heap.size ≤ b) w43 w365 := hgp366.st.ex.imp (fun b _ h => h.imp (fun h => h.2) (fun h => h))
   have hE367z := Chg.size hE367
   obtain ⟨_, h369⟩ := hgp366.fact 11 rfl
   obtain ⟨_, hx370, rfl⟩ := hgp366.val 12 5 rfl rfl
   have hr371 := hgp366.st.rng 11 (hgp366.has 11 rfl)
   refine SeqR.done (tn (CW.sub (Sub.cons (d := 4) (hgp366.old 4 _ rfl rfl) (Sub.cons (d := 5) hx370 (Sub.nil _))) (CW.ret (rr rfl (.cons ⟨_, rfl, run_loadN Tryd.ty48 (cs := [.int .i64 ((s_l30Read (s_l1Split p_text 32)).Kind), .int .i64 ((s_l30Read (s_l1Split p_text 32)).Act.Kind), .slice A29 (((s_l30Read (s_l1Split p_text 32)).Act.Old.Vals).length) c29, .slice A30 (((s_l30Read (s_l1Split p_text 32)).Act.New.Vals).length) c30, .string (bs ((s_l30Read (s_l1Split p_text 32)).Idx)), .string (bs ((s_l30Read (s_l1Split p_text 32)).Low)), .string (bs ((s_l30Read (s_l1Split p_text 32)).High))]) rfl (h369.cells (n := 7) rfl)⟩ (.cons rfl .nil)) ?_))))
   have hM372 : (s_l30Told p_t p_text) = (((s_l30Read (s_l1Split p_text 32)), false)) := by simp only [s_l30Told, hb70, cond_true, cond_false, loopE_done, loopE_ret]
   rw [hM372]
   exact ⟨A29, c29, lo29, hi29, A30, c30, lo30, hi30, rfl, (OwnL.chg good_Str q256 hE367 (fun k hl hk => by simp only [InR, or_false] at hk; omega)), (OwnL.chg good_Str q259 hE367 (fun k hl hk => by simp only [InR, or_false] at hk; omega)), ho31, (by omega), (by omega), (by omega), (Ex.chg (Below.only (Ex.trans (Ex.trans (Ex.trans (Ex.trans (Ex.trans (Ex.refl w) hE14) hE20) hE24) hE33) hE42) hO45 (by omega)) hE367 (fun k hk => by simp only [InR, or_false] at hk; omega))⟩
set_option maxRecDepth 100000 in
set_option maxHeartbeats 2000000 in
theorem c_s_ReadStmt {A1 : Option Addr} {c1 : Nat} {A2 : Option Addr} {c2 : Nat} {w : World} (p_t : DTable) (p_text : Str) (h1 : RdS w (Iv 0 w.heap.size) (RF e_Str) 1 A1 p_t.Cols.length c1 p_t.Cols) (h2 : RdS w (Iv 0 w.heap.size) (RF e_Idx) 3 A2 p_t.Idxs.length c2 p_t.Idxs) (o3 : ok_Table p_t) (o4 : okS p_text) : Cal Tryd.prog 16 #[.agg #[.string (bs (p_t.Name)), .slice A1 p_t.Cols.length c1, .slice A2 p_t.Idxs.length c2], .string (bs (p_text))] w fun v w' => ∃ A_1 c_1 lo_1 hi_1 A_2 c_2 lo_2 hi_2, v = .tuple #[.agg #[.int .i64 ((s_ReadStmt p_t p_text).1.Kind), .int .i64 ((s_ReadStmt p_t p_text).1.Act.Kind), .slice A_1 (((s_ReadStmt p_t p_text).1.Act.Old.Vals).length) c_1, .slice A_2 (((s_ReadStmt p_t p_text).1.Act.New.Vals).length) c_2, .string (bs ((s_ReadStmt p_t p_text).1.Idx)), .string (bs ((s_ReadStmt p_t p_text).1.Low)), .string (bs ((s_ReadStmt p_t p_text).1.High))], .bool ((s_ReadStmt p_t p_text).2)] ∧ OwnL w' lo_1 hi_1 9 1 (RF e_Str) A_1 (((s_ReadStmt p_t p_text).1.Act.Old.Vals).length) c_1 ((s_ReadStmt p_t p_text).1.Act.Old.Vals) ∧ OwnL w' lo_2 hi_2 9 1 (RF e_Str) A_2 (((s_ReadStmt p_t p_text).1.Act.New.Vals).length) c_2 ((s_ReadStmt p_t p_text).1.Act.New.Vals) ∧ ok_Stmt ((s_ReadStmt p_t p_text).1) ∧ (w.heap.size ≤ lo_1 ∧ lo_1 ≤ hi_1 ∧ hi_1 ≤ w'.heap.size) ∧ (w.heap.size ≤ lo_2 ∧ lo_2 ≤ hi_2 ∧ hi_2 ≤ w'.heap.size) ∧ (hi_1 ≤ lo_2 ∨ hi_2 ≤ lo_1) ∧ Ex w w' := by
 have hol5 : p_t.Name.length ≤ 1073741824 := o3.1
 have hol6 := o3.2.1.1
 have hol7 := o3.2.2.1
 have hol8 : p_text.length ≤ 1073741824 := o4
 refine Cal.of (vs := [.agg #[.string (bs (p_t.Name)), .slice A1 p_t.Cols.length c1, .slice A2 p_t.Idxs.length c2], .string (bs (p_text))]) Tryd.func16 rfl Tryd.ntmps16 rfl (CW.seq (CW.region (sd rfl (yl_box (cs := [.string (bs (p_t.Name)), .slice A1 p_t.Cols.length c1, .slice A2 p_t.Idxs.length c2]) rfl rfl rfl ?_))))
 intro b9 w10 hs11 hz12 hB13 hE14
 refine sd rfl (yl_alloc Tryd.ty48 (cs := [.int .i64 (0), .int .i64 (0), .slice none 0 0, .slice none 0 0, .string (bs (([] : Str))), .string (bs (([] : Str))), .string (bs (([] : Str)))]) rfl rfl ?_)
 intro b15 w16 hs17 hz18 hB19 hE20
 refine sd rfl (yl_assign rfl rfl (SeqR.done (tn (CW.seq (CW.region ?_)))))
 have q21 := Box.ex hB13 hE20
 refine sd rfl (yl_loadN (cs := [.string (bs (p_t.Name)), .slice A1 p_t.Cols.length c1, .slice A2 p_t.Idxs.length c2]) Tryd.ty36 rfl rfl (q21.cells (n := 3) rfl) rfl (sd rfl (yl_move rfl rfl ?_)))
 have q23 := RdS.ex good_Str (RdS.ex good_Str h1 hE14) hE20
 have q25 := RdS.ex good_Idx (RdS.ex good_Idx h2 hE14) hE20
 refine sd rfl (yl_call Tryd.en34 rfl (opvs_cons rfl (opvs_cons rfl opvs_nil)) (Cal.mono (c_s_l30Told p_t p_text (RdS.up q23 good_Str) (RdS.up q25 good_Idx) o3 o4) ?_))
 rintro v30 w26 ⟨A27, c27, lo27, hi27, A28, c28, lo28, hi28, rfl, h27, h28, ho29, hrn32, hrn33, hrn34, hE31⟩
 have hE31z := Ex.size hE31
 refine sd rfl (yl_move rfl rfl (sd rfl (yl_extract rfl rfl rfl (sd rfl (yl_extract rfl rfl rfl (sd rfl (yl_alloc Tryd.ty48 (cs := [.int .i64 (0), .int .i64 (0), .slice none 0 0, .slice none 0 0, .string (bs (([] : Str))), .string (bs (([] : Str))), .string (bs (([] : Str)))]) rfl rfl ?_)))))))
 intro b35 w36 hs37 hz38 hB39 hE40
 refine SeqR.u rfl rfl (yl_store (vs := [.int .i64 ((s_l30Told p_t p_text).1.Kind), .int .i64 ((s_l30Told p_t p_text).1.Act.Kind), .slice A27 (((s_l30Told p_t p_text).1.Act.Old.Vals).length) c27, .slice A28 (((s_l30Told p_t p_text).1.Act.New.Vals).length) c28, .string (bs ((s_l30Told p_t p_text).1.Idx)), .string (bs ((s_l30Told p_t p_text).1.Low)), .string (bs ((s_l30Told p_t p_text).1.High))]) Tryd.ty48 rfl rfl rfl rfl rfl rfl hB39 (Nat.le_of_ble_eq_true rfl) ?_)
 intro w41 hB42 hO43
 have hB42 : Box w41 b35 48 [.int .i64 ((s_l30Told p_t p_text).1.Kind), .int .i64 ((s_l30Told p_t p_text).1.Act.Kind), .slice A27 (((s_l30Told p_t p_text).1.Act.Old.Vals).length) c27, .slice A28 (((s_l30Told p_t p_text).1.Act.New.Vals).length) c28, .string (bs ((s_l30Told p_t p_text).1.Idx)), .string (bs ((s_l30Told p_t p_text).1.Low)), .string (bs ((s_l30Told p_t p_text).1.High))] := hB42
 have hO43z := hO43.size
 refine sd rfl (yl_assign rfl rfl (SeqR.done (tn (CW.seq (CW.seq (CW.region (sd rfl (yl_loadN (cs := [.string (bs (p_t.Name)), .slice A1 p_t.Cols.length c1, .slice A2 p_t.Idxs.length c2]) Tryd.ty36 rfl rfl ((Box.only (Box.ex (Box.ex q21 hE31) hE40) hO43 (by omega)).cells (n := 3) rfl) rfl (sd rfl (yl_call Tryd.en24 rfl (opvs_cons rfl opvs_nil) (Cal.mono (c_s_GoodTable p_t (RdS.up (RdS.only good_Str (RdS.ex good_Str (RdS.ex good_Str q23 hE31) hE40) hO43 (by simp only [Iv]; omega)) good_Str) (RdS.up (RdS.only good_Idx (RdS.ex good_Idx (RdS.ex good_Idx q25 hE31) hE40) hO43 (by simp only [Iv]; omega)) good_Idx) o3) ?_)))))))))))
 rintro v54 w53 ⟨rfl, hE55⟩
 have hE55z := Ex.size hE55
 refine sd rfl (yl_not rfl rfl (sd rfl (yl_move rfl rfl (bcase (s_GoodTable p_t) (fun hb56 => ?_) (fun hb56 => ?_)))))
 ·have hb56p := f_s_GoodTable hb56
  refine sy rfl rfl (not_t hb56) (yl_move rfl rfl (sy rfl rfl (not_t hb56) (yl_not rfl rfl (sd rfl (yl_pick_f rfl rfl (not_t hb56) rfl (SeqR.done (tn (bcase ((s_l30Told p_t p_text).2) (fun hb57 => ?_) (fun hb57 => ?_)))))))))
  ·refine CW.cond_f rfl (not_t hb57) (CW.skip (tn (CW.seq (CW.region (sd rfl (yl_loadN (cs := [.int .i64 ((s_l30Told p_t p_text).1.Kind), .int .i64 ((s_l30Told p_t p_text).1.Act.Kind), .slice A27 (((s_l30Told p_t p_text).1.Act.Old.Vals).length) c27, .slice A28 (((s_l30Told p_t p_text).1.Act.New.Vals).length) c28, .string (bs ((s_l30Told p_t p_text).1.Idx)), .string (bs ((s_l30Told p_t p_text).1.Low)), .string (bs ((s_l30Told p_t p_text).1.High))]) Tryd.ty48 rfl rfl ((Box.ex hB42 hE55).cells (n := 7) rfl) rfl (SeqR.u rfl rfl (yl_store (vs := [.int .i64 ((s_l30Told p_t p_text).1.Kind), .int .i64 ((s_l30Told p_t p_text).1.Act.Kind), .slice A27 (((s_l30Told p_t p_text).1.Act.Old.Vals).length) c27, .slice A28 (((s_l30Told p_t p_text).1.Act.New.Vals).length) c28, .string (bs ((s_l30Told p_t p_text).1.Idx)), .string (bs ((s_l30Told p_t p_text).1.Low)), .string (bs ((s_l30Told p_t p_text).1.High))]) Tryd.ty48 rfl rfl rfl rfl rfl rfl (Box.ex (Box.only (Box.ex (Box.ex hB19 hE31) hE40) hO43 (by omega)) hE55) (Nat.le_of_ble_eq_true rfl) ?_))))))))
   intro w63 hB64 hO65
   have hB64 : Box w63 b15 48 [.int .i64 ((s_l30Told p_t p_text).1.Kind), .int .i64 ((s_l30Told p_t p_text).1.Act.Kind), .slice A27 (((s_l30Told p_t p_text).1.Act.Old.Vals).length) c27, .slice A28 (((s_l30Told p_t p_text).1.Act.New.Vals).length) c28, .string (bs ((s_l30Told p_t p_text).1.Idx)), .string (bs ((s_l30Told p_t p_text).1.Low)), .string (bs ((s_l30Told p_t p_text).1.High))] := hB64
   have hO65z := hO65.size
   refine sd rfl (yl_assign rfl rfl (SeqR.done (tn (CW.ret (rr rfl (.cons ⟨_, rfl, run_loadN Tryd.ty48 (cs := [.int .i64 ((s_l30Told p_t p_text).1.Kind), .int .i64 ((s_l30Told p_t p_text).1.Act.Kind), .slice A27 (((s_l30Told p_t p_text).1.Act.Old.Vals).length) c27, .slice A28 (((s_l30Told p_t p_text).1.Act.New.Vals).length) c28, .string (bs ((s_l30Told p_t p_text).1.Idx)), .string (bs ((s_l30Told p_t p_text).1.Low)), .string (bs ((s_l30Told p_t p_text).1.High))]) rfl (hB64.cells (n := 7) rfl)⟩ (.cons rfl .nil)) ?_)))))
   have hM66 : (s_ReadStmt p_t p_text) = (((s_l30Told p_t p_text).1, true)) := by simp only [s_ReadStmt, hb56, hb57, cond_true, cond_false, loopE_done, loopE_ret]
   rw [hM66]
   exact ⟨A27, c27, lo27, hi27, A28, c28, lo28, hi28, rfl, (OwnL.only good_Str (OwnL.ex good_Str (OwnL.only good_Str (OwnL.ex good_Str h27 hE40) hO43 (by omega)) hE55) hO65 (by omega)), (OwnL.only good_Str (OwnL.ex good_Str (OwnL.only good_Str (OwnL.ex good_Str h28 hE40) hO43 (by omega)) hE55) hO65 (by omega)), ho29, (by omega), (by omega), (by omega), (Below.only (Ex.trans (Below.only (Ex.trans (Ex.trans (Ex.trans (Ex.trans (Ex.refl w) hE14) hE20) hE31) hE40) hO43 (by omega)) hE55) hO65 (by omega))⟩
  ·refine CW.cond_t rfl (not_f hb57) (CW.seq (CW.region (sd rfl (yl_build (cs := [.int .i64 (0), .int .i64 (0), .slice none 0 0, .slice none 0 0, .string (bs (([] : Str))), .string (bs (([] : Str))), .string (bs (([] : Str)))]) rfl opvs_nil (by kernel_rfl) (SeqR.u rfl rfl (yl_store (vs := [.int .i64 (0), .int .i64 (0), .slice none 0 0, .slice none 0 0, .string (bs (([] : Str))), .string (bs (([] : Str))), .string (bs (([] : Str)))]) Tryd.ty48 rfl rfl rfl rfl rfl rfl (Box.ex (Box.only (Box.ex (Box.ex hB19 hE31) hE40) hO43 (by omega)) hE55) (Nat.le_of_ble_eq_true rfl) ?_))))))
   intro w86 hB87 hO88
   have hB87 : Box w86 b15 48 [.int .i64 (0), .int .i64 (0), .slice none 0 0, .slice none 0 0, .string (bs (([] : Str))), .string (bs (([] : Str))), .string (bs (([] : Str)))] := hB87
   have hO88z := hO88.size
   refine sd rfl (yl_assign rfl rfl (SeqR.done (tn (CW.ret (tr (rr rfl (.cons ⟨_, rfl, run_loadN Tryd.ty48 (cs := [.int .i64 (0), .int .i64 (0), .slice none 0 0, .slice none 0 0, .string (bs (([] : Str))), .string (bs (([] : Str))), .string (bs (([] : Str)))]) rfl (hB87.cells (n := 7) rfl)⟩ (.cons rfl .nil)) ?_))))))
   have hM89 : (s_ReadStmt p_t p_text) = (((⟨0, (⟨0, (⟨[]⟩ : DRow), (⟨[]⟩ : DRow)⟩ : DRowAct), ([] : Str), ([] : Str), ([] : Str)⟩ : DStmt), false)) := by simp only [s_ReadStmt, hb56, hb57, cond_true, cond_false, loopE_done, loopE_ret]
   rw [hM89]
   exact ⟨none, 0, w86.heap.size, w86.heap.size, none, 0, w86.heap.size, w86.heap.size, rfl, (OwnL.nil _ _ _ _ _ _), (OwnL.nil _ _ _ _ _ _), ⟨⟨(okL.nil _), (okL.nil _)⟩, (okS.lit rfl), (okS.lit rfl), (okS.lit rfl)⟩, (by omega), (by omega), (by omega), (Below.only (Ex.trans (Below.only (Ex.trans (Ex.trans (Ex.trans (Ex.trans (Ex.refl w) hE14) hE20) hE31) hE40) hO43 (by omega)) hE55) hO88 (by omega))⟩
 ·refine sz rfl rfl (not_f hb56) (sz rfl rfl (not_f hb56) (sd rfl (yl_pick_t rfl rfl (not_f hb56) rfl (SeqR.done (tn (CW.cond_t rfl rfl (CW.seq (CW.region (sd rfl (yl_build (cs := [.int .i64 (0), .int .i64 (0), .slice none 0 0, .slice none 0 0, .string (bs (([] : Str))), .string (bs (([] : Str))), .string (bs (([] : Str)))]) rfl opvs_nil (by kernel_rfl) ?_))))))))))
  refine SeqR.u rfl rfl (yl_store (vs := [.int .i64 (0), .int .i64 (0), .slice none 0 0, .slice none 0 0, .string (bs (([] : Str))), .string (bs (([] : Str))), .string (bs (([] : Str)))]) Tryd.ty48 rfl rfl rfl rfl rfl rfl (Box.ex (Box.only (Box.ex (Box.ex hB19 hE31) hE40) hO43 (by omega)) hE55) (Nat.le_of_ble_eq_true rfl) ?_)
  intro w101 hB102 hO103
  have hB102 : Box w101 b15 48 [.int .i64 (0), .int .i64 (0), .slice none 0 0, .slice none 0 0, .string (bs (([] : Str))), .string (bs (([] : Str))), .string (bs (([] : Str)))] := hB102
  have hO103z := hO103.size
  refine sd rfl (yl_assign rfl rfl (SeqR.done (tn (CW.ret (tr (rr rfl (.cons ⟨_, rfl, run_loadN Tryd.ty48 (cs := [.int .i64 (0), .int .i64 (0), .slice none 0 0, .slice none 0 0, .string (bs (([] : Str))), .string (bs (([] : Str))), .string (bs (([] : Str)))]) rfl (hB102.cells (n := 7) rfl)⟩ (.cons rfl .nil)) ?_))))))
  have hM104 : (s_ReadStmt p_t p_text) = (((⟨0, (⟨0, (⟨[]⟩ : DRow), (⟨[]⟩ : DRow)⟩ : DRowAct), ([] : Str), ([] : Str), ([] : Str)⟩ : DStmt), false)) := by simp only [s_ReadStmt, hb56, cond_true, cond_false, loopE_done, loopE_ret]
  rw [hM104]
  exact ⟨none, 0, w101.heap.size, w101.heap.size, none, 0, w101.heap.size, w101.heap.size, rfl, (OwnL.nil _ _ _ _ _ _), (OwnL.nil _ _ _ _ _ _), ⟨⟨(okL.nil _), (okL.nil _)⟩, (okS.lit rfl), (okS.lit rfl), (okS.lit rfl)⟩, (by omega), (by omega), (by omega), (Below.only (Ex.trans (Below.only (Ex.trans (Ex.trans (Ex.trans (Ex.trans (Ex.refl w) hE14) hE20) hE31) hE40) hO43 (by omega)) hE55) hO103 (by omega))⟩
set_option maxRecDepth 100000 in
set_option maxHeartbeats 2000000 in
theorem c_i_within {w : World} (p_n : Int) (p_low : Int) (p_high : Int) : Cal Tryd.prog 48 #[.int .i64 (p_n), .int .i64 (p_low), .int .i64 (p_high)] w fun v w' => v = .bool ((i_within p_n p_low p_high)) ∧ Ex w w' := by
 refine Cal.of (vs := [.int .i64 (p_n), .int .i64 (p_low), .int .i64 (p_high)]) Tryd.func48 rfl Tryd.ntmps48 rfl (CW.seq (CW.region (sd rfl (yl_assign rfl rfl (SeqR.done (tn (CW.seq (CW.region (sd rfl (yl_move rfl rfl ?_))))))))))
 refine sd rfl (yl_move rfl rfl (sd rfl (yl_geq rfl rfl rfl (sd rfl (yl_move rfl rfl (bcase (decide (p_low ≤ p_n)) (fun hb1 => ?_) (fun hb1 => ?_)))))))
 ·have hb1p := dec_t hb1
  refine sy rfl rfl hb1 (yl_move rfl rfl (sy rfl rfl hb1 (yl_move rfl rfl (sy rfl rfl hb1 (yl_leq rfl rfl rfl (sd rfl (yl_pick_t rfl rfl hb1 rfl (sd rfl (yl_assign rfl rfl (SeqR.done (tn (CW.ret (rr rfl (.cons rfl .nil) ?_)))))))))))))
  have hM2 : (i_within p_n p_low p_high) = (decide (p_n ≤ p_high)) := by simp only [i_within, hb1, cond_true, cond_false, loopE_done, loopE_ret]
  rw [hM2]
  exact ⟨rfl, (Ex.refl w)⟩
 ·have hb1p := dec_f hb1
  refine sz rfl rfl hb1 (sz rfl rfl hb1 (sz rfl rfl hb1 (sd rfl (yl_pick_f rfl rfl hb1 rfl (sd rfl (yl_assign rfl rfl (SeqR.done (tn (CW.ret (rr rfl (.cons rfl .nil) ?_))))))))))
  have hM3 : (i_within p_n p_low p_high) = (false) := by simp only [i_within, hb1, cond_true, cond_false, loopE_done, loopE_ret]
  rw [hM3]
  exact ⟨rfl, (Ex.refl w)⟩
set_option maxRecDepth 100000 in
set_option maxHeartbeats 2000000 in
theorem c_i_areLetters {w : World} (p_s : Str) (p_most : Int) (o1 : okS p_s) : Cal Tryd.prog 47 #[.string (bs (p_s)), .int .i64 (p_most)] w fun v w' => v = .bool ((i_areLetters p_s p_most)) ∧ Ex w w' := by
 have hol2 : p_s.length ≤ 1073741824 := o1
 refine Cal.of (vs := [.string (bs (p_s)), .int .i64 (p_most)]) Tryd.func47 rfl Tryd.ntmps47 rfl (CW.seq (CW.region (sd rfl (yl_assign rfl rfl (SeqR.done (tn (CW.seq (CW.seq (CW.region ?_)))))))))
 refine sd rfl (yl_move rfl rfl (sd rfl (yl_slen Tryd.un9 (a := p_s) rfl rfl (sd rfl (yl_move rfl rfl (SeqR.done (tn (CW.block (CW.loop (fun m4 L5 w6 => ∃ (k3 : Nat), m4 = p_s.length - k3 ∧ k3 ≤ p_s.length ∧ w.heap.size ≤ w6.heap.size ∧ lkp L5 0 = some (.string (bs (p_s))) ∧ lkp L5 1 = some (.int .i64 (p_most)) ∧ lkp L5 7 = some (.int .i64 ((p_s.length : Int))) ∧ lkp L5 8 = some (.int .i64 ((k3 : Int))) ∧ Ex w w6 ∧ loopM (B_i_areLetters_0 p_s p_most) (p_s.length - k3) k3 () = loopM (B_i_areLetters_0 p_s p_most) (p_s.length - 0) 0 ()) (p_s.length - 0) ?_ ?_)))))))))
 ·exact ⟨0, rfl, (by omega), Nat.le_refl _, rfl, rfl, rfl, rfl, (Ex.refl w), rfl⟩
 ·rintro m7 L8 w9 ⟨k3, rfl, hk10, hsz12, hl13, hl14, hl15, hl16, hf17, hI11⟩
  refine CW.sub (Sub.cons hl13 (Sub.cons hl14 (Sub.cons hl15 (Sub.cons hl16 (Sub.nil _))))) ?_
  have hf17z := Ex.size hf17
  have hbg18 : p_s.length ≤ 1073741824 := o1
  rcases Nat.lt_or_ge k3 p_s.length with hlt19 | hlt19
  ·refine CW.seq (CW.region (sd rfl (yl_lss rfl rfl rfl (SeqR.done (tn (CW.seq (CW.cond_t rfl (lt_t hlt19) (CW.skip (tn ?_)))))))))
   refine CW.seq (CW.block (CW.seq (CW.region (sd rfl (yl_move rfl rfl (sd rfl (yl_assign rfl rfl (SeqR.done (tn (CW.seq ?_))))))))))
   refine CW.region (sd rfl (yl_move rfl rfl (sd rfl (yl_move rfl rfl (sd rfl (yl_sindexN Tryd.un9 (a := p_s) rfl rfl rfl (by first | omega | assumption | (simp only [IntKind.wrap_i64] at *; omega)) (sd rfl (yl_lss rfl rfl rfl (sd rfl (yl_move rfl rfl (bcase (decide (((p_s.getD k3 0).toNat : Int) < 97)) (fun hb20 => ?_) (fun hb20 => ?_))))))))))))
   ·have hb20p := dec_t hb20
    refine sz rfl rfl hb20 (sz rfl rfl hb20 (sz rfl rfl hb20 (sz rfl rfl hb20 (sd rfl (yl_pick_t rfl rfl hb20 rfl (SeqR.done (tn (CW.cond_t rfl rfl (CW.seq ?_)))))))))
    refine CW.region (sd rfl (yl_assign rfl rfl (SeqR.done (tn (CW.ret (br (tr (tr ?_))))))))
    have hB22 : B_i_areLetters_0 p_s p_most k3 () = .ret false := by simp only [B_i_areLetters_0, hb20, cond_true, cond_false, loopE_done, loopE_ret]
    have hL21 : loopM (B_i_areLetters_0 p_s p_most) (p_s.length - 0) 0 () = .ret false := hI11.symm.trans (loopM.ret hlt19 hB22)
    refine br (tr (rr rfl (.cons rfl .nil) ?_))
    have hM23 : (i_areLetters p_s p_most) = (false) := by simp only [i_areLetters, hb20, hL21, cond_true, cond_false, loopE_done, loopE_ret]
    rw [hM23]
    exact ⟨rfl, hf17⟩
   ·have hb20p := dec_f hb20
    refine sy rfl rfl hb20 (yl_move rfl rfl (sy rfl rfl hb20 (yl_move rfl rfl (sy rfl rfl hb20 (yl_sindexN Tryd.un9 (a := p_s) rfl rfl rfl (by first | omega | assumption | (simp only [IntKind.wrap_i64] at *; omega)) (sy rfl rfl hb20 (yl_gtr rfl rfl rfl (sd rfl (yl_pick_f rfl rfl hb20 rfl (SeqR.done (tn (bcase (decide (122 < ((p_s.getD k3 0).toNat : Int))) (fun hb24 => ?_) (fun hb24 => ?_)))))))))))))
    ·have hb24p := dec_t hb24
     refine CW.cond_t rfl hb24 (CW.seq (CW.region (sd rfl (yl_assign rfl rfl (SeqR.done (tn (CW.ret (br (tr ?_)))))))))
     refine tr ?_
     have hB26 : B_i_areLetters_0 p_s p_most k3 () = .ret false := by simp only [B_i_areLetters_0, hb20, hb24, cond_true, cond_false, loopE_done, loopE_ret]
     have hL25 : loopM (B_i_areLetters_0 p_s p_most) (p_s.length - 0) 0 () = .ret false := hI11.symm.trans (loopM.ret hlt19 hB26)
     refine br (tr (rr rfl (.cons rfl .nil) ?_))
     have hM27 : (i_areLetters p_s p_most) = (false) := by simp only [i_areLetters, hb20, hb24, hL25, cond_true, cond_false, loopE_done, loopE_ret]
     rw [hM27]
     exact ⟨rfl, hf17⟩
    ·have hb24p := dec_f hb24
     refine CW.cond_f rfl hb24 (CW.skip (bn (tn (CW.region (sd rfl (yl_inc rfl rfl rfl (by omega) (sd rfl (yl_move rfl rfl (SeqR.done (tn ?_))))))))))
     have hB28 : B_i_areLetters_0 p_s p_most k3 () = .cont () := by simp only [B_i_areLetters_0, hb20, hb24, cond_true, cond_false, loopE_done, loopE_ret]
     exact ⟨p_s.length - (k3 + 1), by omega, k3 + 1, rfl, hlt19, (by omega), rfl, rfl, rfl, rfl, hf17, (loopM.cont hlt19 hB28).symm.trans hI11⟩
  ·refine CW.seq (CW.region (sd rfl (yl_lss rfl rfl rfl (SeqR.done (tn (CW.seq (CW.cond_f rfl (lt_f hlt19) (CW.exit (tx ?_)))))))))
   refine tx ?_
   have hL29 : loopM (B_i_areLetters_0 p_s p_most) (p_s.length - 0) 0 () = .done () := hI11.symm.trans (loopM.stop hlt19)
   refine bx (tn (CW.seq (CW.region (sd rfl (yl_move rfl rfl (sd rfl (yl_slen Tryd.un9 (a := p_s) rfl rfl (sd rfl (yl_move rfl rfl (sd rfl (yl_call Tryd.en48 rfl (opvs_cons rfl (opvs_cons rfl (opvs_cons rfl opvs_nil))) (Cal.mono (c_i_within (p_s.length : Int) 1 p_most) ?_))))))))))))
   rintro v31 w30 ⟨rfl, hE32⟩
   have hE32z := Ex.size hE32
   refine sd rfl (yl_assign rfl rfl (SeqR.done (tn (CW.ret (rr rfl (.cons rfl .nil) ?_)))))
   have hM33 : (i_areLetters p_s p_most) = ((i_within (p_s.length : Int) 1 p_most)) := by simp only [i_areLetters, hL29, cond_true, cond_false, loopE_done, loopE_ret]
   rw [hM33]
   exact ⟨rfl, (Ex.trans hf17 hE32)⟩
set_option maxRecDepth 100000 in
set_option maxHeartbeats 2000000 in
theorem c_g_slices_Index_string {A1 : Option Addr} {c1 : Nat} {w : World} (p_s : List Str) (p_v : Str) (h1 : RdS w (Iv 0 w.heap.size) (RF e_Str) 1 A1 p_s.length c1 p_s) (o2 : (okL okS) p_s) (o3 : okS p_v) : Cal Tryd.prog 66 #[.slice A1 p_s.length c1, .string (bs (p_v))] w fun v w' => v = .int .i64 ((g_slices_Index_string p_s p_v)) ∧ Ex w w' := by
 have hol4 := o2.1
 have hol5 : p_v.length ≤ 1073741824 := o3
 refine Cal.of (vs := [.slice A1 p_s.length c1, .string (bs (p_v))]) Tryd.func66 rfl Tryd.ntmps66 rfl (CW.seq (CW.region (sd rfl (yl_assign rfl rfl (SeqR.done (tn (CW.seq (CW.seq (CW.region ?_)))))))))
 refine sd rfl (yl_move rfl rfl (sd rfl (yl_len Tryd.un22 rfl rfl (sd rfl (yl_move rfl rfl (SeqR.done (tn (CW.block (CW.loop (fun m7 L8 w9 => ∃ (k6 : Nat), m7 = p_s.length - k6 ∧ k6 ≤ p_s.length ∧ w.heap.size ≤ w9.heap.size ∧ lkp L8 0 = some (.slice A1 p_s.length c1) ∧ lkp L8 1 = some (.string (bs (p_v))) ∧ lkp L8 7 = some (.int .i64 ((p_s.length : Int))) ∧ lkp L8 8 = some (.int .i64 ((k6 : Int))) ∧ RdS w9 (Iv 0 w.heap.size) (RF e_Str) 1 A1 p_s.length c1 p_s ∧ Ex w w9 ∧ loopM (B_g_slices_Index_string_0 p_s p_v) (p_s.length - k6) k6 () = loopM (B_g_slices_Index_string_0 p_s p_v) (p_s.length - 0) 0 ()) (p_s.length - 0) ?_ ?_)))))))))
 ·exact ⟨0, rfl, (by omega), Nat.le_refl _, rfl, rfl, rfl, rfl, h1, (Ex.refl w), rfl⟩
 ·rintro m10 L11 w12 ⟨k6, rfl, hk13, hsz15, hl16, hl17, hl18, hl19, hf20, hf21, hI14⟩
  refine CW.sub (Sub.cons hl16 (Sub.cons hl17 (Sub.cons hl18 (Sub.cons hl19 (Sub.nil _))))) ?_
  have hf21z := Ex.size hf21
  have hbg22 := RdS.big hf20
  rcases Nat.lt_or_ge k6 p_s.length with hlt23 | hlt23
  ·refine CW.seq (CW.region (sd rfl (yl_lss rfl rfl rfl (SeqR.done (tn (CW.seq (CW.cond_t rfl (lt_t hlt23) (CW.skip (tn ?_)))))))))
   refine CW.seq (CW.block (CW.seq (CW.region (sd rfl (yl_move rfl rfl (sd rfl (yl_assign rfl rfl (SeqR.done (tn (CW.seq ?_))))))))))
   refine CW.region (sd rfl (yl_move rfl rfl (sd rfl (yl_move rfl rfl (sd rfl (yl_move rfl rfl ?_))))))
   obtain ⟨eb24, eo24, ec24, eA24, eS24, ebl24, el24, eR24, eC24⟩ := RdS.atD hf20 d_Str (i := k6) (by first | omega | assumption)
   obtain rfl := eR24
   have eC24 : Cells w12 eb24 (eo24 + k6 * 1) [.string (bs ((p_s.getD k6 d_Str)))] := eC24
   refine sd rfl (yl_indexAddrN Tryd.un22 Tryd.ty9 rfl rfl rfl eA24 (by first | omega | assumption | (simp only [IntKind.wrap_i64] at *; omega)) (sd rfl (yl_load1 Tryd.ty9 rfl rfl (eC24 0 _ rfl) (sd rfl (yl_seql (a := p_v) (b := (p_s.getD k6 d_Str)) rfl rfl rfl (SeqR.done (tn (bcase (p_v == (p_s.getD k6 d_Str)) (fun hb25 => ?_) (fun hb25 => ?_)))))))))
   ·refine CW.cond_t rfl hb25 (CW.seq (CW.region (sd rfl (yl_move rfl rfl (sd rfl (yl_assign rfl rfl (SeqR.done (tn (CW.ret (br ?_))))))))))
    refine tr (tr ?_)
    have hB27 : B_g_slices_Index_string_0 p_s p_v k6 () = .ret (k6 : Int) := by simp only [B_g_slices_Index_string_0, hb25, cond_true, cond_false, loopE_done, loopE_ret]
    have hL26 : loopM (B_g_slices_Index_string_0 p_s p_v) (p_s.length - 0) 0 () = .ret (k6 : Int) := hI14.symm.trans (loopM.ret hlt23 hB27)
    refine br (tr (rr rfl (.cons rfl .nil) ?_))
    have hM28 : (g_slices_Index_string p_s p_v) = ((k6 : Int)) := by simp only [g_slices_Index_string, hb25, hL26, cond_true, cond_false, loopE_done, loopE_ret]
    rw [hM28]
    exact ⟨rfl, hf21⟩
   ·refine CW.cond_f rfl hb25 (CW.skip (bn (tn (CW.region (sd rfl (yl_inc rfl rfl rfl (by omega) (sd rfl (yl_move rfl rfl (SeqR.done (tn ?_))))))))))
    have hB29 : B_g_slices_Index_string_0 p_s p_v k6 () = .cont () := by simp only [B_g_slices_Index_string_0, hb25, cond_true, cond_false, loopE_done, loopE_ret]
    exact ⟨p_s.length - (k6 + 1), by omega, k6 + 1, rfl, hlt23, (by omega), rfl, rfl, rfl, rfl, hf20, hf21, (loopM.cont hlt23 hB29).symm.trans hI14⟩
  ·refine CW.seq (CW.region (sd rfl (yl_lss rfl rfl rfl (SeqR.done (tn (CW.seq (CW.cond_f rfl (lt_f hlt23) (CW.exit (tx ?_)))))))))
   refine tx ?_
   have hL30 : loopM (B_g_slices_Index_string_0 p_s p_v) (p_s.length - 0) 0 () = .done () := hI14.symm.trans (loopM.stop hlt23)
   refine bx (tn (CW.seq (CW.region (sd rfl (yl_assign rfl rfl (SeqR.done (tn (CW.ret (rr rfl (.cons rfl .nil) ?_)))))))))
   have hM31 : (g_slices_Index_string p_s p_v) = (-1) := by simp only [g_slices_Index_string, hL30, cond_true, cond_false, loopE_done, loopE_ret]
   rw [hM31]
   exact ⟨rfl, hf21⟩
set_option maxRecDepth 100000 in
set_option maxHeartbeats 2000000 in
theorem c_g_slices_Contains_string {A1 : Option Addr} {c1 : Nat} {w : World} (p_s : List Str) (p_v : Str) (h1 : RdS w (Iv 0 w.heap.size) (RF e_Str) 1 A1 p_s.length c1 p_s) (o2 : (okL okS) p_s) (o3 : okS p_v) : Cal Tryd.prog 49 #[.slice A1 p_s.length c1, .string (bs (p_v))] w fun v w' => v = .bool ((g_slices_Contains_string p_s p_v)) ∧ Ex w w' := by
 have hol4 := o2.1
 have hol5 : p_v.length ≤ 1073741824 := o3
 refine Cal.of (vs := [.slice A1 p_s.length c1, .string (bs (p_v))]) Tryd.func49 rfl Tryd.ntmps49 rfl (CW.seq (CW.region (sd rfl (yl_assign rfl rfl (SeqR.done (tn (CW.seq (CW.region (sd rfl (yl_move rfl rfl ?_))))))))))
 refine sd rfl (yl_move rfl rfl (sd rfl (yl_call Tryd.en66 rfl (opvs_cons rfl (opvs_cons rfl opvs_nil)) (Cal.mono (c_g_slices_Index_string p_s p_v (RdS.up h1 good_Str) o2 o3) ?_))))
 rintro v7 w6 ⟨rfl, hE8⟩
 have hE8z := Ex.size hE8
 refine sd rfl (yl_geq rfl rfl rfl (sd rfl (yl_assign rfl rfl (SeqR.done (tn (CW.ret (rr rfl (.cons rfl .nil) ?_)))))))
 have hM9 : (g_slices_Contains_string p_s p_v) = (decide (0 ≤ (g_slices_Index_string p_s p_v))) := by simp only [g_slices_Contains_string, cond_true, cond_false, loopE_done, loopE_ret]
 rw [hM9]
 exact ⟨rfl, (Ex.trans (Ex.refl w) hE8)⟩
set_option maxRecDepth 100000 in
set_option maxHeartbeats 2000000 in
theorem c_i_isStage {w : World} (p_stage : Int) : Cal Tryd.prog 50 #[.int .i64 (p_stage)] w fun v w' => v = .bool ((i_isStage p_stage)) ∧ Ex w w' := by
 refine Cal.of (vs := [.int .i64 (p_stage)]) Tryd.func50 rfl Tryd.ntmps50 rfl (CW.seq (CW.region (sd rfl (yl_assign rfl rfl (SeqR.done (tn (CW.seq (CW.region (sd rfl (yl_move rfl rfl ?_))))))))))
 refine sd rfl (yl_call Tryd.en48 rfl (opvs_cons rfl (opvs_cons rfl (opvs_cons rfl opvs_nil))) (Cal.mono (c_i_within p_stage 0 3) ?_))
 rintro v2 w1 ⟨rfl, hE3⟩
 have hE3z := Ex.size hE3
 refine sd rfl (yl_assign rfl rfl (SeqR.done (tn (CW.ret (rr rfl (.cons rfl .nil) ?_)))))
 have hM4 : (i_isStage p_stage) = ((i_within p_stage 0 3)) := by simp only [i_isStage, cond_true, cond_false, loopE_done, loopE_ret]
 rw [hM4]
 exact ⟨rfl, (Ex.trans (Ex.refl w) hE3)⟩
end Go.Proofs.YtdbobbmagmcpnaaDoor
