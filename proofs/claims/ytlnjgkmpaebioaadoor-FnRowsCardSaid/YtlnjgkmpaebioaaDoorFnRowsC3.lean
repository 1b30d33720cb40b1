/- Fn Rows: what each call returns, part 3. -/
import Derived.Test.YtlnjgkmpaebioaaDoorFnRowsC2
set_option maxRecDepth 100000
set_option maxHeartbeats 2000000
open Go.Proofs.Tryd Go.Proofs.YtlnjgkmpaebioaaDoor.Tryd
set_option linter.unusedVariables false
set_option linter.unusedSimpArgs false
namespace Go.Proofs.YtlnjgkmpaebioaaDoor
open Go.RowKit Go.X
theorem c_s_l3Bytes {w : World} (p_s : Str) (p_more : Str) (o1 : okS p_s) (o2 : okS p_more) : Cal Tryd.prog 66 #[.string (bs (p_s)), .string (bs (p_more))] w fun v w' => v = .bool ((s_l3Bytes p_s p_more)) ∧ Ex w w' := by
 have hol3 : p_s.length ≤ 1073741824 := o1
 have hol4 : p_more.length ≤ 1073741824 := o2
 refine Cal.of func66 rfl ntmps66 rfl (CW.seq (CW.region (sd rfl (yl_assign rfl rfl (dn (CW.seq (CW.seq (CW.region ?_))))))))
 refine sd rfl (yl_assign rfl rfl (dn (CW.block (CW.loop (fun m6 L7 w8 => ∃ (k5 : Nat), m6 = p_s.length - k5 ∧ k5 ≤ p_s.length ∧ w.heap.size ≤ w8.heap.size ∧ lkp L7 0 = some (.string (bs (p_s))) ∧ lkp L7 1 = some (.string (bs (p_more))) ∧ lkp L7 5 = some (.int .i64 ((k5 : Int))) ∧ Ex w w8 ∧ loopM (B_s_l3Bytes_0 p_s p_more) (p_s.length - k5) k5 () = loopM (B_s_l3Bytes_0 p_s p_more) (p_s.length - 0) 0 ()) (p_s.length - 0) ?_ ?_))))
 ·exact ⟨0, rfl, (by omega), Nat.le_refl _, rfl, rfl, rfl, (Ex.refl w), rfl⟩
 ·rintro m9 L10 w11 ⟨k5, rfl, hk12, hsz14, hl15, hl16, hl17, hf18, hI13⟩
  refine CW.sub (Sub.cons hl15 (Sub.cons hl16 (Sub.cons hl17 (Sub.nil _)))) ?_
  have hf18z := Ex.size hf18
  have hbg19 : p_s.length ≤ 1073741824 := o1
  rcases Nat.lt_or_ge k5 p_s.length with hlt20 | hlt20
  ·refine CW.seq (CW.seq (CW.region (sd rfl (yl_move rfl rfl (sd rfl (yl_move rfl rfl (sd rfl (yl_slen un9 (a := p_s) rfl rfl (sd rfl (yl_lss rfl rfl rfl (dn ?_)))))))))))
   refine CW.cond_t rfl (lt_t hlt20) (CW.skip (tn (CW.seq (CW.block (CW.seq (CW.region (sd rfl (yl_move rfl rfl (sd rfl (yl_move rfl rfl ?_))))))))))
   refine sd rfl (yl_sindexN un9 (a := p_s) rfl rfl rfl (by first | omega | assumption | (simp only [wI] at *; omega)) (sd rfl (yl_geq rfl rfl rfl (sd rfl (yl_move rfl rfl (bcase (decide (97 ≤ ((p_s.getD k5 0).toNat : Int))) (fun hb21 => ?_) (fun hb21 => ?_)))))))
   ·have hb21p := dec_t hb21
    refine sy rfl rfl hb21 (yl_move rfl rfl (sy rfl rfl hb21 (yl_move rfl rfl (sy rfl rfl hb21 (yl_sindexN un9 (a := p_s) rfl rfl rfl (by first | omega | assumption | (simp only [wI] at *; omega)) (sy rfl rfl hb21 (yl_leq rfl rfl rfl (sd rfl (yl_pick_t rfl rfl hb21 rfl (sd rfl (yl_move rfl rfl (bcase (decide (((p_s.getD k5 0).toNat : Int) ≤ 122)) (fun hb22 => ?_) (fun hb22 => ?_)))))))))))))
    ·have hb22p := dec_t hb22
     refine sz rfl rfl hb22 (sz rfl rfl hb22 (sz rfl rfl hb22 (sz rfl rfl hb22 (sz rfl rfl hb22 (sq rfl rfl (sq rfl rfl (sq rfl rfl (sq rfl rfl ?_))))))))
     refine sz rfl rfl hb22 (sd rfl (yl_pick_t rfl rfl hb22 rfl (sd rfl (yl_assign rfl rfl (dn (CW.seq (CW.seq (CW.region (sd rfl (yl_assign rfl rfl ?_))))))))))
     refine dn (CW.block (CW.loop (fun m25 L26 w27 => ∃ (k23 : Nat) (x24 : Bool), m25 = p_more.length - k23 ∧ k23 ≤ p_more.length ∧ w11.heap.size ≤ w27.heap.size ∧ lkp L26 0 = some (.string (bs (p_s))) ∧ lkp L26 1 = some (.string (bs (p_more))) ∧ lkp L26 5 = some (.int .i64 ((k5 : Int))) ∧ lkp L26 6 = some (.bool (x24)) ∧ lkp L26 7 = some (.int .i64 ((k23 : Int))) ∧ lkp L26 19 = some (.string (bs (p_s))) ∧ lkp L26 20 = some (.int .i64 ((k5 : Int))) ∧ lkp L26 21 = some (.int .u8 (((p_s.getD k5 0).toNat : Int))) ∧ lkp L26 22 = some (.bool (decide (((p_s.getD k5 0).toNat : Int) ≤ 122))) ∧ lkp L26 25 = some (undef) ∧ lkp L26 26 = some (undef) ∧ lkp L26 27 = some (undef) ∧ lkp L26 28 = some (undef) ∧ lkp L26 29 = some (undef) ∧ lkp L26 30 = some (undef) ∧ lkp L26 31 = some (undef) ∧ lkp L26 32 = some (undef) ∧ lkp L26 33 = some (undef) ∧ lkp L26 34 = some (undef) ∧ Ex w w27 ∧ loopM (B_s_l3Bytes_1 p_s p_more k5) (p_more.length - k23) k23 (x24) = loopM (B_s_l3Bytes_1 p_s p_more k5) (p_more.length - 0) 0 (true)) (p_more.length - 0) ?_ ?_))
     ·exact ⟨0, true, rfl, (by omega), Nat.le_refl _, rfl, rfl, rfl, rfl, rfl, rfl, rfl, rfl, rfl, rfl, rfl, rfl, rfl, rfl, rfl, rfl, rfl, rfl, rfl, hf18, rfl⟩
     ·rintro m28 L29 w30 ⟨k23, x24, rfl, hk31, hsz33, hl34, hl35, hl36, hl37, hl38, hl39, hl40, hl41, hl42, hl43, hl44, hl45, hl46, hl47, hl48, hl49, hl50, hl51, hl52, hf53, hI32⟩
      refine CW.sub (Sub.cons hl34 (Sub.cons hl35 (Sub.cons hl36 (Sub.cons hl37 (Sub.cons hl38 (Sub.cons hl39 (Sub.cons hl40 (Sub.cons hl41 (Sub.cons hl42 (Sub.cons hl43 (Sub.cons hl44 (Sub.cons hl45 (Sub.cons hl46 (Sub.cons hl47 (Sub.cons hl48 (Sub.cons hl49 (Sub.cons hl50 (Sub.cons hl51 (Sub.cons hl52 (Sub.nil _)))))))))))))))))))) ?_
      have hf53z := Ex.size hf53
      have hbg54 : p_more.length ≤ 1073741824 := o2
      rcases Nat.lt_or_ge k23 p_more.length with hlt55 | hlt55
      ·refine CW.seq (CW.seq (CW.region (sd rfl (yl_move rfl rfl (sd rfl (yl_move rfl rfl (sd rfl (yl_slen un9 (a := p_more) rfl rfl (sd rfl (yl_lss rfl rfl rfl (dn ?_)))))))))))
       refine CW.cond_t rfl (lt_t hlt55) (CW.skip (tn (CW.seq (CW.block (bcase (x24) (fun hb56 => ?_) (fun hb56 => ?_))))))
       ·refine CW.drawsI 11 (vgetI ([.bool (x24), .bool (x24), undef, undef, undef, undef, undef, undef, undef, .bool (true), .bool (true)].map DetI)) Tryd.follows rfl rfl rfl rfl rfl rfl (vgetI_stable (stD _)) ⟨?_, ?_, ?_, ?_, ?_, ?_, ?_, ?_, ?_, ?_, ?_, trivial⟩ ?_
        ·exact oI rfl fun h => yl_move rfl (h.old 6 _ rfl rfl) kI
        ·exact oI rfl fun h => yl_move rfl (h.dt 0 42 rfl rfl rfl) kI
        ·exact oS rfl rfl rfl rfl rfl hb56
        ·exact oS rfl rfl rfl rfl rfl hb56
        ·exact oS rfl rfl rfl rfl rfl hb56
        ·exact oS rfl rfl rfl rfl rfl hb56
        ·exact oS rfl rfl rfl rfl rfl hb56
        ·exact oS rfl rfl rfl rfl rfl hb56
        ·exact oS rfl rfl rfl rfl rfl hb56
        ·exact oI rfl fun h => yl_pick_t rfl (h.dt 1 43 rfl rfl rfl) hb56 rfl kI
        ·exact oI rfl fun h => yl_assign rfl (h.dt 9 51 rfl rfl rfl) kI
        ·intro fl116 fh117 L113 w114 hp115
         have hE118 := hp115.ex
         have hE118z := Ex.size hE118
         refine SeqR.done (bn (tn (CW.sub (Sub.cons (d := 0) (hp115.old 0 _ rfl rfl) (Sub.cons (d := 1) (hp115.old 1 _ rfl rfl) (Sub.cons (d := 5) (hp115.old 5 _ rfl rfl) (Sub.cons (d := 6) (hp115.nt 10 6 rfl rfl rfl) (Sub.cons (d := 7) (hp115.old 7 _ rfl rfl) (Sub.cons (d := 19) (hp115.old 19 _ rfl rfl) (Sub.cons (d := 20) (hp115.old 20 _ rfl rfl) (Sub.cons (d := 21) (hp115.old 21 _ rfl rfl) (Sub.cons (d := 22) (hp115.old 22 _ rfl rfl) (Sub.cons (d := 25) (hp115.old 25 _ rfl rfl) (Sub.cons (d := 26) (hp115.old 26 _ rfl rfl) (Sub.cons (d := 27) (hp115.old 27 _ rfl rfl) (Sub.cons (d := 28) (hp115.old 28 _ rfl rfl) (Sub.cons (d := 29) (hp115.old 29 _ rfl rfl) (Sub.cons (d := 30) (hp115.old 30 _ rfl rfl) (Sub.cons (d := 31) (hp115.old 31 _ rfl rfl) (Sub.cons (d := 32) (hp115.old 32 _ rfl rfl) (Sub.cons (d := 33) (hp115.old 33 _ rfl rfl) (Sub.cons (d := 34) (hp115.old 34 _ rfl rfl) (Sub.cons (d := 44) (hp115.nt 2 44 rfl rfl rfl) (Sub.cons (d := 45) (hp115.nt 3 45 rfl rfl rfl) (Sub.cons (d := 46) (hp115.nt 4 46 rfl rfl rfl) (Sub.cons (d := 47) (hp115.nt 5 47 rfl rfl rfl) (Sub.cons (d := 48) (hp115.nt 6 48 rfl rfl rfl) (Sub.cons (d := 49) (hp115.nt 7 49 rfl rfl rfl) (Sub.cons (d := 50) (hp115.nt 8 50 rfl rfl rfl) (Sub.nil _))))))))))))))))))))))))))) (CW.region (sd rfl (yl_move rfl rfl (sd rfl (yl_inc rfl rfl rfl (by omega) (sd rfl (yl_assign rfl rfl (SeqR.done ?_)))))))))))
         refine tn ?_
         have hB145 : B_s_l3Bytes_1 p_s p_more k5 k23 (x24) = .cont (true) := by simp only [B_s_l3Bytes_1, hb21, hb22, hb56, cL]
         exact ⟨p_more.length - (k23 + 1), by omega, k23 + 1, true, rfl, hlt55, (by omega), rfl, rfl, rfl, rfl, rfl, rfl, rfl, rfl, rfl, rfl, rfl, rfl, rfl, rfl, rfl, rfl, rfl, rfl, rfl, (Ex.trans hf53 hE118), (loopM.cont hlt55 hB145).symm.trans hI32⟩
       ·refine CW.drawsI 11 (vgetI ([.bool (x24), .bool (x24), .string (bs (p_s)), .int .i64 ((k5 : Int)), .int .u8 (((p_s.getD k5 0).toNat : Int)), .string (bs (p_more)), .int .i64 ((k23 : Int)), .int .u8 (((p_more.getD k23 0).toNat : Int)), .bool (decide (((p_s.getD k5 0).toNat : Int) = ((p_more.getD k23 0).toNat : Int))), .bool (decide (((p_s.getD k5 0).toNat : Int) = ((p_more.getD k23 0).toNat : Int))), .bool (decide (((p_s.getD k5 0).toNat : Int) = ((p_more.getD k23 0).toNat : Int)))].map DetI)) Tryd.follows rfl rfl rfl rfl rfl rfl (vgetI_stable (stD _)) ⟨?_, ?_, ?_, ?_, ?_, ?_, ?_, ?_, ?_, ?_, ?_, trivial⟩ ?_
        ·exact oI rfl fun h => yl_move rfl (h.old 6 _ rfl rfl) kI
        ·exact oI rfl fun h => yl_move rfl (h.dt 0 42 rfl rfl rfl) kI
        ·exact oW rfl rfl rfl rfl hb56 fun h => yl_move rfl (h.old 0 _ rfl rfl) kI
        ·exact oW rfl rfl rfl rfl hb56 fun h => yl_move rfl (h.old 5 _ rfl rfl) kI
        ·intro L169 w170 hi171
         have hE172 := hi171.ex
         have hE172z := Ex.size hE172
         exact OpR.want rfl rfl (hi171.dt 1 43 rfl rfl rfl) hb56 (Yl.sameI (yl_sindexN un9 (a := p_s) rfl (hi171.dt 2 44 rfl rfl rfl) (hi171.dt 3 45 rfl rfl rfl) (by first | omega | assumption | (simp only [wI] at *; omega)) kI))
        ·exact oW rfl rfl rfl rfl hb56 fun h => yl_move rfl (h.old 1 _ rfl rfl) kI
        ·exact oW rfl rfl rfl rfl hb56 fun h => yl_move rfl (h.old 7 _ rfl rfl) kI
        ·intro L188 w189 hi190
         have hE191 := hi190.ex
         have hE191z := Ex.size hE191
         exact OpR.want rfl rfl (hi190.dt 1 43 rfl rfl rfl) hb56 (Yl.sameI (yl_sindexN un9 (a := p_more) rfl (hi190.dt 5 47 rfl rfl rfl) (hi190.dt 6 48 rfl rfl rfl) (by first | omega | assumption | (simp only [wI] at *; omega)) kI))
        ·exact oW rfl rfl rfl rfl hb56 fun h => yl_eql rfl (h.dt 4 46 rfl rfl rfl) (h.dt 7 49 rfl rfl rfl) kI
        ·exact oI rfl fun h => yl_pick_f rfl (h.dt 1 43 rfl rfl rfl) hb56 (h.dt 8 50 rfl rfl rfl) kI
        ·exact oI rfl fun h => yl_assign rfl (h.dt 9 51 rfl rfl rfl) kI
        ·intro fl216 fh217 L213 w214 hp215
         have hE218 := hp215.ex
         have hE218z := Ex.size hE218
         refine SeqR.done (bn (tn (CW.sub (Sub.cons (d := 0) (hp215.old 0 _ rfl rfl) (Sub.cons (d := 1) (hp215.old 1 _ rfl rfl) (Sub.cons (d := 5) (hp215.old 5 _ rfl rfl) (Sub.cons (d := 6) (hp215.nt 10 6 rfl rfl rfl) (Sub.cons (d := 7) (hp215.old 7 _ rfl rfl) (Sub.cons (d := 19) (hp215.old 19 _ rfl rfl) (Sub.cons (d := 20) (hp215.old 20 _ rfl rfl) (Sub.cons (d := 21) (hp215.old 21 _ rfl rfl) (Sub.cons (d := 22) (hp215.old 22 _ rfl rfl) (Sub.cons (d := 25) (hp215.old 25 _ rfl rfl) (Sub.cons (d := 26) (hp215.old 26 _ rfl rfl) (Sub.cons (d := 27) (hp215.old 27 _ rfl rfl) (Sub.cons (d := 28) (hp215.old 28 _ rfl rfl) (Sub.cons (d := 29) (hp215.old 29 _ rfl rfl) (Sub.cons (d := 30) (hp215.old 30 _ rfl rfl) (Sub.cons (d := 31) (hp215.old 31 _ rfl rfl) (Sub.cons (d := 32) (hp215.old 32 _ rfl rfl) (Sub.cons (d := 33) (hp215.old 33 _ rfl rfl) (Sub.cons (d := 34) (hp215.old 34 _ rfl rfl) (Sub.cons (d := 44) (hp215.nt 2 44 rfl rfl rfl) (Sub.cons (d := 45) (hp215.nt 3 45 rfl rfl rfl) (Sub.cons (d := 46) (hp215.nt 4 46 rfl rfl rfl) (Sub.cons (d := 47) (hp215.nt 5 47 rfl rfl rfl) (Sub.cons (d := 48) (hp215.nt 6 48 rfl rfl rfl) (Sub.cons (d := 49) (hp215.nt 7 49 rfl rfl rfl) (Sub.cons (d := 50) (hp215.nt 8 50 rfl rfl rfl) (Sub.nil _))))))))))))))))))))))))))) (CW.region (sd rfl (yl_move rfl rfl (sd rfl (yl_inc rfl rfl rfl (by omega) (sd rfl (yl_assign rfl rfl (SeqR.done ?_)))))))))))
         refine tn ?_
         have hB245 : B_s_l3Bytes_1 p_s p_more k5 k23 (x24) = .cont (decide (((p_s.getD k5 0).toNat : Int) = ((p_more.getD k23 0).toNat : Int))) := by simp only [B_s_l3Bytes_1, hb21, hb22, hb56, cL]
         exact ⟨p_more.length - (k23 + 1), by omega, k23 + 1, decide (((p_s.getD k5 0).toNat : Int) = ((p_more.getD k23 0).toNat : Int)), rfl, hlt55, (by omega), rfl, rfl, rfl, rfl, rfl, rfl, rfl, rfl, rfl, rfl, rfl, rfl, rfl, rfl, rfl, rfl, rfl, rfl, rfl, (Ex.trans hf53 hE218), (loopM.cont hlt55 hB245).symm.trans hI32⟩
      ·refine CW.seq (CW.seq (CW.region (sd rfl (yl_move rfl rfl (sd rfl (yl_move rfl rfl (sd rfl (yl_slen un9 (a := p_more) rfl rfl (sd rfl (yl_lss rfl rfl rfl (dn ?_)))))))))))
       refine CW.cond_f rfl (lt_f hlt55) (CW.exit (tx (tx ?_)))
       have hL247 : loopM (B_s_l3Bytes_1 p_s p_more k5) (p_more.length - 0) 0 (true) = .done (x24) := hI32.symm.trans (loopM.stop hlt55)
       refine bx (tn (CW.seq (CW.region (sd rfl (yl_move rfl rfl (sd rfl (yl_not rfl rfl (dn (bcase (x24) (fun hb248 => ?_) (fun hb248 => ?_))))))))))
       ·refine CW.cond_f rfl (not_t hb248) (CW.skip (bn (tn (CW.region (sd rfl (yl_move rfl rfl (sd rfl (yl_inc rfl rfl rfl (by omega) (sd rfl (yl_assign rfl rfl (SeqR.done ?_)))))))))))
        refine tn ?_
        have hB249 : B_s_l3Bytes_0 p_s p_more k5 () = .cont () := by simp only [B_s_l3Bytes_0, hb21, hb22, hb248, hL247, cL]
        exact ⟨p_s.length - (k5 + 1), by omega, k5 + 1, rfl, hlt20, (by omega), rfl, rfl, rfl, hf53, (loopM.cont hlt20 hB249).symm.trans hI13⟩
       ·refine CW.cond_t rfl (not_f hb248) (CW.seq (CW.region (sd rfl (yl_assign rfl rfl (dn (CW.ret (br (tr ?_))))))))
        refine tr ?_
        have hB251 : B_s_l3Bytes_0 p_s p_more k5 () = .ret false := by simp only [B_s_l3Bytes_0, hb21, hb22, hb248, hL247, cL]
        have hL250 : loopM (B_s_l3Bytes_0 p_s p_more) (p_s.length - 0) 0 () = .ret false := hI13.symm.trans (loopM.ret hlt20 hB251)
        refine br (tr (rr rfl (.cons rfl .nil) ?_))
        have hM252 : (s_l3Bytes p_s p_more) = (false) := by simp only [s_l3Bytes, hb21, hb22, hb248, hL247, hL250, cL]
        rw [hM252]
        exact ⟨rfl, hf53⟩
    ·have hb22p := dec_f hb22
     refine sy rfl rfl hb22 (yl_move rfl rfl (sy rfl rfl hb22 (yl_move rfl rfl (sy rfl rfl hb22 (yl_sindexN un9 (a := p_s) rfl rfl rfl (by first | omega | assumption | (simp only [wI] at *; omega)) (sy rfl rfl hb22 (yl_geq rfl rfl rfl (sy rfl rfl hb22 (yl_move rfl rfl (bcase (decide (48 ≤ ((p_s.getD k5 0).toNat : Int))) (fun hb253 => ?_) (fun hb253 => ?_)))))))))))
     ·have hb253p := dec_t hb253
      refine sy rfl rfl hb253 (yl_move rfl rfl (sy rfl rfl hb253 (yl_move rfl rfl (sy rfl rfl hb253 (yl_sindexN un9 (a := p_s) rfl rfl rfl (by first | omega | assumption | (simp only [wI] at *; omega)) (sy rfl rfl hb253 (yl_leq rfl rfl rfl (sy rfl rfl hb22 (yl_pick_t rfl rfl hb253 rfl (sd rfl (yl_pick_f rfl rfl hb22 rfl (sd rfl (yl_assign rfl rfl (dn ?_))))))))))))))
      refine CW.seq (CW.seq (CW.region (sd rfl (yl_assign rfl rfl (dn (CW.block (CW.loop (fun m256 L257 w258 => ∃ (k254 : Nat) (x255 : Bool), m256 = p_more.length - k254 ∧ k254 ≤ p_more.length ∧ w11.heap.size ≤ w258.heap.size ∧ lkp L257 0 = some (.string (bs (p_s))) ∧ lkp L257 1 = some (.string (bs (p_more))) ∧ lkp L257 5 = some (.int .i64 ((k5 : Int))) ∧ lkp L257 6 = some (.bool (x255)) ∧ lkp L257 7 = some (.int .i64 ((k254 : Int))) ∧ lkp L257 19 = some (.string (bs (p_s))) ∧ lkp L257 20 = some (.int .i64 ((k5 : Int))) ∧ lkp L257 21 = some (.int .u8 (((p_s.getD k5 0).toNat : Int))) ∧ lkp L257 22 = some (.bool (decide (((p_s.getD k5 0).toNat : Int) ≤ 122))) ∧ lkp L257 25 = some (.string (bs (p_s))) ∧ lkp L257 26 = some (.int .i64 ((k5 : Int))) ∧ lkp L257 27 = some (.int .u8 (((p_s.getD k5 0).toNat : Int))) ∧ lkp L257 28 = some (.bool (decide (48 ≤ ((p_s.getD k5 0).toNat : Int)))) ∧ lkp L257 29 = some (.bool (decide (48 ≤ ((p_s.getD k5 0).toNat : Int)))) ∧ lkp L257 30 = some (.string (bs (p_s))) ∧ lkp L257 31 = some (.int .i64 ((k5 : Int))) ∧ lkp L257 32 = some (.int .u8 (((p_s.getD k5 0).toNat : Int))) ∧ lkp L257 33 = some (.bool (decide (((p_s.getD k5 0).toNat : Int) ≤ 57))) ∧ lkp L257 34 = some (.bool (decide (((p_s.getD k5 0).toNat : Int) ≤ 57))) ∧ Ex w w258 ∧ loopM (B_s_l3Bytes_1 p_s p_more k5) (p_more.length - k254) k254 (x255) = loopM (B_s_l3Bytes_1 p_s p_more k5) (p_more.length - 0) 0 (decide (((p_s.getD k5 0).toNat : Int) ≤ 57))) (p_more.length - 0) ?_ ?_)))))))
      ·exact ⟨0, decide (((p_s.getD k5 0).toNat : Int) ≤ 57), rfl, (by omega), Nat.le_refl _, rfl, rfl, rfl, rfl, rfl, rfl, rfl, rfl, rfl, rfl, rfl, rfl, rfl, rfl, rfl, rfl, rfl, rfl, rfl, hf18, rfl⟩
      ·rintro m259 L260 w261 ⟨k254, x255, rfl, hk262, hsz264, hl265, hl266, hl267, hl268, hl269, hl270, hl271, hl272, hl273, hl274, hl275, hl276, hl277, hl278, hl279, hl280, hl281, hl282, hl283, hf284, hI263⟩
       refine CW.sub (Sub.cons hl265 (Sub.cons hl266 (Sub.cons hl267 (Sub.cons hl268 (Sub.cons hl269 (Sub.cons hl270 (Sub.cons hl271 (Sub.cons hl272 (Sub.cons hl273 (Sub.cons hl274 (Sub.cons hl275 (Sub.cons hl276 (Sub.cons hl277 (Sub.cons hl278 (Sub.cons hl279 (Sub.cons hl280 (Sub.cons hl281 (Sub.cons hl282 (Sub.cons hl283 (Sub.nil _)))))))))))))))))))) ?_
       have hf284z := Ex.size hf284
       have hbg285 : p_more.length ≤ 1073741824 := o2
       rcases Nat.lt_or_ge k254 p_more.length with hlt286 | hlt286
       ·refine CW.seq (CW.seq (CW.region (sd rfl (yl_move rfl rfl (sd rfl (yl_move rfl rfl (sd rfl (yl_slen un9 (a := p_more) rfl rfl (sd rfl (yl_lss rfl rfl rfl (dn ?_)))))))))))
        refine CW.cond_t rfl (lt_t hlt286) (CW.skip (tn (CW.seq (CW.block (bcase (x255) (fun hb287 => ?_) (fun hb287 => ?_))))))
        ·refine CW.drawsI 11 (vgetI ([.bool (x255), .bool (x255), undef, undef, undef, undef, undef, undef, undef, .bool (true), .bool (true)].map DetI)) Tryd.follows rfl rfl rfl rfl rfl rfl (vgetI_stable (stD _)) ⟨?_, ?_, ?_, ?_, ?_, ?_, ?_, ?_, ?_, ?_, ?_, trivial⟩ ?_
         ·exact oI rfl fun h => yl_move rfl (h.old 6 _ rfl rfl) kI
         ·exact oI rfl fun h => yl_move rfl (h.dt 0 42 rfl rfl rfl) kI
         ·exact oS rfl rfl rfl rfl rfl hb287
         ·exact oS rfl rfl rfl rfl rfl hb287
         ·exact oS rfl rfl rfl rfl rfl hb287
         ·exact oS rfl rfl rfl rfl rfl hb287
         ·exact oS rfl rfl rfl rfl rfl hb287
         ·exact oS rfl rfl rfl rfl rfl hb287
         ·exact oS rfl rfl rfl rfl rfl hb287
         ·exact oI rfl fun h => yl_pick_t rfl (h.dt 1 43 rfl rfl rfl) hb287 rfl kI
         ·exact oI rfl fun h => yl_assign rfl (h.dt 9 51 rfl rfl rfl) kI
         ·intro fl347 fh348 L344 w345 hp346
          have hE349 := hp346.ex
          have hE349z := Ex.size hE349
          refine SeqR.done (bn (tn (CW.sub (Sub.cons (d := 0) (hp346.old 0 _ rfl rfl) (Sub.cons (d := 1) (hp346.old 1 _ rfl rfl) (Sub.cons (d := 5) (hp346.old 5 _ rfl rfl) (Sub.cons (d := 6) (hp346.nt 10 6 rfl rfl rfl) (Sub.cons (d := 7) (hp346.old 7 _ rfl rfl) (Sub.cons (d := 19) (hp346.old 19 _ rfl rfl) (Sub.cons (d := 20) (hp346.old 20 _ rfl rfl) (Sub.cons (d := 21) (hp346.old 21 _ rfl rfl) (Sub.cons (d := 22) (hp346.old 22 _ rfl rfl) (Sub.cons (d := 25) (hp346.old 25 _ rfl rfl) (Sub.cons (d := 26) (hp346.old 26 _ rfl rfl) (Sub.cons (d := 27) (hp346.old 27 _ rfl rfl) (Sub.cons (d := 28) (hp346.old 28 _ rfl rfl) (Sub.cons (d := 29) (hp346.old 29 _ rfl rfl) (Sub.cons (d := 30) (hp346.old 30 _ rfl rfl) (Sub.cons (d := 31) (hp346.old 31 _ rfl rfl) (Sub.cons (d := 32) (hp346.old 32 _ rfl rfl) (Sub.cons (d := 33) (hp346.old 33 _ rfl rfl) (Sub.cons (d := 34) (hp346.old 34 _ rfl rfl) (Sub.cons (d := 44) (hp346.nt 2 44 rfl rfl rfl) (Sub.cons (d := 45) (hp346.nt 3 45 rfl rfl rfl) (Sub.cons (d := 46) (hp346.nt 4 46 rfl rfl rfl) (Sub.cons (d := 47) (hp346.nt 5 47 rfl rfl rfl) (Sub.cons (d := 48) (hp346.nt 6 48 rfl rfl rfl) (Sub.cons (d := 49) (hp346.nt 7 49 rfl rfl rfl) (Sub.cons (d := 50) (hp346.nt 8 50 rfl rfl rfl) (Sub.nil _))))))))))))))))))))))))))) (CW.region (sd rfl (yl_move rfl rfl (sd rfl (yl_inc rfl rfl rfl (by omega) (sd rfl (yl_assign rfl rfl (SeqR.done ?_)))))))))))
          refine tn ?_
          have hB376 : B_s_l3Bytes_1 p_s p_more k5 k254 (x255) = .cont (true) := by simp only [B_s_l3Bytes_1, hb21, hb22, hb253, hb287, cL]
          exact ⟨p_more.length - (k254 + 1), by omega, k254 + 1, true, rfl, hlt286, (by omega), rfl, rfl, rfl, rfl, rfl, rfl, rfl, rfl, rfl, rfl, rfl, rfl, rfl, rfl, rfl, rfl, rfl, rfl, rfl, (Ex.trans hf284 hE349), (loopM.cont hlt286 hB376).symm.trans hI263⟩
        ·refine CW.drawsI 11 (vgetI ([.bool (x255), .bool (x255), .string (bs (p_s)), .int .i64 ((k5 : Int)), .int .u8 (((p_s.getD k5 0).toNat : Int)), .string (bs (p_more)), .int .i64 ((k254 : Int)), .int .u8 (((p_more.getD k254 0).toNat : Int)), .bool (decide (((p_s.getD k5 0).toNat : Int) = ((p_more.getD k254 0).toNat : Int))), .bool (decide (((p_s.getD k5 0).toNat : Int) = ((p_more.getD k254 0).toNat : Int))), .bool (decide (((p_s.getD k5 0).toNat : Int) = ((p_more.getD k254 0).toNat : Int)))].map DetI)) Tryd.follows rfl rfl rfl rfl rfl rfl (vgetI_stable (stD _)) ⟨?_, ?_, ?_, ?_, ?_, ?_, ?_, ?_, ?_, ?_, ?_, trivial⟩ ?_
         ·exact oI rfl fun h => yl_move rfl (h.old 6 _ rfl rfl) kI
         ·exact oI rfl fun h => yl_move rfl (h.dt 0 42 rfl rfl rfl) kI
         ·exact oW rfl rfl rfl rfl hb287 fun h => yl_move rfl (h.old 0 _ rfl rfl) kI
         ·exact oW rfl rfl rfl rfl hb287 fun h => yl_move rfl (h.old 5 _ rfl rfl) kI
         ·intro L400 w401 hi402
          have hE403 := hi402.ex
          have hE403z := Ex.size hE403
          exact OpR.want rfl rfl (hi402.dt 1 43 rfl rfl rfl) hb287 (Yl.sameI (yl_sindexN un9 (a := p_s) rfl (hi402.dt 2 44 rfl rfl rfl) (hi402.dt 3 45 rfl rfl rfl) (by first | omega | assumption | (simp only [wI] at *; omega)) kI))
         ·exact oW rfl rfl rfl rfl hb287 fun h => yl_move rfl (h.old 1 _ rfl rfl) kI
         ·exact oW rfl rfl rfl rfl hb287 fun h => yl_move rfl (h.old 7 _ rfl rfl) kI
         ·intro L419 w420 hi421
          have hE422 := hi421.ex
          have hE422z := Ex.size hE422
          exact OpR.want rfl rfl (hi421.dt 1 43 rfl rfl rfl) hb287 (Yl.sameI (yl_sindexN un9 (a := p_more) rfl (hi421.dt 5 47 rfl rfl rfl) (hi421.dt 6 48 rfl rfl rfl) (by first | omega | assumption | (simp only [wI] at *; omega)) kI))
         ·exact oW rfl rfl rfl rfl hb287 fun h => yl_eql rfl (h.dt 4 46 rfl rfl rfl) (h.dt 7 49 rfl rfl rfl) kI
         ·exact oI rfl fun h => yl_pick_f rfl (h.dt 1 43 rfl rfl rfl) hb287 (h.dt 8 50 rfl rfl rfl) kI
         ·exact oI rfl fun h => yl_assign rfl (h.dt 9 51 rfl rfl rfl) kI
         ·intro fl447 fh448 L444 w445 hp446
          have hE449 := hp446.ex
          have hE449z := Ex.size hE449
          refine SeqR.done (bn (tn (CW.sub (Sub.cons (d := 0) (hp446.old 0 _ rfl rfl) (Sub.cons (d := 1) (hp446.old 1 _ rfl rfl) (Sub.cons (d := 5) (hp446.old 5 _ rfl rfl) (Sub.cons (d := 6) (hp446.nt 10 6 rfl rfl rfl) (Sub.cons (d := 7) (hp446.old 7 _ rfl rfl) (Sub.cons (d := 19) (hp446.old 19 _ rfl rfl) (Sub.cons (d := 20) (hp446.old 20 _ rfl rfl) (Sub.cons (d := 21) (hp446.old 21 _ rfl rfl) (Sub.cons (d := 22) (hp446.old 22 _ rfl rfl) (Sub.cons (d := 25) (hp446.old 25 _ rfl rfl) (Sub.cons (d := 26) (hp446.old 26 _ rfl rfl) (Sub.cons (d := 27) (hp446.old 27 _ rfl rfl) (Sub.cons (d := 28) (hp446.old 28 _ rfl rfl) (Sub.cons (d := 29) (hp446.old 29 _ rfl rfl) (Sub.cons (d := 30) (hp446.old 30 _ rfl rfl) (Sub.cons (d := 31) (hp446.old 31 _ rfl rfl) (Sub.cons (d := 32) (hp446.old 32 _ rfl rfl) (Sub.cons (d := 33) (hp446.old 33 _ rfl rfl) (Sub.cons (d := 34) (hp446.old 34 _ rfl rfl) (Sub.cons (d := 44) (hp446.nt 2 44 rfl rfl rfl) (Sub.cons (d := 45) (hp446.nt 3 45 rfl rfl rfl) (Sub.cons (d := 46) (hp446.nt 4 46 rfl rfl rfl) (Sub.cons (d := 47) (hp446.nt 5 47 rfl rfl rfl) (Sub.cons (d := 48) (hp446.nt 6 48 rfl rfl rfl) (Sub.cons (d := 49) (hp446.nt 7 49 rfl rfl rfl) (Sub.cons (d := 50) (hp446.nt 8 50 rfl rfl rfl) (Sub.nil _))))))))))))))))))))))))))) (CW.region (sd rfl (yl_move rfl rfl (sd rfl (yl_inc rfl rfl rfl (by omega) (sd rfl (yl_assign rfl rfl (SeqR.done ?_)))))))))))
          refine tn ?_
          have hB476 : B_s_l3Bytes_1 p_s p_more k5 k254 (x255) = .cont (decide (((p_s.getD k5 0).toNat : Int) = ((p_more.getD k254 0).toNat : Int))) := by simp only [B_s_l3Bytes_1, hb21, hb22, hb253, hb287, cL]
          exact ⟨p_more.length - (k254 + 1), by omega, k254 + 1, decide (((p_s.getD k5 0).toNat : Int) = ((p_more.getD k254 0).toNat : Int)), rfl, hlt286, (by omega), rfl, rfl, rfl, rfl, rfl, rfl, rfl, rfl, rfl, rfl, rfl, rfl, rfl, rfl, rfl, rfl, rfl, rfl, rfl, (Ex.trans hf284 hE449), (loopM.cont hlt286 hB476).symm.trans hI263⟩
       ·refine CW.seq (CW.seq (CW.region (sd rfl (yl_move rfl rfl (sd rfl (yl_move rfl rfl (sd rfl (yl_slen un9 (a := p_more) rfl rfl (sd rfl (yl_lss rfl rfl rfl (dn ?_)))))))))))
        refine CW.cond_f rfl (lt_f hlt286) (CW.exit (tx (tx ?_)))
        have hL478 : loopM (B_s_l3Bytes_1 p_s p_more k5) (p_more.length - 0) 0 (decide (((p_s.getD k5 0).toNat : Int) ≤ 57)) = .done (x255) := hI263.symm.trans (loopM.stop hlt286)
        refine bx (tn (CW.seq (CW.region (sd rfl (yl_move rfl rfl (sd rfl (yl_not rfl rfl (dn (bcase (x255) (fun hb479 => ?_) (fun hb479 => ?_))))))))))
        ·refine CW.cond_f rfl (not_t hb479) (CW.skip (bn (tn (CW.region (sd rfl (yl_move rfl rfl (sd rfl (yl_inc rfl rfl rfl (by omega) (sd rfl (yl_assign rfl rfl (SeqR.done ?_)))))))))))
         refine tn ?_
         have hB480 : B_s_l3Bytes_0 p_s p_more k5 () = .cont () := by simp only [B_s_l3Bytes_0, hb21, hb22, hb253, hb479, hL478, cL]
         exact ⟨p_s.length - (k5 + 1), by omega, k5 + 1, rfl, hlt20, (by omega), rfl, rfl, rfl, hf284, (loopM.cont hlt20 hB480).symm.trans hI13⟩
        ·refine CW.cond_t rfl (not_f hb479) (CW.seq (CW.region (sd rfl (yl_assign rfl rfl (dn (CW.ret (br (tr ?_))))))))
         refine tr ?_
         have hB482 : B_s_l3Bytes_0 p_s p_more k5 () = .ret false := by simp only [B_s_l3Bytes_0, hb21, hb22, hb253, hb479, hL478, cL]
         have hL481 : loopM (B_s_l3Bytes_0 p_s p_more) (p_s.length - 0) 0 () = .ret false := hI13.symm.trans (loopM.ret hlt20 hB482)
         refine br (tr (rr rfl (.cons rfl .nil) ?_))
         have hM483 : (s_l3Bytes p_s p_more) = (false) := by simp only [s_l3Bytes, hb21, hb22, hb253, hb479, hL478, hL481, cL]
         rw [hM483]
         exact ⟨rfl, hf284⟩
     ·have hb253p := dec_f hb253
      refine sz rfl rfl hb253 (sz rfl rfl hb253 (sz rfl rfl hb253 (sz rfl rfl hb253 (sy rfl rfl hb22 (yl_pick_f rfl rfl hb253 rfl (sd rfl (yl_pick_f rfl rfl hb22 rfl (sd rfl (yl_assign rfl rfl (dn ?_))))))))))
      refine CW.seq (CW.seq (CW.region (sd rfl (yl_assign rfl rfl (dn (CW.block (CW.loop (fun m486 L487 w488 => ∃ (k484 : Nat) (x485 : Bool), m486 = p_more.length - k484 ∧ k484 ≤ p_more.length ∧ w11.heap.size ≤ w488.heap.size ∧ lkp L487 0 = some (.string (bs (p_s))) ∧ lkp L487 1 = some (.string (bs (p_more))) ∧ lkp L487 5 = some (.int .i64 ((k5 : Int))) ∧ lkp L487 6 = some (.bool (x485)) ∧ lkp L487 7 = some (.int .i64 ((k484 : Int))) ∧ lkp L487 19 = some (.string (bs (p_s))) ∧ lkp L487 20 = some (.int .i64 ((k5 : Int))) ∧ lkp L487 21 = some (.int .u8 (((p_s.getD k5 0).toNat : Int))) ∧ lkp L487 22 = some (.bool (decide (((p_s.getD k5 0).toNat : Int) ≤ 122))) ∧ lkp L487 25 = some (.string (bs (p_s))) ∧ lkp L487 26 = some (.int .i64 ((k5 : Int))) ∧ lkp L487 27 = some (.int .u8 (((p_s.getD k5 0).toNat : Int))) ∧ lkp L487 28 = some (.bool (decide (48 ≤ ((p_s.getD k5 0).toNat : Int)))) ∧ lkp L487 29 = some (.bool (decide (48 ≤ ((p_s.getD k5 0).toNat : Int)))) ∧ lkp L487 30 = some (undef) ∧ lkp L487 31 = some (undef) ∧ lkp L487 32 = some (undef) ∧ lkp L487 33 = some (undef) ∧ lkp L487 34 = some (.bool (false)) ∧ Ex w w488 ∧ loopM (B_s_l3Bytes_1 p_s p_more k5) (p_more.length - k484) k484 (x485) = loopM (B_s_l3Bytes_1 p_s p_more k5) (p_more.length - 0) 0 (false)) (p_more.length - 0) ?_ ?_)))))))
      ·exact ⟨0, false, rfl, (by omega), Nat.le_refl _, rfl, rfl, rfl, rfl, rfl, rfl, rfl, rfl, rfl, rfl, rfl, rfl, rfl, rfl, rfl, rfl, rfl, rfl, rfl, hf18, rfl⟩
      ·rintro m489 L490 w491 ⟨k484, x485, rfl, hk492, hsz494, hl495, hl496, hl497, hl498, hl499, hl500, hl501, hl502, hl503, hl504, hl505, hl506, hl507, hl508, hl509, hl510, hl511, hl512, hl513, hf514, hI493⟩
       refine CW.sub (Sub.cons hl495 (Sub.cons hl496 (Sub.cons hl497 (Sub.cons hl498 (Sub.cons hl499 (Sub.cons hl500 (Sub.cons hl501 (Sub.cons hl502 (Sub.cons hl503 (Sub.cons hl504 (Sub.cons hl505 (Sub.cons hl506 (Sub.cons hl507 (Sub.cons hl508 (Sub.cons hl509 (Sub.cons hl510 (Sub.cons hl511 (Sub.cons hl512 (Sub.cons hl513 (Sub.nil _)))))))))))))))))))) ?_
       have hf514z := Ex.size hf514
       have hbg515 : p_more.length ≤ 1073741824 := o2
       rcases Nat.lt_or_ge k484 p_more.length with hlt516 | hlt516
       ·refine CW.seq (CW.seq (CW.region (sd rfl (yl_move rfl rfl (sd rfl (yl_move rfl rfl (sd rfl (yl_slen un9 (a := p_more) rfl rfl (sd rfl (yl_lss rfl rfl rfl (dn ?_)))))))))))
        refine CW.cond_t rfl (lt_t hlt516) (CW.skip (tn (CW.seq (CW.block (bcase (x485) (fun hb517 => ?_) (fun hb517 => ?_))))))
        ·refine CW.drawsI 11 (vgetI ([.bool (x485), .bool (x485), undef, undef, undef, undef, undef, undef, undef, .bool (true), .bool (true)].map DetI)) Tryd.follows rfl rfl rfl rfl rfl rfl (vgetI_stable (stD _)) ⟨?_, ?_, ?_, ?_, ?_, ?_, ?_, ?_, ?_, ?_, ?_, trivial⟩ ?_
         ·exact oI rfl fun h => yl_move rfl (h.old 6 _ rfl rfl) kI
         ·exact oI rfl fun h => yl_move rfl (h.dt 0 42 rfl rfl rfl) kI
         ·exact oS rfl rfl rfl rfl rfl hb517
         ·exact oS rfl rfl rfl rfl rfl hb517
         ·exact oS rfl rfl rfl rfl rfl hb517
         ·exact oS rfl rfl rfl rfl rfl hb517
         ·exact oS rfl rfl rfl rfl rfl hb517
         ·exact oS rfl rfl rfl rfl rfl hb517
         ·exact oS rfl rfl rfl rfl rfl hb517
         ·exact oI rfl fun h => yl_pick_t rfl (h.dt 1 43 rfl rfl rfl) hb517 rfl kI
         ·exact oI rfl fun h => yl_assign rfl (h.dt 9 51 rfl rfl rfl) kI
         ·intro fl577 fh578 L574 w575 hp576
          have hE579 := hp576.ex
          have hE579z := Ex.size hE579
          refine SeqR.done (bn (tn (CW.sub (Sub.cons (d := 0) (hp576.old 0 _ rfl rfl) (Sub.cons (d := 1) (hp576.old 1 _ rfl rfl) (Sub.cons (d := 5) (hp576.old 5 _ rfl rfl) (Sub.cons (d := 6) (hp576.nt 10 6 rfl rfl rfl) (Sub.cons (d := 7) (hp576.old 7 _ rfl rfl) (Sub.cons (d := 19) (hp576.old 19 _ rfl rfl) (Sub.cons (d := 20) (hp576.old 20 _ rfl rfl) (Sub.cons (d := 21) (hp576.old 21 _ rfl rfl) (Sub.cons (d := 22) (hp576.old 22 _ rfl rfl) (Sub.cons (d := 25) (hp576.old 25 _ rfl rfl) (Sub.cons (d := 26) (hp576.old 26 _ rfl rfl) (Sub.cons (d := 27) (hp576.old 27 _ rfl rfl) (Sub.cons (d := 28) (hp576.old 28 _ rfl rfl) (Sub.cons (d := 29) (hp576.old 29 _ rfl rfl) (Sub.cons (d := 30) (hp576.old 30 _ rfl rfl) (Sub.cons (d := 31) (hp576.old 31 _ rfl rfl) (Sub.cons (d := 32) (hp576.old 32 _ rfl rfl) (Sub.cons (d := 33) (hp576.old 33 _ rfl rfl) (Sub.cons (d := 34) (hp576.old 34 _ rfl rfl) (Sub.cons (d := 44) (hp576.nt 2 44 rfl rfl rfl) (Sub.cons (d := 45) (hp576.nt 3 45 rfl rfl rfl) (Sub.cons (d := 46) (hp576.nt 4 46 rfl rfl rfl) (Sub.cons (d := 47) (hp576.nt 5 47 rfl rfl rfl) (Sub.cons (d := 48) (hp576.nt 6 48 rfl rfl rfl) (Sub.cons (d := 49) (hp576.nt 7 49 rfl rfl rfl) (Sub.cons (d := 50) (hp576.nt 8 50 rfl rfl rfl) (Sub.nil _))))))))))))))))))))))))))) (CW.region (sd rfl (yl_move rfl rfl (sd rfl (yl_inc rfl rfl rfl (by omega) (sd rfl (yl_assign rfl rfl (SeqR.done ?_)))))))))))
          refine tn ?_
          have hB606 : B_s_l3Bytes_1 p_s p_more k5 k484 (x485) = .cont (true) := by simp only [B_s_l3Bytes_1, hb21, hb22, hb253, hb517, cL]
          exact ⟨p_more.length - (k484 + 1), by omega, k484 + 1, true, rfl, hlt516, (by omega), rfl, rfl, rfl, rfl, rfl, rfl, rfl, rfl, rfl, rfl, rfl, rfl, rfl, rfl, rfl, rfl, rfl, rfl, rfl, (Ex.trans hf514 hE579), (loopM.cont hlt516 hB606).symm.trans hI493⟩
        ·refine CW.drawsI 11 (vgetI ([.bool (x485), .bool (x485), .string (bs (p_s)), .int .i64 ((k5 : Int)), .int .u8 (((p_s.getD k5 0).toNat : Int)), .string (bs (p_more)), .int .i64 ((k484 : Int)), .int .u8 (((p_more.getD k484 0).toNat : Int)), .bool (decide (((p_s.getD k5 0).toNat : Int) = ((p_more.getD k484 0).toNat : Int))), .bool (decide (((p_s.getD k5 0).toNat : Int) = ((p_more.getD k484 0).toNat : Int))), .bool (decide (((p_s.getD k5 0).toNat : Int) = ((p_more.getD k484 0).toNat : Int)))].map DetI)) Tryd.follows rfl rfl rfl rfl rfl rfl (vgetI_stable (stD _)) ⟨?_, ?_, ?_, ?_, ?_, ?_, ?_, ?_, ?_, ?_, ?_, trivial⟩ ?_
         ·exact oI rfl fun h => yl_move rfl (h.old 6 _ rfl rfl) kI
         ·exact oI rfl fun h => yl_move rfl (h.dt 0 42 rfl rfl rfl) kI
         ·exact oW rfl rfl rfl rfl hb517 fun h => yl_move rfl (h.old 0 _ rfl rfl) kI
         ·exact oW rfl rfl rfl rfl hb517 fun h => yl_move rfl (h.old 5 _ rfl rfl) kI
         ·intro L630 w631 hi632
          have hE633 := hi632.ex
          have hE633z := Ex.size hE633
          exact OpR.want rfl rfl (hi632.dt 1 43 rfl rfl rfl) hb517 (Yl.sameI (yl_sindexN un9 (a := p_s) rfl (hi632.dt 2 44 rfl rfl rfl) (hi632.dt 3 45 rfl rfl rfl) (by first | omega | assumption | (simp only [wI] at *; omega)) kI))
         ·exact oW rfl rfl rfl rfl hb517 fun h => yl_move rfl (h.old 1 _ rfl rfl) kI
         ·exact oW rfl rfl rfl rfl hb517 fun h => yl_move rfl (h.old 7 _ rfl rfl) kI
         ·intro L649 w650 hi651
          have hE652 := hi651.ex
          have hE652z := Ex.size hE652
          exact OpR.want rfl rfl (hi651.dt 1 43 rfl rfl rfl) hb517 (Yl.sameI (yl_sindexN un9 (a := p_more) rfl (hi651.dt 5 47 rfl rfl rfl) (hi651.dt 6 48 rfl rfl rfl) (by first | omega | assumption | (simp only [wI] at *; omega)) kI))
         ·exact oW rfl rfl rfl rfl hb517 fun h => yl_eql rfl (h.dt 4 46 rfl rfl rfl) (h.dt 7 49 rfl rfl rfl) kI
         ·exact oI rfl fun h => yl_pick_f rfl (h.dt 1 43 rfl rfl rfl) hb517 (h.dt 8 50 rfl rfl rfl) kI
         ·exact oI rfl fun h => yl_assign rfl (h.dt 9 51 rfl rfl rfl) kI
         ·intro fl677 fh678 L674 w675 hp676
          have hE679 := hp676.ex
          have hE679z := Ex.size hE679
          refine SeqR.done (bn (tn (CW.sub (Sub.cons (d := 0) (hp676.old 0 _ rfl rfl) (Sub.cons (d := 1) (hp676.old 1 _ rfl rfl) (Sub.cons (d := 5) (hp676.old 5 _ rfl rfl) (Sub.cons (d := 6) (hp676.nt 10 6 rfl rfl rfl) (Sub.cons (d := 7) (hp676.old 7 _ rfl rfl) (Sub.cons (d := 19) (hp676.old 19 _ rfl rfl) (Sub.cons (d := 20) (hp676.old 20 _ rfl rfl) (Sub.cons (d := 21) (hp676.old 21 _ rfl rfl) (Sub.cons (d := 22) (hp676.old 22 _ rfl rfl) (Sub.cons (d := 25) (hp676.old 25 _ rfl rfl) (Sub.cons (d := 26) (hp676.old 26 _ rfl rfl) (Sub.cons (d := 27) (hp676.old 27 _ rfl rfl) (Sub.cons (d := 28) (hp676.old 28 _ rfl rfl) (Sub.cons (d := 29) (hp676.old 29 _ rfl rfl) (Sub.cons (d := 30) (hp676.old 30 _ rfl rfl) (Sub.cons (d := 31) (hp676.old 31 _ rfl rfl) (Sub.cons (d := 32) (hp676.old 32 _ rfl rfl) (Sub.cons (d := 33) (hp676.old 33 _ rfl rfl) (Sub.cons (d := 34) (hp676.old 34 _ rfl rfl) (Sub.cons (d := 44) (hp676.nt 2 44 rfl rfl rfl) (Sub.cons (d := 45) (hp676.nt 3 45 rfl rfl rfl) (Sub.cons (d := 46) (hp676.nt 4 46 rfl rfl rfl) (Sub.cons (d := 47) (hp676.nt 5 47 rfl rfl rfl) (Sub.cons (d := 48) (hp676.nt 6 48 rfl rfl rfl) (Sub.cons (d := 49) (hp676.nt 7 49 rfl rfl rfl) (Sub.cons (d := 50) (hp676.nt 8 50 rfl rfl rfl) (Sub.nil _))))))))))))))))))))))))))) (CW.region (sd rfl (yl_move rfl rfl (sd rfl (yl_inc rfl rfl rfl (by omega) (sd rfl (yl_assign rfl rfl (SeqR.done ?_)))))))))))
          refine tn ?_
          have hB706 : B_s_l3Bytes_1 p_s p_more k5 k484 (x485) = .cont (decide (((p_s.getD k5 0).toNat : Int) = ((p_more.getD k484 0).toNat : Int))) := by simp only [B_s_l3Bytes_1, hb21, hb22, hb253, hb517, cL]
          exact ⟨p_more.length - (k484 + 1), by omega, k484 + 1, decide (((p_s.getD k5 0).toNat : Int) = ((p_more.getD k484 0).toNat : Int)), rfl, hlt516, (by omega), rfl, rfl, rfl, rfl, rfl, rfl, rfl, rfl, rfl, rfl, rfl, rfl, rfl, rfl, rfl, rfl, rfl, rfl, rfl, (Ex.trans hf514 hE679), (loopM.cont hlt516 hB706).symm.trans hI493⟩
       ·refine CW.seq (CW.seq (CW.region (sd rfl (yl_move rfl rfl (sd rfl (yl_move rfl rfl (sd rfl (yl_slen un9 (a := p_more) rfl rfl (sd rfl (yl_lss rfl rfl rfl (dn ?_)))))))))))
        refine CW.cond_f rfl (lt_f hlt516) (CW.exit (tx (tx ?_)))
        have hL708 : loopM (B_s_l3Bytes_1 p_s p_more k5) (p_more.length - 0) 0 (false) = .done (x485) := hI493.symm.trans (loopM.stop hlt516)
        refine bx (tn (CW.seq (CW.region (sd rfl (yl_move rfl rfl (sd rfl (yl_not rfl rfl (dn (bcase (x485) (fun hb709 => ?_) (fun hb709 => ?_))))))))))
        ·refine CW.cond_f rfl (not_t hb709) (CW.skip (bn (tn (CW.region (sd rfl (yl_move rfl rfl (sd rfl (yl_inc rfl rfl rfl (by omega) (sd rfl (yl_assign rfl rfl (SeqR.done ?_)))))))))))
         refine tn ?_
         have hB710 : B_s_l3Bytes_0 p_s p_more k5 () = .cont () := by simp only [B_s_l3Bytes_0, hb21, hb22, hb253, hb709, hL708, cL]
         exact ⟨p_s.length - (k5 + 1), by omega, k5 + 1, rfl, hlt20, (by omega), rfl, rfl, rfl, hf514, (loopM.cont hlt20 hB710).symm.trans hI13⟩
        ·refine CW.cond_t rfl (not_f hb709) (CW.seq (CW.region (sd rfl (yl_assign rfl rfl (dn (CW.ret (br (tr ?_))))))))
         refine tr ?_
         have hB712 : B_s_l3Bytes_0 p_s p_more k5 () = .ret false := by simp only [B_s_l3Bytes_0, hb21, hb22, hb253, hb709, hL708, cL]
         have hL711 : loopM (B_s_l3Bytes_0 p_s p_more) (p_s.length - 0) 0 () = .ret false := hI13.symm.trans (loopM.ret hlt20 hB712)
         refine br (tr (rr rfl (.cons rfl .nil) ?_))
         have hM713 : (s_l3Bytes p_s p_more) = (false) := by simp only [s_l3Bytes, hb21, hb22, hb253, hb709, hL708, hL711, cL]
         rw [hM713]
         exact ⟨rfl, hf514⟩
   ·have hb21p := dec_f hb21
    refine sz rfl rfl hb21 (sz rfl rfl hb21 (sz rfl rfl hb21 (sz rfl rfl hb21 (sd rfl (yl_pick_f rfl rfl hb21 rfl (sd rfl (yl_move rfl rfl (sy rfl rfl rfl (yl_move rfl rfl (sy rfl rfl rfl (yl_move rfl rfl (sy rfl rfl rfl (yl_sindexN un9 (a := p_s) rfl rfl rfl (by first | omega | assumption | (simp only [wI] at *; omega)) ?_)))))))))))))
    refine sy rfl rfl rfl (yl_geq rfl rfl rfl (sy rfl rfl rfl (yl_move rfl rfl (bcase (decide (48 ≤ ((p_s.getD k5 0).toNat : Int))) (fun hb714 => ?_) (fun hb714 => ?_)))))
    ·have hb714p := dec_t hb714
     refine sy rfl rfl hb714 (yl_move rfl rfl (sy rfl rfl hb714 (yl_move rfl rfl (sy rfl rfl hb714 (yl_sindexN un9 (a := p_s) rfl rfl rfl (by first | omega | assumption | (simp only [wI] at *; omega)) (sy rfl rfl hb714 (yl_leq rfl rfl rfl (sy rfl rfl rfl (yl_pick_t rfl rfl hb714 rfl (sd rfl (yl_pick_f rfl rfl rfl rfl (sd rfl (yl_assign rfl rfl (dn ?_))))))))))))))
     refine CW.seq (CW.seq (CW.region (sd rfl (yl_assign rfl rfl (dn (CW.block (CW.loop (fun m717 L718 w719 => ∃ (k715 : Nat) (x716 : Bool), m717 = p_more.length - k715 ∧ k715 ≤ p_more.length ∧ w11.heap.size ≤ w719.heap.size ∧ lkp L718 0 = some (.string (bs (p_s))) ∧ lkp L718 1 = some (.string (bs (p_more))) ∧ lkp L718 5 = some (.int .i64 ((k5 : Int))) ∧ lkp L718 6 = some (.bool (x716)) ∧ lkp L718 7 = some (.int .i64 ((k715 : Int))) ∧ lkp L718 19 = some (undef) ∧ lkp L718 20 = some (undef) ∧ lkp L718 21 = some (undef) ∧ lkp L718 22 = some (undef) ∧ lkp L718 25 = some (.string (bs (p_s))) ∧ lkp L718 26 = some (.int .i64 ((k5 : Int))) ∧ lkp L718 27 = some (.int .u8 (((p_s.getD k5 0).toNat : Int))) ∧ lkp L718 28 = some (.bool (decide (48 ≤ ((p_s.getD k5 0).toNat : Int)))) ∧ lkp L718 29 = some (.bool (decide (48 ≤ ((p_s.getD k5 0).toNat : Int)))) ∧ lkp L718 30 = some (.string (bs (p_s))) ∧ lkp L718 31 = some (.int .i64 ((k5 : Int))) ∧ lkp L718 32 = some (.int .u8 (((p_s.getD k5 0).toNat : Int))) ∧ lkp L718 33 = some (.bool (decide (((p_s.getD k5 0).toNat : Int) ≤ 57))) ∧ lkp L718 34 = some (.bool (decide (((p_s.getD k5 0).toNat : Int) ≤ 57))) ∧ Ex w w719 ∧ loopM (B_s_l3Bytes_1 p_s p_more k5) (p_more.length - k715) k715 (x716) = loopM (B_s_l3Bytes_1 p_s p_more k5) (p_more.length - 0) 0 (decide (((p_s.getD k5 0).toNat : Int) ≤ 57))) (p_more.length - 0) ?_ ?_)))))))
     ·exact ⟨0, decide (((p_s.getD k5 0).toNat : Int) ≤ 57), rfl, (by omega), Nat.le_refl _, rfl, rfl, rfl, rfl, rfl, rfl, rfl, rfl, rfl, rfl, rfl, rfl, rfl, rfl, rfl, rfl, rfl, rfl, rfl, hf18, rfl⟩
     ·rintro m720 L721 w722 ⟨k715, x716, rfl, hk723, hsz725, hl726, hl727, hl728, hl729, hl730, hl731, hl732, hl733, hl734, hl735, hl736, hl737, hl738, hl739, hl740, hl741, hl742, hl743, hl744, hf745, hI724⟩
      refine CW.sub (Sub.cons hl726 (Sub.cons hl727 (Sub.cons hl728 (Sub.cons hl729 (Sub.cons hl730 (Sub.cons hl731 (Sub.cons hl732 (Sub.cons hl733 (Sub.cons hl734 (Sub.cons hl735 (Sub.cons hl736 (Sub.cons hl737 (Sub.cons hl738 (Sub.cons hl739 (Sub.cons hl740 (Sub.cons hl741 (Sub.cons hl742 (Sub.cons hl743 (Sub.cons hl744 (Sub.nil _)))))))))))))))))))) ?_
      have hf745z := Ex.size hf745
      have hbg746 : p_more.length ≤ 1073741824 := o2
      rcases Nat.lt_or_ge k715 p_more.length with hlt747 | hlt747
      ·refine CW.seq (CW.seq (CW.region (sd rfl (yl_move rfl rfl (sd rfl (yl_move rfl rfl (sd rfl (yl_slen un9 (a := p_more) rfl rfl (sd rfl (yl_lss rfl rfl rfl (dn ?_)))))))))))
       refine CW.cond_t rfl (lt_t hlt747) (CW.skip (tn (CW.seq (CW.block (bcase (x716) (fun hb748 => ?_) (fun hb748 => ?_))))))
       ·refine CW.drawsI 11 (vgetI ([.bool (x716), .bool (x716), undef, undef, undef, undef, undef, undef, undef, .bool (true), .bool (true)].map DetI)) Tryd.follows rfl rfl rfl rfl rfl rfl (vgetI_stable (stD _)) ⟨?_, ?_, ?_, ?_, ?_, ?_, ?_, ?_, ?_, ?_, ?_, trivial⟩ ?_
        ·exact oI rfl fun h => yl_move rfl (h.old 6 _ rfl rfl) kI
        ·exact oI rfl fun h => yl_move rfl (h.dt 0 42 rfl rfl rfl) kI
        ·exact oS rfl rfl rfl rfl rfl hb748
        ·exact oS rfl rfl rfl rfl rfl hb748
        ·exact oS rfl rfl rfl rfl rfl hb748
        ·exact oS rfl rfl rfl rfl rfl hb748
        ·exact oS rfl rfl rfl rfl rfl hb748
        ·exact oS rfl rfl rfl rfl rfl hb748
        ·exact oS rfl rfl rfl rfl rfl hb748
        ·exact oI rfl fun h => yl_pick_t rfl (h.dt 1 43 rfl rfl rfl) hb748 rfl kI
        ·exact oI rfl fun h => yl_assign rfl (h.dt 9 51 rfl rfl rfl) kI
        ·intro fl808 fh809 L805 w806 hp807
         have hE810 := hp807.ex
         have hE810z := Ex.size hE810
         refine SeqR.done (bn (tn (CW.sub (Sub.cons (d := 0) (hp807.old 0 _ rfl rfl) (Sub.cons (d := 1) (hp807.old 1 _ rfl rfl) (Sub.cons (d := 5) (hp807.old 5 _ rfl rfl) (Sub.cons (d := 6) (hp807.nt 10 6 rfl rfl rfl) (Sub.cons (d := 7) (hp807.old 7 _ rfl rfl) (Sub.cons (d := 19) (hp807.old 19 _ rfl rfl) (Sub.cons (d := 20) (hp807.old 20 _ rfl rfl) (Sub.cons (d := 21) (hp807.old 21 _ rfl rfl) (Sub.cons (d := 22) (hp807.old 22 _ rfl rfl) (Sub.cons (d := 25) (hp807.old 25 _ rfl rfl) (Sub.cons (d := 26) (hp807.old 26 _ rfl rfl) (Sub.cons (d := 27) (hp807.old 27 _ rfl rfl) (Sub.cons (d := 28) (hp807.old 28 _ rfl rfl) (Sub.cons (d := 29) (hp807.old 29 _ rfl rfl) (Sub.cons (d := 30) (hp807.old 30 _ rfl rfl) (Sub.cons (d := 31) (hp807.old 31 _ rfl rfl) (Sub.cons (d := 32) (hp807.old 32 _ rfl rfl) (Sub.cons (d := 33) (hp807.old 33 _ rfl rfl) (Sub.cons (d := 34) (hp807.old 34 _ rfl rfl) (Sub.cons (d := 44) (hp807.nt 2 44 rfl rfl rfl) (Sub.cons (d := 45) (hp807.nt 3 45 rfl rfl rfl) (Sub.cons (d := 46) (hp807.nt 4 46 rfl rfl rfl) (Sub.cons (d := 47) (hp807.nt 5 47 rfl rfl rfl) (Sub.cons (d := 48) (hp807.nt 6 48 rfl rfl rfl) (Sub.cons (d := 49) (hp807.nt 7 49 rfl rfl rfl) (Sub.cons (d := 50) (hp807.nt 8 50 rfl rfl rfl) (Sub.nil _))))))))))))))))))))))))))) (CW.region (sd rfl (yl_move rfl rfl (sd rfl (yl_inc rfl rfl rfl (by omega) (sd rfl (yl_assign rfl rfl (SeqR.done ?_)))))))))))
         refine tn ?_
         have hB837 : B_s_l3Bytes_1 p_s p_more k5 k715 (x716) = .cont (true) := by simp only [B_s_l3Bytes_1, hb21, hb714, hb748, cL]
         exact ⟨p_more.length - (k715 + 1), by omega, k715 + 1, true, rfl, hlt747, (by omega), rfl, rfl, rfl, rfl, rfl, rfl, rfl, rfl, rfl, rfl, rfl, rfl, rfl, rfl, rfl, rfl, rfl, rfl, rfl, (Ex.trans hf745 hE810), (loopM.cont hlt747 hB837).symm.trans hI724⟩
       ·refine CW.drawsI 11 (vgetI ([.bool (x716), .bool (x716), .string (bs (p_s)), .int .i64 ((k5 : Int)), .int .u8 (((p_s.getD k5 0).toNat : Int)), .string (bs (p_more)), .int .i64 ((k715 : Int)), .int .u8 (((p_more.getD k715 0).toNat : Int)), .bool (decide (((p_s.getD k5 0).toNat : Int) = ((p_more.getD k715 0).toNat : Int))), .bool (decide (((p_s.getD k5 0).toNat : Int) = ((p_more.getD k715 0).toNat : Int))), .bool (decide (((p_s.getD k5 0).toNat : Int) = ((p_more.getD k715 0).toNat : Int)))].map DetI)) Tryd.follows rfl rfl rfl rfl rfl rfl (vgetI_stable (stD _)) ⟨?_, ?_, ?_, ?_, ?_, ?_, ?_, ?_, ?_, ?_, ?_, trivial⟩ ?_
        ·exact oI rfl fun h => yl_move rfl (h.old 6 _ rfl rfl) kI
        ·exact oI rfl fun h => yl_move rfl (h.dt 0 42 rfl rfl rfl) kI
        ·exact oW rfl rfl rfl rfl hb748 fun h => yl_move rfl (h.old 0 _ rfl rfl) kI
        ·exact oW rfl rfl rfl rfl hb748 fun h => yl_move rfl (h.old 5 _ rfl rfl) kI
        ·intro L861 w862 hi863
         have hE864 := hi863.ex
         have hE864z := Ex.size hE864
         exact OpR.want rfl rfl (hi863.dt 1 43 rfl rfl rfl) hb748 (Yl.sameI (yl_sindexN un9 (a := p_s) rfl (hi863.dt 2 44 rfl rfl rfl) (hi863.dt 3 45 rfl rfl rfl) (by first | omega | assumption | (simp only [wI] at *; omega)) kI))
        ·exact oW rfl rfl rfl rfl hb748 fun h => yl_move rfl (h.old 1 _ rfl rfl) kI
        ·exact oW rfl rfl rfl rfl hb748 fun h => yl_move rfl (h.old 7 _ rfl rfl) kI
        ·intro L880 w881 hi882
         have hE883 := hi882.ex
         have hE883z := Ex.size hE883
         exact OpR.want rfl rfl (hi882.dt 1 43 rfl rfl rfl) hb748 (Yl.sameI (yl_sindexN un9 (a := p_more) rfl (hi882.dt 5 47 rfl rfl rfl) (hi882.dt 6 48 rfl rfl rfl) (by first | omega | assumption | (simp only [wI] at *; omega)) kI))
        ·exact oW rfl rfl rfl rfl hb748 fun h => yl_eql rfl (h.dt 4 46 rfl rfl rfl) (h.dt 7 49 rfl rfl rfl) kI
        ·exact oI rfl fun h => yl_pick_f rfl (h.dt 1 43 rfl rfl rfl) hb748 (h.dt 8 50 rfl rfl rfl) kI
        ·exact oI rfl fun h => yl_assign rfl (h.dt 9 51 rfl rfl rfl) kI
        ·intro fl908 fh909 L905 w906 hp907
         have hE910 := hp907.ex
         have hE910z := Ex.size hE910
         refine SeqR.done (bn (tn (CW.sub (Sub.cons (d := 0) (hp907.old 0 _ rfl rfl) (Sub.cons (d := 1) (hp907.old 1 _ rfl rfl) (Sub.cons (d := 5) (hp907.old 5 _ rfl rfl) (Sub.cons (d := 6) (hp907.nt 10 6 rfl rfl rfl) (Sub.cons (d := 7) (hp907.old 7 _ rfl rfl) (Sub.cons (d := 19) (hp907.old 19 _ rfl rfl) (Sub.cons (d := 20) (hp907.old 20 _ rfl rfl) (Sub.cons (d := 21) (hp907.old 21 _ rfl rfl) (Sub.cons (d := 22) (hp907.old 22 _ rfl rfl) (Sub.cons (d := 25) (hp907.old 25 _ rfl rfl) (Sub.cons (d := 26) (hp907.old 26 _ rfl rfl) (Sub.cons (d := 27) (hp907.old 27 _ rfl rfl) (Sub.cons (d := 28) (hp907.old 28 _ rfl rfl) (Sub.cons (d := 29) (hp907.old 29 _ rfl rfl) (Sub.cons (d := 30) (hp907.old 30 _ rfl rfl) (Sub.cons (d := 31) (hp907.old 31 _ rfl rfl) (Sub.cons (d := 32) (hp907.old 32 _ rfl rfl) (Sub.cons (d := 33) (hp907.old 33 _ rfl rfl) (Sub.cons (d := 34) (hp907.old 34 _ rfl rfl) (Sub.cons (d := 44) (hp907.nt 2 44 rfl rfl rfl) (Sub.cons (d := 45) (hp907.nt 3 45 rfl rfl rfl) (Sub.cons (d := 46) (hp907.nt 4 46 rfl rfl rfl) (Sub.cons (d := 47) (hp907.nt 5 47 rfl rfl rfl) (Sub.cons (d := 48) (hp907.nt 6 48 rfl rfl rfl) (Sub.cons (d := 49) (hp907.nt 7 49 rfl rfl rfl) (Sub.cons (d := 50) (hp907.nt 8 50 rfl rfl rfl) (Sub.nil _))))))))))))))))))))))))))) (CW.region (sd rfl (yl_move rfl rfl (sd rfl (yl_inc rfl rfl rfl (by omega) (sd rfl (yl_assign rfl rfl (SeqR.done ?_)))))))))))
         refine tn ?_
         have hB937 : B_s_l3Bytes_1 p_s p_more k5 k715 (x716) = .cont (decide (((p_s.getD k5 0).toNat : Int) = ((p_more.getD k715 0).toNat : Int))) := by simp only [B_s_l3Bytes_1, hb21, hb714, hb748, cL]
         exact ⟨p_more.length - (k715 + 1), by omega, k715 + 1, decide (((p_s.getD k5 0).toNat : Int) = ((p_more.getD k715 0).toNat : Int)), rfl, hlt747, (by omega), rfl, rfl, rfl, rfl, rfl, rfl, rfl, rfl, rfl, rfl, rfl, rfl, rfl, rfl, rfl, rfl, rfl, rfl, rfl, (Ex.trans hf745 hE910), (loopM.cont hlt747 hB937).symm.trans hI724⟩
      ·refine CW.seq (CW.seq (CW.region (sd rfl (yl_move rfl rfl (sd rfl (yl_move rfl rfl (sd rfl (yl_slen un9 (a := p_more) rfl rfl (sd rfl (yl_lss rfl rfl rfl (dn ?_)))))))))))
       refine CW.cond_f rfl (lt_f hlt747) (CW.exit (tx (tx ?_)))
       have hL939 : loopM (B_s_l3Bytes_1 p_s p_more k5) (p_more.length - 0) 0 (decide (((p_s.getD k5 0).toNat : Int) ≤ 57)) = .done (x716) := hI724.symm.trans (loopM.stop hlt747)
       refine bx (tn (CW.seq (CW.region (sd rfl (yl_move rfl rfl (sd rfl (yl_not rfl rfl (dn (bcase (x716) (fun hb940 => ?_) (fun hb940 => ?_))))))))))
       ·refine CW.cond_f rfl (not_t hb940) (CW.skip (bn (tn (CW.region (sd rfl (yl_move rfl rfl (sd rfl (yl_inc rfl rfl rfl (by omega) (sd rfl (yl_assign rfl rfl (SeqR.done ?_)))))))))))
        refine tn ?_
        have hB941 : B_s_l3Bytes_0 p_s p_more k5 () = .cont () := by simp only [B_s_l3Bytes_0, hb21, hb714, hb940, hL939, cL]
        exact ⟨p_s.length - (k5 + 1), by omega, k5 + 1, rfl, hlt20, (by omega), rfl, rfl, rfl, hf745, (loopM.cont hlt20 hB941).symm.trans hI13⟩
       ·refine CW.cond_t rfl (not_f hb940) (CW.seq (CW.region (sd rfl (yl_assign rfl rfl (dn (CW.ret (br (tr ?_))))))))
        refine tr ?_
        have hB943 : B_s_l3Bytes_0 p_s p_more k5 () = .ret false := by simp only [B_s_l3Bytes_0, hb21, hb714, hb940, hL939, cL]
        have hL942 : loopM (B_s_l3Bytes_0 p_s p_more) (p_s.length - 0) 0 () = .ret false := hI13.symm.trans (loopM.ret hlt20 hB943)
        refine br (tr (rr rfl (.cons rfl .nil) ?_))
        have hM944 : (s_l3Bytes p_s p_more) = (false) := by simp only [s_l3Bytes, hb21, hb714, hb940, hL939, hL942, cL]
        rw [hM944]
        exact ⟨rfl, hf745⟩
    ·have hb714p := dec_f hb714
     refine sz rfl rfl hb714 (sz rfl rfl hb714 (sz rfl rfl hb714 (sz rfl rfl hb714 (sy rfl rfl rfl (yl_pick_f rfl rfl hb714 rfl (sd rfl (yl_pick_f rfl rfl rfl rfl (sd rfl (yl_assign rfl rfl (dn ?_))))))))))
     refine CW.seq (CW.seq (CW.region (sd rfl (yl_assign rfl rfl (dn (CW.block (CW.loop (fun m947 L948 w949 => ∃ (k945 : Nat) (x946 : Bool), m947 = p_more.length - k945 ∧ k945 ≤ p_more.length ∧ w11.heap.size ≤ w949.heap.size ∧ lkp L948 0 = some (.string (bs (p_s))) ∧ lkp L948 1 = some (.string (bs (p_more))) ∧ lkp L948 5 = some (.int .i64 ((k5 : Int))) ∧ lkp L948 6 = some (.bool (x946)) ∧ lkp L948 7 = some (.int .i64 ((k945 : Int))) ∧ lkp L948 19 = some (undef) ∧ lkp L948 20 = some (undef) ∧ lkp L948 21 = some (undef) ∧ lkp L948 22 = some (undef) ∧ lkp L948 25 = some (.string (bs (p_s))) ∧ lkp L948 26 = some (.int .i64 ((k5 : Int))) ∧ lkp L948 27 = some (.int .u8 (((p_s.getD k5 0).toNat : Int))) ∧ lkp L948 28 = some (.bool (decide (48 ≤ ((p_s.getD k5 0).toNat : Int)))) ∧ lkp L948 29 = some (.bool (decide (48 ≤ ((p_s.getD k5 0).toNat : Int)))) ∧ lkp L948 30 = some (undef) ∧ lkp L948 31 = some (undef) ∧ lkp L948 32 = some (undef) ∧ lkp L948 33 = some (undef) ∧ lkp L948 34 = some (.bool (false)) ∧ Ex w w949 ∧ loopM (B_s_l3Bytes_1 p_s p_more k5) (p_more.length - k945) k945 (x946) = loopM (B_s_l3Bytes_1 p_s p_more k5) (p_more.length - 0) 0 (false)) (p_more.length - 0) ?_ ?_)))))))
     ·exact ⟨0, false, rfl, (by omega), Nat.le_refl _, rfl, rfl, rfl, rfl, rfl, rfl, rfl, rfl, rfl, rfl, rfl, rfl, rfl, rfl, rfl, rfl, rfl, rfl, rfl, hf18, rfl⟩
     ·rintro m950 L951 w952 ⟨k945, x946, rfl, hk953, hsz955, hl956, hl957, hl958, hl959, hl960, hl961, hl962, hl963, hl964, hl965, hl966, hl967, hl968, hl969, hl970, hl971, hl972, hl973, hl974, hf975, hI954⟩
      refine CW.sub (Sub.cons hl956 (Sub.cons hl957 (Sub.cons hl958 (Sub.cons hl959 (Sub.cons hl960 (Sub.cons hl961 (Sub.cons hl962 (Sub.cons hl963 (Sub.cons hl964 (Sub.cons hl965 (Sub.cons hl966 (Sub.cons hl967 (Sub.cons hl968 (Sub.cons hl969 (Sub.cons hl970 (Sub.cons hl971 (Sub.cons hl972 (Sub.cons hl973 (Sub.cons hl974 (Sub.nil _)))))))))))))))))))) ?_
      have hf975z := Ex.size hf975
      have hbg976 : p_more.length ≤ 1073741824 := o2
      rcases Nat.lt_or_ge k945 p_more.length with hlt977 | hlt977
      ·refine CW.seq (CW.seq (CW.region (sd rfl (yl_move rfl rfl (sd rfl (yl_move rfl rfl (sd rfl (yl_slen un9 (a := p_more) rfl rfl (sd rfl (yl_lss rfl rfl rfl (dn ?_)))))))))))
       refine CW.cond_t rfl (lt_t hlt977) (CW.skip (tn (CW.seq (CW.block (bcase (x946) (fun hb978 => ?_) (fun hb978 => ?_))))))
       ·refine CW.drawsI 11 (vgetI ([.bool (x946), .bool (x946), undef, undef, undef, undef, undef, undef, undef, .bool (true), .bool (true)].map DetI)) Tryd.follows rfl rfl rfl rfl rfl rfl (vgetI_stable (stD _)) ⟨?_, ?_, ?_, ?_, ?_, ?_, ?_, ?_, ?_, ?_, ?_, trivial⟩ ?_
        ·exact oI rfl fun h => yl_move rfl (h.old 6 _ rfl rfl) kI
        ·exact oI rfl fun h => yl_move rfl (h.dt 0 42 rfl rfl rfl) kI
        ·exact oS rfl rfl rfl rfl rfl hb978
        ·exact oS rfl rfl rfl rfl rfl hb978
        ·exact oS rfl rfl rfl rfl rfl hb978
        ·exact oS rfl rfl rfl rfl rfl hb978
        ·exact oS rfl rfl rfl rfl rfl hb978
        ·exact oS rfl rfl rfl rfl rfl hb978
        ·exact oS rfl rfl rfl rfl rfl hb978
        ·exact oI rfl fun h => yl_pick_t rfl (h.dt 1 43 rfl rfl rfl) hb978 rfl kI
        ·exact oI rfl fun h => yl_assign rfl (h.dt 9 51 rfl rfl rfl) kI
        ·intro fl1038 fh1039 L1035 w1036 hp1037
         have hE1040 := hp1037.ex
         have hE1040z := Ex.size hE1040
         refine SeqR.done (bn (tn (CW.sub (Sub.cons (d := 0) (hp1037.old 0 _ rfl rfl) (Sub.cons (d := 1) (hp1037.old 1 _ rfl rfl) (Sub.cons (d := 5) (hp1037.old 5 _ rfl rfl) (Sub.cons (d := 6) (hp1037.nt 10 6 rfl rfl rfl) (Sub.cons (d := 7) (hp1037.old 7 _ rfl rfl) (Sub.cons (d := 19) (hp1037.old 19 _ rfl rfl) (Sub.cons (d := 20) (hp1037.old 20 _ rfl rfl) (Sub.cons (d := 21) (hp1037.old 21 _ rfl rfl) (Sub.cons (d := 22) (hp1037.old 22 _ rfl rfl) (Sub.cons (d := 25) (hp1037.old 25 _ rfl rfl) (Sub.cons (d := 26) (hp1037.old 26 _ rfl rfl) (Sub.cons (d := 27) (hp1037.old 27 _ rfl rfl) (Sub.cons (d := 28) (hp1037.old 28 _ rfl rfl) (Sub.cons (d := 29) (hp1037.old 29 _ rfl rfl) (Sub.cons (d := 30) (hp1037.old 30 _ rfl rfl) (Sub.cons (d := 31) (hp1037.old 31 _ rfl rfl) (Sub.cons (d := 32) (hp1037.old 32 _ rfl rfl) (Sub.cons (d := 33) (hp1037.old 33 _ rfl rfl) (Sub.cons (d := 34) (hp1037.old 34 _ rfl rfl) (Sub.cons (d := 44) (hp1037.nt 2 44 rfl rfl rfl) (Sub.cons (d := 45) (hp1037.nt 3 45 rfl rfl rfl) (Sub.cons (d := 46) (hp1037.nt 4 46 rfl rfl rfl) (Sub.cons (d := 47) (hp1037.nt 5 47 rfl rfl rfl) (Sub.cons (d := 48) (hp1037.nt 6 48 rfl rfl rfl) (Sub.cons (d := 49) (hp1037.nt 7 49 rfl rfl rfl) (Sub.cons (d := 50) (hp1037.nt 8 50 rfl rfl rfl) (Sub.nil _))))))))))))))))))))))))))) (CW.region (sd rfl (yl_move rfl rfl (sd rfl (yl_inc rfl rfl rfl (by omega) (sd rfl (yl_assign rfl rfl (SeqR.done ?_)))))))))))
         refine tn ?_
         have hB1067 : B_s_l3Bytes_1 p_s p_more k5 k945 (x946) = .cont (true) := by simp only [B_s_l3Bytes_1, hb21, hb714, hb978, cL]
         exact ⟨p_more.length - (k945 + 1), by omega, k945 + 1, true, rfl, hlt977, (by omega), rfl, rfl, rfl, rfl, rfl, rfl, rfl, rfl, rfl, rfl, rfl, rfl, rfl, rfl, rfl, rfl, rfl, rfl, rfl, (Ex.trans hf975 hE1040), (loopM.cont hlt977 hB1067).symm.trans hI954⟩
       ·refine CW.drawsI 11 (vgetI ([.bool (x946), .bool (x946), .string (bs (p_s)), .int .i64 ((k5 : Int)), .int .u8 (((p_s.getD k5 0).toNat : Int)), .string (bs (p_more)), .int .i64 ((k945 : Int)), .int .u8 (((p_more.getD k945 0).toNat : Int)), .bool (decide (((p_s.getD k5 0).toNat : Int) = ((p_more.getD k945 0).toNat : Int))), .bool (decide (((p_s.getD k5 0).toNat : Int) = ((p_more.getD k945 0).toNat : Int))), .bool (decide (((p_s.getD k5 0).toNat : Int) = ((p_more.getD k945 0).toNat : Int)))].map DetI)) Tryd.follows rfl rfl rfl rfl rfl rfl (vgetI_stable (stD _)) ⟨?_, ?_, ?_, ?_, ?_, ?_, ?_, ?_, ?_, ?_, ?_, trivial⟩ ?_
        ·exact oI rfl fun h => yl_move rfl (h.old 6 _ rfl rfl) kI
        ·exact oI rfl fun h => yl_move rfl (h.dt 0 42 rfl rfl rfl) kI
        ·exact oW rfl rfl rfl rfl hb978 fun h => yl_move rfl (h.old 0 _ rfl rfl) kI
        ·exact oW rfl rfl rfl rfl hb978 fun h => yl_move rfl (h.old 5 _ rfl rfl) kI
        ·intro L1091 w1092 hi1093
         have hE1094 := hi1093.ex
         have hE1094z := Ex.size hE1094
         exact OpR.want rfl rfl (hi1093.dt 1 43 rfl rfl rfl) hb978 (Yl.sameI (yl_sindexN un9 (a := p_s) rfl (hi1093.dt 2 44 rfl rfl rfl) (hi1093.dt 3 45 rfl rfl rfl) (by first | omega | assumption | (simp only [wI] at *; omega)) kI))
        ·exact oW rfl rfl rfl rfl hb978 fun h => yl_move rfl (h.old 1 _ rfl rfl) kI
        ·exact oW rfl rfl rfl rfl hb978 fun h => yl_move rfl (h.old 7 _ rfl rfl) kI
        ·intro L1110 w1111 hi1112
         have hE1113 := hi1112.ex
         have hE1113z := Ex.size hE1113
         exact OpR.want rfl rfl (hi1112.dt 1 43 rfl rfl rfl) hb978 (Yl.sameI (yl_sindexN un9 (a := p_more) rfl (hi1112.dt 5 47 rfl rfl rfl) (hi1112.dt 6 48 rfl rfl rfl) (by first | omega | assumption | (simp only [wI] at *; omega)) kI))
        ·exact oW rfl rfl rfl rfl hb978 fun h => yl_eql rfl (h.dt 4 46 rfl rfl rfl) (h.dt 7 49 rfl rfl rfl) kI
        ·exact oI rfl fun h => yl_pick_f rfl (h.dt 1 43 rfl rfl rfl) hb978 (h.dt 8 50 rfl rfl rfl) kI
        ·exact oI rfl fun h => yl_assign rfl (h.dt 9 51 rfl rfl rfl) kI
        ·intro fl1138 fh1139 L1135 w1136 hp1137
         have hE1140 := hp1137.ex
         have hE1140z := Ex.size hE1140
         refine SeqR.done (bn (tn (CW.sub (Sub.cons (d := 0) (hp1137.old 0 _ rfl rfl) (Sub.cons (d := 1) (hp1137.old 1 _ rfl rfl) (Sub.cons (d := 5) (hp1137.old 5 _ rfl rfl) (Sub.cons (d := 6) (hp1137.nt 10 6 rfl rfl rfl) (Sub.cons (d := 7) (hp1137.old 7 _ rfl rfl) (Sub.cons (d := 19) (hp1137.old 19 _ rfl rfl) (Sub.cons (d := 20) (hp1137.old 20 _ rfl rfl) (Sub.cons (d := 21) (hp1137.old 21 _ rfl rfl) (Sub.cons (d := 22) (hp1137.old 22 _ rfl rfl) (Sub.cons (d := 25) (hp1137.old 25 _ rfl rfl) (Sub.cons (d := 26) (hp1137.old 26 _ rfl rfl) (Sub.cons (d := 27) (hp1137.old 27 _ rfl rfl) (Sub.cons (d := 28) (hp1137.old 28 _ rfl rfl) (Sub.cons (d := 29) (hp1137.old 29 _ rfl rfl) (Sub.cons (d := 30) (hp1137.old 30 _ rfl rfl) (Sub.cons (d := 31) (hp1137.old 31 _ rfl rfl) (Sub.cons (d := 32) (hp1137.old 32 _ rfl rfl) (Sub.cons (d := 33) (hp1137.old 33 _ rfl rfl) (Sub.cons (d := 34) (hp1137.old 34 _ rfl rfl) (Sub.cons (d := 44) (hp1137.nt 2 44 rfl rfl rfl) (Sub.cons (d := 45) (hp1137.nt 3 45 rfl rfl rfl) (Sub.cons (d := 46) (hp1137.nt 4 46 rfl rfl rfl) (Sub.cons (d := 47) (hp1137.nt 5 47 rfl rfl rfl) (Sub.cons (d := 48) (hp1137.nt 6 48 rfl rfl rfl) (Sub.cons (d := 49) (hp1137.nt 7 49 rfl rfl rfl) (Sub.cons (d := 50) (hp1137.nt 8 50 rfl rfl rfl) (Sub.nil _))))))))))))))))))))))))))) (CW.region (sd rfl (yl_move rfl rfl (sd rfl (yl_inc rfl rfl rfl (by omega) (sd rfl (yl_assign rfl rfl (SeqR.done ?_)))))))))))
         refine tn ?_
         have hB1167 : B_s_l3Bytes_1 p_s p_more k5 k945 (x946) = .cont (decide (((p_s.getD k5 0).toNat : Int) = ((p_more.getD k945 0).toNat : Int))) := by simp only [B_s_l3Bytes_1, hb21, hb714, hb978, cL]
         exact ⟨p_more.length - (k945 + 1), by omega, k945 + 1, decide (((p_s.getD k5 0).toNat : Int) = ((p_more.getD k945 0).toNat : Int)), rfl, hlt977, (by omega), rfl, rfl, rfl, rfl, rfl, rfl, rfl, rfl, rfl, rfl, rfl, rfl, rfl, rfl, rfl, rfl, rfl, rfl, rfl, (Ex.trans hf975 hE1140), (loopM.cont hlt977 hB1167).symm.trans hI954⟩
      ·refine CW.seq (CW.seq (CW.region (sd rfl (yl_move rfl rfl (sd rfl (yl_move rfl rfl (sd rfl (yl_slen un9 (a := p_more) rfl rfl (sd rfl (yl_lss rfl rfl rfl (dn ?_)))))))))))
       refine CW.cond_f rfl (lt_f hlt977) (CW.exit (tx (tx ?_)))
       have hL1169 : loopM (B_s_l3Bytes_1 p_s p_more k5) (p_more.length - 0) 0 (false) = .done (x946) := hI954.symm.trans (loopM.stop hlt977)
       refine bx (tn (CW.seq (CW.region (sd rfl (yl_move rfl rfl (sd rfl (yl_not rfl rfl (dn (bcase (x946) (fun hb1170 => ?_) (fun hb1170 => ?_))))))))))
       ·refine CW.cond_f rfl (not_t hb1170) (CW.skip (bn (tn (CW.region (sd rfl (yl_move rfl rfl (sd rfl (yl_inc rfl rfl rfl (by omega) (sd rfl (yl_assign rfl rfl (SeqR.done ?_)))))))))))
        refine tn ?_
        have hB1171 : B_s_l3Bytes_0 p_s p_more k5 () = .cont () := by simp only [B_s_l3Bytes_0, hb21, hb714, hb1170, hL1169, cL]
        exact ⟨p_s.length - (k5 + 1), by omega, k5 + 1, rfl, hlt20, (by omega), rfl, rfl, rfl, hf975, (loopM.cont hlt20 hB1171).symm.trans hI13⟩
       ·refine CW.cond_t rfl (not_f hb1170) (CW.seq (CW.region (sd rfl (yl_assign rfl rfl (dn (CW.ret (br (tr ?_))))))))
        refine tr ?_
        have hB1173 : B_s_l3Bytes_0 p_s p_more k5 () = .ret false := by simp only [B_s_l3Bytes_0, hb21, hb714, hb1170, hL1169, cL]
        have hL1172 : loopM (B_s_l3Bytes_0 p_s p_more) (p_s.length - 0) 0 () = .ret false := hI13.symm.trans (loopM.ret hlt20 hB1173)
        refine br (tr (rr rfl (.cons rfl .nil) ?_))
        have hM1174 : (s_l3Bytes p_s p_more) = (false) := by simp only [s_l3Bytes, hb21, hb714, hb1170, hL1169, hL1172, cL]
        rw [hM1174]
        exact ⟨rfl, hf975⟩
  ·refine CW.seq (CW.seq (CW.region (sd rfl (yl_move rfl rfl (sd rfl (yl_move rfl rfl (sd rfl (yl_slen un9 (a := p_s) rfl rfl (sd rfl (yl_lss rfl rfl rfl (dn ?_)))))))))))
   refine CW.cond_f rfl (lt_f hlt20) (CW.exit (tx (tx ?_)))
   have hL1175 : loopM (B_s_l3Bytes_0 p_s p_more) (p_s.length - 0) 0 () = .done () := hI13.symm.trans (loopM.stop hlt20)
   refine bx (tn (CW.seq (CW.region (sd rfl (yl_assign rfl rfl (dn (CW.ret (rr rfl (.cons rfl .nil) ?_))))))))
   have hM1176 : (s_l3Bytes p_s p_more) = (true) := by simp only [s_l3Bytes, hL1175, cL]
   rw [hM1176]
   exact ⟨rfl, hf18⟩
theorem c_s_l25Field {w : World} (p_s : Str) (o1 : okS p_s) : Cal Tryd.prog 46 #[.string (bs (p_s))] w fun v w' => v = .bool ((s_l25Field p_s)) ∧ Ex w w' := by
 refine Cal.of func46 rfl ntmps46 rfl (CW.seq (CW.region (sd rfl (yl_assign rfl rfl (dn (CW.seq (CW.region (sd rfl (yl_move rfl rfl ?_)))))))))
 refine sd rfl (yl_slen un9 (a := p_s) rfl rfl (sd rfl (yl_call en63 rfl (oc rfl (oc rfl (oc rfl oz))) (Cal.mono (c_s_l1In (p_s.length : Int) 1 3) ?_))))
 rintro v4 w3 ⟨rfl, hE5⟩
 refine sd rfl (yl_move rfl rfl (bcase (s_l1In (p_s.length : Int) 1 3) (fun hb6 => ?_) (fun hb6 => ?_)))
 ·have hb6p := f_l1In hb6
  refine sy rfl rfl hb6 (yl_move rfl rfl (sy rfl rfl hb6 (yl_call en66 rfl (oc rfl (oc rfl oz)) (Cal.mono (c_s_l3Bytes p_s ([] : Str) o1 (okS.lit rfl)) ?_))))
  rintro v8 w7 ⟨rfl, hE9⟩
  refine sd rfl (yl_pick_t rfl rfl hb6 rfl (sd rfl (yl_assign rfl rfl (dn (CW.ret (rr rfl (.cons rfl .nil) ?_))))))
  have hM10 : (s_l25Field p_s) = ((s_l3Bytes p_s ([] : Str))) := by simp only [s_l25Field, hb6, cL]
  rw [hM10]
  exact ⟨rfl, (Ex.trans (Ex.trans (Ex.refl w) hE5) hE9)⟩
 ·refine sz rfl rfl hb6 (sz rfl rfl hb6 (sd rfl (yl_pick_f rfl rfl hb6 rfl (sd rfl (yl_assign rfl rfl (dn (CW.ret (rr rfl (.cons rfl .nil) ?_))))))))
  have hM13 : (s_l25Field p_s) = (false) := by simp only [s_l25Field, hb6, cL]
  rw [hM13]
  exact ⟨rfl, (Ex.trans (Ex.refl w) hE5)⟩
theorem c_s_l25Good {A1 : Option Addr} {c1 : Nat} {A2 : Option Addr} {c2 : Nat} {A4 : Option Addr} {c4 : Nat} {w : World} (p_t : DTable) (p_r : DRow) (h1 : RdS w (Iv 0 w.heap.size) (RF e_Str) 1 A1 p_t.Cols.length c1 p_t.Cols) (h2 : RdS w (Iv 0 w.heap.size) (RF e_Idx) 3 A2 p_t.Idxs.length c2 p_t.Idxs) (h4 : RdS w (Iv 0 w.heap.size) (RF e_Str) 1 A4 p_r.Vals.length c4 p_r.Vals) (o3 : ok_Table p_t) (o5 : ok_Row p_r) : Cal Tryd.prog 23 #[.agg #[.string (bs (p_t.Name)), .slice A1 p_t.Cols.length c1, .slice A2 p_t.Idxs.length c2], .agg #[.slice A4 p_r.Vals.length c4]] w fun v w' => v = .bool ((s_l25Good p_t p_r)) ∧ Ex w w' := by
 have hol6 : p_t.Name.length ≤ 1073741824 := o3.1
 have hol7 := o3.2.1.1
 have hol8 := o3.2.2.1
 have hol9 := o5.1
 refine Cal.of func23 rfl ntmps23 rfl (CW.seq (CW.region (sd rfl (yl_box rfl rfl rfl ?_))))
 intro b10 w11 hs12 hz13 hB14 hE15
 refine sd rfl (yl_box rfl rfl rfl ?_)
 intro b16 w17 hs18 hz19 hB20 hE21
 refine sd rfl (yl_assign rfl rfl (dn (CW.seq (CW.seq (CW.region (sd rfl (yl_fieldAddr fd28_0 rfl rfl (sd rfl (yl_load1 ty23 rfl rfl ((hB20.cell 0).trans rfl) (sd rfl (yl_len un23 rfl rfl ?_)))))))))))
 refine sd rfl (yl_move rfl rfl (dn (CW.block (CW.loop (fun m23 L24 w25 => ∃ (k22 : Nat), m23 = p_r.Vals.length - k22 ∧ k22 ≤ p_r.Vals.length ∧ w17.heap.size ≤ w25.heap.size ∧ lkp L24 2 = some (.pointer (some ⟨b10, 0, none⟩)) ∧ lkp L24 3 = some (.pointer (some ⟨b16, 0, none⟩)) ∧ lkp L24 8 = some (.slice A4 p_r.Vals.length c4) ∧ lkp L24 9 = some (.int .i64 ((p_r.Vals.length : Int))) ∧ lkp L24 10 = some (.int .i64 ((k22 : Int))) ∧ Box w25 b10 26 [.string (bs (p_t.Name)), .slice A1 p_t.Cols.length c1, .slice A2 p_t.Idxs.length c2] ∧ RdS w25 (Iv 0 w.heap.size) (RF e_Str) 1 A1 p_t.Cols.length c1 p_t.Cols ∧ RdS w25 (Iv 0 w.heap.size) (RF e_Idx) 3 A2 p_t.Idxs.length c2 p_t.Idxs ∧ Box w25 b16 28 [.slice A4 p_r.Vals.length c4] ∧ RdS w25 (Iv 0 w.heap.size) (RF e_Str) 1 A4 p_r.Vals.length c4 p_r.Vals ∧ Ex w w25 ∧ loopM (B_s_l25Good_0 p_t p_r) (p_r.Vals.length - k22) k22 () = loopM (B_s_l25Good_0 p_t p_r) (p_r.Vals.length - 0) 0 ()) (p_r.Vals.length - 0) ?_ ?_))))
 ·exact ⟨0, rfl, (by omega), Nat.le_refl _, rfl, rfl, rfl, rfl, rfl, (Box.ex hB14 hE21), (RdS.ex good_Str (RdS.ex good_Str h1 hE15) hE21), (RdS.ex good_Idx (RdS.ex good_Idx h2 hE15) hE21), hB20, (RdS.ex good_Str (RdS.ex good_Str h4 hE15) hE21), (Ex.trans (Ex.trans (Ex.refl w) hE15) hE21), rfl⟩
 ·rintro m35 L36 w37 ⟨k22, rfl, hk38, hsz40, hl41, hl42, hl43, hl44, hl45, hf46, hf47, hf48, hf49, hf50, hf51, hI39⟩
  refine CW.sub (Sub.cons hl41 (Sub.cons hl42 (Sub.cons hl43 (Sub.cons hl44 (Sub.cons hl45 (Sub.nil _)))))) ?_
  have hf46z := Box.lt hf46
  have hf49z := Box.lt hf49
  have hf51z := Ex.size hf51
  have hbg52 := RdS.big hf50
  rcases Nat.lt_or_ge k22 p_r.Vals.length with hlt53 | hlt53
  ·refine CW.seq (CW.region (sd rfl (yl_lss rfl rfl rfl (dn (CW.seq (CW.cond_t rfl (lt_t hlt53) (CW.skip (tn ?_))))))))
   refine CW.seq (CW.block (CW.seq (CW.region ?_)))
   obtain ⟨eb54, eo54, _, eA54, _, ebl54, _, eR54, eC54⟩ := RdS.aD hf50 d_Str (i := k22)
   obtain rfl := eR54
   have eC54 : Cells w37 eb54 (eo54 + k22 * 1) [.string (bs ((p_r.Vals.getD k22 d_Str)))] := eC54
   refine sd rfl (yl_ixN un23 ty9 rfl rfl rfl eA54 (sd rfl (yl_load1 ty9 rfl rfl (eC54 0 _ rfl) (sd rfl (yl_assign rfl rfl (dn (CW.seq (CW.region (sd rfl (yl_move rfl rfl (sd rfl (yl_call en46 rfl (oc rfl oz) (Cal.mono (c_s_l25Field (p_r.Vals.getD k22 d_Str) (okL.getD o5 ok_d_Str _)) ?_)))))))))))))
   rintro v56 w55 ⟨rfl, hE57⟩
   have hE57z := Ex.size hE57
   refine sd rfl (yl_not rfl rfl (dn (bcase (s_l25Field (p_r.Vals.getD k22 d_Str)) (fun hb58 => ?_) (fun hb58 => ?_))))
   ·refine CW.cond_f rfl (not_t hb58) (CW.skip (bn (tn (CW.region (sd rfl (yl_inc rfl rfl rfl (by omega) (sd rfl (yl_move rfl rfl (dn ?_)))))))))
    have hB59 : B_s_l25Good_0 p_t p_r k22 () = .cont () := by simp only [B_s_l25Good_0, hb58, cL]
    exact ⟨p_r.Vals.length - (k22 + 1), by omega, k22 + 1, rfl, hlt53, (by omega), rfl, rfl, rfl, rfl, rfl, (Box.ex hf46 hE57), (RdS.ex good_Str hf47 hE57), (RdS.ex good_Idx hf48 hE57), (Box.ex hf49 hE57), (RdS.ex good_Str hf50 hE57), (Ex.trans hf51 hE57), (loopM.cont hlt53 hB59).symm.trans hI39⟩
   ·refine CW.cond_t rfl (not_f hb58) (CW.seq (CW.region (sd rfl (yl_assign rfl rfl (dn (CW.ret (br (tr ?_))))))))
    refine tr ?_
    have hB67 : B_s_l25Good_0 p_t p_r k22 () = .ret false := by simp only [B_s_l25Good_0, hb58, cL]
    have hL66 : loopM (B_s_l25Good_0 p_t p_r) (p_r.Vals.length - 0) 0 () = .ret false := hI39.symm.trans (loopM.ret hlt53 hB67)
    refine br (tr (rr rfl (.cons rfl .nil) ?_))
    have hM68 : (s_l25Good p_t p_r) = (false) := by simp only [s_l25Good, hb58, hL66, cL]
    rw [hM68]
    exact ⟨rfl, (Ex.trans hf51 hE57)⟩
  ·refine CW.seq (CW.region (sd rfl (yl_lss rfl rfl rfl (dn (CW.seq (CW.cond_f rfl (lt_f hlt53) (CW.exit (tx ?_))))))))
   refine tx ?_
   have hL70 : loopM (B_s_l25Good_0 p_t p_r) (p_r.Vals.length - 0) 0 () = .done () := hI39.symm.trans (loopM.stop hlt53)
   refine bx (tn (CW.seq (CW.region (sd rfl (yl_fieldAddr fd28_0 rfl rfl (sd rfl (yl_load1 ty23 rfl rfl ((hf49.cell 0).trans rfl) (sd rfl (yl_len un23 rfl rfl (sd rfl (yl_fieldAddr fd26_1 rfl rfl (sd rfl (yl_load1 ty23 rfl rfl ((hf46.cell 1).trans rfl) ?_)))))))))))))
   refine sd rfl (yl_len un23 rfl rfl (sd rfl (yl_eql rfl rfl rfl (sd rfl (yl_assign rfl rfl (dn (CW.ret (rr rfl (.cons rfl .nil) ?_))))))))
   have hM71 : (s_l25Good p_t p_r) = (decide ((p_r.Vals.length : Int) = (p_t.Cols.length : Int))) := by simp only [s_l25Good, hL70, cL]
   rw [hM71]
   exact ⟨rfl, hf51⟩
theorem c_s_l25Entry {A1 : Option Addr} {c1 : Nat} {A2 : Option Addr} {c2 : Nat} {A5 : Option Addr} {c5 : Nat} {w : World} (p_t : DTable) (p_x : DIdx) (p_r : DRow) (h1 : RdS w (Iv 0 w.heap.size) (RF e_Str) 1 A1 p_t.Cols.length c1 p_t.Cols) (h2 : RdS w (Iv 0 w.heap.size) (RF e_Idx) 3 A2 p_t.Idxs.length c2 p_t.Idxs) (h5 : RdS w (Iv 0 w.heap.size) (RF e_Str) 1 A5 p_r.Vals.length c5 p_r.Vals) (o3 : ok_Table p_t) (o4 : ok_Idx p_x) (o6 : ok_Row p_r) (pre0 : (0 ≤ p_x.Col ∧ p_x.Col < (p_r.Vals.length : Int))) (pre1 : (p_t.Name.length ≤ 1 ∧ p_x.Name.length ≤ 1)) (pre2 : rowShort p_r) : Cal Tryd.prog 24 #[.agg #[.string (bs (p_t.Name)), .slice A1 p_t.Cols.length c1, .slice A2 p_t.Idxs.length c2], .agg #[.string (bs (p_x.Name)), .int .i64 (p_x.Col), .int .i64 (p_x.Stage)], .agg #[.slice A5 p_r.Vals.length c5]] w fun v w' => v = .string (bs ((s_l25Entry p_t p_x p_r))) ∧ okS (s_l25Entry p_t p_x p_r) ∧ Ex w w' := by
 have hol7 : p_t.Name.length ≤ 1073741824 := o3.1
 have hol8 := o3.2.1.1
 have hol9 := o3.2.2.1
 have hol10 : p_x.Name.length ≤ 1073741824 := o4
 have hol11 := o6.1
 refine Cal.of func24 rfl ntmps24 rfl (CW.seq (CW.region (sd rfl (yl_box rfl rfl rfl ?_))))
 intro b12 w13 hs14 hz15 hB16 hE17
 refine sd rfl (yl_box rfl rfl rfl ?_)
 intro b18 w19 hs20 hz21 hB22 hE23
 refine sd rfl (yl_box rfl rfl rfl ?_)
 intro b24 w25 hs26 hz27 hB28 hE29
 refine sd rfl (yl_assign rfl rfl (dn (CW.seq ?_)))
 have hol32 : p_t.Name.length ≤ 1073741824 := o3.1
 have q33 := Box.ex hB22 hE29
 have hol34 : p_t.Name.length ≤ 1073741824 := o3.1
 have hol35 : p_x.Name.length ≤ 1073741824 := o4
 have hol36 : p_t.Name.length ≤ 1073741824 := o3.1
 have hol37 : p_x.Name.length ≤ 1073741824 := o4
 have q40 := RdS.ex good_Str (RdS.ex good_Str (RdS.ex good_Str h5 hE17) hE23) hE29
 obtain ⟨eb41, eo41, _, eA41, _, ebl41, _, eR41, eC41⟩ := RdS.atD q40 d_Str (i := (p_x.Col).toNat) (by first | omega | assumption | (simp only [wI] at *; omega))
 obtain rfl := eR41
 have eC41 : Cells w25 eb41 (eo41 + ((p_x.Col).toNat) * 1) [.string (bs ((p_r.Vals.getD ((p_x.Col).toNat) d_Str)))] := eC41
 have hol42 : p_t.Name.length ≤ 1073741824 := o3.1
 have hol43 : p_x.Name.length ≤ 1073741824 := o4
 have hol44 : (p_r.Vals.getD ((p_x.Col).toNat) d_Str).length ≤ 1073741824 := (okL.getD o6 ok_d_Str _)
 have hol45 : p_t.Name.length ≤ 1073741824 := o3.1
 have hol46 : p_x.Name.length ≤ 1073741824 := o4
 have hol47 : (p_r.Vals.getD ((p_x.Col).toNat) d_Str).length ≤ 1073741824 := (okL.getD o6 ok_d_Str _)
 obtain ⟨eb48, eo48, _, eA48, _, ebl48, _, eR48, eC48⟩ := RdS.aD q40 d_Str (i := 0)
 obtain rfl := eR48
 have eC48 : Cells w25 eb48 (eo48 + 0 * 1) [.string (bs ((p_r.Vals.getD 0 d_Str)))] := eC48
 have hol49 : p_t.Name.length ≤ 1073741824 := o3.1
 have hol50 : p_x.Name.length ≤ 1073741824 := o4
 have hol51 : (p_r.Vals.getD ((p_x.Col).toNat) d_Str).length ≤ 1073741824 := (okL.getD o6 ok_d_Str _)
 have hol52 : (p_r.Vals.getD 0 d_Str).length ≤ 1073741824 := (okL.getD o6 ok_d_Str _)
 refine CW.drawsI 21 (vgetI ([.pointer (some ⟨b12, 0 + 0, none⟩), .string (bs (p_t.Name)), .string (bs (p_t.Name ++ ([46] : Str))), .pointer (some ⟨b18, 0 + 0, none⟩), .string (bs (p_x.Name)), .string (bs ((p_t.Name ++ ([46] : Str)) ++ p_x.Name)), .string (bs (((p_t.Name ++ ([46] : Str)) ++ p_x.Name) ++ ([47] : Str))), .pointer (some ⟨b24, 0 + 0, none⟩), .slice A5 p_r.Vals.length c5, .pointer (some ⟨b18, 0 + 1, none⟩), .int .i64 (p_x.Col), .pointer (some ⟨eb41, eo41 + ((p_x.Col).toNat) * 1, none⟩), .string (bs ((p_r.Vals.getD ((p_x.Col).toNat) d_Str))), .string (bs ((((p_t.Name ++ ([46] : Str)) ++ p_x.Name) ++ ([47] : Str)) ++ (p_r.Vals.getD ((p_x.Col).toNat) d_Str))), .string (bs (((((p_t.Name ++ ([46] : Str)) ++ p_x.Name) ++ ([47] : Str)) ++ (p_r.Vals.getD ((p_x.Col).toNat) d_Str)) ++ ([47] : Str))), .pointer (some ⟨b24, 0 + 0, none⟩), .slice A5 p_r.Vals.length c5, .pointer (some ⟨eb48, eo48 + 0 * 1, none⟩), .string (bs ((p_r.Vals.getD 0 d_Str))), .string (bs ((((((p_t.Name ++ ([46] : Str)) ++ p_x.Name) ++ ([47] : Str)) ++ (p_r.Vals.getD ((p_x.Col).toNat) d_Str)) ++ ([47] : Str)) ++ (p_r.Vals.getD 0 d_Str))), .string (bs ((((((p_t.Name ++ ([46] : Str)) ++ p_x.Name) ++ ([47] : Str)) ++ (p_r.Vals.getD ((p_x.Col).toNat) d_Str)) ++ ([47] : Str)) ++ (p_r.Vals.getD 0 d_Str)))].map DetI)) Tryd.follows rfl rfl rfl rfl rfl rfl (vgetI_stable (stD _)) ⟨?_, ?_, ?_, ?_, ?_, ?_, ?_, ?_, ?_, ?_, ?_, ?_, ?_, ?_, ?_, ?_, ?_, ?_, ?_, ?_, ?_, trivial⟩ ?_
 ·exact oI rfl fun h => yl_fieldAddr fd26_0 rfl (h.old 3 _ rfl rfl) kI
 ·exact oI rfl fun h => yl_load1 ty9 rfl (h.dt 0 7 rfl rfl rfl) (((Box.ex (Box.ex (Box.ex hB16 hE23) hE29) h.ex).cell 0).trans rfl) kI
 ·intro L64 w65 hi66
  have hE67 := hi66.ex
  have hE67z := Ex.size hE67
  have hol69 : p_t.Name.length ≤ 1073741824 := o3.1
  exact os rfl ((yl_sadd (a := p_t.Name) (b := ([46] : Str)) rfl (hi66.dt 1 8 rfl rfl rfl) rfl (by first | omega | (simp only [List.length_append, List.length_cons, List.length_nil, List.length_take, List.length_drop, toS_length]; omega)) kI))
 ·exact oI rfl fun h => yl_fieldAddr fd42_0 rfl (h.old 4 _ rfl rfl) kI
 ·exact oI rfl fun h => yl_load1 ty9 rfl (h.dt 3 10 rfl rfl rfl) (((Box.ex q33 h.ex).cell 0).trans rfl) kI
 ·intro L81 w82 hi83
  have hE84 := hi83.ex
  have hE84z := Ex.size hE84
  have hol87 : p_t.Name.length ≤ 1073741824 := o3.1
  have hol88 : p_x.Name.length ≤ 1073741824 := o4
  exact os rfl ((yl_sadd (a := (p_t.Name ++ ([46] : Str))) (b := p_x.Name) rfl (hi83.dt 2 9 rfl rfl rfl) (hi83.dt 4 11 rfl rfl rfl) (by first | omega | (simp only [List.length_append, List.length_cons, List.length_nil, List.length_take, List.length_drop, toS_length]; omega)) kI))
 ·intro L89 w90 hi91
  have hE92 := hi91.ex
  have hE92z := Ex.size hE92
  have hol94 : p_t.Name.length ≤ 1073741824 := o3.1
  have hol95 : p_x.Name.length ≤ 1073741824 := o4
  exact os rfl ((yl_sadd (a := ((p_t.Name ++ ([46] : Str)) ++ p_x.Name)) (b := ([47] : Str)) rfl (hi91.dt 5 12 rfl rfl rfl) rfl (by first | omega | (simp only [List.length_append, List.length_cons, List.length_nil, List.length_take, List.length_drop, toS_length]; omega)) kI))
 ·exact oI rfl fun h => yl_fieldAddr fd28_0 rfl (h.old 5 _ rfl rfl) kI
 ·exact oI rfl fun h => yl_load1 ty23 rfl (h.dt 7 14 rfl rfl rfl) (((Box.ex hB28 h.ex).cell 0).trans rfl) kI
 ·exact oI rfl fun h => yl_fieldAddr fd42_1 rfl (h.old 4 _ rfl rfl) kI
 ·exact oI rfl fun h => yl_load1 ty3 rfl (h.dt 9 16 rfl rfl rfl) (((Box.ex q33 h.ex).cell 1).trans rfl) kI
 ·intro L118 w119 hi120
  have hE121 := hi120.ex
  have hE121z := Ex.size hE121
  exact os rfl ((yl_indexAddr un23 ty9 rfl (hi120.dt 8 15 rfl rfl rfl) (hi120.dt 10 17 rfl rfl rfl) eA41 (by first | omega | assumption | (simp only [wI] at *; omega)) (by first | omega | assumption | (simp only [wI] at *; omega)) kI))
 ·exact oI rfl fun h => yl_load1 ty9 rfl (h.dt 11 18 rfl rfl rfl) ((Cells.ex eC41 h.ex) 0 _ rfl) kI
 ·intro L130 w131 hi132
  have hE133 := hi132.ex
  have hE133z := Ex.size hE133
  have hol136 : p_t.Name.length ≤ 1073741824 := o3.1
  have hol137 : p_x.Name.length ≤ 1073741824 := o4
  have hol138 : (p_r.Vals.getD ((p_x.Col).toNat) d_Str).length ≤ 1073741824 := (okL.getD o6 ok_d_Str _)
  exact os rfl ((yl_sadd (a := (((p_t.Name ++ ([46] : Str)) ++ p_x.Name) ++ ([47] : Str))) (b := (p_r.Vals.getD ((p_x.Col).toNat) d_Str)) rfl (hi132.dt 6 13 rfl rfl rfl) (hi132.dt 12 19 rfl rfl rfl) (by first | omega | (simp only [List.length_append, List.length_cons, List.length_nil, List.length_take, List.length_drop, toS_length]; omega)) kI))
 ·intro L139 w140 hi141
  have hE142 := hi141.ex
  have hE142z := Ex.size hE142
  have hol144 : p_t.Name.length ≤ 1073741824 := o3.1
  have hol145 : p_x.Name.length ≤ 1073741824 := o4
  have hol146 : (p_r.Vals.getD ((p_x.Col).toNat) d_Str).length ≤ 1073741824 := (okL.getD o6 ok_d_Str _)
  exact os rfl ((yl_sadd (a := ((((p_t.Name ++ ([46] : Str)) ++ p_x.Name) ++ ([47] : Str)) ++ (p_r.Vals.getD ((p_x.Col).toNat) d_Str))) (b := ([47] : Str)) rfl (hi141.dt 13 20 rfl rfl rfl) rfl (by first | omega | (simp only [List.length_append, List.length_cons, List.length_nil, List.length_take, List.length_drop, toS_length]; omega)) kI))
 ·exact oI rfl fun h => yl_fieldAddr fd28_0 rfl (h.old 5 _ rfl rfl) kI
 ·exact oI rfl fun h => yl_load1 ty23 rfl (h.dt 15 22 rfl rfl rfl) (((Box.ex hB28 h.ex).cell 0).trans rfl) kI
 ·intro L158 w159 hi160
  have hE161 := hi160.ex
  have hE161z := Ex.size hE161
  exact os rfl ((yl_ixN un23 ty9 rfl (hi160.dt 16 23 rfl rfl rfl) rfl eA48 kI))
 ·exact oI rfl fun h => yl_load1 ty9 rfl (h.dt 17 24 rfl rfl rfl) ((Cells.ex eC48 h.ex) 0 _ rfl) kI
 ·intro L169 w170 hi171
  have hE172 := hi171.ex
  have hE172z := Ex.size hE172
  have hol175 : p_t.Name.length ≤ 1073741824 := o3.1
  have hol176 : p_x.Name.length ≤ 1073741824 := o4
  have hol177 : (p_r.Vals.getD ((p_x.Col).toNat) d_Str).length ≤ 1073741824 := (okL.getD o6 ok_d_Str _)
  have hol178 : (p_r.Vals.getD 0 d_Str).length ≤ 1073741824 := (okL.getD o6 ok_d_Str _)
  exact os rfl ((yl_sadd (a := (((((p_t.Name ++ ([46] : Str)) ++ p_x.Name) ++ ([47] : Str)) ++ (p_r.Vals.getD ((p_x.Col).toNat) d_Str)) ++ ([47] : Str))) (b := (p_r.Vals.getD 0 d_Str)) rfl (hi171.dt 14 21 rfl rfl rfl) (hi171.dt 18 25 rfl rfl rfl) (by first | omega | (simp only [List.length_append, List.length_cons, List.length_nil, List.length_take, List.length_drop, toS_length]; omega)) kI))
 ·exact oI rfl fun h => yl_assign rfl (h.dt 19 26 rfl rfl rfl) kI
 ·intro fl187 fh188 L184 w185 hp186
  have hE189 := hp186.ex
  have hE189z := Ex.size hE189
  refine dn (CW.sub (Sub.cons (d := 6) (hp186.nt 20 6 rfl rfl rfl) (Sub.nil _)) (CW.ret (rr rfl (.cons rfl .nil) ?_)))
  have hM191 : (s_l25Entry p_t p_x p_r) = ((((((p_t.Name ++ ([46] : Str)) ++ p_x.Name) ++ ([47] : Str)) ++ (p_r.Vals.getD ((p_x.Col).toNat) d_Str)) ++ ([47] : Str)) ++ (p_r.Vals.getD 0 d_Str)) := by simp only [s_l25Entry, cL]
  rw [hM191]
  exact ⟨rfl, (okS_l25Entry pre1 pre2), (Ex.trans (Ex.trans (Ex.trans (Ex.trans (Ex.refl w) hE17) hE23) hE29) hE189)⟩
theorem c_s_IdxKey {A1 : Option Addr} {c1 : Nat} {A2 : Option Addr} {c2 : Nat} {A5 : Option Addr} {c5 : Nat} {w : World} (p_t : DTable) (p_name : Str) (p_r : DRow) (h1 : RdS w (Iv 0 w.heap.size) (RF e_Str) 1 A1 p_t.Cols.length c1 p_t.Cols) (h2 : RdS w (Iv 0 w.heap.size) (RF e_Idx) 3 A2 p_t.Idxs.length c2 p_t.Idxs) (h5 : RdS w (Iv 0 w.heap.size) (RF e_Str) 1 A5 p_r.Vals.length c5 p_r.Vals) (o3 : ok_Table p_t) (o4 : okS p_name) (o6 : ok_Row p_r) : Cal Tryd.prog 6 #[.agg #[.string (bs (p_t.Name)), .slice A1 p_t.Cols.length c1, .slice A2 p_t.Idxs.length c2], .string (bs (p_name)), .agg #[.slice A5 p_r.Vals.length c5]] w fun v w' => v = .tuple #[.string (bs ((s_IdxKey p_t p_name p_r).1)), .bool ((s_IdxKey p_t p_name p_r).2)] ∧ okS ((s_IdxKey p_t p_name p_r).1) ∧ Ex w w' := by
 have hol7 : p_t.Name.length ≤ 1073741824 := o3.1
 have hol8 := o3.2.1.1
 have hol9 := o3.2.2.1
 have hol10 : p_name.length ≤ 1073741824 := o4
 have hol11 := o6.1
 refine Cal.of func6 rfl ntmps6 rfl (CW.seq (CW.region (sd rfl (yl_box rfl rfl rfl ?_))))
 intro b12 w13 hs14 hz15 hB16 hE17
 refine sd rfl (yl_box rfl rfl rfl ?_)
 intro b18 w19 hs20 hz21 hB22 hE23
 refine sd rfl (yl_assign rfl rfl (sd rfl (yl_assign rfl rfl (dn (CW.seq (CW.region ?_))))))
 have q24 := Box.ex hB16 hE23
 refine sd rfl (yl_loadN ty26 rfl rfl (q24.cells (n := 3) rfl) rfl (sd rfl (yl_move rfl rfl ?_)))
 have q26 := RdS.ex good_Str (RdS.ex good_Str h1 hE17) hE23
 have q28 := RdS.ex good_Idx (RdS.ex good_Idx h2 hE17) hE23
 refine sd rfl (yl_call en22 rfl (oc rfl (oc rfl oz)) (Cal.mono (c_s_IdxAt p_t p_name (RdS.up q26 good_Str) (RdS.up q28 good_Idx) o3 o4) ?_))
 rintro v31 w29 ⟨rfl, ho30, hE32⟩
 have hE32z := Ex.size hE32
 refine sd rfl (yl_move rfl rfl (sd rfl (yl_extract rfl rfl rfl (sd rfl (yl_extract rfl rfl rfl (sd rfl (yl_alloc ty42 (cs := [.string (bs (([] : Str))), .int .i64 (0), .int .i64 (0)]) rfl rfl ?_)))))))
 intro b33 w34 hs35 hz36 hB37 hE38
 refine SeqR.u rfl rfl (yl_store (vs := [.string (bs ((s_IdxAt p_t p_name).1.Name)), .int .i64 ((s_IdxAt p_t p_name).1.Col), .int .i64 ((s_IdxAt p_t p_name).1.Stage)]) ty42 rfl rfl rfl rfl rfl rfl hB37 (Nat.le_of_ble_eq_true rfl) ?_)
 intro w39 hB40 hO41
 have hB40 : Box w39 b33 42 [.string (bs ((s_IdxAt p_t p_name).1.Name)), .int .i64 ((s_IdxAt p_t p_name).1.Col), .int .i64 ((s_IdxAt p_t p_name).1.Stage)] := hB40
 have hO41z := hO41.size
 refine sd rfl (yl_assign rfl rfl (dn (CW.seq (CW.seq (CW.region (sd rfl (yl_move rfl rfl (sd rfl (yl_not rfl rfl (sd rfl (yl_move rfl rfl ?_)))))))))))
 refine bcase ((s_IdxAt p_t p_name).2) (fun hb42 => ?_) (fun hb42 => ?_)
 ·obtain ⟨hb42p0, hb42p1, hb42p2, hb42p3⟩ := f_s_IdxAt hb42
  have q45 := Box.only (Box.ex (Box.ex q24 hE32) hE38) hO41 (by omega)
  refine sy rfl rfl (not_t hb42) (yl_loadN ty26 rfl rfl (q45.cells (n := 3) rfl) rfl ?_)
  have q48 := Box.only (Box.ex (Box.ex hB22 hE32) hE38) hO41 (by omega)
  refine sy rfl rfl (not_t hb42) (yl_loadN ty28 rfl rfl (q48.cells (n := 1) rfl) rfl ?_)
  have q51 := RdS.only good_Str (RdS.ex good_Str (RdS.ex good_Str q26 hE32) hE38) hO41 (by simp only [Iv]; omega)
  have q54 := RdS.only good_Idx (RdS.ex good_Idx (RdS.ex good_Idx q28 hE32) hE38) hO41 (by simp only [Iv]; omega)
  have q59 := RdS.only good_Str (RdS.ex good_Str (RdS.ex good_Str (RdS.ex good_Str (RdS.ex good_Str h5 hE17) hE23) hE32) hE38) hO41 (by simp only [Iv]; omega)
  refine sy rfl rfl (not_t hb42) (yl_call en23 rfl (oc rfl (oc rfl oz)) (Cal.mono (c_s_l25Good p_t p_r (RdS.up q51 good_Str) (RdS.up q54 good_Idx) (RdS.up q59 good_Str) o3 o6) ?_))
  rintro v61 w60 ⟨rfl, hE62⟩
  have hE62z := Ex.size hE62
  refine sy rfl rfl (not_t hb42) (yl_not rfl rfl (sd rfl (yl_pick_f rfl rfl (not_t hb42) rfl (dn (bcase (s_l25Good p_t p_r) (fun hb63 => ?_) (fun hb63 => ?_))))))
  ·obtain ⟨hb63p0, hb63p1⟩ := f_s_l25Good hb63
   refine CW.cond_f rfl (not_t hb63) (CW.skip (tn (CW.seq (CW.region (sd rfl (yl_loadN ty26 rfl rfl ((Box.ex q45 hE62).cells (n := 3) rfl) rfl (sd rfl (yl_loadN ty42 rfl rfl ((Box.ex hB40 hE62).cells (n := 3) rfl) rfl (sd rfl (yl_loadN ty28 rfl rfl ((Box.ex q48 hE62).cells (n := 1) rfl) rfl (sd rfl (yl_call en24 rfl (oc rfl (oc rfl (oc rfl oz))) (Cal.mono (c_s_l25Entry p_t ((s_IdxAt p_t p_name).1) p_r (RdS.up (RdS.ex good_Str q51 hE62) good_Str) (RdS.up (RdS.ex good_Idx q54 hE62) good_Idx) (RdS.up (RdS.ex good_Str q59 hE62) good_Str) o3 ho30 o6 (by first | omega | assumption | (simp only [wI] at *; omega)) (by first | omega | assumption | (simp only [wI] at *; omega)) (by first | omega | assumption | (simp only [wI] at *; omega))) ?_)))))))))))))
   rintro v72 w70 ⟨rfl, ho71, hE73⟩
   have hE73z := Ex.size hE73
   refine sd rfl (yl_assign rfl rfl (sd rfl (yl_assign rfl rfl (dn (CW.ret (rr rfl (.cons rfl (.cons rfl .nil)) ?_))))))
   have hM74 : (s_IdxKey p_t p_name p_r) = (((s_l25Entry p_t ((s_IdxAt p_t p_name).1) p_r), true)) := by simp only [s_IdxKey, hb42, hb63, cL]
   rw [hM74]
   exact ⟨rfl, ho71, (Ex.trans (Ex.trans (Below.only (Ex.trans (Ex.trans (Ex.trans (Ex.trans (Ex.refl w) hE17) hE23) hE32) hE38) hO41 (by omega)) hE62) hE73)⟩
  ·refine CW.cond_t rfl (not_f hb63) (CW.seq (CW.region (sd rfl (yl_assign rfl rfl (sd rfl (yl_assign rfl rfl (dn (CW.ret (tr ?_)))))))))
   refine rr rfl (.cons rfl (.cons rfl .nil)) ?_
   have hM82 : (s_IdxKey p_t p_name p_r) = ((([] : Str), false)) := by simp only [s_IdxKey, hb42, hb63, cL]
   rw [hM82]
   exact ⟨rfl, (okS.lit rfl), (Ex.trans (Below.only (Ex.trans (Ex.trans (Ex.trans (Ex.trans (Ex.refl w) hE17) hE23) hE32) hE38) hO41 (by omega)) hE62)⟩
 ·refine sz rfl rfl (not_f hb42) (sz rfl rfl (not_f hb42) (sz rfl rfl (not_f hb42) (sz rfl rfl (not_f hb42) (sd rfl (yl_pick_t rfl rfl (not_f hb42) rfl (dn (CW.cond_t rfl rfl (CW.seq ?_))))))))
  refine CW.region (sd rfl (yl_assign rfl rfl (sd rfl (yl_assign rfl rfl (dn (CW.ret (tr (rr rfl (.cons rfl (.cons rfl .nil)) ?_))))))))
  have hM89 : (s_IdxKey p_t p_name p_r) = ((([] : Str), false)) := by simp only [s_IdxKey, hb42, cL]
  rw [hM89]
  exact ⟨rfl, (okS.lit rfl), (Below.only (Ex.trans (Ex.trans (Ex.trans (Ex.trans (Ex.refl w) hE17) hE23) hE32) hE38) hO41 (by omega))⟩
theorem c_i_Table_rowWrite {A1 : Option Addr} {c1 : Nat} {A2 : Option Addr} {c2 : Nat} {A4 : Option Addr} {c4 : Nat} {w : World} (p_t : DTable) (p_r : DRow) (h1 : RdS w (Iv 0 w.heap.size) (RF e_Str) 1 A1 p_t.Cols.length c1 p_t.Cols) (h2 : RdS w (Iv 0 w.heap.size) (RF e_Idx) 3 A2 p_t.Idxs.length c2 p_t.Idxs) (h4 : RdS w (Iv 0 w.heap.size) (RF e_Str) 1 A4 p_r.Vals.length c4 p_r.Vals) (o3 : ok_Table p_t) (o5 : ok_Row p_r) (pre0 : 0 < p_r.Vals.length) (pre1 : p_r.Vals.length ≤ 4) (pre2 : rowShort p_r) : Cal Tryd.prog 25 #[.agg #[.string (bs (p_t.Name)), .slice A1 p_t.Cols.length c1, .slice A2 p_t.Idxs.length c2], .agg #[.slice A4 p_r.Vals.length c4]] w fun v w' => v = .agg #[.string (bs ((i_Table_rowWrite p_t p_r).Key)), .string (bs ((i_Table_rowWrite p_t p_r).Val)), .bool ((i_Table_rowWrite p_t p_r).Gone)] ∧ Ex w w' := by
 have hol6 : p_t.Name.length ≤ 1073741824 := o3.1
 have hol7 := o3.2.1.1
 have hol8 := o3.2.2.1
 have hol9 := o5.1
 refine Cal.of func25 rfl ntmps25 rfl (CW.seq (CW.region (sd rfl (yl_box rfl rfl rfl ?_))))
 intro b10 w11 hs12 hz13 hB14 hE15
 refine sd rfl (yl_box rfl rfl rfl ?_)
 intro b16 w17 hs18 hz19 hB20 hE21
 refine sd rfl (yl_alloc ty34 (cs := [.string (bs (([] : Str))), .string (bs (([] : Str))), .bool (false)]) rfl rfl ?_)
 intro b22 w23 hs24 hz25 hB26 hE27
 refine dn (CW.seq ?_)
 have hol30 : p_t.Name.length ≤ 1073741824 := o3.1
 have q31 := Box.ex hB20 hE27
 have q34 := RdS.ex good_Str (RdS.ex good_Str (RdS.ex good_Str h4 hE15) hE21) hE27
 obtain ⟨eb35, eo35, _, eA35, _, ebl35, _, eR35, eC35⟩ := RdS.aD q34 d_Str (i := 0)
 obtain rfl := eR35
 have eC35 : Cells w23 eb35 (eo35 + 0 * 1) [.string (bs ((p_r.Vals.getD 0 d_Str)))] := eC35
 have hol36 : p_t.Name.length ≤ 1073741824 := o3.1
 have hol37 : (p_r.Vals.getD 0 d_Str).length ≤ 1073741824 := (okL.getD o5 ok_d_Str _)
 obtain ⟨A38, c39, he42, h41⟩ := RdS.sl (RdS.drop q34 (k := 1) (by omega))
 have hrc43 := (q34).2.1
 refine CW.drawsI 12 (vgetI [DetI (.pointer (some ⟨b10, 0 + 0, none⟩)), DetI (.string (bs (p_t.Name))), DetI (.string (bs (p_t.Name ++ ([47] : Str)))), DetI (.pointer (some ⟨b16, 0 + 0, none⟩)), DetI (.slice A4 p_r.Vals.length c4), DetI (.pointer (some ⟨eb35, eo35 + 0 * 1, none⟩)), DetI (.string (bs ((p_r.Vals.getD 0 d_Str)))), DetI (.string (bs ((p_t.Name ++ ([47] : Str)) ++ (p_r.Vals.getD 0 d_Str)))), DetI (.pointer (some ⟨b16, 0 + 0, none⟩)), DetI (.slice A4 p_r.Vals.length c4), fun lo hi v wq => ∃ A38 c39, v = .slice A38 ((p_r.Vals.drop 1).length) c39 ∧ RdS wq (Iv 0 w.heap.size) (RF e_Str) 1 A38 (p_r.Vals.drop 1).length c39 (p_r.Vals.drop 1), fun lo hi v wq => v = .string (bs ((g_strings_Join (p_r.Vals.drop 1) ([44] : Str)))) ∧ okS (g_strings_Join (p_r.Vals.drop 1) ([44] : Str))]) Tryd.follows rfl rfl rfl rfl rfl rfl (vgetI_stable ⟨StableI.det _, StableI.det _, StableI.det _, StableI.det _, StableI.det _, StableI.det _, StableI.det _, StableI.det _, StableI.det _, StableI.det _, (fun _ _ _ _ _ ⟨A38, c39, hv, h44⟩ e => ⟨A38, c39, hv, RdS.ex good_Str h44 e⟩), (fun _ _ _ _ _ ⟨hv, ho46⟩ e => ⟨hv, ho46⟩), trivial⟩) ⟨?_, ?_, ?_, ?_, ?_, ?_, ?_, ?_, ?_, ?_, ?_, ?_, trivial⟩ ?_
 ·exact oI rfl fun h => yl_fieldAddr fd26_0 rfl (h.old 2 _ rfl rfl) kI
 ·exact oI rfl fun h => yl_load1 ty9 rfl (h.dt 0 5 rfl rfl rfl) (((Box.ex (Box.ex (Box.ex hB14 hE21) hE27) h.ex).cell 0).trans rfl) kI
 ·intro L58 w59 hi60
  have hE61 := hi60.ex
  have hE61z := Ex.size hE61
  have hol63 : p_t.Name.length ≤ 1073741824 := o3.1
  exact os rfl ((yl_sadd (a := p_t.Name) (b := ([47] : Str)) rfl (hi60.dt 1 6 rfl rfl rfl) rfl (by first | omega | (simp only [List.length_append, List.length_cons, List.length_nil, List.length_take, List.length_drop, toS_length]; omega)) kI))
 ·exact oI rfl fun h => yl_fieldAddr fd28_0 rfl (h.old 3 _ rfl rfl) kI
 ·exact oI rfl fun h => yl_load1 ty23 rfl (h.dt 3 8 rfl rfl rfl) (((Box.ex q31 h.ex).cell 0).trans rfl) kI
 ·intro L75 w76 hi77
  have hE78 := hi77.ex
  have hE78z := Ex.size hE78
  exact os rfl ((yl_ixN un23 ty9 rfl (hi77.dt 4 9 rfl rfl rfl) rfl eA35 kI))
 ·exact oI rfl fun h => yl_load1 ty9 rfl (h.dt 5 10 rfl rfl rfl) ((Cells.ex eC35 h.ex) 0 _ rfl) kI
 ·intro L86 w87 hi88
  have hE89 := hi88.ex
  have hE89z := Ex.size hE89
  have hol92 : p_t.Name.length ≤ 1073741824 := o3.1
  have hol93 : (p_r.Vals.getD 0 d_Str).length ≤ 1073741824 := (okL.getD o5 ok_d_Str _)
  exact os rfl ((yl_sadd (a := (p_t.Name ++ ([47] : Str))) (b := (p_r.Vals.getD 0 d_Str)) rfl (hi88.dt 2 7 rfl rfl rfl) (hi88.dt 6 11 rfl rfl rfl) (by first | omega | (simp only [List.length_append, List.length_cons, List.length_nil, List.length_take, List.length_drop, toS_length]; omega)) kI))
 ·exact oI rfl fun h => yl_fieldAddr fd28_0 rfl (h.old 3 _ rfl rfl) kI
 ·exact oI rfl fun h => yl_load1 ty23 rfl (h.dt 8 13 rfl rfl rfl) (((Box.ex q31 h.ex).cell 0).trans rfl) kI
 ·intro L105 w106 hi107
  have hE108 := hi107.ex
  have hE108z := Ex.size hE108
  have q110 := RdS.ex good_Str q34 hE108
  obtain ⟨A111, c112, he115, h114⟩ := RdS.sl (RdS.drop q110 (k := 1) (by omega))
  have hrc116 := (q110).2.1
  exact os rfl ((yl_sliceR (kh := .i64) (l := 1) (h := p_r.Vals.length) un23 ty9 rfl (hi107.dt 9 14 rfl rfl rfl) (.inr ⟨_, rfl, rfl⟩) (.inl ⟨rfl, rfl⟩) (by omega) (by omega) he115 ⟨fun _ _ => ⟨A111, c112, rfl, h114⟩, rfl⟩))
 ·intro L117 w118 hi119
  obtain ⟨lo122, hh123, _, hx121, hr124, hr125, hr126, A38_127, c39_128, rfl, h129⟩ := hi119.dep 10 15 rfl rfl
  refine OpR.op' rfl (yl_call en47 rfl (oc hx121 (oc rfl oz)) (Cal.mono (c_g_strings_Join (p_r.Vals.drop 1) ([44] : Str) (RdS.up h129 good_Str) (okL.drop o5 _) (okS.lit rfl) (join_drop pre1 pre2)) ?_))
  rintro v132 w130 ⟨rfl, ho131, hE133⟩
  exact ⟨⟨rfl, ho131⟩, hE133⟩
 ·intro fl137 fh138 L134 w135 hp136
  have hE139 := hp136.ex
  have hE139z := Ex.size hE139
  have hx140 := hp136.old 4 _ rfl rfl
  obtain ⟨_, hx142, rfl, h143⟩ := hp136.new 11 16 rfl rfl
  refine sd rfl (yl_build (cs := [.string (bs ((p_t.Name ++ ([47] : Str)) ++ (p_r.Vals.getD 0 d_Str))), .string (bs ((g_strings_Join (p_r.Vals.drop 1) ([44] : Str)))), .bool (false)]) rfl (oc (hp136.nt 7 12 rfl rfl rfl) (oc hx142 oz)) (by kernel_rfl) (SeqR.u rfl rfl (yl_store (vs := [.string (bs ((p_t.Name ++ ([47] : Str)) ++ (p_r.Vals.getD 0 d_Str))), .string (bs ((g_strings_Join (p_r.Vals.drop 1) ([44] : Str)))), .bool (false)]) ty34 rfl hx140 rfl rfl rfl rfl (Box.ex hB26 hE139) (Nat.le_of_ble_eq_true rfl) ?_)))
  intro w145 hB146 hO147
  have hB146 : Box w145 b22 34 [.string (bs ((p_t.Name ++ ([47] : Str)) ++ (p_r.Vals.getD 0 d_Str))), .string (bs ((g_strings_Join (p_r.Vals.drop 1) ([44] : Str)))), .bool (false)] := hB146
  have hO147z := hO147.size
  refine dn (CW.sub (Sub.cons (d := 4) hx140 (Sub.nil _)) (CW.ret (rr rfl (.cons ⟨_, rfl, run_loadN ty34 (cs := [.string (bs ((p_t.Name ++ ([47] : Str)) ++ (p_r.Vals.getD 0 d_Str))), .string (bs ((g_strings_Join (p_r.Vals.drop 1) ([44] : Str)))), .bool (false)]) rfl (hB146.cells (n := 3) rfl)⟩ .nil) ?_)))
  have hM148 : (i_Table_rowWrite p_t p_r) = ((⟨(p_t.Name ++ ([47] : Str)) ++ (p_r.Vals.getD 0 d_Str), (g_strings_Join (p_r.Vals.drop 1) ([44] : Str)), false⟩ : DWrite)) := by simp only [i_Table_rowWrite, cL]
  rw [hM148]
  exact ⟨rfl, (Below.only (Ex.trans (Ex.trans (Ex.trans (Ex.trans (Ex.refl w) hE15) hE21) hE27) hE139) hO147 (by omega))⟩
theorem c_i_RowWrite {A1 : Option Addr} {c1 : Nat} {A2 : Option Addr} {c2 : Nat} {A4 : Option Addr} {c4 : Nat} {w : World} (p_t : DTable) (p_r : DRow) (h1 : RdS w (Iv 0 w.heap.size) (RF e_Str) 1 A1 p_t.Cols.length c1 p_t.Cols) (h2 : RdS w (Iv 0 w.heap.size) (RF e_Idx) 3 A2 p_t.Idxs.length c2 p_t.Idxs) (h4 : RdS w (Iv 0 w.heap.size) (RF e_Str) 1 A4 p_r.Vals.length c4 p_r.Vals) (o3 : ok_Table p_t) (o5 : ok_Row p_r) : Cal Tryd.prog 7 #[.agg #[.string (bs (p_t.Name)), .slice A1 p_t.Cols.length c1, .slice A2 p_t.Idxs.length c2], .agg #[.slice A4 p_r.Vals.length c4]] w fun v w' => v = .tuple #[.agg #[.string (bs ((i_RowWrite p_t p_r).1.Key)), .string (bs ((i_RowWrite p_t p_r).1.Val)), .bool ((i_RowWrite p_t p_r).1.Gone)], .bool ((i_RowWrite p_t p_r).2)] ∧ Ex w w' := by
 have hol6 : p_t.Name.length ≤ 1073741824 := o3.1
 have hol7 := o3.2.1.1
 have hol8 := o3.2.2.1
 have hol9 := o5.1
 refine Cal.of func7 rfl ntmps7 rfl (CW.seq (CW.region (sd rfl (yl_box rfl rfl rfl ?_))))
 intro b10 w11 hs12 hz13 hB14 hE15
 refine sd rfl (yl_box rfl rfl rfl ?_)
 intro b16 w17 hs18 hz19 hB20 hE21
 refine sd rfl (yl_alloc ty34 (cs := [.string (bs (([] : Str))), .string (bs (([] : Str))), .bool (false)]) rfl rfl ?_)
 intro b22 w23 hs24 hz25 hB26 hE27
 refine sd rfl (yl_assign rfl rfl (dn (CW.seq (CW.seq (CW.region ?_)))))
 have q29 := Box.ex (Box.ex hB14 hE21) hE27
 refine sd rfl (yl_loadN ty26 rfl rfl (q29.cells (n := 3) rfl) rfl ?_)
 have q30 := Box.ex hB20 hE27
 refine sd rfl (yl_loadN ty28 rfl rfl (q30.cells (n := 1) rfl) rfl ?_)
 have q33 := RdS.ex good_Str (RdS.ex good_Str (RdS.ex good_Str h1 hE15) hE21) hE27
 have q36 := RdS.ex good_Idx (RdS.ex good_Idx (RdS.ex good_Idx h2 hE15) hE21) hE27
 have q39 := RdS.ex good_Str (RdS.ex good_Str (RdS.ex good_Str h4 hE15) hE21) hE27
 refine sd rfl (yl_call en9 rfl (oc rfl (oc rfl oz)) (Cal.mono (c_i_GoodRow p_t p_r (RdS.up q33 good_Str) (RdS.up q36 good_Idx) (RdS.up q39 good_Str) o3 o5) ?_))
 rintro v41 w40 ⟨rfl, hE42⟩
 have hE42z := Ex.size hE42
 refine sd rfl (yl_not rfl rfl (dn (bcase (i_GoodRow p_t p_r) (fun hb43 => ?_) (fun hb43 => ?_))))
 ·obtain ⟨hb43p0, hb43p1, hb43p2⟩ := f_i_GoodRow hb43
  refine CW.cond_f rfl (not_t hb43) (CW.skip (tn (CW.seq (CW.region (sd rfl (yl_loadN ty26 rfl rfl ((Box.ex q29 hE42).cells (n := 3) rfl) rfl (sd rfl (yl_loadN ty28 rfl rfl ((Box.ex q30 hE42).cells (n := 1) rfl) rfl (sd rfl (yl_call en25 rfl (oc rfl (oc rfl oz)) (Cal.mono (c_i_Table_rowWrite p_t p_r (RdS.up (RdS.ex good_Str q33 hE42) good_Str) (RdS.up (RdS.ex good_Idx q36 hE42) good_Idx) (RdS.up (RdS.ex good_Str q39 hE42) good_Str) o3 o5 (by first | omega | assumption | (simp only [wI] at *; omega)) (by first | omega | assumption | (simp only [wI] at *; omega)) (by first | omega | assumption | (simp only [wI] at *; omega))) ?_)))))))))))
  rintro v50 w49 ⟨rfl, hE51⟩
  have hE51z := Ex.size hE51
  refine SeqR.u rfl rfl (yl_store (vs := [.string (bs ((i_Table_rowWrite p_t p_r).Key)), .string (bs ((i_Table_rowWrite p_t p_r).Val)), .bool ((i_Table_rowWrite p_t p_r).Gone)]) ty34 rfl rfl rfl rfl rfl rfl (Box.ex (Box.ex hB26 hE42) hE51) (Nat.le_of_ble_eq_true rfl) ?_)
  intro w54 hB55 hO56
  have hB55 : Box w54 b22 34 [.string (bs ((i_Table_rowWrite p_t p_r).Key)), .string (bs ((i_Table_rowWrite p_t p_r).Val)), .bool ((i_Table_rowWrite p_t p_r).Gone)] := hB55
  have hO56z := hO56.size
  refine sd rfl (yl_assign rfl rfl (dn (CW.ret (rr rfl (.cons ⟨_, rfl, run_loadN ty34 (cs := [.string (bs ((i_Table_rowWrite p_t p_r).Key)), .string (bs ((i_Table_rowWrite p_t p_r).Val)), .bool ((i_Table_rowWrite p_t p_r).Gone)]) rfl (hB55.cells (n := 3) rfl)⟩ (.cons rfl .nil)) ?_))))
  have hM57 : (i_RowWrite p_t p_r) = (((i_Table_rowWrite p_t p_r), true)) := by simp only [i_RowWrite, hb43, cL]
  rw [hM57]
  exact ⟨rfl, (Below.only (Ex.trans (Ex.trans (Ex.trans (Ex.trans (Ex.trans (Ex.refl w) hE15) hE21) hE27) hE42) hE51) hO56 (by omega))⟩
 ·refine CW.cond_t rfl (not_f hb43) (CW.seq (CW.region (sd rfl (yl_build (cs := [.string (bs (([] : Str))), .string (bs (([] : Str))), .bool (false)]) rfl opvs_nil (by kernel_rfl) (SeqR.u rfl rfl (yl_store (vs := [.string (bs (([] : Str))), .string (bs (([] : Str))), .bool (false)]) ty34 rfl rfl rfl rfl rfl rfl (Box.ex hB26 hE42) (Nat.le_of_ble_eq_true rfl) ?_))))))
  intro w65 hB66 hO67
  have hB66 : Box w65 b22 34 [.string (bs (([] : Str))), .string (bs (([] : Str))), .bool (false)] := hB66
  have hO67z := hO67.size
  refine sd rfl (yl_assign rfl rfl (dn (CW.ret (tr (rr rfl (.cons ⟨_, rfl, run_loadN ty34 (cs := [.string (bs (([] : Str))), .string (bs (([] : Str))), .bool (false)]) rfl (hB66.cells (n := 3) rfl)⟩ (.cons rfl .nil)) ?_)))))
  have hM68 : (i_RowWrite p_t p_r) = (((⟨([] : Str), ([] : Str), false⟩ : DWrite), false)) := by simp only [i_RowWrite, hb43, cL]
  rw [hM68]
  exact ⟨rfl, (Below.only (Ex.trans (Ex.trans (Ex.trans (Ex.trans (Ex.refl w) hE15) hE21) hE27) hE42) hO67 (by omega))⟩
theorem c_s_GoodRow {A1 : Option Addr} {c1 : Nat} {A2 : Option Addr} {c2 : Nat} {A4 : Option Addr} {c4 : Nat} {w : World} (p_t : DTable) (p_r : DRow) (h1 : RdS w (Iv 0 w.heap.size) (RF e_Str) 1 A1 p_t.Cols.length c1 p_t.Cols) (h2 : RdS w (Iv 0 w.heap.size) (RF e_Idx) 3 A2 p_t.Idxs.length c2 p_t.Idxs) (h4 : RdS w (Iv 0 w.heap.size) (RF e_Str) 1 A4 p_r.Vals.length c4 p_r.Vals) (o3 : ok_Table p_t) (o5 : ok_Row p_r) : Cal Tryd.prog 26 #[.agg #[.string (bs (p_t.Name)), .slice A1 p_t.Cols.length c1, .slice A2 p_t.Idxs.length c2], .agg #[.slice A4 p_r.Vals.length c4]] w fun v w' => v = .bool ((s_GoodRow p_t p_r)) ∧ Ex w w' := by
 refine Cal.of func26 rfl ntmps26 rfl (CW.seq (CW.region (sd rfl (yl_box rfl rfl rfl ?_))))
 intro b10 w11 hs12 hz13 hB14 hE15
 refine sd rfl (yl_box rfl rfl rfl ?_)
 intro b16 w17 hs18 hz19 hB20 hE21
 refine sd rfl (yl_assign rfl rfl (dn (CW.seq (CW.region ?_))))
 have q22 := Box.ex hB14 hE21
 refine sd rfl (yl_loadN ty26 rfl rfl (q22.cells (n := 3) rfl) rfl ?_)
 have q24 := RdS.ex good_Str (RdS.ex good_Str h1 hE15) hE21
 have q26 := RdS.ex good_Idx (RdS.ex good_Idx h2 hE15) hE21
 refine sd rfl (yl_call en38 rfl (oc rfl oz) (Cal.mono (c_s_GoodTable p_t (RdS.up q24 good_Str) (RdS.up q26 good_Idx) o3) ?_))
 rintro v28 w27 ⟨rfl, hE29⟩
 refine sd rfl (yl_move rfl rfl (bcase (s_GoodTable p_t) (fun hb30 => ?_) (fun hb30 => ?_)))
 ·have hb30p := f_s_GoodTable hb30
  refine sy rfl rfl hb30 (yl_loadN ty26 rfl rfl ((Box.ex q22 hE29).cells (n := 3) rfl) rfl (sy rfl rfl hb30 (yl_loadN ty28 rfl rfl ((Box.ex hB20 hE29).cells (n := 1) rfl) rfl (sy rfl rfl hb30 (yl_call en23 rfl (oc rfl (oc rfl oz)) (Cal.mono (c_s_l25Good p_t p_r (RdS.up (RdS.ex good_Str q24 hE29) good_Str) (RdS.up (RdS.ex good_Idx q26 hE29) good_Idx) (RdS.up (RdS.ex good_Str (RdS.ex good_Str (RdS.ex good_Str h4 hE15) hE21) hE29) good_Str) o3 o5) ?_))))))
  rintro v39 w38 ⟨rfl, hE40⟩
  refine sd rfl (yl_pick_t rfl rfl hb30 rfl (sd rfl (yl_assign rfl rfl (dn (CW.ret (rr rfl (.cons rfl .nil) ?_))))))
  have hM41 : (s_GoodRow p_t p_r) = ((s_l25Good p_t p_r)) := by simp only [s_GoodRow, hb30, cL]
  rw [hM41]
  exact ⟨rfl, (Ex.trans (Ex.trans (Ex.trans (Ex.trans (Ex.refl w) hE15) hE21) hE29) hE40)⟩
 ·refine sz rfl rfl hb30 (sz rfl rfl hb30 (sz rfl rfl hb30 (sd rfl (yl_pick_f rfl rfl hb30 rfl (sd rfl (yl_assign rfl rfl (dn (CW.ret (rr rfl (.cons rfl .nil) ?_)))))))))
  have hM46 : (s_GoodRow p_t p_r) = (false) := by simp only [s_GoodRow, hb30, cL]
  rw [hM46]
  exact ⟨rfl, (Ex.trans (Ex.trans (Ex.trans (Ex.refl w) hE15) hE21) hE29)⟩
theorem c_s_l24Join {A1 : Option Addr} {c1 : Nat} {w : World} (p_l : List Str) (p_by : Str) (h1 : RdS w (Iv 0 w.heap.size) (RF e_Str) 1 A1 p_l.length c1 p_l) (o2 : (okL okS) p_l) (o3 : okS p_by) : Cal Tryd.prog 48 #[.slice A1 p_l.length c1, .string (bs (p_by))] w fun v w' => v = .string (bs ((s_l24Join p_l p_by))) ∧ Ex w w' := by
 have hol4 := o2.1
 have hol5 : p_by.length ≤ 1073741824 := o3
 refine Cal.of func48 rfl ntmps48 rfl (CW.seq (CW.region (sd rfl (yl_assign rfl rfl (dn (CW.seq (CW.region (sd rfl (yl_assign rfl rfl ?_)))))))))
 refine dn (CW.seq (CW.seq (CW.region (sd rfl (yl_move rfl rfl (sd rfl (yl_len un23 rfl rfl (sd rfl (yl_move rfl rfl (SeqR.done ?_))))))))))
 refine tn (CW.block (CW.loop (fun m15 L16 w17 => ∃ (k6 : Nat) (x14 : Str), m15 = p_l.length - k6 ∧ k6 ≤ p_l.length ∧ w.heap.size ≤ w17.heap.size ∧ lkp L16 1 = some (.string (bs (p_by))) ∧ lkp L16 5 = some (.string (bs (x14))) ∧ lkp L16 8 = some (.slice A1 p_l.length c1) ∧ lkp L16 9 = some (.int .i64 ((p_l.length : Int))) ∧ lkp L16 10 = some (.int .i64 ((k6 : Int))) ∧ RdS w17 (Iv 0 w.heap.size) (RF e_Str) 1 A1 p_l.length c1 p_l ∧ Ex w w17 ∧ x14.length ≤ 0 + 2147483648 * (k6 - 0) ∧ loopM (B_s_l24Join_0 p_l p_by) (p_l.length - k6) k6 (x14) = loopM (B_s_l24Join_0 p_l p_by) (p_l.length - 0) 0 (([] : Str))) (p_l.length - 0) ?_ ?_))
 ·exact ⟨0, ([] : Str), rfl, (by omega), Nat.le_refl _, rfl, rfl, rfl, rfl, rfl, h1, (Ex.refl w), (by first | (simp; done) | (first | omega | (simp only [List.length_append, List.length_cons, List.length_nil, List.length_set, toS_length]; omega))), rfl⟩
 ·rintro m18 L19 w20 ⟨k6, x14, rfl, hk21, hsz23, hl24, hl25, hl26, hl27, hl28, hf29, hf30, hln31, hI22⟩
  refine CW.sub (Sub.cons hl24 (Sub.cons hl25 (Sub.cons hl26 (Sub.cons hl27 (Sub.cons hl28 (Sub.nil _)))))) ?_
  have hf30z := Ex.size hf30
  have hbg32 := RdS.big hf29
  rcases Nat.lt_or_ge k6 p_l.length with hlt33 | hlt33
  ·refine CW.seq (CW.region (sd rfl (yl_lss rfl rfl rfl (dn (CW.seq (CW.cond_t rfl (lt_t hlt33) (CW.skip (tn ?_))))))))
   refine CW.seq (CW.block (CW.seq (CW.region (sd rfl (yl_move rfl rfl ?_)))))
   obtain ⟨eb34, eo34, _, eA34, _, ebl34, _, eR34, eC34⟩ := RdS.aD hf29 d_Str (i := k6)
   obtain rfl := eR34
   have eC34 : Cells w20 eb34 (eo34 + k6 * 1) [.string (bs ((p_l.getD k6 d_Str)))] := eC34
   refine sd rfl (yl_ixN un23 ty9 rfl rfl rfl eA34 (sd rfl (yl_load1 ty9 rfl rfl (eC34 0 _ rfl) (sd rfl (yl_assign rfl rfl (sd rfl (yl_assign rfl rfl (dn (CW.seq (CW.seq (CW.region ?_)))))))))))
   refine sd rfl (yl_move rfl rfl (sd rfl (yl_gtr rfl rfl rfl (dn (bcase (decide (0 < (k6 : Int))) (fun hb35 => ?_) (fun hb35 => ?_))))))
   ·have hb35p := dec_t hb35
    refine CW.cond_t rfl hb35 (CW.region (sd rfl (yl_move rfl rfl (sd rfl (yl_move rfl rfl ?_)))))
    have hol36 : p_by.length ≤ 1073741824 := o3
    refine sd rfl (yl_sadd (a := x14) (b := p_by) rfl rfl rfl (by first | omega | (simp only [List.length_append, List.length_cons, List.length_nil, List.length_take, List.length_drop, toS_length]; omega)) (sd rfl (yl_assign rfl rfl (dn (CW.region (sd rfl (yl_move rfl rfl (sd rfl (yl_move rfl rfl ?_)))))))))
    have hol37 : p_by.length ≤ 1073741824 := o3
    have hol38 : (p_l.getD k6 d_Str).length ≤ 1073741824 := (okL.getD o2 ok_d_Str _)
    refine sd rfl (yl_sadd (a := (x14 ++ p_by)) (b := (p_l.getD k6 d_Str)) rfl rfl rfl (by first | omega | (simp only [List.length_append, List.length_cons, List.length_nil, List.length_take, List.length_drop, toS_length]; omega)) (sd rfl (yl_assign rfl rfl (SeqR.done (bn (tn (CW.region (sd rfl (yl_inc rfl rfl rfl (by omega) (sd rfl (yl_move rfl rfl (SeqR.done ?_))))))))))))
    refine tn ?_
    have hB39 : B_s_l24Join_0 p_l p_by k6 (x14) = .cont ((x14 ++ p_by) ++ (p_l.getD k6 d_Str)) := by simp only [B_s_l24Join_0, hb35, cL]
    exact ⟨p_l.length - (k6 + 1), by omega, k6 + 1, (x14 ++ p_by) ++ (p_l.getD k6 d_Str), rfl, hlt33, (by omega), rfl, rfl, rfl, rfl, rfl, hf29, hf30, (by first | omega | (simp only [List.length_append, List.length_cons, List.length_nil, List.length_set, toS_length]; omega)), (loopM.cont hlt33 hB39).symm.trans hI22⟩
   ·have hb35p := dec_f hb35
    refine CW.cond_f rfl hb35 (CW.skip (tn (CW.region (sd rfl (yl_move rfl rfl (sd rfl (yl_move rfl rfl ?_)))))))
    have hol40 : (p_l.getD k6 d_Str).length ≤ 1073741824 := (okL.getD o2 ok_d_Str _)
    refine sd rfl (yl_sadd (a := x14) (b := (p_l.getD k6 d_Str)) rfl rfl rfl (by first | omega | (simp only [List.length_append, List.length_cons, List.length_nil, List.length_take, List.length_drop, toS_length]; omega)) (sd rfl (yl_assign rfl rfl (SeqR.done (bn (tn (CW.region (sd rfl (yl_inc rfl rfl rfl (by omega) (sd rfl (yl_move rfl rfl (SeqR.done ?_))))))))))))
    refine tn ?_
    have hB41 : B_s_l24Join_0 p_l p_by k6 (x14) = .cont (x14 ++ (p_l.getD k6 d_Str)) := by simp only [B_s_l24Join_0, hb35, cL]
    exact ⟨p_l.length - (k6 + 1), by omega, k6 + 1, x14 ++ (p_l.getD k6 d_Str), rfl, hlt33, (by omega), rfl, rfl, rfl, rfl, rfl, hf29, hf30, (by first | omega | (simp only [List.length_append, List.length_cons, List.length_nil, List.length_set, toS_length]; omega)), (loopM.cont hlt33 hB41).symm.trans hI22⟩
  ·refine CW.seq (CW.region (sd rfl (yl_lss rfl rfl rfl (dn (CW.seq (CW.cond_f rfl (lt_f hlt33) (CW.exit (tx ?_))))))))
   refine tx ?_
   have hL42 : loopM (B_s_l24Join_0 p_l p_by) (p_l.length - 0) 0 (([] : Str)) = .done (x14) := hI22.symm.trans (loopM.stop hlt33)
   refine bx (tn (CW.seq (CW.region (sd rfl (yl_move rfl rfl (sd rfl (yl_assign rfl rfl (dn (CW.ret ?_)))))))))
   refine rr rfl (.cons rfl .nil) ?_
   have hM43 : (s_l24Join p_l p_by) = (x14) := by simp only [s_l24Join, hL42, cL]
   rw [hM43]
   exact ⟨rfl, hf30⟩
theorem c_s_l25Write {A1 : Option Addr} {c1 : Nat} {A2 : Option Addr} {c2 : Nat} {A4 : Option Addr} {c4 : Nat} {w : World} (p_t : DTable) (p_r : DRow) (h1 : RdS w (Iv 0 w.heap.size) (RF e_Str) 1 A1 p_t.Cols.length c1 p_t.Cols) (h2 : RdS w (Iv 0 w.heap.size) (RF e_Idx) 3 A2 p_t.Idxs.length c2 p_t.Idxs) (h4 : RdS w (Iv 0 w.heap.size) (RF e_Str) 1 A4 p_r.Vals.length c4 p_r.Vals) (o3 : ok_Table p_t) (o5 : ok_Row p_r) (pre0 : 0 < p_r.Vals.length) : Cal Tryd.prog 27 #[.agg #[.string (bs (p_t.Name)), .slice A1 p_t.Cols.length c1, .slice A2 p_t.Idxs.length c2], .agg #[.slice A4 p_r.Vals.length c4]] w fun v w' => v = .agg #[.string (bs ((s_l25Write p_t p_r).Key)), .string (bs ((s_l25Write p_t p_r).Val)), .bool ((s_l25Write p_t p_r).Gone)] ∧ Ex w w' := by
 have hol6 : p_t.Name.length ≤ 1073741824 := o3.1
 have hol7 := o3.2.1.1
 have hol8 := o3.2.2.1
 have hol9 := o5.1
 refine Cal.of func27 rfl ntmps27 rfl (CW.seq (CW.region (sd rfl (yl_box rfl rfl rfl ?_))))
 intro b10 w11 hs12 hz13 hB14 hE15
 refine sd rfl (yl_box rfl rfl rfl ?_)
 intro b16 w17 hs18 hz19 hB20 hE21
 refine sd rfl (yl_alloc ty34 (cs := [.string (bs (([] : Str))), .string (bs (([] : Str))), .bool (false)]) rfl rfl ?_)
 intro b22 w23 hs24 hz25 hB26 hE27
 refine dn (CW.seq ?_)
 have hol30 : p_t.Name.length ≤ 1073741824 := o3.1
 have q31 := Box.ex hB20 hE27
 have q34 := RdS.ex good_Str (RdS.ex good_Str (RdS.ex good_Str h4 hE15) hE21) hE27
 obtain ⟨eb35, eo35, _, eA35, _, ebl35, _, eR35, eC35⟩ := RdS.aD q34 d_Str (i := 0)
 obtain rfl := eR35
 have eC35 : Cells w23 eb35 (eo35 + 0 * 1) [.string (bs ((p_r.Vals.getD 0 d_Str)))] := eC35
 have hol36 : p_t.Name.length ≤ 1073741824 := o3.1
 have hol37 : (p_r.Vals.getD 0 d_Str).length ≤ 1073741824 := (okL.getD o5 ok_d_Str _)
 obtain ⟨A38, c39, he42, h41⟩ := RdS.sl (RdS.drop q34 (k := 1) (by omega))
 have hrc43 := (q34).2.1
 refine CW.drawsI 12 (vgetI [DetI (.pointer (some ⟨b10, 0 + 0, none⟩)), DetI (.string (bs (p_t.Name))), DetI (.string (bs (p_t.Name ++ ([47] : Str)))), DetI (.pointer (some ⟨b16, 0 + 0, none⟩)), DetI (.slice A4 p_r.Vals.length c4), DetI (.pointer (some ⟨eb35, eo35 + 0 * 1, none⟩)), DetI (.string (bs ((p_r.Vals.getD 0 d_Str)))), DetI (.string (bs ((p_t.Name ++ ([47] : Str)) ++ (p_r.Vals.getD 0 d_Str)))), DetI (.pointer (some ⟨b16, 0 + 0, none⟩)), DetI (.slice A4 p_r.Vals.length c4), fun lo hi v wq => ∃ A38 c39, v = .slice A38 ((p_r.Vals.drop 1).length) c39 ∧ RdS wq (Iv 0 w.heap.size) (RF e_Str) 1 A38 (p_r.Vals.drop 1).length c39 (p_r.Vals.drop 1), DetI (.string (bs ((s_l24Join (p_r.Vals.drop 1) ([44] : Str)))))]) Tryd.follows rfl rfl rfl rfl rfl rfl (vgetI_stable ⟨StableI.det _, StableI.det _, StableI.det _, StableI.det _, StableI.det _, StableI.det _, StableI.det _, StableI.det _, StableI.det _, StableI.det _, (fun _ _ _ _ _ ⟨A38, c39, hv, h44⟩ e => ⟨A38, c39, hv, RdS.ex good_Str h44 e⟩), StableI.det _, trivial⟩) ⟨?_, ?_, ?_, ?_, ?_, ?_, ?_, ?_, ?_, ?_, ?_, ?_, trivial⟩ ?_
 ·exact oI rfl fun h => yl_fieldAddr fd26_0 rfl (h.old 2 _ rfl rfl) kI
 ·exact oI rfl fun h => yl_load1 ty9 rfl (h.dt 0 5 rfl rfl rfl) (((Box.ex (Box.ex (Box.ex hB14 hE21) hE27) h.ex).cell 0).trans rfl) kI
 ·intro L57 w58 hi59
  have hE60 := hi59.ex
  have hE60z := Ex.size hE60
  have hol62 : p_t.Name.length ≤ 1073741824 := o3.1
  exact os rfl ((yl_sadd (a := p_t.Name) (b := ([47] : Str)) rfl (hi59.dt 1 6 rfl rfl rfl) rfl (by first | omega | (simp only [List.length_append, List.length_cons, List.length_nil, List.length_take, List.length_drop, toS_length]; omega)) kI))
 ·exact oI rfl fun h => yl_fieldAddr fd28_0 rfl (h.old 3 _ rfl rfl) kI
 ·exact oI rfl fun h => yl_load1 ty23 rfl (h.dt 3 8 rfl rfl rfl) (((Box.ex q31 h.ex).cell 0).trans rfl) kI
 ·intro L74 w75 hi76
  have hE77 := hi76.ex
  have hE77z := Ex.size hE77
  exact os rfl ((yl_ixN un23 ty9 rfl (hi76.dt 4 9 rfl rfl rfl) rfl eA35 kI))
 ·exact oI rfl fun h => yl_load1 ty9 rfl (h.dt 5 10 rfl rfl rfl) ((Cells.ex eC35 h.ex) 0 _ rfl) kI
 ·intro L85 w86 hi87
  have hE88 := hi87.ex
  have hE88z := Ex.size hE88
  have hol91 : p_t.Name.length ≤ 1073741824 := o3.1
  have hol92 : (p_r.Vals.getD 0 d_Str).length ≤ 1073741824 := (okL.getD o5 ok_d_Str _)
  exact os rfl ((yl_sadd (a := (p_t.Name ++ ([47] : Str))) (b := (p_r.Vals.getD 0 d_Str)) rfl (hi87.dt 2 7 rfl rfl rfl) (hi87.dt 6 11 rfl rfl rfl) (by first | omega | (simp only [List.length_append, List.length_cons, List.length_nil, List.length_take, List.length_drop, toS_length]; omega)) kI))
 ·exact oI rfl fun h => yl_fieldAddr fd28_0 rfl (h.old 3 _ rfl rfl) kI
 ·exact oI rfl fun h => yl_load1 ty23 rfl (h.dt 8 13 rfl rfl rfl) (((Box.ex q31 h.ex).cell 0).trans rfl) kI
 ·intro L104 w105 hi106
  have hE107 := hi106.ex
  have hE107z := Ex.size hE107
  have q109 := RdS.ex good_Str q34 hE107
  obtain ⟨A110, c111, he114, h113⟩ := RdS.sl (RdS.drop q109 (k := 1) (by omega))
  have hrc115 := (q109).2.1
  exact os rfl ((yl_sliceR (kh := .i64) (l := 1) (h := p_r.Vals.length) un23 ty9 rfl (hi106.dt 9 14 rfl rfl rfl) (.inr ⟨_, rfl, rfl⟩) (.inl ⟨rfl, rfl⟩) (by omega) (by omega) he114 ⟨fun _ _ => ⟨A110, c111, rfl, h113⟩, rfl⟩))
 ·intro L116 w117 hi118
  obtain ⟨lo121, hh122, _, hx120, hr123, hr124, hr125, A38_126, c39_127, rfl, h128⟩ := hi118.dep 10 15 rfl rfl
  exact OpR.op' rfl (yl_call en48 rfl (oc hx120 (oc rfl oz)) (Cal.mono (c_s_l24Join (p_r.Vals.drop 1) ([44] : Str) (RdS.up h128 good_Str) (okL.drop o5 _) (okS.lit rfl)) fun _ _ h => h))
 ·intro fl135 fh136 L132 w133 hp134
  have hE137 := hp134.ex
  have hE137z := Ex.size hE137
  have hx138 := hp134.old 4 _ rfl rfl
  refine sd rfl (yl_build (cs := [.string (bs ((p_t.Name ++ ([47] : Str)) ++ (p_r.Vals.getD 0 d_Str))), .string (bs ((s_l24Join (p_r.Vals.drop 1) ([44] : Str)))), .bool (false)]) rfl (oc (hp134.nt 7 12 rfl rfl rfl) (oc (hp134.nt 11 16 rfl rfl rfl) oz)) (by kernel_rfl) (SeqR.u rfl rfl (yl_store (vs := [.string (bs ((p_t.Name ++ ([47] : Str)) ++ (p_r.Vals.getD 0 d_Str))), .string (bs ((s_l24Join (p_r.Vals.drop 1) ([44] : Str)))), .bool (false)]) ty34 rfl hx138 rfl rfl rfl rfl (Box.ex hB26 hE137) (Nat.le_of_ble_eq_true rfl) ?_)))
  intro w142 hB143 hO144
  have hB143 : Box w142 b22 34 [.string (bs ((p_t.Name ++ ([47] : Str)) ++ (p_r.Vals.getD 0 d_Str))), .string (bs ((s_l24Join (p_r.Vals.drop 1) ([44] : Str)))), .bool (false)] := hB143
  have hO144z := hO144.size
  refine dn (CW.sub (Sub.cons (d := 4) hx138 (Sub.nil _)) (CW.ret (rr rfl (.cons ⟨_, rfl, run_loadN ty34 (cs := [.string (bs ((p_t.Name ++ ([47] : Str)) ++ (p_r.Vals.getD 0 d_Str))), .string (bs ((s_l24Join (p_r.Vals.drop 1) ([44] : Str)))), .bool (false)]) rfl (hB143.cells (n := 3) rfl)⟩ .nil) ?_)))
  have hM145 : (s_l25Write p_t p_r) = ((⟨(p_t.Name ++ ([47] : Str)) ++ (p_r.Vals.getD 0 d_Str), (s_l24Join (p_r.Vals.drop 1) ([44] : Str)), false⟩ : DWrite)) := by simp only [s_l25Write, cL]
  rw [hM145]
  exact ⟨rfl, (Below.only (Ex.trans (Ex.trans (Ex.trans (Ex.trans (Ex.refl w) hE15) hE21) hE27) hE137) hO144 (by omega))⟩
theorem c_s_RowWrite {A1 : Option Addr} {c1 : Nat} {A2 : Option Addr} {c2 : Nat} {A4 : Option Addr} {c4 : Nat} {w : World} (p_t : DTable) (p_r : DRow) (h1 : RdS w (Iv 0 w.heap.size) (RF e_Str) 1 A1 p_t.Cols.length c1 p_t.Cols) (h2 : RdS w (Iv 0 w.heap.size) (RF e_Idx) 3 A2 p_t.Idxs.length c2 p_t.Idxs) (h4 : RdS w (Iv 0 w.heap.size) (RF e_Str) 1 A4 p_r.Vals.length c4 p_r.Vals) (o3 : ok_Table p_t) (o5 : ok_Row p_r) : Cal Tryd.prog 8 #[.agg #[.string (bs (p_t.Name)), .slice A1 p_t.Cols.length c1, .slice A2 p_t.Idxs.length c2], .agg #[.slice A4 p_r.Vals.length c4]] w fun v w' => v = .tuple #[.agg #[.string (bs ((s_RowWrite p_t p_r).1.Key)), .string (bs ((s_RowWrite p_t p_r).1.Val)), .bool ((s_RowWrite p_t p_r).1.Gone)], .bool ((s_RowWrite p_t p_r).2)] ∧ ok_Write ((s_RowWrite p_t p_r).1) ∧ Ex w w' := by
 have hol6 : p_t.Name.length ≤ 1073741824 := o3.1
 have hol7 := o3.2.1.1
 have hol8 := o3.2.2.1
 have hol9 := o5.1
 refine Cal.of func8 rfl ntmps8 rfl (CW.seq (CW.region (sd rfl (yl_box rfl rfl rfl ?_))))
 intro b10 w11 hs12 hz13 hB14 hE15
 refine sd rfl (yl_box rfl rfl rfl ?_)
 intro b16 w17 hs18 hz19 hB20 hE21
 refine sd rfl (yl_alloc ty34 (cs := [.string (bs (([] : Str))), .string (bs (([] : Str))), .bool (false)]) rfl rfl ?_)
 intro b22 w23 hs24 hz25 hB26 hE27
 refine sd rfl (yl_assign rfl rfl (dn (CW.seq (CW.seq (CW.region ?_)))))
 have q29 := Box.ex (Box.ex hB14 hE21) hE27
 refine sd rfl (yl_loadN ty26 rfl rfl (q29.cells (n := 3) rfl) rfl ?_)
 have q30 := Box.ex hB20 hE27
 refine sd rfl (yl_loadN ty28 rfl rfl (q30.cells (n := 1) rfl) rfl ?_)
 have q33 := RdS.ex good_Str (RdS.ex good_Str (RdS.ex good_Str h1 hE15) hE21) hE27
 have q36 := RdS.ex good_Idx (RdS.ex good_Idx (RdS.ex good_Idx h2 hE15) hE21) hE27
 have q39 := RdS.ex good_Str (RdS.ex good_Str (RdS.ex good_Str h4 hE15) hE21) hE27
 refine sd rfl (yl_call en26 rfl (oc rfl (oc rfl oz)) (Cal.mono (c_s_GoodRow p_t p_r (RdS.up q33 good_Str) (RdS.up q36 good_Idx) (RdS.up q39 good_Str) o3 o5) ?_))
 rintro v41 w40 ⟨rfl, hE42⟩
 have hE42z := Ex.size hE42
 refine sd rfl (yl_not rfl rfl (dn (bcase (s_GoodRow p_t p_r) (fun hb43 => ?_) (fun hb43 => ?_))))
 ·obtain ⟨hb43p0, hb43p1, hb43p2⟩ := f_s_GoodRow hb43
  refine CW.cond_f rfl (not_t hb43) (CW.skip (tn (CW.seq (CW.region (sd rfl (yl_loadN ty26 rfl rfl ((Box.ex q29 hE42).cells (n := 3) rfl) rfl (sd rfl (yl_loadN ty28 rfl rfl ((Box.ex q30 hE42).cells (n := 1) rfl) rfl (sd rfl (yl_call en27 rfl (oc rfl (oc rfl oz)) (Cal.mono (c_s_l25Write p_t p_r (RdS.up (RdS.ex good_Str q33 hE42) good_Str) (RdS.up (RdS.ex good_Idx q36 hE42) good_Idx) (RdS.up (RdS.ex good_Str q39 hE42) good_Str) o3 o5 (by first | omega | assumption | (simp only [wI] at *; omega))) ?_)))))))))))
  rintro v50 w49 ⟨rfl, hE51⟩
  have hE51z := Ex.size hE51
  refine SeqR.u rfl rfl (yl_store (vs := [.string (bs ((s_l25Write p_t p_r).Key)), .string (bs ((s_l25Write p_t p_r).Val)), .bool ((s_l25Write p_t p_r).Gone)]) ty34 rfl rfl rfl rfl rfl rfl (Box.ex (Box.ex hB26 hE42) hE51) (Nat.le_of_ble_eq_true rfl) ?_)
  intro w54 hB55 hO56
  have hB55 : Box w54 b22 34 [.string (bs ((s_l25Write p_t p_r).Key)), .string (bs ((s_l25Write p_t p_r).Val)), .bool ((s_l25Write p_t p_r).Gone)] := hB55
  have hO56z := hO56.size
  refine sd rfl (yl_assign rfl rfl (dn (CW.ret (rr rfl (.cons ⟨_, rfl, run_loadN ty34 (cs := [.string (bs ((s_l25Write p_t p_r).Key)), .string (bs ((s_l25Write p_t p_r).Val)), .bool ((s_l25Write p_t p_r).Gone)]) rfl (hB55.cells (n := 3) rfl)⟩ (.cons rfl .nil)) ?_))))
  have hM57 : (s_RowWrite p_t p_r) = (((s_l25Write p_t p_r), true)) := by simp only [s_RowWrite, hb43, cL]
  rw [hM57]
  exact ⟨rfl, (ok_l25Write (by omega) (by omega) (by assumption)), (Below.only (Ex.trans (Ex.trans (Ex.trans (Ex.trans (Ex.trans (Ex.refl w) hE15) hE21) hE27) hE42) hE51) hO56 (by omega))⟩
 ·refine CW.cond_t rfl (not_f hb43) (CW.seq (CW.region (sd rfl (yl_build (cs := [.string (bs (([] : Str))), .string (bs (([] : Str))), .bool (false)]) rfl opvs_nil (by kernel_rfl) (SeqR.u rfl rfl (yl_store (vs := [.string (bs (([] : Str))), .string (bs (([] : Str))), .bool (false)]) ty34 rfl rfl rfl rfl rfl rfl (Box.ex hB26 hE42) (Nat.le_of_ble_eq_true rfl) ?_))))))
  intro w65 hB66 hO67
  have hB66 : Box w65 b22 34 [.string (bs (([] : Str))), .string (bs (([] : Str))), .bool (false)] := hB66
  have hO67z := hO67.size
  refine sd rfl (yl_assign rfl rfl (dn (CW.ret (tr (rr rfl (.cons ⟨_, rfl, run_loadN ty34 (cs := [.string (bs (([] : Str))), .string (bs (([] : Str))), .bool (false)]) rfl (hB66.cells (n := 3) rfl)⟩ (.cons rfl .nil)) ?_)))))
  have hM68 : (s_RowWrite p_t p_r) = (((⟨([] : Str), ([] : Str), false⟩ : DWrite), false)) := by simp only [s_RowWrite, hb43, cL]
  rw [hM68]
  exact ⟨rfl, ⟨(okS.lit rfl), (okS.lit rfl)⟩, (Below.only (Ex.trans (Ex.trans (Ex.trans (Ex.trans (Ex.refl w) hE15) hE21) hE27) hE42) hO67 (by omega))⟩
theorem c_g_internal_stringslite_HasPrefix {w : World} (p_s : Str) (p_prefix : Str) (o1 : okS p_s) (o2 : okS p_prefix) : Cal Tryd.prog 81 #[.string (bs (p_s)), .string (bs (p_prefix))] w fun v w' => v = .bool ((g_internal_stringslite_HasPrefix p_s p_prefix)) ∧ Ex w w' := by
 have hol3 : p_s.length ≤ 1073741824 := o1
 have hol4 : p_prefix.length ≤ 1073741824 := o2
 refine Cal.of func81 rfl ntmps81 rfl (CW.seq (CW.region (sd rfl (yl_assign rfl rfl (dn (CW.seq (CW.region (sd rfl (yl_move rfl rfl ?_)))))))))
 refine sd rfl (yl_slen un9 (a := p_s) rfl rfl (sd rfl (yl_move rfl rfl (sd rfl (yl_slen un9 (a := p_prefix) rfl rfl (sd rfl (yl_geq rfl rfl rfl (sd rfl (yl_move rfl rfl (bcase (decide ((p_prefix.length : Int) ≤ (p_s.length : Int))) (fun hb5 => ?_) (fun hb5 => ?_)))))))))))
 ·have hb5p := dec_t hb5
  refine sy rfl rfl hb5 (yl_move rfl rfl (sy rfl rfl hb5 (yl_move rfl rfl (sy rfl rfl hb5 (yl_slen un9 (a := p_prefix) rfl rfl (sy rfl rfl hb5 (yl_sslice_hi un9 (a := p_s) (h := p_prefix.length) rfl rfl rfl (by omega) (sy rfl rfl hb5 (yl_move rfl rfl (sy rfl rfl hb5 (yl_seql (a := (p_s.take p_prefix.length)) (b := p_prefix) rfl rfl rfl (sd rfl (yl_pick_t rfl rfl hb5 rfl (sd rfl (yl_assign rfl rfl (SeqR.done ?_))))))))))))))))
  refine tn (CW.ret (rr rfl (.cons rfl .nil) ?_))
  have hM6 : (g_internal_stringslite_HasPrefix p_s p_prefix) = ((p_s.take p_prefix.length) == p_prefix) := by simp only [g_internal_stringslite_HasPrefix, hb5, cL]
  rw [hM6]
  exact ⟨rfl, (Ex.refl w)⟩
 ·have hb5p := dec_f hb5
  refine sz rfl rfl hb5 (sz rfl rfl hb5 (sz rfl rfl hb5 (sz rfl rfl hb5 (sz rfl rfl hb5 (sz rfl rfl hb5 (sd rfl (yl_pick_f rfl rfl hb5 rfl (sd rfl (yl_assign rfl rfl (SeqR.done ?_))))))))))
  refine tn (CW.ret (rr rfl (.cons rfl .nil) ?_))
  have hM7 : (g_internal_stringslite_HasPrefix p_s p_prefix) = (false) := by simp only [g_internal_stringslite_HasPrefix, hb5, cL]
  rw [hM7]
  exact ⟨rfl, (Ex.refl w)⟩
theorem c_g_internal_stringslite_CutPrefix {w : World} (p_s : Str) (p_prefix : Str) (o1 : okS p_s) (o2 : okS p_prefix) : Cal Tryd.prog 73 #[.string (bs (p_s)), .string (bs (p_prefix))] w fun v w' => v = .tuple #[.string (bs ((g_internal_stringslite_CutPrefix p_s p_prefix).1)), .bool ((g_internal_stringslite_CutPrefix p_s p_prefix).2)] ∧ okS ((g_internal_stringslite_CutPrefix p_s p_prefix).1) ∧ Ex w w' := by
 have hol3 : p_s.length ≤ 1073741824 := o1
 have hol4 : p_prefix.length ≤ 1073741824 := o2
 refine Cal.of func73 rfl ntmps73 rfl (CW.seq (CW.region (sd rfl (yl_assign rfl rfl (sd rfl (yl_assign rfl rfl (dn (CW.seq (CW.seq ?_)))))))))
 refine CW.region (sd rfl (yl_move rfl rfl (sd rfl (yl_move rfl rfl (sd rfl (yl_call en81 rfl (oc rfl (oc rfl oz)) (Cal.mono (c_g_internal_stringslite_HasPrefix p_s p_prefix o1 o2) ?_)))))))
 rintro v6 w5 ⟨rfl, hE7⟩
 have hE7z := Ex.size hE7
 refine sd rfl (yl_not rfl rfl (dn (bcase (g_internal_stringslite_HasPrefix p_s p_prefix) (fun hb8 => ?_) (fun hb8 => ?_))))
 ·have hb8p := f_HasPrefix hb8
  refine CW.cond_f rfl (not_t hb8) (CW.skip (tn (CW.seq (CW.region (sd rfl (yl_move rfl rfl (sd rfl (yl_move rfl rfl (sd rfl (yl_slen un9 (a := p_prefix) rfl rfl (sd rfl (yl_sslice_lo un9 (a := p_s) (l := p_prefix.length) rfl rfl rfl (by omega) ?_))))))))))))
  refine sd rfl (yl_assign rfl rfl (sd rfl (yl_assign rfl rfl (dn (CW.ret (rr rfl (.cons rfl (.cons rfl .nil)) ?_))))))
  have hM9 : (g_internal_stringslite_CutPrefix p_s p_prefix) = (((p_s.drop p_prefix.length), true)) := by simp only [g_internal_stringslite_CutPrefix, hb8, cL]
  rw [hM9]
  exact ⟨rfl, (okS.drop o1 _), (Ex.trans (Ex.refl w) hE7)⟩
 ·refine CW.cond_t rfl (not_f hb8) (CW.seq (CW.region (sd rfl (yl_move rfl rfl (sd rfl (yl_assign rfl rfl (sd rfl (yl_assign rfl rfl (dn (CW.ret ?_))))))))))
  refine tr (rr rfl (.cons rfl (.cons rfl .nil)) ?_)
  have hM11 : (g_internal_stringslite_CutPrefix p_s p_prefix) = ((p_s, false)) := by simp only [g_internal_stringslite_CutPrefix, hb8, cL]
  rw [hM11]
  exact ⟨rfl, o1, (Ex.trans (Ex.refl w) hE7)⟩
theorem c_g_strings_CutPrefix {w : World} (p_s : Str) (p_prefix : Str) (o1 : okS p_s) (o2 : okS p_prefix) : Cal Tryd.prog 56 #[.string (bs (p_s)), .string (bs (p_prefix))] w fun v w' => v = .tuple #[.string (bs ((g_strings_CutPrefix p_s p_prefix).1)), .bool ((g_strings_CutPrefix p_s p_prefix).2)] ∧ okS ((g_strings_CutPrefix p_s p_prefix).1) ∧ Ex w w' := by
 refine Cal.of func56 rfl ntmps56 rfl (CW.seq (CW.region (sd rfl (yl_assign rfl rfl (sd rfl (yl_assign rfl rfl (dn (CW.seq (CW.region ?_)))))))))
 refine sd rfl (yl_move rfl rfl (sd rfl (yl_move rfl rfl (sd rfl (yl_call en73 rfl (oc rfl (oc rfl oz)) (Cal.mono (c_g_internal_stringslite_CutPrefix p_s p_prefix o1 o2) ?_))))))
 rintro v7 w5 ⟨rfl, ho6, hE8⟩
 refine sd rfl (yl_extract rfl rfl rfl (sd rfl (yl_extract rfl rfl rfl (sd rfl (yl_assign rfl rfl (sd rfl (yl_assign rfl rfl (dn (CW.ret (rr rfl (.cons rfl (.cons rfl .nil)) ?_))))))))))
 have hM9 : (g_strings_CutPrefix p_s p_prefix) = (((g_internal_stringslite_CutPrefix p_s p_prefix).1, (g_internal_stringslite_CutPrefix p_s p_prefix).2)) := by simp only [g_strings_CutPrefix, cL]
 rw [hM9]
 exact ⟨rfl, ho6, (Ex.trans (Ex.refl w) hE8)⟩
theorem c_i_Table_readRow {A1 : Option Addr} {c1 : Nat} {A2 : Option Addr} {c2 : Nat} {w : World} (p_t : DTable) (p_w : DWrite) (h1 : RdS w (Iv 0 w.heap.size) (RF e_Str) 1 A1 p_t.Cols.length c1 p_t.Cols) (h2 : RdS w (Iv 0 w.heap.size) (RF e_Idx) 3 A2 p_t.Idxs.length c2 p_t.Idxs) (o3 : ok_Table p_t) (o4 : ok_Write p_w) (pre0 : s_GoodTable p_t = true) : Cal Tryd.prog 30 #[.agg #[.string (bs (p_t.Name)), .slice A1 p_t.Cols.length c1, .slice A2 p_t.Idxs.length c2], .agg #[.string (bs (p_w.Key)), .string (bs (p_w.Val)), .bool (p_w.Gone)]] w fun v w' => ∃ A_1 c_1 lo_1 hi_1, v = .tuple #[.agg #[.slice A_1 (((i_Table_readRow p_t p_w).1.Vals).length) c_1], .bool ((i_Table_readRow p_t p_w).2)] ∧ OwnL w' lo_1 hi_1 9 1 (RF e_Str) A_1 (((i_Table_readRow p_t p_w).1.Vals).length) c_1 ((i_Table_readRow p_t p_w).1.Vals) ∧ ok_Row ((i_Table_readRow p_t p_w).1) ∧ (w.heap.size ≤ lo_1 ∧ lo_1 ≤ hi_1 ∧ hi_1 ≤ w'.heap.size) ∧ Ex w w' := by
 have hol5 : p_t.Name.length ≤ 1073741824 := o3.1
 have hol6 := o3.2.1.1
 have hol7 := o3.2.2.1
 have hol8 : p_w.Key.length ≤ 1073741824 := o4.1
 have hol9 : p_w.Val.length ≤ 1073741824 := o4.2
 have hgt := f_s_GoodTable pre0
 have hgn := gt_name pre0
 refine Cal.of func30 rfl ntmps30 rfl (CW.seq (CW.region (sd rfl (yl_box rfl rfl rfl ?_))))
 intro b10 w11 hs12 hz13 hB14 hE15
 refine sd rfl (yl_box rfl rfl rfl ?_)
 intro b16 w17 hs18 hz19 hB20 hE21
 refine sd rfl (yl_alloc ty28 (cs := [.slice none 0 0]) rfl rfl ?_)
 intro b22 w23 hs24 hz25 hB26 hE27
 refine sd rfl (yl_assign rfl rfl (dn (CW.seq (CW.region (sd rfl (yl_fieldAddr fd34_0 rfl rfl ?_))))))
 have q28 := Box.ex hB20 hE27
 refine sd rfl (yl_load1 ty9 rfl rfl ((q28.cell 0).trans rfl) (sd rfl (yl_fieldAddr fd26_0 rfl rfl ?_)))
 have q30 := Box.ex (Box.ex hB14 hE21) hE27
 refine sd rfl (yl_load1 ty9 rfl rfl ((q30.cell 0).trans rfl) ?_)
 have hol31 : p_t.Name.length ≤ 1073741824 := o3.1
 refine sd rfl (yl_sadd (a := p_t.Name) (b := ([47] : Str)) rfl rfl rfl (by first | omega | (simp only [List.length_append, List.length_cons, List.length_nil, List.length_take, List.length_drop, toS_length]; omega)) (sd rfl (yl_call en56 rfl (oc rfl (oc rfl oz)) (Cal.mono (c_g_strings_CutPrefix p_w.Key (p_t.Name ++ ([47] : Str)) o4.1 (okS_nm hgn)) ?_))))
 rintro v34 w32 ⟨rfl, ho33, hE35⟩
 have hE35z := Ex.size hE35
 refine sd rfl (yl_move rfl rfl (sd rfl (yl_extract rfl rfl rfl (sd rfl (yl_extract rfl rfl rfl (sd rfl (yl_assign rfl rfl (sd rfl (yl_assign rfl rfl (dn (CW.seq (CW.region ?_))))))))))))
 refine sd rfl (yl_move rfl rfl (sd rfl (yl_buildSlice (cs := [.string (bs ((g_strings_CutPrefix p_w.Key (p_t.Name ++ ([47] : Str))).1))]) un23 ty9 (by decide) rfl (oc rfl oz) (by kernel_rfl) ?_)))
 intro b36 w37 hs38 hz39 hB40 hE41
 have hO42 : OwnL w37 b36 (b36 + 1) 9 1 (RF e_Str) (some ⟨b36, 0, none⟩) 1 1 ([(g_strings_CutPrefix p_w.Key (p_t.Name ++ ([47] : Str))).1] : List Str) := OwnL.of_box (S := fun _ => False) hB40 (Nat.le_refl _) (Nat.lt_succ_self _) (EncL.cons (c := [.string (bs ((g_strings_CutPrefix p_w.Key (p_t.Name ++ ([47] : Str))).1))]) rfl rfl EncL.nil) (Nat.le_of_ble_eq_true rfl) (fun h => h) (fun _ h => False.elim h)
 refine sd rfl (yl_fieldAddr fd34_1 rfl rfl ?_)
 have q44 := Box.ex (Box.ex q28 hE35) hE41
 refine sd rfl (yl_load1 ty9 rfl rfl ((q44.cell 1).trans rfl) (sd rfl (yl_call en57 rfl (oc rfl (oc rfl oz)) (Cal.mono (c_g_strings_Split p_w.Val ([44] : Str) o4.2 (okS.lit rfl) rfl) ?_))))
 rintro v48 w45 ⟨A46, c46, lo46, hi46, rfl, h46, ho47, hrn50, hE49⟩
 have hE49z := Ex.size hE49
 have hrf51 := rf_Split p_w.Val ([44] : Str)
 obtain ⟨nw54, he55, hs56⟩ := RdS.src (OwnL.rd good_Str h46)
 have hol57 : (g_strings_Split p_w.Val ([44] : Str)).length ≤ 2147483648 := ho47.1
 refine sd rfl (yl_appendL (S := (fun _ => False)) (lo := b36) (hi := (b36 + 1)) (xs := ([(g_strings_CutPrefix p_w.Key (p_t.Name ++ ([47] : Str))).1] : List Str)) (ys := (g_strings_Split p_w.Val ([44] : Str))) good_Str un23 ty9 rfl (Nat.le_of_ble_eq_true rfl) rfl rfl rfl (OwnL.ex good_Str hO42 hE49) he55 hs56 rfl (by first | omega | (simp only [List.length_append, List.length_cons, List.length_nil, List.length_take, List.length_drop, List.length_replicate, List.length_set, toS_length]; omega)) (by first | omega | (simp only [List.length_append, List.length_cons, List.length_nil, List.length_take, List.length_drop, List.length_replicate, List.length_set, toS_length]; omega)) (by omega) (by omega) (fun _ h _ => False.elim h) (by omega) ?_)
 intro A58 c59 w60 row61 hO62 hG63 hrg64
 have hG63z := hG63.size
 refine sd rfl (yl_build (cs := [.slice A58 ((([(g_strings_CutPrefix p_w.Key (p_t.Name ++ ([47] : Str))).1] : List Str) ++ (g_strings_Split p_w.Val ([44] : Str))).length) c59]) rfl (oc rfl oz) (by kernel_rfl) (sd rfl (yl_alloc ty28 (cs := [.slice none 0 0]) rfl rfl ?_)))
 intro b65 w66 hs67 hz68 hB69 hE70
 refine SeqR.u rfl rfl (yl_store (vs := [.slice A58 ((([(g_strings_CutPrefix p_w.Key (p_t.Name ++ ([47] : Str))).1] : List Str) ++ (g_strings_Split p_w.Val ([44] : Str))).length) c59]) ty28 rfl rfl rfl rfl rfl rfl hB69 (Nat.le_of_ble_eq_true rfl) ?_)
 intro w71 hB72 hO73
 have hB72 : Box w71 b65 28 [.slice A58 ((([(g_strings_CutPrefix p_w.Key (p_t.Name ++ ([47] : Str))).1] : List Str) ++ (g_strings_Split p_w.Val ([44] : Str))).length) c59] := hB72
 have hO73z := hO73.size
 refine dn (CW.seq (CW.seq (bcase ((g_strings_CutPrefix p_w.Key (p_t.Name ++ ([47] : Str))).2) (fun hb74 => ?_) (fun hb74 => ?_))))
 ·have hol102 : (g_strings_Split p_w.Val ([44] : Str)).length ≤ 2147483648 := ho47.1
  refine bcase (i_Table_isRow p_t (⟨(([(g_strings_CutPrefix p_w.Key (p_t.Name ++ ([47] : Str))).1] : List Str) ++ (g_strings_Split p_w.Val ([44] : Str)))⟩ : DRow)) (fun hb104 => ?_) (fun hb104 => ?_)
  ·obtain ⟨hb104p0, hb104p1⟩ := f_i_isRow hb104
   have q110 := Box.only (Box.ex (Box.grown (Box.ex (Box.ex (Box.ex q30 hE35) hE41) hE49) hG63 (fun k hk => by have := hrg64 k hk; omega)) hE70) hO73 (by omega)
   have q119 := RdS.only good_Str (RdS.ex good_Str (RdS.grown good_Str (RdS.ex good_Str (RdS.ex good_Str (RdS.ex good_Str (RdS.ex good_Str (RdS.ex good_Str (RdS.ex good_Str h1 hE15) hE21) hE27) hE35) hE41) hE49) hG63 (fun k hk => by have := hrg64 k hk; simp only [Iv]; omega)) hE70) hO73 (by simp only [Iv]; omega)
   have q128 := RdS.only good_Idx (RdS.ex good_Idx (RdS.grown good_Idx (RdS.ex good_Idx (RdS.ex good_Idx (RdS.ex good_Idx (RdS.ex good_Idx (RdS.ex good_Idx (RdS.ex good_Idx h2 hE15) hE21) hE27) hE35) hE41) hE49) hG63 (fun k hk => by have := hrg64 k hk; simp only [Iv]; omega)) hE70) hO73 (by simp only [Iv]; omega)
   have q131 := OwnL.only good_Str (OwnL.ex good_Str hO62 hE70) hO73 (by omega)
   have hol132 : (g_strings_Split p_w.Val ([44] : Str)).length ≤ 2147483648 := ho47.1
   have hol139 : (g_strings_Split p_w.Val ([44] : Str)).length ≤ 2147483648 := ho47.1
   refine CW.drawsI 15 (vgetI ([.bool ((g_strings_CutPrefix p_w.Key (p_t.Name ++ ([47] : Str))).2), .bool (!((g_strings_CutPrefix p_w.Key (p_t.Name ++ ([47] : Str))).2)), .bool (!((g_strings_CutPrefix p_w.Key (p_t.Name ++ ([47] : Str))).2)), .agg #[.string (bs (p_t.Name)), .slice A1 p_t.Cols.length c1, .slice A2 p_t.Idxs.length c2], .agg #[.slice A58 ((([(g_strings_CutPrefix p_w.Key (p_t.Name ++ ([47] : Str))).1] : List Str) ++ (g_strings_Split p_w.Val ([44] : Str))).length) c59], .bool ((i_Table_isRow p_t (⟨(([(g_strings_CutPrefix p_w.Key (p_t.Name ++ ([47] : Str))).1] : List Str) ++ (g_strings_Split p_w.Val ([44] : Str)))⟩ : DRow))), .bool (!(i_Table_isRow p_t (⟨(([(g_strings_CutPrefix p_w.Key (p_t.Name ++ ([47] : Str))).1] : List Str) ++ (g_strings_Split p_w.Val ([44] : Str)))⟩ : DRow))), .bool (!(i_Table_isRow p_t (⟨(([(g_strings_CutPrefix p_w.Key (p_t.Name ++ ([47] : Str))).1] : List Str) ++ (g_strings_Split p_w.Val ([44] : Str)))⟩ : DRow))), .bool (!(i_Table_isRow p_t (⟨(([(g_strings_CutPrefix p_w.Key (p_t.Name ++ ([47] : Str))).1] : List Str) ++ (g_strings_Split p_w.Val ([44] : Str)))⟩ : DRow))), .agg #[.string (bs (p_w.Key)), .string (bs (p_w.Val)), .bool (p_w.Gone)], .agg #[.string (bs (p_t.Name)), .slice A1 p_t.Cols.length c1, .slice A2 p_t.Idxs.length c2], .agg #[.slice A58 ((([(g_strings_CutPrefix p_w.Key (p_t.Name ++ ([47] : Str))).1] : List Str) ++ (g_strings_Split p_w.Val ([44] : Str))).length) c59], .agg #[.string (bs ((i_Table_rowWrite p_t (⟨(([(g_strings_CutPrefix p_w.Key (p_t.Name ++ ([47] : Str))).1] : List Str) ++ (g_strings_Split p_w.Val ([44] : Str)))⟩ : DRow)).Key)), .string (bs ((i_Table_rowWrite p_t (⟨(([(g_strings_CutPrefix p_w.Key (p_t.Name ++ ([47] : Str))).1] : List Str) ++ (g_strings_Split p_w.Val ([44] : Str)))⟩ : DRow)).Val)), .bool ((i_Table_rowWrite p_t (⟨(([(g_strings_CutPrefix p_w.Key (p_t.Name ++ ([47] : Str))).1] : List Str) ++ (g_strings_Split p_w.Val ([44] : Str)))⟩ : DRow)).Gone)], .bool (!((p_w.Key == ((i_Table_rowWrite p_t (⟨(([(g_strings_CutPrefix p_w.Key (p_t.Name ++ ([47] : Str))).1] : List Str) ++ (g_strings_Split p_w.Val ([44] : Str)))⟩ : DRow)).Key)) && ((p_w.Val == ((i_Table_rowWrite p_t (⟨(([(g_strings_CutPrefix p_w.Key (p_t.Name ++ ([47] : Str))).1] : List Str) ++ (g_strings_Split p_w.Val ([44] : Str)))⟩ : DRow)).Val)) && (p_w.Gone == ((i_Table_rowWrite p_t (⟨(([(g_strings_CutPrefix p_w.Key (p_t.Name ++ ([47] : Str))).1] : List Str) ++ (g_strings_Split p_w.Val ([44] : Str)))⟩ : DRow)).Gone))))), .bool (!((p_w.Key == ((i_Table_rowWrite p_t (⟨(([(g_strings_CutPrefix p_w.Key (p_t.Name ++ ([47] : Str))).1] : List Str) ++ (g_strings_Split p_w.Val ([44] : Str)))⟩ : DRow)).Key)) && ((p_w.Val == ((i_Table_rowWrite p_t (⟨(([(g_strings_CutPrefix p_w.Key (p_t.Name ++ ([47] : Str))).1] : List Str) ++ (g_strings_Split p_w.Val ([44] : Str)))⟩ : DRow)).Val)) && (p_w.Gone == ((i_Table_rowWrite p_t (⟨(([(g_strings_CutPrefix p_w.Key (p_t.Name ++ ([47] : Str))).1] : List Str) ++ (g_strings_Split p_w.Val ([44] : Str)))⟩ : DRow)).Gone)))))].map DetI)) Tryd.follows rfl rfl rfl rfl rfl rfl (vgetI_stable (stD _)) ⟨?_, ?_, ?_, ?_, ?_, ?_, ?_, ?_, ?_, ?_, ?_, ?_, ?_, ?_, ?_, trivial⟩ ?_
   ·exact oI rfl fun h => yl_move rfl (h.old 7 _ rfl rfl) kI
   ·exact oI rfl fun h => yl_not rfl (h.dt 0 25 rfl rfl rfl) kI
   ·exact oI rfl fun h => yl_move rfl (h.dt 1 26 rfl rfl rfl) kI
   ·exact oW rfl rfl rfl rfl (not_t hb74) fun h => yl_loadN ty26 rfl (h.old 2 _ rfl rfl) ((Box.ex q110 h.ex).cells (n := 3) rfl) rfl kI
   ·exact oW rfl rfl rfl rfl (not_t hb74) fun h => yl_loadN ty28 rfl (h.old 8 _ rfl rfl) ((Box.ex hB72 h.ex).cells (n := 1) rfl) rfl kI
   ·intro L170 w171 hi172
    have hE173 := hi172.ex
    have hE173z := Ex.size hE173
    have hol181 : (g_strings_Split p_w.Val ([44] : Str)).length ≤ 2147483648 := ho47.1
    exact OpR.want rfl rfl (hi172.dt 2 27 rfl rfl rfl) (not_t hb74) (yl_call en29 rfl (oc (hi172.dt 3 28 rfl rfl rfl) (oc (hi172.dt 4 29 rfl rfl rfl) oz)) (Cal.mono (c_i_Table_isRow p_t (⟨(([(g_strings_CutPrefix p_w.Key (p_t.Name ++ ([47] : Str))).1] : List Str) ++ (g_strings_Split p_w.Val ([44] : Str)))⟩ : DRow) (RdS.up (RdS.ex good_Str q119 hE173) good_Str) (RdS.up (RdS.ex good_Idx q128 hE173) good_Idx) (RdS.up (OwnL.rd good_Str (OwnL.ex good_Str q131 hE173)) good_Str) o3 (okL.mk (xs := (([(g_strings_CutPrefix p_w.Key (p_t.Name ++ ([47] : Str))).1] : List Str) ++ (g_strings_Split p_w.Val ([44] : Str)))) (by first | omega | (simp only [List.length_append, List.length_cons, List.length_nil, List.length_take, List.length_drop, List.length_replicate, List.length_set, toS_length]; omega)) (okE.append ((okL.mk (Nat.le_of_ble_eq_true rfl) (okE.cons ho33 okE.nil))).2 (ho47).2))) fun _ _ h => h))
   ·exact oW rfl rfl rfl rfl (not_t hb74) fun h => yl_not rfl (h.dt 5 30 rfl rfl rfl) kI
   ·exact oI rfl fun h => yl_pick_f rfl (h.dt 2 27 rfl rfl rfl) (not_t hb74) (h.dt 6 31 rfl rfl rfl) kI
   ·exact oI rfl fun h => yl_move rfl (h.dt 7 32 rfl rfl rfl) kI
   ·intro L202 w203 hi204
    have hE205 := hi204.ex
    have hE205z := Ex.size hE205
    exact OpR.want rfl rfl (hi204.dt 8 33 rfl rfl rfl) (not_t hb104) (Yl.sameI (yl_loadN ty34 rfl (hi204.old 3 _ rfl rfl) ((Box.ex (Box.only (Box.ex (Box.grown (Box.ex q44 hE49) hG63 (fun k hk => by have := hrg64 k hk; omega)) hE70) hO73 (by omega)) hE205).cells (n := 3) rfl) rfl kI))
   ·exact oW rfl rfl rfl rfl (not_t hb104) fun h => yl_loadN ty26 rfl (h.old 2 _ rfl rfl) ((Box.ex q110 h.ex).cells (n := 3) rfl) rfl kI
   ·exact oW rfl rfl rfl rfl (not_t hb104) fun h => yl_loadN ty28 rfl (h.old 8 _ rfl rfl) ((Box.ex hB72 h.ex).cells (n := 1) rfl) rfl kI
   ·intro L223 w224 hi225
    have hE226 := hi225.ex
    have hE226z := Ex.size hE226
    have hol234 : (g_strings_Split p_w.Val ([44] : Str)).length ≤ 2147483648 := ho47.1
    exact OpR.want rfl rfl (hi225.dt 8 33 rfl rfl rfl) (not_t hb104) (yl_call en25 rfl (oc (hi225.dt 10 35 rfl rfl rfl) (oc (hi225.dt 11 36 rfl rfl rfl) oz)) (Cal.mono (c_i_Table_rowWrite p_t (⟨(([(g_strings_CutPrefix p_w.Key (p_t.Name ++ ([47] : Str))).1] : List Str) ++ (g_strings_Split p_w.Val ([44] : Str)))⟩ : DRow) (RdS.up (RdS.ex good_Str q119 hE226) good_Str) (RdS.up (RdS.ex good_Idx q128 hE226) good_Idx) (RdS.up (OwnL.rd good_Str (OwnL.ex good_Str q131 hE226)) good_Str) o3 (okL.mk (xs := (([(g_strings_CutPrefix p_w.Key (p_t.Name ++ ([47] : Str))).1] : List Str) ++ (g_strings_Split p_w.Val ([44] : Str)))) (by first | omega | (simp only [List.length_append, List.length_cons, List.length_nil, List.length_take, List.length_drop, List.length_replicate, List.length_set, toS_length]; omega)) (okE.append ((okL.mk (Nat.le_of_ble_eq_true rfl) (okE.cons ho33 okE.nil))).2 (ho47).2)) (by first | omega | assumption | (simp only [wI] at *; omega) | (simp only [List.length_append, List.length_cons, List.length_nil]; omega)) (by first | omega | assumption | (simp only [wI] at *; omega) | (simp only [List.length_append, List.length_cons, List.length_nil]; omega)) (by first | omega | assumption | (simp only [wI] at *; omega) | (simp only [List.length_append, List.length_cons, List.length_nil]; omega))) fun _ _ h => h))
   ·exact oW rfl rfl rfl rfl (not_t hb104) fun h => yl_aneq (xs := [.string (bs (p_w.Key)), .string (bs (p_w.Val)), .bool (p_w.Gone)]) (ys := [.string (bs ((i_Table_rowWrite p_t (⟨(([(g_strings_CutPrefix p_w.Key (p_t.Name ++ ([47] : Str))).1] : List Str) ++ (g_strings_Split p_w.Val ([44] : Str)))⟩ : DRow)).Key)), .string (bs ((i_Table_rowWrite p_t (⟨(([(g_strings_CutPrefix p_w.Key (p_t.Name ++ ([47] : Str))).1] : List Str) ++ (g_strings_Split p_w.Val ([44] : Str)))⟩ : DRow)).Val)), .bool ((i_Table_rowWrite p_t (⟨(([(g_strings_CutPrefix p_w.Key (p_t.Name ++ ([47] : Str))).1] : List Str) ++ (g_strings_Split p_w.Val ([44] : Str)))⟩ : DRow)).Gone)]) Tryd.ae34 rfl (h.dt 9 34 rfl rfl rfl) (h.dt 12 37 rfl rfl rfl) kI
   ·exact oI rfl fun h => yl_pick_f rfl (h.dt 8 33 rfl rfl rfl) (not_t hb104) (h.dt 13 38 rfl rfl rfl) kI
   ·intro fl254 fh255 L251 w252 hp253
    have hE256 := hp253.ex
    have hE256z := Ex.size hE256
    refine dn (CW.sub (Sub.cons (d := 4) (hp253.old 4 _ rfl rfl) (Sub.cons (d := 8) (hp253.old 8 _ rfl rfl) (Sub.cons (d := 39) (hp253.nt 14 39 rfl rfl rfl) (Sub.nil _)))) (bcase ((p_w.Key == ((i_Table_rowWrite p_t (⟨(([(g_strings_CutPrefix p_w.Key (p_t.Name ++ ([47] : Str))).1] : List Str) ++ (g_strings_Split p_w.Val ([44] : Str)))⟩ : DRow)).Key)) && ((p_w.Val == ((i_Table_rowWrite p_t (⟨(([(g_strings_CutPrefix p_w.Key (p_t.Name ++ ([47] : Str))).1] : List Str) ++ (g_strings_Split p_w.Val ([44] : Str)))⟩ : DRow)).Val)) && (p_w.Gone == ((i_Table_rowWrite p_t (⟨(([(g_strings_CutPrefix p_w.Key (p_t.Name ++ ([47] : Str))).1] : List Str) ++ (g_strings_Split p_w.Val ([44] : Str)))⟩ : DRow)).Gone)))) (fun hb260 => ?_) (fun hb260 => ?_)))
    ·refine CW.cond_f rfl (not_t hb260) (CW.skip (tn (CW.seq (CW.region (sd rfl (yl_loadN ty28 rfl rfl ((Box.ex hB72 hE256).cells (n := 1) rfl) rfl (SeqR.u rfl rfl (yl_store (vs := [.slice A58 ((([(g_strings_CutPrefix p_w.Key (p_t.Name ++ ([47] : Str))).1] : List Str) ++ (g_strings_Split p_w.Val ([44] : Str))).length) c59]) ty28 rfl rfl rfl rfl rfl rfl (Box.ex (Box.only (Box.ex (Box.grown (Box.ex (Box.ex (Box.ex hB26 hE35) hE41) hE49) hG63 (fun k hk => by have := hrg64 k hk; omega)) hE70) hO73 (by omega)) hE256) (Nat.le_of_ble_eq_true rfl) ?_))))))))
     intro w269 hB270 hO271
     have hB270 : Box w269 b22 28 [.slice A58 ((([(g_strings_CutPrefix p_w.Key (p_t.Name ++ ([47] : Str))).1] : List Str) ++ (g_strings_Split p_w.Val ([44] : Str))).length) c59] := hB270
     have hO271z := hO271.size
     refine sd rfl (yl_assign rfl rfl (dn (CW.ret (rr rfl (.cons ⟨_, rfl, run_loadN ty28 (cs := [.slice A58 ((([(g_strings_CutPrefix p_w.Key (p_t.Name ++ ([47] : Str))).1] : List Str) ++ (g_strings_Split p_w.Val ([44] : Str))).length) c59]) rfl (hB270.cells (n := 1) rfl)⟩ (.cons rfl .nil)) ?_))))
     have hM272 : (i_Table_readRow p_t p_w) = (((⟨(([(g_strings_CutPrefix p_w.Key (p_t.Name ++ ([47] : Str))).1] : List Str) ++ (g_strings_Split p_w.Val ([44] : Str)))⟩ : DRow), true)) := by simp only [i_Table_readRow, hb74, hb104, hb260, cL]
     have hol275 : (g_strings_Split p_w.Val ([44] : Str)).length ≤ 2147483648 := ho47.1
     rw [hM272]
     exact ⟨A58, c59, b36, w60.heap.size, rfl, (OwnL.only good_Str (OwnL.ex good_Str q131 hE256) hO271 (by omega)), (okL.mk (xs := (([(g_strings_CutPrefix p_w.Key (p_t.Name ++ ([47] : Str))).1] : List Str) ++ (g_strings_Split p_w.Val ([44] : Str)))) (by first | omega | (simp only [List.length_append, List.length_cons, List.length_nil, List.length_take, List.length_drop, List.length_replicate, List.length_set, toS_length]; omega)) (okE.append ((okL.mk (Nat.le_of_ble_eq_true rfl) (okE.cons ho33 okE.nil))).2 (ho47).2)), (by omega), (Below.only (Ex.trans (Below.only (Ex.trans (Below.grown (Ex.trans (Ex.trans (Ex.trans (Ex.trans (Ex.trans (Ex.trans (Ex.refl w) hE15) hE21) hE27) hE35) hE41) hE49) hG63 (by omega) (fun k hk => by have := hrg64 k hk; omega)) hE70) hO73 (by omega)) hE256) hO271 (by omega))⟩
    ·refine CW.cond_t rfl (not_f hb260) (CW.seq (CW.region (sd rfl (yl_build (cs := [.slice none 0 0]) rfl opvs_nil (by kernel_rfl) (SeqR.u rfl rfl (yl_store (vs := [.slice none 0 0]) ty28 rfl rfl rfl rfl rfl rfl (Box.ex (Box.only (Box.ex (Box.grown (Box.ex (Box.ex (Box.ex hB26 hE35) hE41) hE49) hG63 (fun k hk => by have := hrg64 k hk; omega)) hE70) hO73 (by omega)) hE256) (Nat.le_of_ble_eq_true rfl) ?_))))))
     intro w294 hB295 hO296
     have hB295 : Box w294 b22 28 [.slice none 0 0] := hB295
     have hO296z := hO296.size
     refine sd rfl (yl_assign rfl rfl (dn (CW.ret (tr (rr rfl (.cons ⟨_, rfl, run_loadN ty28 (cs := [.slice none 0 0]) rfl (hB295.cells (n := 1) rfl)⟩ (.cons rfl .nil)) ?_)))))
     have hM297 : (i_Table_readRow p_t p_w) = (((⟨[]⟩ : DRow), false)) := by simp only [i_Table_readRow, hb74, hb104, hb260, cL]
     rw [hM297]
     exact ⟨none, 0, w294.heap.size, w294.heap.size, rfl, (OwnL.nil _ _ _ _ _ _), (okL.nil _), (by omega), (Below.only (Ex.trans (Below.only (Ex.trans (Below.grown (Ex.trans (Ex.trans (Ex.trans (Ex.trans (Ex.trans (Ex.trans (Ex.refl w) hE15) hE21) hE27) hE35) hE41) hE49) hG63 (by omega) (fun k hk => by have := hrg64 k hk; omega)) hE70) hO73 (by omega)) hE256) hO296 (by omega))⟩
  ·have hol336 : (g_strings_Split p_w.Val ([44] : Str)).length ≤ 2147483648 := ho47.1
   refine CW.drawsI 15 (vgetI ([.bool ((g_strings_CutPrefix p_w.Key (p_t.Name ++ ([47] : Str))).2), .bool (!((g_strings_CutPrefix p_w.Key (p_t.Name ++ ([47] : Str))).2)), .bool (!((g_strings_CutPrefix p_w.Key (p_t.Name ++ ([47] : Str))).2)), .agg #[.string (bs (p_t.Name)), .slice A1 p_t.Cols.length c1, .slice A2 p_t.Idxs.length c2], .agg #[.slice A58 ((([(g_strings_CutPrefix p_w.Key (p_t.Name ++ ([47] : Str))).1] : List Str) ++ (g_strings_Split p_w.Val ([44] : Str))).length) c59], .bool ((i_Table_isRow p_t (⟨(([(g_strings_CutPrefix p_w.Key (p_t.Name ++ ([47] : Str))).1] : List Str) ++ (g_strings_Split p_w.Val ([44] : Str)))⟩ : DRow))), .bool (!(i_Table_isRow p_t (⟨(([(g_strings_CutPrefix p_w.Key (p_t.Name ++ ([47] : Str))).1] : List Str) ++ (g_strings_Split p_w.Val ([44] : Str)))⟩ : DRow))), .bool (!(i_Table_isRow p_t (⟨(([(g_strings_CutPrefix p_w.Key (p_t.Name ++ ([47] : Str))).1] : List Str) ++ (g_strings_Split p_w.Val ([44] : Str)))⟩ : DRow))), .bool (!(i_Table_isRow p_t (⟨(([(g_strings_CutPrefix p_w.Key (p_t.Name ++ ([47] : Str))).1] : List Str) ++ (g_strings_Split p_w.Val ([44] : Str)))⟩ : DRow))), undef, undef, undef, undef, undef, .bool (true)].map DetI)) Tryd.follows rfl rfl rfl rfl rfl rfl (vgetI_stable (stD _)) ⟨?_, ?_, ?_, ?_, ?_, ?_, ?_, ?_, ?_, ?_, ?_, ?_, ?_, ?_, ?_, trivial⟩ ?_
   ·exact oI rfl fun h => yl_move rfl (h.old 7 _ rfl rfl) kI
   ·exact oI rfl fun h => yl_not rfl (h.dt 0 25 rfl rfl rfl) kI
   ·exact oI rfl fun h => yl_move rfl (h.dt 1 26 rfl rfl rfl) kI
   ·intro L353 w354 hi355
    have hE356 := hi355.ex
    have hE356z := Ex.size hE356
    exact OpR.want rfl rfl (hi355.dt 2 27 rfl rfl rfl) (not_t hb74) (Yl.sameI (yl_loadN ty26 rfl (hi355.old 2 _ rfl rfl) ((Box.ex (Box.only (Box.ex (Box.grown (Box.ex (Box.ex (Box.ex q30 hE35) hE41) hE49) hG63 (fun k hk => by have := hrg64 k hk; omega)) hE70) hO73 (by omega)) hE356).cells (n := 3) rfl) rfl kI))
   ·exact oW rfl rfl rfl rfl (not_t hb74) fun h => yl_loadN ty28 rfl (h.old 8 _ rfl rfl) ((Box.ex hB72 h.ex).cells (n := 1) rfl) rfl kI
   ·intro L367 w368 hi369
    have hE370 := hi369.ex
    have hE370z := Ex.size hE370
    have hol378 : (g_strings_Split p_w.Val ([44] : Str)).length ≤ 2147483648 := ho47.1
    exact OpR.want rfl rfl (hi369.dt 2 27 rfl rfl rfl) (not_t hb74) (yl_call en29 rfl (oc (hi369.dt 3 28 rfl rfl rfl) (oc (hi369.dt 4 29 rfl rfl rfl) oz)) (Cal.mono (c_i_Table_isRow p_t (⟨(([(g_strings_CutPrefix p_w.Key (p_t.Name ++ ([47] : Str))).1] : List Str) ++ (g_strings_Split p_w.Val ([44] : Str)))⟩ : DRow) (RdS.up (RdS.ex good_Str (RdS.only good_Str (RdS.ex good_Str (RdS.grown good_Str (RdS.ex good_Str (RdS.ex good_Str (RdS.ex good_Str (RdS.ex good_Str (RdS.ex good_Str (RdS.ex good_Str h1 hE15) hE21) hE27) hE35) hE41) hE49) hG63 (fun k hk => by have := hrg64 k hk; simp only [Iv]; omega)) hE70) hO73 (by simp only [Iv]; omega)) hE370) good_Str) (RdS.up (RdS.ex good_Idx (RdS.only good_Idx (RdS.ex good_Idx (RdS.grown good_Idx (RdS.ex good_Idx (RdS.ex good_Idx (RdS.ex good_Idx (RdS.ex good_Idx (RdS.ex good_Idx (RdS.ex good_Idx h2 hE15) hE21) hE27) hE35) hE41) hE49) hG63 (fun k hk => by have := hrg64 k hk; simp only [Iv]; omega)) hE70) hO73 (by simp only [Iv]; omega)) hE370) good_Idx) (RdS.up (OwnL.rd good_Str (OwnL.ex good_Str (OwnL.only good_Str (OwnL.ex good_Str hO62 hE70) hO73 (by omega)) hE370)) good_Str) o3 (okL.mk (xs := (([(g_strings_CutPrefix p_w.Key (p_t.Name ++ ([47] : Str))).1] : List Str) ++ (g_strings_Split p_w.Val ([44] : Str)))) (by first | omega | (simp only [List.length_append, List.length_cons, List.length_nil, List.length_take, List.length_drop, List.length_replicate, List.length_set, toS_length]; omega)) (okE.append ((okL.mk (Nat.le_of_ble_eq_true rfl) (okE.cons ho33 okE.nil))).2 (ho47).2))) fun _ _ h => h))
   ·exact oW rfl rfl rfl rfl (not_t hb74) fun h => yl_not rfl (h.dt 5 30 rfl rfl rfl) kI
   ·exact oI rfl fun h => yl_pick_f rfl (h.dt 2 27 rfl rfl rfl) (not_t hb74) (h.dt 6 31 rfl rfl rfl) kI
   ·exact oI rfl fun h => yl_move rfl (h.dt 7 32 rfl rfl rfl) kI
   ·exact oS rfl rfl rfl rfl rfl (not_f hb104)
   ·exact oS rfl rfl rfl rfl rfl (not_f hb104)
   ·exact oS rfl rfl rfl rfl rfl (not_f hb104)
   ·exact oS rfl rfl rfl rfl rfl (not_f hb104)
   ·exact oS rfl rfl rfl rfl rfl (not_f hb104)
   ·exact oI rfl fun h => yl_pick_t rfl (h.dt 8 33 rfl rfl rfl) (not_f hb104) rfl kI
   ·intro fl433 fh434 L430 w431 hp432
    have hE435 := hp432.ex
    have hE435z := Ex.size hE435
    refine dn (CW.sub (Sub.cons (d := 4) (hp432.old 4 _ rfl rfl) (Sub.cons (d := 8) (hp432.old 8 _ rfl rfl) (Sub.cons (d := 39) (hp432.nt 14 39 rfl rfl rfl) (Sub.nil _)))) (CW.cond_t rfl rfl (CW.seq (CW.region (sd rfl (yl_build (cs := [.slice none 0 0]) rfl opvs_nil (by kernel_rfl) (SeqR.u rfl rfl (yl_store (vs := [.slice none 0 0]) ty28 rfl rfl rfl rfl rfl rfl (Box.ex (Box.only (Box.ex (Box.grown (Box.ex (Box.ex (Box.ex hB26 hE35) hE41) hE49) hG63 (fun k hk => by have := hrg64 k hk; omega)) hE70) hO73 (by omega)) hE435) (Nat.le_of_ble_eq_true rfl) ?_))))))))
    intro w446 hB447 hO448
    have hB447 : Box w446 b22 28 [.slice none 0 0] := hB447
    have hO448z := hO448.size
    refine sd rfl (yl_assign rfl rfl (dn (CW.ret (tr (rr rfl (.cons ⟨_, rfl, run_loadN ty28 (cs := [.slice none 0 0]) rfl (hB447.cells (n := 1) rfl)⟩ (.cons rfl .nil)) ?_)))))
    have hM449 : (i_Table_readRow p_t p_w) = (((⟨[]⟩ : DRow), false)) := by simp only [i_Table_readRow, hb74, hb104, cL]
    rw [hM449]
    exact ⟨none, 0, w446.heap.size, w446.heap.size, rfl, (OwnL.nil _ _ _ _ _ _), (okL.nil _), (by omega), (Below.only (Ex.trans (Below.only (Ex.trans (Below.grown (Ex.trans (Ex.trans (Ex.trans (Ex.trans (Ex.trans (Ex.trans (Ex.refl w) hE15) hE21) hE27) hE35) hE41) hE49) hG63 (by omega) (fun k hk => by have := hrg64 k hk; omega)) hE70) hO73 (by omega)) hE435) hO448 (by omega))⟩
 ·refine CW.drawsI 15 (vgetI ([.bool ((g_strings_CutPrefix p_w.Key (p_t.Name ++ ([47] : Str))).2), .bool (!((g_strings_CutPrefix p_w.Key (p_t.Name ++ ([47] : Str))).2)), .bool (!((g_strings_CutPrefix p_w.Key (p_t.Name ++ ([47] : Str))).2)), undef, undef, undef, undef, .bool (true), .bool (true), undef, undef, undef, undef, undef, .bool (true)].map DetI)) Tryd.follows rfl rfl rfl rfl rfl rfl (vgetI_stable (stD _)) ⟨?_, ?_, ?_, ?_, ?_, ?_, ?_, ?_, ?_, ?_, ?_, ?_, ?_, ?_, ?_, trivial⟩ ?_
  ·exact oI rfl fun h => yl_move rfl (h.old 7 _ rfl rfl) kI
  ·exact oI rfl fun h => yl_not rfl (h.dt 0 25 rfl rfl rfl) kI
  ·exact oI rfl fun h => yl_move rfl (h.dt 1 26 rfl rfl rfl) kI
  ·exact oS rfl rfl rfl rfl rfl (not_f hb74)
  ·exact oS rfl rfl rfl rfl rfl (not_f hb74)
  ·exact oS rfl rfl rfl rfl rfl (not_f hb74)
  ·exact oS rfl rfl rfl rfl rfl (not_f hb74)
  ·exact oI rfl fun h => yl_pick_t rfl (h.dt 2 27 rfl rfl rfl) (not_f hb74) rfl kI
  ·exact oI rfl fun h => yl_move rfl (h.dt 7 32 rfl rfl rfl) kI
  ·exact oS rfl rfl rfl rfl rfl rfl
  ·exact oS rfl rfl rfl rfl rfl rfl
  ·exact oS rfl rfl rfl rfl rfl rfl
  ·exact oS rfl rfl rfl rfl rfl rfl
  ·exact oS rfl rfl rfl rfl rfl rfl
  ·exact oI rfl fun h => yl_pick_t rfl (h.dt 8 33 rfl rfl rfl) rfl rfl kI
  ·intro fl541 fh542 L538 w539 hp540
   have hE543 := hp540.ex
   have hE543z := Ex.size hE543
   refine dn (CW.sub (Sub.cons (d := 4) (hp540.old 4 _ rfl rfl) (Sub.cons (d := 8) (hp540.old 8 _ rfl rfl) (Sub.cons (d := 39) (hp540.nt 14 39 rfl rfl rfl) (Sub.nil _)))) (CW.cond_t rfl rfl (CW.seq (CW.region (sd rfl (yl_build (cs := [.slice none 0 0]) rfl opvs_nil (by kernel_rfl) (SeqR.u rfl rfl (yl_store (vs := [.slice none 0 0]) ty28 rfl rfl rfl rfl rfl rfl (Box.ex (Box.only (Box.ex (Box.grown (Box.ex (Box.ex (Box.ex hB26 hE35) hE41) hE49) hG63 (fun k hk => by have := hrg64 k hk; omega)) hE70) hO73 (by omega)) hE543) (Nat.le_of_ble_eq_true rfl) ?_))))))))
   intro w554 hB555 hO556
   have hB555 : Box w554 b22 28 [.slice none 0 0] := hB555
   have hO556z := hO556.size
   refine sd rfl (yl_assign rfl rfl (dn (CW.ret (tr (rr rfl (.cons ⟨_, rfl, run_loadN ty28 (cs := [.slice none 0 0]) rfl (hB555.cells (n := 1) rfl)⟩ (.cons rfl .nil)) ?_)))))
   have hM557 : (i_Table_readRow p_t p_w) = (((⟨[]⟩ : DRow), false)) := by simp only [i_Table_readRow, hb74, cL]
   rw [hM557]
   exact ⟨none, 0, w554.heap.size, w554.heap.size, rfl, (OwnL.nil _ _ _ _ _ _), (okL.nil _), (by omega), (Below.only (Ex.trans (Below.only (Ex.trans (Below.grown (Ex.trans (Ex.trans (Ex.trans (Ex.trans (Ex.trans (Ex.trans (Ex.refl w) hE15) hE21) hE27) hE35) hE41) hE49) hG63 (by omega) (fun k hk => by have := hrg64 k hk; omega)) hE70) hO73 (by omega)) hE543) hO556 (by omega))⟩
theorem c_i_ReadRow {A1 : Option Addr} {c1 : Nat} {A2 : Option Addr} {c2 : Nat} {w : World} (p_t : DTable) (p_w : DWrite) (h1 : RdS w (Iv 0 w.heap.size) (RF e_Str) 1 A1 p_t.Cols.length c1 p_t.Cols) (h2 : RdS w (Iv 0 w.heap.size) (RF e_Idx) 3 A2 p_t.Idxs.length c2 p_t.Idxs) (o3 : ok_Table p_t) (o4 : ok_Write p_w) : Cal Tryd.prog 10 #[.agg #[.string (bs (p_t.Name)), .slice A1 p_t.Cols.length c1, .slice A2 p_t.Idxs.length c2], .agg #[.string (bs (p_w.Key)), .string (bs (p_w.Val)), .bool (p_w.Gone)]] w fun v w' => ∃ A_1 c_1 lo_1 hi_1, v = .tuple #[.agg #[.slice A_1 (((i_ReadRow p_t p_w).1.Vals).length) c_1], .bool ((i_ReadRow p_t p_w).2)] ∧ OwnL w' lo_1 hi_1 9 1 (RF e_Str) A_1 (((i_ReadRow p_t p_w).1.Vals).length) c_1 ((i_ReadRow p_t p_w).1.Vals) ∧ ok_Row ((i_ReadRow p_t p_w).1) ∧ (w.heap.size ≤ lo_1 ∧ lo_1 ≤ hi_1 ∧ hi_1 ≤ w'.heap.size) ∧ Ex w w' := by
 have hol5 : p_t.Name.length ≤ 1073741824 := o3.1
 have hol6 := o3.2.1.1
 have hol7 := o3.2.2.1
 have hol8 : p_w.Key.length ≤ 1073741824 := o4.1
 have hol9 : p_w.Val.length ≤ 1073741824 := o4.2
 refine Cal.of func10 rfl ntmps10 rfl (CW.seq (CW.region (sd rfl (yl_box rfl rfl rfl ?_))))
 intro b10 w11 hs12 hz13 hB14 hE15
 refine sd rfl (yl_box rfl rfl rfl ?_)
 intro b16 w17 hs18 hz19 hB20 hE21
 refine sd rfl (yl_alloc ty28 (cs := [.slice none 0 0]) rfl rfl ?_)
 intro b22 w23 hs24 hz25 hB26 hE27
 refine sd rfl (yl_assign rfl rfl (dn (CW.seq (CW.seq (CW.region ?_)))))
 have q29 := Box.ex (Box.ex hB14 hE21) hE27
 refine sd rfl (yl_loadN ty26 rfl rfl (q29.cells (n := 3) rfl) rfl ?_)
 have q32 := RdS.ex good_Str (RdS.ex good_Str (RdS.ex good_Str h1 hE15) hE21) hE27
 have q35 := RdS.ex good_Idx (RdS.ex good_Idx (RdS.ex good_Idx h2 hE15) hE21) hE27
 refine sd rfl (yl_call en28 rfl (oc rfl oz) (Cal.mono (c_i_GoodTable p_t (RdS.up q32 good_Str) (RdS.up q35 good_Idx) o3) ?_))
 rintro v37 w36 ⟨rfl, hE38⟩
 have hE38z := Ex.size hE38
 refine sd rfl (yl_not rfl rfl (dn (bcase (i_GoodTable p_t) (fun hb39 => ?_) (fun hb39 => ?_))))
 ·have hb39p := f_i_GoodTable hb39
  refine CW.cond_f rfl (not_t hb39) (CW.skip (tn (CW.seq (CW.region (sd rfl (yl_loadN ty26 rfl rfl ((Box.ex q29 hE38).cells (n := 3) rfl) rfl (sd rfl (yl_loadN ty34 rfl rfl ((Box.ex (Box.ex hB20 hE27) hE38).cells (n := 3) rfl) rfl (sd rfl (yl_call en30 rfl (oc rfl (oc rfl oz)) (Cal.mono (c_i_Table_readRow p_t p_w (RdS.up (RdS.ex good_Str q32 hE38) good_Str) (RdS.up (RdS.ex good_Idx q35 hE38) good_Idx) o3 o4 (GoodTable_eq _ ▸ hb39)) ?_)))))))))))
  rintro v48 w45 ⟨A46, c46, lo46, hi46, rfl, h46, ho47, hrn50, hE49⟩
  have hE49z := Ex.size hE49
  refine sd rfl (yl_extract rfl rfl rfl (sd rfl (yl_extract rfl rfl rfl (SeqR.u rfl rfl (yl_store (vs := [.slice A46 (((i_Table_readRow p_t p_w).1.Vals).length) c46]) ty28 rfl rfl rfl rfl rfl rfl (Box.ex (Box.ex hB26 hE38) hE49) (Nat.le_of_ble_eq_true rfl) ?_)))))
  intro w53 hB54 hO55
  have hB54 : Box w53 b22 28 [.slice A46 (((i_Table_readRow p_t p_w).1.Vals).length) c46] := hB54
  have hO55z := hO55.size
  refine sd rfl (yl_assign rfl rfl (dn (CW.ret (rr rfl (.cons ⟨_, rfl, run_loadN ty28 (cs := [.slice A46 (((i_Table_readRow p_t p_w).1.Vals).length) c46]) rfl (hB54.cells (n := 1) rfl)⟩ (.cons rfl .nil)) ?_))))
  have hM56 : (i_ReadRow p_t p_w) = (((i_Table_readRow p_t p_w).1, (i_Table_readRow p_t p_w).2)) := by simp only [i_ReadRow, hb39, cL]
  rw [hM56]
  exact ⟨A46, c46, lo46, hi46, rfl, (OwnL.only good_Str h46 hO55 (by omega)), ho47, (by omega), (Below.only (Ex.trans (Ex.trans (Ex.trans (Ex.trans (Ex.trans (Ex.refl w) hE15) hE21) hE27) hE38) hE49) hO55 (by omega))⟩
 ·refine CW.cond_t rfl (not_f hb39) (CW.seq (CW.region (sd rfl (yl_build (cs := [.slice none 0 0]) rfl opvs_nil (by kernel_rfl) (SeqR.u rfl rfl (yl_store (vs := [.slice none 0 0]) ty28 rfl rfl rfl rfl rfl rfl (Box.ex hB26 hE38) (Nat.le_of_ble_eq_true rfl) ?_))))))
  intro w65 hB66 hO67
  have hB66 : Box w65 b22 28 [.slice none 0 0] := hB66
  have hO67z := hO67.size
  refine sd rfl (yl_assign rfl rfl (dn (CW.ret (tr (rr rfl (.cons ⟨_, rfl, run_loadN ty28 (cs := [.slice none 0 0]) rfl (hB66.cells (n := 1) rfl)⟩ (.cons rfl .nil)) ?_)))))
  have hM68 : (i_ReadRow p_t p_w) = (((⟨[]⟩ : DRow), false)) := by simp only [i_ReadRow, hb39, cL]
  rw [hM68]
  exact ⟨none, 0, w65.heap.size, w65.heap.size, rfl, (OwnL.nil _ _ _ _ _ _), (okL.nil _), (by omega), (Below.only (Ex.trans (Ex.trans (Ex.trans (Ex.trans (Ex.refl w) hE15) hE21) hE27) hE38) hO67 (by omega))⟩
theorem c_l_qSameS {A1 : Option Addr} {c1 : Nat} {A3 : Option Addr} {c3 : Nat} {w : World} (p_a : List Str) (p_b : List Str) (h1 : RdS w (Iv 0 w.heap.size) (RF e_Str) 1 A1 p_a.length c1 p_a) (h3 : RdS w (Iv 0 w.heap.size) (RF e_Str) 1 A3 p_b.length c3 p_b) (o2 : (okL okS) p_a) (o4 : (okL okS) p_b) : Cal Tryd.prog 11 #[.slice A1 p_a.length c1, .slice A3 p_b.length c3] w fun v w' => v = .bool ((l_qSameS p_a p_b)) ∧ Ex w w' := by
 have hol5 := o2.1
 have hol6 := o4.1
 refine Cal.of func11 rfl ntmps11 rfl (CW.seq (CW.region (sd rfl (yl_assign rfl rfl (dn (CW.seq (CW.seq (CW.region ?_))))))))
 refine sd rfl (yl_move rfl rfl (sd rfl (yl_len un23 rfl rfl (sd rfl (yl_move rfl rfl (sd rfl (yl_len un23 rfl rfl (sd rfl (yl_neq rfl rfl rfl (dn (bcase (decide ((p_a.length : Int) = (p_b.length : Int))) (fun hb7 => ?_) (fun hb7 => ?_))))))))))))
 ·have hb7p := dec_t hb7
  refine CW.cond_f rfl (not_t hb7) (CW.skip (tn (CW.seq (CW.seq (CW.region (sd rfl (yl_move rfl rfl (sd rfl (yl_len un23 rfl rfl (sd rfl (yl_move rfl rfl ?_)))))))))))
  refine dn (CW.block (CW.loop (fun m9 L10 w11 => ∃ (k8 : Nat), m9 = p_a.length - k8 ∧ k8 ≤ p_a.length ∧ w.heap.size ≤ w11.heap.size ∧ lkp L10 0 = some (.slice A1 p_a.length c1) ∧ lkp L10 1 = some (.slice A3 p_b.length c3) ∧ lkp L10 12 = some (.int .i64 ((p_a.length : Int))) ∧ lkp L10 13 = some (.int .i64 ((k8 : Int))) ∧ RdS w11 (Iv 0 w.heap.size) (RF e_Str) 1 A1 p_a.length c1 p_a ∧ RdS w11 (Iv 0 w.heap.size) (RF e_Str) 1 A3 p_b.length c3 p_b ∧ Ex w w11 ∧ loopM (B_l_qSameS_0 p_a p_b) (p_a.length - k8) k8 () = loopM (B_l_qSameS_0 p_a p_b) (p_a.length - 0) 0 ()) (p_a.length - 0) ?_ ?_))
  ·exact ⟨0, rfl, (by omega), Nat.le_refl _, rfl, rfl, rfl, rfl, h1, h3, (Ex.refl w), rfl⟩
  ·rintro m12 L13 w14 ⟨k8, rfl, hk15, hsz17, hl18, hl19, hl20, hl21, hf22, hf23, hf24, hI16⟩
   refine CW.sub (Sub.cons hl18 (Sub.cons hl19 (Sub.cons hl20 (Sub.cons hl21 (Sub.nil _))))) ?_
   have hf24z := Ex.size hf24
   have hbg25 := RdS.big hf22
   rcases Nat.lt_or_ge k8 p_a.length with hlt26 | hlt26
   ·refine CW.seq (CW.region (sd rfl (yl_lss rfl rfl rfl (dn (CW.seq (CW.cond_t rfl (lt_t hlt26) (CW.skip (tn ?_))))))))
    refine CW.seq (CW.block (CW.seq (CW.region (sd rfl (yl_move rfl rfl (sd rfl (yl_assign rfl rfl (dn (CW.seq ?_)))))))))
    obtain ⟨eb27, eo27, _, eA27, _, ebl27, _, eR27, eC27⟩ := RdS.aD hf22 d_Str (i := k8)
    obtain rfl := eR27
    have eC27 : Cells w14 eb27 (eo27 + k8 * 1) [.string (bs ((p_a.getD k8 d_Str)))] := eC27
    obtain ⟨eb28, eo28, _, eA28, _, ebl28, _, eR28, eC28⟩ := RdS.aD hf23 d_Str (i := k8)
    obtain rfl := eR28
    have eC28 : Cells w14 eb28 (eo28 + k8 * 1) [.string (bs ((p_b.getD k8 d_Str)))] := eC28
    refine CW.drawsI 9 (vgetI ([.slice A1 p_a.length c1, .int .i64 ((k8 : Int)), .pointer (some ⟨eb27, eo27 + k8 * 1, none⟩), .string (bs ((p_a.getD k8 d_Str))), .slice A3 p_b.length c3, .int .i64 ((k8 : Int)), .pointer (some ⟨eb28, eo28 + k8 * 1, none⟩), .string (bs ((p_b.getD k8 d_Str))), .bool (!((p_a.getD k8 d_Str) == (p_b.getD k8 d_Str)))].map DetI)) Tryd.follows rfl rfl rfl rfl rfl rfl (vgetI_stable (stD _)) ⟨?_, ?_, ?_, ?_, ?_, ?_, ?_, ?_, ?_, trivial⟩ ?_
    ·exact oI rfl fun h => yl_move rfl (h.old 0 _ rfl rfl) kI
    ·exact oI rfl fun h => yl_move rfl (h.old 5 _ rfl rfl) kI
    ·intro L39 w40 hi41
     have hE42 := hi41.ex
     have hE42z := Ex.size hE42
     exact os rfl ((yl_ixN un23 ty9 rfl (hi41.dt 0 16 rfl rfl rfl) (hi41.dt 1 17 rfl rfl rfl) eA27 kI))
    ·exact oI rfl fun h => yl_load1 ty9 rfl (h.dt 2 18 rfl rfl rfl) ((Cells.ex eC27 h.ex) 0 _ rfl) kI
    ·exact oI rfl fun h => yl_move rfl (h.old 1 _ rfl rfl) kI
    ·exact oI rfl fun h => yl_move rfl (h.old 5 _ rfl rfl) kI
    ·intro L61 w62 hi63
     have hE64 := hi63.ex
     have hE64z := Ex.size hE64
     exact os rfl ((yl_ixN un23 ty9 rfl (hi63.dt 4 20 rfl rfl rfl) (hi63.dt 5 21 rfl rfl rfl) eA28 kI))
    ·exact oI rfl fun h => yl_load1 ty9 rfl (h.dt 6 22 rfl rfl rfl) ((Cells.ex eC28 h.ex) 0 _ rfl) kI
    ·exact oI rfl fun h => yl_sneq (a := (p_a.getD k8 d_Str)) (b := (p_b.getD k8 d_Str)) rfl (h.dt 3 19 rfl rfl rfl) (h.dt 7 23 rfl rfl rfl) kI
    ·intro fl82 fh83 L79 w80 hp81
     have hE84 := hp81.ex
     have hE84z := Ex.size hE84
     refine dn (CW.sub (Sub.cons (d := 0) (hp81.old 0 _ rfl rfl) (Sub.cons (d := 1) (hp81.old 1 _ rfl rfl) (Sub.cons (d := 12) (hp81.old 12 _ rfl rfl) (Sub.cons (d := 13) (hp81.old 13 _ rfl rfl) (Sub.cons (d := 24) (hp81.nt 8 24 rfl rfl rfl) (Sub.nil _)))))) (bcase ((p_a.getD k8 d_Str) == (p_b.getD k8 d_Str)) (fun hb90 => ?_) (fun hb90 => ?_)))
     ·refine CW.cond_f rfl (not_t hb90) (CW.skip (bn (tn (CW.region (sd rfl (yl_inc rfl rfl rfl (by omega) (sd rfl (yl_move rfl rfl (dn ?_)))))))))
      have hB91 : B_l_qSameS_0 p_a p_b k8 () = .cont () := by simp only [B_l_qSameS_0, hb7, hb90, cL]
      exact ⟨p_a.length - (k8 + 1), by omega, k8 + 1, rfl, hlt26, (by omega), rfl, rfl, rfl, rfl, (RdS.ex good_Str hf22 hE84), (RdS.ex good_Str hf23 hE84), (Ex.trans hf24 hE84), (loopM.cont hlt26 hB91).symm.trans hI16⟩
     ·refine CW.cond_t rfl (not_f hb90) (CW.seq (CW.region (sd rfl (yl_assign rfl rfl (dn (CW.ret (br (tr ?_))))))))
      refine tr ?_
      have hB96 : B_l_qSameS_0 p_a p_b k8 () = .ret false := by simp only [B_l_qSameS_0, hb7, hb90, cL]
      have hL95 : loopM (B_l_qSameS_0 p_a p_b) (p_a.length - 0) 0 () = .ret false := hI16.symm.trans (loopM.ret hlt26 hB96)
      refine br (tr (rr rfl (.cons rfl .nil) ?_))
      have hM97 : (l_qSameS p_a p_b) = (false) := by simp only [l_qSameS, hb7, hb90, hL95, cL]
      rw [hM97]
      exact ⟨rfl, (Ex.trans hf24 hE84)⟩
   ·refine CW.seq (CW.region (sd rfl (yl_lss rfl rfl rfl (dn (CW.seq (CW.cond_f rfl (lt_f hlt26) (CW.exit (tx ?_))))))))
    refine tx ?_
    have hL99 : loopM (B_l_qSameS_0 p_a p_b) (p_a.length - 0) 0 () = .done () := hI16.symm.trans (loopM.stop hlt26)
    refine bx (tn (CW.seq (CW.region (sd rfl (yl_assign rfl rfl (dn (CW.ret (rr rfl (.cons rfl .nil) ?_))))))))
    have hM100 : (l_qSameS p_a p_b) = (true) := by simp only [l_qSameS, hb7, hL99, cL]
    rw [hM100]
    exact ⟨rfl, hf24⟩
 ·have hb7p := dec_f hb7
  refine CW.cond_t rfl (not_f hb7) (CW.seq (CW.region (sd rfl (yl_assign rfl rfl (dn (CW.ret (tr (rr rfl (.cons rfl .nil) ?_))))))))
  have hM101 : (l_qSameS p_a p_b) = (false) := by simp only [l_qSameS, hb7, cL]
  rw [hM101]
  exact ⟨rfl, (Ex.refl w)⟩
theorem c_i_IdxAt {A1 : Option Addr} {c1 : Nat} {A2 : Option Addr} {c2 : Nat} {w : World} (p_t : DTable) (p_name : Str) (h1 : RdS w (Iv 0 w.heap.size) (RF e_Str) 1 A1 p_t.Cols.length c1 p_t.Cols) (h2 : RdS w (Iv 0 w.heap.size) (RF e_Idx) 3 A2 p_t.Idxs.length c2 p_t.Idxs) (o3 : ok_Table p_t) (o4 : okS p_name) : Cal Tryd.prog 12 #[.agg #[.string (bs (p_t.Name)), .slice A1 p_t.Cols.length c1, .slice A2 p_t.Idxs.length c2], .string (bs (p_name))] w fun v w' => v = .tuple #[.agg #[.string (bs ((i_IdxAt p_t p_name).1.Name)), .int .i64 ((i_IdxAt p_t p_name).1.Col), .int .i64 ((i_IdxAt p_t p_name).1.Stage)], .bool ((i_IdxAt p_t p_name).2)] ∧ ok_Idx ((i_IdxAt p_t p_name).1) ∧ Ex w w' := by
 have hol5 : p_t.Name.length ≤ 1073741824 := o3.1
 have hol6 := o3.2.1.1
 have hol7 := o3.2.2.1
 have hol8 : p_name.length ≤ 1073741824 := o4
 refine Cal.of func12 rfl ntmps12 rfl (CW.seq (CW.region (sd rfl (yl_box rfl rfl rfl ?_))))
 intro b9 w10 hs11 hz12 hB13 hE14
 refine sd rfl (yl_alloc ty42 (cs := [.string (bs (([] : Str))), .int .i64 (0), .int .i64 (0)]) rfl rfl ?_)
 intro b15 w16 hs17 hz18 hB19 hE20
 refine sd rfl (yl_assign rfl rfl (dn (CW.seq (CW.seq (CW.region ?_)))))
 have q21 := Box.ex hB13 hE20
 refine sd rfl (yl_loadN ty26 rfl rfl (q21.cells (n := 3) rfl) rfl (sd rfl (yl_move rfl rfl ?_)))
 have q23 := RdS.ex good_Str (RdS.ex good_Str h1 hE14) hE20
 have q25 := RdS.ex good_Idx (RdS.ex good_Idx h2 hE14) hE20
 refine sd rfl (yl_call en20 rfl (oc rfl (oc rfl oz)) (Cal.mono (c_i_hasIdx p_t p_name (RdS.up q23 good_Str) (RdS.up q25 good_Idx) o3 o4) ?_))
 rintro v27 w26 ⟨rfl, hE28⟩
 have hE28z := Ex.size hE28
 refine sd rfl (yl_not rfl rfl (dn (bcase (i_hasIdx p_t p_name) (fun hb29 => ?_) (fun hb29 => ?_))))
 ·obtain ⟨hb29p0, hb29p1, hb29p2⟩ := f_i_hasIdx hb29
  refine CW.cond_f rfl (not_t hb29) (CW.skip (tn (CW.seq (CW.region (sd rfl (yl_loadN ty26 rfl rfl ((Box.ex q21 hE28).cells (n := 3) rfl) rfl (sd rfl (yl_move rfl rfl (sd rfl (yl_call en31 rfl (oc rfl (oc rfl oz)) (Cal.mono (c_i_Table_idx p_t p_name (RdS.up (RdS.ex good_Str q23 hE28) good_Str) (RdS.up (RdS.ex good_Idx q25 hE28) good_Idx) o3 o4 (by first | omega | assumption | (simp only [wI] at *; omega))) ?_)))))))))))
  rintro v35 w33 ⟨rfl, ho34, hE36⟩
  have hE36z := Ex.size hE36
  refine SeqR.u rfl rfl (yl_store (vs := [.string (bs ((i_Table_idx p_t p_name).Name)), .int .i64 ((i_Table_idx p_t p_name).Col), .int .i64 ((i_Table_idx p_t p_name).Stage)]) ty42 rfl rfl rfl rfl rfl rfl (Box.ex (Box.ex hB19 hE28) hE36) (Nat.le_of_ble_eq_true rfl) ?_)
  intro w39 hB40 hO41
  have hB40 : Box w39 b15 42 [.string (bs ((i_Table_idx p_t p_name).Name)), .int .i64 ((i_Table_idx p_t p_name).Col), .int .i64 ((i_Table_idx p_t p_name).Stage)] := hB40
  have hO41z := hO41.size
  refine sd rfl (yl_assign rfl rfl (dn (CW.ret (rr rfl (.cons ⟨_, rfl, run_loadN ty42 (cs := [.string (bs ((i_Table_idx p_t p_name).Name)), .int .i64 ((i_Table_idx p_t p_name).Col), .int .i64 ((i_Table_idx p_t p_name).Stage)]) rfl (hB40.cells (n := 3) rfl)⟩ (.cons rfl .nil)) ?_))))
  have hM42 : (i_IdxAt p_t p_name) = (((i_Table_idx p_t p_name), true)) := by simp only [i_IdxAt, hb29, cL]
  rw [hM42]
  exact ⟨rfl, ho34, (Below.only (Ex.trans (Ex.trans (Ex.trans (Ex.trans (Ex.refl w) hE14) hE20) hE28) hE36) hO41 (by omega))⟩
 ·refine CW.cond_t rfl (not_f hb29) (CW.seq (CW.region (sd rfl (yl_build (cs := [.string (bs (([] : Str))), .int .i64 (0), .int .i64 (0)]) rfl opvs_nil (by kernel_rfl) (SeqR.u rfl rfl (yl_store (vs := [.string (bs (([] : Str))), .int .i64 (0), .int .i64 (0)]) ty42 rfl rfl rfl rfl rfl rfl (Box.ex hB19 hE28) (Nat.le_of_ble_eq_true rfl) ?_))))))
  intro w49 hB50 hO51
  have hB50 : Box w49 b15 42 [.string (bs (([] : Str))), .int .i64 (0), .int .i64 (0)] := hB50
  have hO51z := hO51.size
  refine sd rfl (yl_assign rfl rfl (dn (CW.ret (tr (rr rfl (.cons ⟨_, rfl, run_loadN ty42 (cs := [.string (bs (([] : Str))), .int .i64 (0), .int .i64 (0)]) rfl (hB50.cells (n := 3) rfl)⟩ (.cons rfl .nil)) ?_)))))
  have hM52 : (i_IdxAt p_t p_name) = (((⟨([] : Str), 0, 0⟩ : DIdx), false)) := by simp only [i_IdxAt, hb29, cL]
  rw [hM52]
  exact ⟨rfl, (okS.lit rfl), (Below.only (Ex.trans (Ex.trans (Ex.trans (Ex.refl w) hE14) hE20) hE28) hO51 (by omega))⟩
theorem c_g_internal_bytealg_Cutover {w : World} (p_n : Int) : Cal Tryd.prog 93 #[.int .i64 (p_n)] w fun v w' => v = .int .i64 ((g_internal_bytealg_Cutover p_n)) ∧ Ex w w' := by
 refine Cal.of func93 rfl ntmps93 rfl (CW.seq (CW.region (sd rfl (yl_assign rfl rfl (dn (CW.seq (CW.region (sd rfl (yl_move rfl rfl ?_)))))))))
 refine sd rfl (yl_add rfl rfl rfl (sd rfl (yl_quo rfl rfl rfl (by decide) (sd rfl (yl_assign rfl rfl (dn (CW.ret (rr rfl (.cons rfl .nil) ?_))))))))
 have hM1 : (g_internal_bytealg_Cutover p_n) = (IntKind.wrap .i64 (Int.tdiv (IntKind.wrap .i64 (p_n + 16)) 8)) := by simp only [g_internal_bytealg_Cutover, cL]
 rw [hM1]
 exact ⟨rfl, (Ex.refl w)⟩
theorem c_g_internal_stringslite_Index {w : World} (p_0 : Str) (p_1 : Str) (o1 : okS p_0) (o2 : okS p_1) (pre0 : p_1.length = 1) : Cal Tryd.prog 85 #[.string (bs (p_0)), .string (bs (p_1))] w fun v w' => v = .int .i64 ((g_internal_stringslite_Index p_0 p_1)) ∧ Ex w w' := by
 have hol3 : p_0.length ≤ 1073741824 := o1
 have hol4 : p_1.length ≤ 1073741824 := o2
 refine Cal.of func85 rfl ntmps85 rfl (CW.seq (CW.region (sd rfl (yl_assign rfl rfl (dn (CW.seq (CW.region (sd rfl (yl_move rfl rfl ?_)))))))))
 refine sd rfl (yl_slen un9 (a := p_1) rfl rfl (sd rfl (yl_assign rfl rfl (dn (CW.seq (CW.block (CW.seq (CW.region (sd rfl (yl_move rfl rfl ?_))))))))))
 refine sd rfl (yl_eql rfl rfl rfl (sd rfl (yl_move rfl rfl (sy rfl rfl (decide_eq_false (by omega)) (yl_move rfl rfl (sy rfl rfl (decide_eq_false (by omega)) (yl_move rfl rfl (sy rfl rfl (decide_eq_false (by omega)) (yl_seql (a := p_1) (b := p_0) rfl rfl rfl (sd rfl (yl_pick_f rfl rfl (decide_eq_false (by omega)) rfl (sd rfl (yl_assign rfl rfl (dn ?_))))))))))))))
 refine bcase (p_1 == p_0) (fun hb5 => ?_) (fun hb5 => ?_)
 ·refine CW.cond_t rfl hb5 (CW.seq (CW.region (sd rfl (yl_assign rfl rfl (dn (CW.ret (br (tr ?_))))))))
  refine rr rfl (.cons rfl .nil) ?_
  have hM6 : (g_internal_stringslite_Index p_0 p_1) = (0) := by simp only [g_internal_stringslite_Index, hb5, cL]
  rw [hM6]
  exact ⟨rfl, (Ex.refl w)⟩
 ·refine CW.cond_f rfl hb5 (CW.seq (CW.region (sd rfl (yl_move rfl rfl (sd rfl (yl_eql rfl rfl rfl (sd rfl (yl_assign rfl rfl (dn (CW.cond_t rfl (decide_eq_true (by omega)) ?_))))))))))
  refine CW.seq (CW.region (sd rfl (yl_move rfl rfl (sd rfl (yl_move rfl rfl (sd rfl (yl_sindexN un9 (a := p_1) rfl rfl rfl (by first | omega | assumption | (simp only [wI] at *; omega)) (sd rfl (yl_call en88 rfl (oc rfl (oc rfl oz)) (Cal.mono (c_g_internal_stringslite_IndexByte p_0 ((p_1.getD 0 0).toNat : Int) o1) ?_))))))))))
  rintro v8 w7 ⟨rfl, hE9⟩
  have hE9z := Ex.size hE9
  refine sd rfl (yl_assign rfl rfl (dn (CW.ret (br (tr (rr rfl (.cons rfl .nil) ?_))))))
  have hM10 : (g_internal_stringslite_Index p_0 p_1) = ((g_internal_stringslite_IndexByte p_0 ((p_1.getD 0 0).toNat : Int))) := by simp only [g_internal_stringslite_Index, hb5, cL]
  rw [hM10]
  exact ⟨rfl, (Ex.trans (Ex.refl w) hE9)⟩
theorem c_g_internal_stringslite_Cut {w : World} (p_s : Str) (p_sep : Str) (o1 : okS p_s) (o2 : okS p_sep) (pre0 : p_sep.length = 1) : Cal Tryd.prog 75 #[.string (bs (p_s)), .string (bs (p_sep))] w fun v w' => v = .tuple #[.string (bs ((g_internal_stringslite_Cut p_s p_sep).1)), .string (bs ((g_internal_stringslite_Cut p_s p_sep).2.1)), .bool ((g_internal_stringslite_Cut p_s p_sep).2.2)] ∧ okS ((g_internal_stringslite_Cut p_s p_sep).1) ∧ okS ((g_internal_stringslite_Cut p_s p_sep).2.1) ∧ Ex w w' := by
 have hol3 : p_s.length ≤ 1073741824 := o1
 have hol4 : p_sep.length ≤ 1073741824 := o2
 refine Cal.of func75 rfl ntmps75 rfl (CW.seq (CW.region (sd rfl (yl_assign rfl rfl (sd rfl (yl_assign rfl rfl (sd rfl (yl_assign rfl rfl (dn (CW.seq ?_))))))))))
 refine CW.seq (CW.region (sd rfl (yl_move rfl rfl (sd rfl (yl_move rfl rfl (sd rfl (yl_call en85 rfl (oc rfl (oc rfl oz)) (Cal.mono (c_g_internal_stringslite_Index p_s p_sep o1 o2 (by first | omega | assumption | (simp only [wI] at *; omega))) ?_))))))))
 rintro v6 w5 ⟨rfl, hE7⟩
 have hE7z := Ex.size hE7
 have hrf8 := rf_Index (s := p_s) (sub := p_sep) (by first | omega | assumption | (simp only [wI] at *; omega))
 refine sd rfl (yl_assign rfl rfl (dn (CW.seq (CW.region (sd rfl (yl_move rfl rfl (sd rfl (yl_geq rfl rfl rfl (dn ?_)))))))))
 refine bcase (decide (0 ≤ (g_internal_stringslite_Index p_s p_sep))) (fun hb9 => ?_) (fun hb9 => ?_)
 ·have hb9p := dec_t hb9
  have hb9q := f_Cut o1 pre0 hb9
  refine CW.cond_t rfl hb9 (CW.seq (CW.drawsI 12 (vgetI ([.string (bs (p_s)), .int .i64 ((g_internal_stringslite_Index p_s p_sep)), .string (bs ((p_s.take (((g_internal_stringslite_Index p_s p_sep)).toNat)))), .string (bs (p_s)), .int .i64 ((g_internal_stringslite_Index p_s p_sep)), .string (bs (p_sep)), .int .i64 ((p_sep.length : Int)), .int .i64 (IntKind.wrap .i64 ((g_internal_stringslite_Index p_s p_sep) + (p_sep.length : Int))), .string (bs ((p_s.drop ((IntKind.wrap .i64 ((g_internal_stringslite_Index p_s p_sep) + (p_sep.length : Int))).toNat)))), .string (bs ((p_s.take (((g_internal_stringslite_Index p_s p_sep)).toNat)))), .string (bs ((p_s.drop ((IntKind.wrap .i64 ((g_internal_stringslite_Index p_s p_sep) + (p_sep.length : Int))).toNat)))), .bool (true)].map DetI)) Tryd.follows rfl rfl rfl rfl rfl rfl (vgetI_stable (stD _)) ⟨?_, ?_, ?_, ?_, ?_, ?_, ?_, ?_, ?_, ?_, ?_, ?_, trivial⟩ ?_))
  ·exact oI rfl fun h => yl_move rfl (h.old 0 _ rfl rfl) kI
  ·exact oI rfl fun h => yl_move rfl (h.old 7 _ rfl rfl) kI
  ·intro L20 w21 hi22
   have hE23 := hi22.ex
   have hE23z := Ex.size hE23
   exact os rfl ((yl_sslice_hi un9 (a := p_s) (h := ((g_internal_stringslite_Index p_s p_sep)).toNat) rfl (hi22.dt 0 13 rfl rfl rfl) (toNat_op (hi22.dt 1 14 rfl rfl rfl) (by omega)) (by omega) kI))
  ·exact oI rfl fun h => yl_move rfl (h.old 0 _ rfl rfl) kI
  ·exact oI rfl fun h => yl_move rfl (h.old 7 _ rfl rfl) kI
  ·exact oI rfl fun h => yl_move rfl (h.old 1 _ rfl rfl) kI
  ·exact oI rfl fun h => yl_slen un9 (a := p_sep) rfl (h.dt 5 18 rfl rfl rfl) kI
  ·exact oI rfl fun h => yl_add rfl (h.dt 4 17 rfl rfl rfl) (h.dt 6 19 rfl rfl rfl) kI
  ·intro L52 w53 hi54
   have hE55 := hi54.ex
   have hE55z := Ex.size hE55
   exact os rfl ((yl_sslice_lo un9 (a := p_s) (l := (IntKind.wrap .i64 ((g_internal_stringslite_Index p_s p_sep) + (p_sep.length : Int))).toNat) rfl (hi54.dt 3 16 rfl rfl rfl) (toNat_op (hi54.dt 7 20 rfl rfl rfl) (by omega)) (by omega) kI))
  ·exact oI rfl fun h => yl_assign rfl (h.dt 2 15 rfl rfl rfl) kI
  ·exact oI rfl fun h => yl_assign rfl (h.dt 8 21 rfl rfl rfl) kI
  ·exact oI rfl fun _ => yl_assign rfl rfl kI
  ·intro fl75 fh76 L72 w73 hp74
   have hE77 := hp74.ex
   have hE77z := Ex.size hE77
   refine dn (CW.sub (Sub.cons (d := 4) (hp74.nt 9 4 rfl rfl rfl) (Sub.cons (d := 5) (hp74.nt 10 5 rfl rfl rfl) (Sub.cons (d := 6) (hp74.nt 11 6 rfl rfl rfl) (Sub.nil _)))) (CW.ret (tr (rr rfl (.cons rfl (.cons rfl (.cons rfl .nil))) ?_))))
   have hM81 : (g_internal_stringslite_Cut p_s p_sep) = (((p_s.take (((g_internal_stringslite_Index p_s p_sep)).toNat)), (p_s.drop ((IntKind.wrap .i64 ((g_internal_stringslite_Index p_s p_sep) + (p_sep.length : Int))).toNat)), true)) := by simp only [g_internal_stringslite_Cut, hb9, cL]
   rw [hM81]
   exact ⟨rfl, (okS.take o1 _), (okS.drop o1 _), (Ex.trans (Ex.trans (Ex.refl w) hE7) hE77)⟩
 ·have hb9p := dec_f hb9
  refine CW.cond_f rfl hb9 (CW.skip (tn (CW.seq (CW.region (sd rfl (yl_move rfl rfl (sd rfl (yl_assign rfl rfl (sd rfl (yl_assign rfl rfl (sd rfl (yl_assign rfl rfl ?_))))))))))))
  refine dn (CW.ret (rr rfl (.cons rfl (.cons rfl (.cons rfl .nil))) ?_))
  have hM84 : (g_internal_stringslite_Cut p_s p_sep) = ((p_s, ([] : Str), false)) := by simp only [g_internal_stringslite_Cut, hb9, cL]
  rw [hM84]
  exact ⟨rfl, o1, (okS.lit rfl), (Ex.trans (Ex.refl w) hE7)⟩
theorem c_g_strings_Cut {w : World} (p_s : Str) (p_sep : Str) (o1 : okS p_s) (o2 : okS p_sep) (pre0 : p_sep.length = 1) : Cal Tryd.prog 58 #[.string (bs (p_s)), .string (bs (p_sep))] w fun v w' => v = .tuple #[.string (bs ((g_strings_Cut p_s p_sep).1)), .string (bs ((g_strings_Cut p_s p_sep).2.1)), .bool ((g_strings_Cut p_s p_sep).2.2)] ∧ okS ((g_strings_Cut p_s p_sep).1) ∧ okS ((g_strings_Cut p_s p_sep).2.1) ∧ Ex w w' := by
 have hol3 : p_s.length ≤ 1073741824 := o1
 have hol4 : p_sep.length ≤ 1073741824 := o2
 refine Cal.of func58 rfl ntmps58 rfl (CW.seq (CW.region (sd rfl (yl_assign rfl rfl (sd rfl (yl_assign rfl rfl (sd rfl (yl_assign rfl rfl (dn (CW.seq ?_))))))))))
 refine CW.region (sd rfl (yl_move rfl rfl (sd rfl (yl_move rfl rfl (sd rfl (yl_call en75 rfl (oc rfl (oc rfl oz)) (Cal.mono (c_g_internal_stringslite_Cut p_s p_sep o1 o2 (by first | omega | assumption | (simp only [wI] at *; omega))) ?_)))))))
 rintro v8 w5 ⟨rfl, ho6, ho7, hE9⟩
 have hE9z := Ex.size hE9
 refine sd rfl (yl_extract rfl rfl rfl (sd rfl (yl_extract rfl rfl rfl (sd rfl (yl_extract rfl rfl rfl (sd rfl (yl_assign rfl rfl (sd rfl (yl_assign rfl rfl (sd rfl (yl_assign rfl rfl (dn (CW.ret ?_)))))))))))))
 refine rr rfl (.cons rfl (.cons rfl (.cons rfl .nil))) ?_
 have hM10 : (g_strings_Cut p_s p_sep) = (((g_internal_stringslite_Cut p_s p_sep).1, (g_internal_stringslite_Cut p_s p_sep).2.1, (g_internal_stringslite_Cut p_s p_sep).2.2)) := by simp only [g_strings_Cut, cL]
 rw [hM10]
 exact ⟨rfl, ho6, ho7, (Ex.trans (Ex.refl w) hE9)⟩
theorem c_i_Table_readIdxKey {A1 : Option Addr} {c1 : Nat} {A2 : Option Addr} {c2 : Nat} {w : World} (p_t : DTable) (p_name : Str) (p_key : Str) (h1 : RdS w (Iv 0 w.heap.size) (RF e_Str) 1 A1 p_t.Cols.length c1 p_t.Cols) (h2 : RdS w (Iv 0 w.heap.size) (RF e_Idx) 3 A2 p_t.Idxs.length c2 p_t.Idxs) (o3 : ok_Table p_t) (o4 : okS p_name) (o5 : okS p_key) (pre0 : (p_t.Name.length ≤ 1 ∧ p_name.length ≤ 1)) : Cal Tryd.prog 32 #[.agg #[.string (bs (p_t.Name)), .slice A1 p_t.Cols.length c1, .slice A2 p_t.Idxs.length c2], .string (bs (p_name)), .string (bs (p_key))] w fun v w' => v = .tuple #[.string (bs ((i_Table_readIdxKey p_t p_name p_key).1)), .string (bs ((i_Table_readIdxKey p_t p_name p_key).2.1)), .bool ((i_Table_readIdxKey p_t p_name p_key).2.2)] ∧ okS ((i_Table_readIdxKey p_t p_name p_key).1) ∧ okS ((i_Table_readIdxKey p_t p_name p_key).2.1) ∧ Ex w w' := by
 refine Cal.of func32 rfl ntmps32 rfl (CW.seq (CW.region (sd rfl (yl_box rfl rfl rfl ?_))))
 intro b11 w12 hs13 hz14 hB15 hE16
 refine sd rfl (yl_assign rfl rfl (sd rfl (yl_assign rfl rfl (sd rfl (yl_assign rfl rfl (dn (CW.seq (CW.region (sd rfl (yl_move rfl rfl (sd rfl (yl_loadN ty26 rfl rfl (hB15.cells (n := 3) rfl) rfl ?_))))))))))))
 refine sd rfl (yl_move rfl rfl (sd rfl (yl_call en44 rfl (oc rfl (oc rfl oz)) (Cal.mono (c_i_Table_idxHead p_t p_name (RdS.up (RdS.ex good_Str h1 hE16) good_Str) (RdS.up (RdS.ex good_Idx h2 hE16) good_Idx) o3 o4) ?_))))
 rintro v20 w19 ⟨rfl, hE21⟩
 have hrf22 := rf_idxHead p_t p_name
 refine sd rfl (yl_call en56 rfl (oc rfl (oc rfl oz)) (Cal.mono (c_g_strings_CutPrefix p_key (i_Table_idxHead p_t p_name) o5 (okS_idxHead pre0)) ?_))
 rintro v25 w23 ⟨rfl, ho24, hE26⟩
 refine sd rfl (yl_move rfl rfl (sd rfl (yl_extract rfl rfl rfl (sd rfl (yl_extract rfl rfl rfl (sd rfl (yl_assign rfl rfl (sd rfl (yl_assign rfl rfl (dn (CW.seq (CW.region ?_))))))))))))
 refine sd rfl (yl_move rfl rfl (sd rfl (yl_call en58 rfl (oc rfl (oc rfl oz)) (Cal.mono (c_g_strings_Cut ((g_strings_CutPrefix p_key (i_Table_idxHead p_t p_name)).1) ([47] : Str) ho24 (okS.lit rfl) rfl) ?_))))
 rintro v30 w27 ⟨rfl, ho28, ho29, hE31⟩
 refine sd rfl (yl_move rfl rfl (sd rfl (yl_extract rfl rfl rfl (sd rfl (yl_extract rfl rfl rfl (sd rfl (yl_extract rfl rfl rfl (sd rfl (yl_assign rfl rfl (sd rfl (yl_assign rfl rfl (sd rfl (yl_assign rfl rfl (dn ?_))))))))))))))
 refine CW.seq (CW.seq (CW.region (sd rfl (yl_move rfl rfl (sd rfl (yl_not rfl rfl (sd rfl (yl_move rfl rfl (bcase ((g_strings_CutPrefix p_key (i_Table_idxHead p_t p_name)).2) (fun hb32 => ?_) (fun hb32 => ?_))))))))))
 ·refine sy rfl rfl (not_t hb32) (yl_move rfl rfl (sy rfl rfl (not_t hb32) (yl_not rfl rfl (sd rfl (yl_pick_f rfl rfl (not_t hb32) rfl (sd rfl (yl_move rfl rfl (bcase ((g_strings_Cut ((g_strings_CutPrefix p_key (i_Table_idxHead p_t p_name)).1) ([47] : Str)).2.2) (fun hb33 => ?_) (fun hb33 => ?_)))))))))
  ·refine sy rfl rfl (not_t hb33) (yl_move rfl rfl (sy rfl rfl (not_t hb33) (yl_call en55 rfl (oc rfl oz) (Cal.mono (c_i_isField ((g_strings_Cut ((g_strings_CutPrefix p_key (i_Table_idxHead p_t p_name)).1) ([47] : Str)).1) ho28) ?_))))
   rintro v35 w34 ⟨rfl, hE36⟩
   refine sy rfl rfl (not_t hb33) (yl_not rfl rfl (sd rfl (yl_pick_f rfl rfl (not_t hb33) rfl (sd rfl (yl_move rfl rfl (bcase (i_isField ((g_strings_Cut ((g_strings_CutPrefix p_key (i_Table_idxHead p_t p_name)).1) ([47] : Str)).1)) (fun hb37 => ?_) (fun hb37 => ?_)))))))
   ·refine sy rfl rfl (not_t hb37) (yl_move rfl rfl (sy rfl rfl (not_t hb37) (yl_call en55 rfl (oc rfl oz) (Cal.mono (c_i_isField ((g_strings_Cut ((g_strings_CutPrefix p_key (i_Table_idxHead p_t p_name)).1) ([47] : Str)).2.1) ho29) ?_))))
    rintro v39 w38 ⟨rfl, hE40⟩
    refine sy rfl rfl (not_t hb37) (yl_not rfl rfl (sd rfl (yl_pick_f rfl rfl (not_t hb37) rfl (dn (bcase (i_isField ((g_strings_Cut ((g_strings_CutPrefix p_key (i_Table_idxHead p_t p_name)).1) ([47] : Str)).2.1)) (fun hb41 => ?_) (fun hb41 => ?_))))))
    ·refine CW.cond_f rfl (not_t hb41) (CW.skip (tn (CW.seq (CW.region (sd rfl (yl_move rfl rfl (sd rfl (yl_move rfl rfl (sd rfl (yl_assign rfl rfl (sd rfl (yl_assign rfl rfl ?_))))))))))))
     refine sd rfl (yl_assign rfl rfl (dn (CW.ret (rr rfl (.cons rfl (.cons rfl (.cons rfl .nil))) ?_))))
     have hM42 : (i_Table_readIdxKey p_t p_name p_key) = (((g_strings_Cut ((g_strings_CutPrefix p_key (i_Table_idxHead p_t p_name)).1) ([47] : Str)).1, (g_strings_Cut ((g_strings_CutPrefix p_key (i_Table_idxHead p_t p_name)).1) ([47] : Str)).2.1, true)) := by simp only [i_Table_readIdxKey, hb32, hb33, hb37, hb41, cL]
     rw [hM42]
     exact ⟨rfl, ho28, ho29, (Ex.trans (Ex.trans (Ex.trans (Ex.trans (Ex.trans (Ex.trans (Ex.refl w) hE16) hE21) hE26) hE31) hE36) hE40)⟩
    ·refine CW.cond_t rfl (not_f hb41) (CW.seq (CW.region (sd rfl (yl_assign rfl rfl (sd rfl (yl_assign rfl rfl (sd rfl (yl_assign rfl rfl (dn (CW.ret ?_))))))))))
     refine tr (rr rfl (.cons rfl (.cons rfl (.cons rfl .nil))) ?_)
     have hM49 : (i_Table_readIdxKey p_t p_name p_key) = ((([] : Str), ([] : Str), false)) := by simp only [i_Table_readIdxKey, hb32, hb33, hb37, hb41, cL]
     rw [hM49]
     exact ⟨rfl, (okS.lit rfl), (okS.lit rfl), (Ex.trans (Ex.trans (Ex.trans (Ex.trans (Ex.trans (Ex.trans (Ex.refl w) hE16) hE21) hE26) hE31) hE36) hE40)⟩
   ·refine sz rfl rfl (not_f hb37) (sz rfl rfl (not_f hb37) (sz rfl rfl (not_f hb37) (sd rfl (yl_pick_t rfl rfl (not_f hb37) rfl (dn (CW.cond_t rfl rfl (CW.seq (CW.region ?_))))))))
    refine sd rfl (yl_assign rfl rfl (sd rfl (yl_assign rfl rfl (sd rfl (yl_assign rfl rfl (dn (CW.ret (tr (rr rfl (.cons rfl (.cons rfl (.cons rfl .nil))) ?_)))))))))
    have hM56 : (i_Table_readIdxKey p_t p_name p_key) = ((([] : Str), ([] : Str), false)) := by simp only [i_Table_readIdxKey, hb32, hb33, hb37, cL]
    rw [hM56]
    exact ⟨rfl, (okS.lit rfl), (okS.lit rfl), (Ex.trans (Ex.trans (Ex.trans (Ex.trans (Ex.trans (Ex.refl w) hE16) hE21) hE26) hE31) hE36)⟩
  ·refine sz rfl rfl (not_f hb33) (sz rfl rfl (not_f hb33) (sz rfl rfl (not_f hb33) (sd rfl (yl_pick_t rfl rfl (not_f hb33) rfl (sd rfl (yl_move rfl rfl (sz rfl rfl rfl (sz rfl rfl rfl (sz rfl rfl rfl (sd rfl (yl_pick_t rfl rfl rfl rfl ?_)))))))))))
   refine dn (CW.cond_t rfl rfl (CW.seq (CW.region (sd rfl (yl_assign rfl rfl (sd rfl (yl_assign rfl rfl (sd rfl (yl_assign rfl rfl (SeqR.done ?_))))))))))
   refine tn (CW.ret (tr (rr rfl (.cons rfl (.cons rfl (.cons rfl .nil))) ?_)))
   have hM62 : (i_Table_readIdxKey p_t p_name p_key) = ((([] : Str), ([] : Str), false)) := by simp only [i_Table_readIdxKey, hb32, hb33, cL]
   rw [hM62]
   exact ⟨rfl, (okS.lit rfl), (okS.lit rfl), (Ex.trans (Ex.trans (Ex.trans (Ex.trans (Ex.refl w) hE16) hE21) hE26) hE31)⟩
 ·refine sz rfl rfl (not_f hb32) (sz rfl rfl (not_f hb32) (sd rfl (yl_pick_t rfl rfl (not_f hb32) rfl (sd rfl (yl_move rfl rfl (sz rfl rfl rfl (sz rfl rfl rfl (sz rfl rfl rfl (sd rfl (yl_pick_t rfl rfl rfl rfl (sd rfl (yl_move rfl rfl ?_))))))))))))
  refine sz rfl rfl rfl (sz rfl rfl rfl (sz rfl rfl rfl (sd rfl (yl_pick_t rfl rfl rfl rfl (dn (CW.cond_t rfl rfl (CW.seq (CW.region ?_))))))))
  refine sd rfl (yl_assign rfl rfl (sd rfl (yl_assign rfl rfl (sd rfl (yl_assign rfl rfl (dn (CW.ret (tr (rr rfl (.cons rfl (.cons rfl (.cons rfl .nil))) ?_)))))))))
  have hM67 : (i_Table_readIdxKey p_t p_name p_key) = ((([] : Str), ([] : Str), false)) := by simp only [i_Table_readIdxKey, hb32, cL]
  rw [hM67]
  exact ⟨rfl, (okS.lit rfl), (okS.lit rfl), (Ex.trans (Ex.trans (Ex.trans (Ex.trans (Ex.refl w) hE16) hE21) hE26) hE31)⟩
theorem c_i_ReadIdxKey {A1 : Option Addr} {c1 : Nat} {A2 : Option Addr} {c2 : Nat} {w : World} (p_t : DTable) (p_name : Str) (p_key : Str) (h1 : RdS w (Iv 0 w.heap.size) (RF e_Str) 1 A1 p_t.Cols.length c1 p_t.Cols) (h2 : RdS w (Iv 0 w.heap.size) (RF e_Idx) 3 A2 p_t.Idxs.length c2 p_t.Idxs) (o3 : ok_Table p_t) (o4 : okS p_name) (o5 : okS p_key) : Cal Tryd.prog 13 #[.agg #[.string (bs (p_t.Name)), .slice A1 p_t.Cols.length c1, .slice A2 p_t.Idxs.length c2], .string (bs (p_name)), .string (bs (p_key))] w fun v w' => v = .tuple #[.string (bs ((i_ReadIdxKey p_t p_name p_key).1)), .string (bs ((i_ReadIdxKey p_t p_name p_key).2.1)), .bool ((i_ReadIdxKey p_t p_name p_key).2.2)] ∧ okS ((i_ReadIdxKey p_t p_name p_key).1) ∧ okS ((i_ReadIdxKey p_t p_name p_key).2.1) ∧ Ex w w' := by
 have hol6 : p_t.Name.length ≤ 1073741824 := o3.1
 have hol7 := o3.2.1.1
 have hol8 := o3.2.2.1
 have hol9 : p_name.length ≤ 1073741824 := o4
 have hol10 : p_key.length ≤ 1073741824 := o5
 refine Cal.of func13 rfl ntmps13 rfl (CW.seq (CW.region (sd rfl (yl_box rfl rfl rfl ?_))))
 intro b11 w12 hs13 hz14 hB15 hE16
 refine sd rfl (yl_assign rfl rfl (sd rfl (yl_assign rfl rfl (sd rfl (yl_assign rfl rfl (dn (CW.seq (CW.seq (CW.region (sd rfl (yl_loadN ty26 rfl rfl (hB15.cells (n := 3) rfl) rfl ?_)))))))))))
 refine sd rfl (yl_move rfl rfl ?_)
 have q17 := RdS.ex good_Str h1 hE16
 have q18 := RdS.ex good_Idx h2 hE16
 refine sd rfl (yl_call en20 rfl (oc rfl (oc rfl oz)) (Cal.mono (c_i_hasIdx p_t p_name (RdS.up q17 good_Str) (RdS.up q18 good_Idx) o3 o4) ?_))
 rintro v20 w19 ⟨rfl, hE21⟩
 have hE21z := Ex.size hE21
 refine sd rfl (yl_not rfl rfl (dn (bcase (i_hasIdx p_t p_name) (fun hb22 => ?_) (fun hb22 => ?_))))
 ·obtain ⟨hb22p0, hb22p1, hb22p2⟩ := f_i_hasIdx hb22
  refine CW.cond_f rfl (not_t hb22) (CW.skip (tn (CW.seq (CW.region (sd rfl (yl_loadN ty26 rfl rfl ((Box.ex hB15 hE21).cells (n := 3) rfl) rfl (sd rfl (yl_move rfl rfl (sd rfl (yl_move rfl rfl (sd rfl (yl_call en32 rfl (oc rfl (oc rfl (oc rfl oz))) (Cal.mono (c_i_Table_readIdxKey p_t p_name p_key (RdS.up (RdS.ex good_Str q17 hE21) good_Str) (RdS.up (RdS.ex good_Idx q18 hE21) good_Idx) o3 o4 o5 (by first | omega | assumption | (simp only [wI] at *; omega))) ?_)))))))))))))
  rintro v29 w26 ⟨rfl, ho27, ho28, hE30⟩
  have hE30z := Ex.size hE30
  refine sd rfl (yl_extract rfl rfl rfl (sd rfl (yl_extract rfl rfl rfl (sd rfl (yl_extract rfl rfl rfl (sd rfl (yl_assign rfl rfl (sd rfl (yl_assign rfl rfl (sd rfl (yl_assign rfl rfl (dn (CW.ret ?_)))))))))))))
  refine rr rfl (.cons rfl (.cons rfl (.cons rfl .nil))) ?_
  have hM31 : (i_ReadIdxKey p_t p_name p_key) = (((i_Table_readIdxKey p_t p_name p_key).1, (i_Table_readIdxKey p_t p_name p_key).2.1, (i_Table_readIdxKey p_t p_name p_key).2.2)) := by simp only [i_ReadIdxKey, hb22, cL]
  rw [hM31]
  exact ⟨rfl, ho27, ho28, (Ex.trans (Ex.trans (Ex.trans (Ex.refl w) hE16) hE21) hE30)⟩
 ·refine CW.cond_t rfl (not_f hb22) (CW.seq (CW.region (sd rfl (yl_assign rfl rfl (sd rfl (yl_assign rfl rfl (sd rfl (yl_assign rfl rfl (dn (CW.ret ?_))))))))))
  refine tr (rr rfl (.cons rfl (.cons rfl (.cons rfl .nil))) ?_)
  have hM35 : (i_ReadIdxKey p_t p_name p_key) = ((([] : Str), ([] : Str), false)) := by simp only [i_ReadIdxKey, hb22, cL]
  rw [hM35]
  exact ⟨rfl, (okS.lit rfl), (okS.lit rfl), (Ex.trans (Ex.trans (Ex.refl w) hE16) hE21)⟩
theorem c_s_l1Cur_spoilt {A3 : Option Addr} {c3 : Nat} {slo3 shi3 : Nat} {b1 : Nat} {w : World} (p_0_code : List Int) (p_0 : Int × Int) (p_1 : Str) (p_2 : Str) (h2 : Box w b1 55 [.slice A3 p_0_code.length c3, .int .i64 (p_0.1), .int .u64 (p_0.2)]) (h3 : RdS w (Iv slo3 shi3) (RF e_U8) 1 A3 p_0_code.length c3 p_0_code) (hrn4 : shi3 ≤ w.heap.size) (hrn5 : b1 < slo3 ∨ shi3 ≤ b1) (o6 : (okL okT) p_0_code) (o7 : okS p_1) (o8 : okS p_2) (pre0 : p_1.length ≤ 1000) (pre1 : 0 < p_2.length) (pre2 : (0 ≤ p_0.1 ∧ p_0.1 ≤ 4611686018427387888)) (pre3 : codeOk p_0_code) : Cal Tryd.prog 36 #[.pointer (some ⟨b1, 0, none⟩), .string (bs (p_1)), .string (bs (p_2))] w fun v w' => v = .string (bs ((s_l1Cur_spoilt p_0_code p_0 p_1 p_2).1)) ∧ okS ((s_l1Cur_spoilt p_0_code p_0 p_1 p_2).1) ∧ (p_0.1 ≤ ((s_l1Cur_spoilt p_0_code p_0 p_1 p_2).2).1 ∧ ((s_l1Cur_spoilt p_0_code p_0 p_1 p_2).2).1 ≤ p_0.1 + 16) ∧ Box w' b1 55 [.slice A3 p_0_code.length c3, .int .i64 (((s_l1Cur_spoilt p_0_code p_0 p_1 p_2).2).1), .int .u64 (((s_l1Cur_spoilt p_0_code p_0 p_1 p_2).2).2)] ∧ Chg (InR [(b1, b1 + 1)]) w w' := by
 have hol9 := o6.1
 have hbx10 := Box.lt h2
 have hol11 : p_1.length ≤ 1073741824 := o7
 have hol12 : p_2.length ≤ 1073741824 := o8
 refine Cal.of func36 rfl ntmps36 rfl (CW.seq (CW.region (sd rfl (yl_assign rfl rfl (dn (CW.seq (CW.seq (CW.region ?_))))))))
 refine sd rfl (yl_move rfl rfl (sd rfl (yl_call en35 rfl (oc rfl (oc rfl oz)) (Cal.mono (c_s_l1Cur_pick p_0_code p_0 2 h2 h3 (by omega) (by omega) o6 (by omega) (by assumption)) ?_))))
 rintro v16 w13 ⟨rfl, hp14, hp15, hB18, hc17⟩
 have hc17z := Chg.size hc17
 have hB18z := Box.lt hB18
 refine sd rfl (yl_add rfl rfl rfl (sd rfl (yl_assign rfl rfl (dn (CW.block (CW.loop (fun m112 L113 w114 => ∃ (x108 : Str) (x109 : Int) (x110 : Int) (x111 : Int), ((x109).toNat) < m112 ∧ w13.heap.size ≤ w114.heap.size ∧ lkp L113 0 = some (.pointer (some ⟨b1, 0, none⟩)) ∧ lkp L113 1 = some (.string (bs (x108))) ∧ lkp L113 2 = some (.string (bs (p_2))) ∧ lkp L113 7 = some (.int .i64 (x109)) ∧ Box w114 b1 55 [.slice A3 p_0_code.length c3, .int .i64 (x110), .int .u64 (x111)] ∧ RdS w114 (Iv slo3 shi3) (RF e_U8) 1 A3 p_0_code.length c3 p_0_code ∧ Chg (InR [(b1, b1 + 1)]) w w114 ∧ x108.length + 1 * ((x109).toNat) ≤ p_1.length + 1 * ((IntKind.wrap .i64 (1 + ((s_l1Cur_pick p_0_code p_0 2).1))).toNat) ∧ (((x108.length : Nat) : Int) + x109 ≤ (p_1.length : Int) + 2) ∧ (p_0.1 ≤ x110 ∧ x110 + 6 * x109 ≤ p_0.1 + 14) ∧ (0 ≤ x109 ∧ x109 ≤ 2) ∧ loopW (B_s_l1Cur_spoilt_0 p_0_code p_0 p_1 p_2) m112 (x108, x109, x110, x111) = loopW (B_s_l1Cur_spoilt_0 p_0_code p_0 p_1 p_2) (((IntKind.wrap .i64 (1 + ((s_l1Cur_pick p_0_code p_0 2).1))).toNat) + 1) (p_1, IntKind.wrap .i64 (1 + ((s_l1Cur_pick p_0_code p_0 2).1)), ((s_l1Cur_pick p_0_code p_0 2).2).1, ((s_l1Cur_pick p_0_code p_0 2).2).2)) (((IntKind.wrap .i64 (1 + ((s_l1Cur_pick p_0_code p_0 2).1))).toNat) + 1) ?_ ?_))))))
 ·exact ⟨p_1, IntKind.wrap .i64 (1 + ((s_l1Cur_pick p_0_code p_0 2).1)), ((s_l1Cur_pick p_0_code p_0 2).2).1, ((s_l1Cur_pick p_0_code p_0 2).2).2, Nat.lt_succ_self _, Nat.le_refl _, rfl, rfl, rfl, rfl, hB18, (RdS.chg good_U8 h3 hc17 (fun k hl hk => by simp only [InR, or_false, Iv, Ge] at hk ⊢; omega)), (Chg.tchg (Chg.refl (InR [(b1, b1 + 1)]) w) hc17 (fun k hk => by simp only [InR, or_false] at hk ⊢; omega)), (by first | (simp; done) | (first | omega | assumption | (simp only [List.length_append, List.length_take, List.length_drop, List.length_cons, List.length_nil, toS_length, wI]; omega) | (simp only [List.length_append, List.length_take, List.length_drop, List.length_cons, List.length_nil, toS_length, wI] at *; omega))), (by first | omega | assumption | (simp only [List.length_append, List.length_take, List.length_drop, List.length_cons, List.length_nil, toS_length, wI]; omega) | (simp only [List.length_append, List.length_take, List.length_drop, List.length_cons, List.length_nil, toS_length, wI] at *; omega)), (by first | omega | assumption | (simp only [List.length_append, List.length_take, List.length_drop, List.length_cons, List.length_nil, toS_length, wI]; omega) | (simp only [List.length_append, List.length_take, List.length_drop, List.length_cons, List.length_nil, toS_length, wI] at *; omega)), (by first | omega | assumption | (simp only [List.length_append, List.length_take, List.length_drop, List.length_cons, List.length_nil, toS_length, wI]; omega) | (simp only [List.length_append, List.length_take, List.length_drop, List.length_cons, List.length_nil, toS_length, wI] at *; omega)), rfl⟩
 ·rintro m117 L118 w119 ⟨x108, x109, x110, x111, hk120, hsz122, hl123, hl124, hl125, hl126, hf127, hf128, hf129, hln130, hv131, hv132, hv133, hI121⟩
  refine CW.sub (Sub.cons hl123 (Sub.cons hl124 (Sub.cons hl125 (Sub.cons hl126 (Sub.nil _))))) ?_
  have hf127z := Box.lt hf127
  have hf129z := Chg.size hf129
  refine CW.seq (CW.seq (CW.region (sd rfl (yl_move rfl rfl (sd rfl (yl_gtr rfl rfl rfl (sd rfl (yl_move rfl rfl (bcase (decide (0 < x109)) (fun hb134 => ?_) (fun hb134 => ?_))))))))))
  ·have hb134p := dec_t hb134
   refine sy rfl rfl hb134 (yl_move rfl rfl (sy rfl rfl hb134 (yl_slen un9 (a := x108) rfl rfl (sy rfl rfl hb134 (yl_gtr rfl rfl rfl (sd rfl (yl_pick_t rfl rfl hb134 rfl (dn (bcase (decide (0 < (x108.length : Int))) (fun hb135 => ?_) (fun hb135 => ?_))))))))))
   ·have hb135p := dec_t hb135
    refine CW.cond_t rfl hb135 (CW.skip (tn (CW.seq (CW.block (CW.seq (CW.region (sd rfl (yl_move rfl rfl (sd rfl (yl_move rfl rfl ?_))))))))))
    refine sd rfl (yl_slen un9 (a := x108) rfl rfl (sd rfl (yl_call en35 rfl (oc rfl (oc rfl oz)) (Cal.mono (c_s_l1Cur_pick p_0_code (x110, x111) (x108.length : Int) hf127 hf128 (by omega) (by omega) o6 (by omega) (by assumption)) ?_))))
    rintro v139 w136 ⟨rfl, hp137, hp138, hB141, hc140⟩
    have hc140z := Chg.size hc140
    have hB141z := Box.lt hB141
    refine sd rfl (yl_assign rfl rfl (dn (CW.seq (CW.region (sd rfl (yl_move rfl rfl (sd rfl (yl_move rfl rfl (sd rfl (yl_move rfl rfl (sd rfl (yl_slen un9 (a := p_2) rfl rfl ?_))))))))))))
    have q142 := RdS.chg good_U8 hf128 hc140 (fun k hl hk => by simp only [InR, or_false, Iv, Ge] at hk ⊢; omega)
    refine sd rfl (yl_call en35 rfl (oc rfl (oc rfl oz)) (Cal.mono (c_s_l1Cur_pick p_0_code ((s_l1Cur_pick p_0_code (x110, x111) (x108.length : Int)).2) (p_2.length : Int) hB141 q142 (by omega) (by omega) o6 (by omega) (by assumption)) ?_))
    rintro v146 w143 ⟨rfl, hp144, hp145, hB148, hc147⟩
    have hc147z := Chg.size hc147
    have hB148z := Box.lt hB148
    refine sd rfl (yl_sindex un9 (a := p_2) rfl rfl rfl (by first | omega | assumption | (simp only [wI] at *; omega)) (by first | omega | assumption | (simp only [wI] at *; omega)) (sd rfl (yl_buildSlice (cs := [.int .u8 (((p_2.getD ((s_l1Cur_pick p_0_code ((s_l1Cur_pick p_0_code (x110, x111) (x108.length : Int)).2) (p_2.length : Int)).1).toNat 0).toNat : Int))]) un22 ty5 (by decide) rfl (oc rfl oz) (by kernel_rfl) ?_)))
    intro b149 w150 hs151 hz152 hB153 hE154
    have hO155 : OwnL w150 b149 (b149 + 1) 5 1 (RF e_U8) (some ⟨b149, 0, none⟩) 1 1 ([((p_2.getD ((s_l1Cur_pick p_0_code ((s_l1Cur_pick p_0_code (x110, x111) (x108.length : Int)).2) (p_2.length : Int)).1).toNat 0).toNat : Int)] : List Int) := OwnL.of_box (S := fun _ => False) hB153 (Nat.le_refl _) (Nat.lt_succ_self _) (EncL.cons (c := [.int .u8 (((p_2.getD ((s_l1Cur_pick p_0_code ((s_l1Cur_pick p_0_code (x110, x111) (x108.length : Int)).2) (p_2.length : Int)).1).toNat 0).toNat : Int))]) rfl rfl EncL.nil) (Nat.le_of_ble_eq_true rfl) (fun h => h) (fun _ h => False.elim h)
    refine sd rfl (yl_toS un22 un5 un9 rfl rfl (OwnL.rd good_U8 hO155) (sd rfl (yl_assign rfl rfl (dn (CW.seq (CW.region (sd rfl (yl_move rfl rfl ?_))))))))
    have q159 := RdS.ex good_U8 (RdS.chg good_U8 q142 hc147 (fun k hl hk => by simp only [InR, or_false, Iv, Ge] at hk ⊢; omega)) hE154
    refine sd rfl (yl_call en35 rfl (oc rfl (oc rfl oz)) (Cal.mono (c_s_l1Cur_pick p_0_code ((s_l1Cur_pick p_0_code ((s_l1Cur_pick p_0_code (x110, x111) (x108.length : Int)).2) (p_2.length : Int)).2) 3 (Box.ex hB148 hE154) q159 (by omega) (by omega) o6 (by omega) (by assumption)) ?_))
    rintro v163 w160 ⟨rfl, hp161, hp162, hB165, hc164⟩
    have hc164z := Chg.size hc164
    have hB165z := Box.lt hB165
    refine dn (CW.block (CW.seq (CW.region (sd rfl (yl_eql rfl rfl rfl (sd rfl (yl_assign rfl rfl (dn ?_))))))))
    refine bcase (decide (((s_l1Cur_pick p_0_code ((s_l1Cur_pick p_0_code ((s_l1Cur_pick p_0_code (x110, x111) (x108.length : Int)).2) (p_2.length : Int)).2) 3).1) = 0)) (fun hb166 => ?_) (fun hb166 => ?_)
    ·have hb166p := dec_t hb166
     refine CW.cond_t rfl hb166 ?_
     have hol167 : (x108.take (((s_l1Cur_pick p_0_code (x110, x111) (x108.length : Int)).1).toNat)).length ≤ 1073741824 := (okS.take (by unfold okS; (try dsimp only); omega) _)
     have hol168 : (toS ([((p_2.getD ((s_l1Cur_pick p_0_code ((s_l1Cur_pick p_0_code (x110, x111) (x108.length : Int)).2) (p_2.length : Int)).1).toNat 0).toNat : Int)] : List Int)).length ≤ 1073741824 := (okS_toS (Nat.le_of_ble_eq_true rfl))
     have hol169 : (x108.take (((s_l1Cur_pick p_0_code (x110, x111) (x108.length : Int)).1).toNat)).length ≤ 1073741824 := (okS.take (by unfold okS; (try dsimp only); omega) _)
     have hol170 : (toS ([((p_2.getD ((s_l1Cur_pick p_0_code ((s_l1Cur_pick p_0_code (x110, x111) (x108.length : Int)).2) (p_2.length : Int)).1).toNat 0).toNat : Int)] : List Int)).length ≤ 1073741824 := (okS_toS (Nat.le_of_ble_eq_true rfl))
     have hol171 : (x108.drop (((s_l1Cur_pick p_0_code (x110, x111) (x108.length : Int)).1).toNat)).length ≤ 1073741824 := (okS.drop (by unfold okS; (try dsimp only); omega) _)
     refine CW.drawsI 10 (vgetI ([.string (bs (x108)), .int .i64 ((s_l1Cur_pick p_0_code (x110, x111) (x108.length : Int)).1), .string (bs ((x108.take (((s_l1Cur_pick p_0_code (x110, x111) (x108.length : Int)).1).toNat)))), .string (bs (toS ([((p_2.getD ((s_l1Cur_pick p_0_code ((s_l1Cur_pick p_0_code (x110, x111) (x108.length : Int)).2) (p_2.length : Int)).1).toNat 0).toNat : Int)] : List Int))), .string (bs ((x108.take (((s_l1Cur_pick p_0_code (x110, x111) (x108.length : Int)).1).toNat)) ++ (toS ([((p_2.getD ((s_l1Cur_pick p_0_code ((s_l1Cur_pick p_0_code (x110, x111) (x108.length : Int)).2) (p_2.length : Int)).1).toNat 0).toNat : Int)] : List Int)))), .string (bs (x108)), .int .i64 ((s_l1Cur_pick p_0_code (x110, x111) (x108.length : Int)).1), .string (bs ((x108.drop (((s_l1Cur_pick p_0_code (x110, x111) (x108.length : Int)).1).toNat)))), .string (bs (((x108.take (((s_l1Cur_pick p_0_code (x110, x111) (x108.length : Int)).1).toNat)) ++ (toS ([((p_2.getD ((s_l1Cur_pick p_0_code ((s_l1Cur_pick p_0_code (x110, x111) (x108.length : Int)).2) (p_2.length : Int)).1).toNat 0).toNat : Int)] : List Int))) ++ (x108.drop (((s_l1Cur_pick p_0_code (x110, x111) (x108.length : Int)).1).toNat)))), .string (bs (((x108.take (((s_l1Cur_pick p_0_code (x110, x111) (x108.length : Int)).1).toNat)) ++ (toS ([((p_2.getD ((s_l1Cur_pick p_0_code ((s_l1Cur_pick p_0_code (x110, x111) (x108.length : Int)).2) (p_2.length : Int)).1).toNat 0).toNat : Int)] : List Int))) ++ (x108.drop (((s_l1Cur_pick p_0_code (x110, x111) (x108.length : Int)).1).toNat))))].map DetI)) Tryd.follows rfl rfl rfl rfl rfl rfl (vgetI_stable (stD _)) ⟨?_, ?_, ?_, ?_, ?_, ?_, ?_, ?_, ?_, ?_, trivial⟩ ?_
     ·exact oI rfl fun h => yl_move rfl (h.old 1 _ rfl rfl) kI
     ·exact oI rfl fun h => yl_move rfl (h.old 8 _ rfl rfl) kI
     ·intro L182 w183 hi184
      have hE185 := hi184.ex
      have hE185z := Ex.size hE185
      exact os rfl ((yl_sslice_hi un9 (a := x108) (h := ((s_l1Cur_pick p_0_code (x110, x111) (x108.length : Int)).1).toNat) rfl (hi184.dt 0 46 rfl rfl rfl) (toNat_op (hi184.dt 1 47 rfl rfl rfl) (by first | omega | assumption | (simp only [wI] at *; omega))) (by first | omega | assumption | (simp only [wI] at *; omega)) kI))
     ·exact oI rfl fun h => yl_move rfl (h.old 9 _ rfl rfl) kI
     ·intro L193 w194 hi195
      have hE196 := hi195.ex
      have hE196z := Ex.size hE196
      have hol199 : (x108.take (((s_l1Cur_pick p_0_code (x110, x111) (x108.length : Int)).1).toNat)).length ≤ 1073741824 := (okS.take (by unfold okS; (try dsimp only); omega) _)
      have hol200 : (toS ([((p_2.getD ((s_l1Cur_pick p_0_code ((s_l1Cur_pick p_0_code (x110, x111) (x108.length : Int)).2) (p_2.length : Int)).1).toNat 0).toNat : Int)] : List Int)).length ≤ 1073741824 := (okS_toS (Nat.le_of_ble_eq_true rfl))
      exact os rfl ((yl_sadd (a := (x108.take (((s_l1Cur_pick p_0_code (x110, x111) (x108.length : Int)).1).toNat))) (b := (toS ([((p_2.getD ((s_l1Cur_pick p_0_code ((s_l1Cur_pick p_0_code (x110, x111) (x108.length : Int)).2) (p_2.length : Int)).1).toNat 0).toNat : Int)] : List Int))) rfl (hi195.dt 2 48 rfl rfl rfl) (hi195.dt 3 49 rfl rfl rfl) (by first | omega | (simp only [List.length_append, List.length_cons, List.length_nil, List.length_take, List.length_drop, toS_length]; omega)) kI))
     ·exact oI rfl fun h => yl_move rfl (h.old 1 _ rfl rfl) kI
     ·exact oI rfl fun h => yl_move rfl (h.old 8 _ rfl rfl) kI
     ·intro L211 w212 hi213
      have hE214 := hi213.ex
      have hE214z := Ex.size hE214
      exact os rfl ((yl_sslice_lo un9 (a := x108) (l := ((s_l1Cur_pick p_0_code (x110, x111) (x108.length : Int)).1).toNat) rfl (hi213.dt 5 51 rfl rfl rfl) (toNat_op (hi213.dt 6 52 rfl rfl rfl) (by first | omega | assumption | (simp only [wI] at *; omega))) (by first | omega | assumption | (simp only [wI] at *; omega)) kI))
     ·intro L217 w218 hi219
      have hE220 := hi219.ex
      have hE220z := Ex.size hE220
      have hol223 : (x108.take (((s_l1Cur_pick p_0_code (x110, x111) (x108.length : Int)).1).toNat)).length ≤ 1073741824 := (okS.take (by unfold okS; (try dsimp only); omega) _)
      have hol224 : (toS ([((p_2.getD ((s_l1Cur_pick p_0_code ((s_l1Cur_pick p_0_code (x110, x111) (x108.length : Int)).2) (p_2.length : Int)).1).toNat 0).toNat : Int)] : List Int)).length ≤ 1073741824 := (okS_toS (Nat.le_of_ble_eq_true rfl))
      have hol225 : (x108.drop (((s_l1Cur_pick p_0_code (x110, x111) (x108.length : Int)).1).toNat)).length ≤ 1073741824 := (okS.drop (by unfold okS; (try dsimp only); omega) _)
      exact os rfl ((yl_sadd (a := ((x108.take (((s_l1Cur_pick p_0_code (x110, x111) (x108.length : Int)).1).toNat)) ++ (toS ([((p_2.getD ((s_l1Cur_pick p_0_code ((s_l1Cur_pick p_0_code (x110, x111) (x108.length : Int)).2) (p_2.length : Int)).1).toNat 0).toNat : Int)] : List Int)))) (b := (x108.drop (((s_l1Cur_pick p_0_code (x110, x111) (x108.length : Int)).1).toNat))) rfl (hi219.dt 4 50 rfl rfl rfl) (hi219.dt 7 53 rfl rfl rfl) (by first | omega | (simp only [List.length_append, List.length_cons, List.length_nil, List.length_take, List.length_drop, toS_length]; omega)) kI))
     ·exact oI rfl fun h => yl_assign rfl (h.dt 8 54 rfl rfl rfl) kI
     ·intro fl234 fh235 L231 w232 hp233
      have hE236 := hp233.ex
      have hE236z := Ex.size hE236
      refine SeqR.done (bn (bn (tn (CW.sub (Sub.cons (d := 0) (hp233.old 0 _ rfl rfl) (Sub.cons (d := 1) (hp233.nt 9 1 rfl rfl rfl) (Sub.cons (d := 2) (hp233.old 2 _ rfl rfl) (Sub.cons (d := 7) (hp233.old 7 _ rfl rfl) (Sub.cons (d := 16) (hp233.old 16 _ rfl rfl) (Sub.cons (d := 17) (hp233.old 17 _ rfl rfl) (Sub.cons (d := 18) (hp233.old 18 _ rfl rfl) (Sub.nil _)))))))) (CW.region (sd rfl (yl_move rfl rfl (sd rfl (yl_sub rfl rfl rfl (sd rfl (yl_assign rfl rfl ?_)))))))))))
      refine dn ?_
      have hB244 : B_s_l1Cur_spoilt_0 p_0_code p_0 p_1 p_2 (x108, x109, x110, x111) = .cont (((x108.take (((s_l1Cur_pick p_0_code (x110, x111) (x108.length : Int)).1).toNat)) ++ (toS ([((p_2.getD ((s_l1Cur_pick p_0_code ((s_l1Cur_pick p_0_code (x110, x111) (x108.length : Int)).2) (p_2.length : Int)).1).toNat 0).toNat : Int)] : List Int))) ++ (x108.drop (((s_l1Cur_pick p_0_code (x110, x111) (x108.length : Int)).1).toNat)), IntKind.wrap .i64 (x109 - 1), ((s_l1Cur_pick p_0_code ((s_l1Cur_pick p_0_code ((s_l1Cur_pick p_0_code (x110, x111) (x108.length : Int)).2) (p_2.length : Int)).2) 3).2).1, ((s_l1Cur_pick p_0_code ((s_l1Cur_pick p_0_code ((s_l1Cur_pick p_0_code (x110, x111) (x108.length : Int)).2) (p_2.length : Int)).2) 3).2).2) := by simp only [B_s_l1Cur_spoilt_0, hb134, hb135, hb166, cL]
      have hmu253 : ((IntKind.wrap .i64 (x109 - 1)).toNat) < ((x109).toNat) := by first | omega | assumption | (simp only [List.length_append, List.length_take, List.length_drop, List.length_cons, List.length_nil, toS_length, wI]; omega) | (simp only [List.length_append, List.length_take, List.length_drop, List.length_cons, List.length_nil, toS_length, wI] at *; omega)
      exact ⟨m117 - 1, by omega, ((x108.take (((s_l1Cur_pick p_0_code (x110, x111) (x108.length : Int)).1).toNat)) ++ (toS ([((p_2.getD ((s_l1Cur_pick p_0_code ((s_l1Cur_pick p_0_code (x110, x111) (x108.length : Int)).2) (p_2.length : Int)).1).toNat 0).toNat : Int)] : List Int))) ++ (x108.drop (((s_l1Cur_pick p_0_code (x110, x111) (x108.length : Int)).1).toNat)), IntKind.wrap .i64 (x109 - 1), ((s_l1Cur_pick p_0_code ((s_l1Cur_pick p_0_code ((s_l1Cur_pick p_0_code (x110, x111) (x108.length : Int)).2) (p_2.length : Int)).2) 3).2).1, ((s_l1Cur_pick p_0_code ((s_l1Cur_pick p_0_code ((s_l1Cur_pick p_0_code (x110, x111) (x108.length : Int)).2) (p_2.length : Int)).2) 3).2).2, (by omega), (by omega), rfl, rfl, rfl, rfl, (Box.ex hB165 hE236), (RdS.ex good_U8 (RdS.chg good_U8 q159 hc164 (fun k hl hk => by simp only [InR, or_false, Iv, Ge] at hk ⊢; omega)) hE236), (Chg.tex (Chg.tchg (Chg.tex (Chg.tchg (Chg.tchg hf129 hc140 (fun k hk => by simp only [InR, or_false] at hk ⊢; omega)) hc147 (fun k hk => by simp only [InR, or_false] at hk ⊢; omega)) hE154) hc164 (fun k hk => by simp only [InR, or_false] at hk ⊢; omega)) hE236), (by first | omega | assumption | (simp only [List.length_append, List.length_take, List.length_drop, List.length_cons, List.length_nil, toS_length, wI]; omega) | (simp only [List.length_append, List.length_take, List.length_drop, List.length_cons, List.length_nil, toS_length, wI] at *; omega)), (by first | omega | assumption | (simp only [List.length_append, List.length_take, List.length_drop, List.length_cons, List.length_nil, toS_length, wI]; omega) | (simp only [List.length_append, List.length_take, List.length_drop, List.length_cons, List.length_nil, toS_length, wI] at *; omega)), (by first | omega | assumption | (simp only [List.length_append, List.length_take, List.length_drop, List.length_cons, List.length_nil, toS_length, wI]; omega) | (simp only [List.length_append, List.length_take, List.length_drop, List.length_cons, List.length_nil, toS_length, wI] at *; omega)), (by first | omega | assumption | (simp only [List.length_append, List.length_take, List.length_drop, List.length_cons, List.length_nil, toS_length, wI]; omega) | (simp only [List.length_append, List.length_take, List.length_drop, List.length_cons, List.length_nil, toS_length, wI] at *; omega)), (loopW.cont hk120 hB244).symm.trans hI121⟩
    ·have hb166p := dec_f hb166
     refine CW.cond_f rfl hb166 (CW.seq (CW.region (sd rfl (yl_eql rfl rfl rfl (sd rfl (yl_assign rfl rfl (dn (bcase (decide (((s_l1Cur_pick p_0_code ((s_l1Cur_pick p_0_code ((s_l1Cur_pick p_0_code (x110, x111) (x108.length : Int)).2) (p_2.length : Int)).2) 3).1) = 1)) (fun hb254 => ?_) (fun hb254 => ?_)))))))))
     ·have hb254p := dec_t hb254
      refine CW.cond_t rfl hb254 ?_
      have hol255 : (x108.take (((s_l1Cur_pick p_0_code (x110, x111) (x108.length : Int)).1).toNat)).length ≤ 1073741824 := (okS.take (by unfold okS; (try dsimp only); omega) _)
      have hol256 : (toS ([((p_2.getD ((s_l1Cur_pick p_0_code ((s_l1Cur_pick p_0_code (x110, x111) (x108.length : Int)).2) (p_2.length : Int)).1).toNat 0).toNat : Int)] : List Int)).length ≤ 1073741824 := (okS_toS (Nat.le_of_ble_eq_true rfl))
      have hol257 : (x108.take (((s_l1Cur_pick p_0_code (x110, x111) (x108.length : Int)).1).toNat)).length ≤ 1073741824 := (okS.take (by unfold okS; (try dsimp only); omega) _)
      have hol258 : (toS ([((p_2.getD ((s_l1Cur_pick p_0_code ((s_l1Cur_pick p_0_code (x110, x111) (x108.length : Int)).2) (p_2.length : Int)).1).toNat 0).toNat : Int)] : List Int)).length ≤ 1073741824 := (okS_toS (Nat.le_of_ble_eq_true rfl))
      have hol259 : (x108.drop ((IntKind.wrap .i64 (((s_l1Cur_pick p_0_code (x110, x111) (x108.length : Int)).1) + 1)).toNat)).length ≤ 1073741824 := (okS.drop (by unfold okS; (try dsimp only); omega) _)
      refine CW.drawsI 11 (vgetI ([.string (bs (x108)), .int .i64 ((s_l1Cur_pick p_0_code (x110, x111) (x108.length : Int)).1), .string (bs ((x108.take (((s_l1Cur_pick p_0_code (x110, x111) (x108.length : Int)).1).toNat)))), .string (bs (toS ([((p_2.getD ((s_l1Cur_pick p_0_code ((s_l1Cur_pick p_0_code (x110, x111) (x108.length : Int)).2) (p_2.length : Int)).1).toNat 0).toNat : Int)] : List Int))), .string (bs ((x108.take (((s_l1Cur_pick p_0_code (x110, x111) (x108.length : Int)).1).toNat)) ++ (toS ([((p_2.getD ((s_l1Cur_pick p_0_code ((s_l1Cur_pick p_0_code (x110, x111) (x108.length : Int)).2) (p_2.length : Int)).1).toNat 0).toNat : Int)] : List Int)))), .string (bs (x108)), .int .i64 ((s_l1Cur_pick p_0_code (x110, x111) (x108.length : Int)).1), .int .i64 (IntKind.wrap .i64 (((s_l1Cur_pick p_0_code (x110, x111) (x108.length : Int)).1) + 1)), .string (bs ((x108.drop ((IntKind.wrap .i64 (((s_l1Cur_pick p_0_code (x110, x111) (x108.length : Int)).1) + 1)).toNat)))), .string (bs (((x108.take (((s_l1Cur_pick p_0_code (x110, x111) (x108.length : Int)).1).toNat)) ++ (toS ([((p_2.getD ((s_l1Cur_pick p_0_code ((s_l1Cur_pick p_0_code (x110, x111) (x108.length : Int)).2) (p_2.length : Int)).1).toNat 0).toNat : Int)] : List Int))) ++ (x108.drop ((IntKind.wrap .i64 (((s_l1Cur_pick p_0_code (x110, x111) (x108.length : Int)).1) + 1)).toNat)))), .string (bs (((x108.take (((s_l1Cur_pick p_0_code (x110, x111) (x108.length : Int)).1).toNat)) ++ (toS ([((p_2.getD ((s_l1Cur_pick p_0_code ((s_l1Cur_pick p_0_code (x110, x111) (x108.length : Int)).2) (p_2.length : Int)).1).toNat 0).toNat : Int)] : List Int))) ++ (x108.drop ((IntKind.wrap .i64 (((s_l1Cur_pick p_0_code (x110, x111) (x108.length : Int)).1) + 1)).toNat))))].map DetI)) Tryd.follows rfl rfl rfl rfl rfl rfl (vgetI_stable (stD _)) ⟨?_, ?_, ?_, ?_, ?_, ?_, ?_, ?_, ?_, ?_, ?_, trivial⟩ ?_
      ·exact oI rfl fun h => yl_move rfl (h.old 1 _ rfl rfl) kI
      ·exact oI rfl fun h => yl_move rfl (h.old 8 _ rfl rfl) kI
      ·intro L270 w271 hi272
       have hE273 := hi272.ex
       have hE273z := Ex.size hE273
       exact os rfl ((yl_sslice_hi un9 (a := x108) (h := ((s_l1Cur_pick p_0_code (x110, x111) (x108.length : Int)).1).toNat) rfl (hi272.dt 0 57 rfl rfl rfl) (toNat_op (hi272.dt 1 58 rfl rfl rfl) (by first | omega | assumption | (simp only [wI] at *; omega))) (by first | omega | assumption | (simp only [wI] at *; omega)) kI))
      ·exact oI rfl fun h => yl_move rfl (h.old 9 _ rfl rfl) kI
      ·intro L281 w282 hi283
       have hE284 := hi283.ex
       have hE284z := Ex.size hE284
       have hol287 : (x108.take (((s_l1Cur_pick p_0_code (x110, x111) (x108.length : Int)).1).toNat)).length ≤ 1073741824 := (okS.take (by unfold okS; (try dsimp only); omega) _)
       have hol288 : (toS ([((p_2.getD ((s_l1Cur_pick p_0_code ((s_l1Cur_pick p_0_code (x110, x111) (x108.length : Int)).2) (p_2.length : Int)).1).toNat 0).toNat : Int)] : List Int)).length ≤ 1073741824 := (okS_toS (Nat.le_of_ble_eq_true rfl))
       exact os rfl ((yl_sadd (a := (x108.take (((s_l1Cur_pick p_0_code (x110, x111) (x108.length : Int)).1).toNat))) (b := (toS ([((p_2.getD ((s_l1Cur_pick p_0_code ((s_l1Cur_pick p_0_code (x110, x111) (x108.length : Int)).2) (p_2.length : Int)).1).toNat 0).toNat : Int)] : List Int))) rfl (hi283.dt 2 59 rfl rfl rfl) (hi283.dt 3 60 rfl rfl rfl) (by first | omega | (simp only [List.length_append, List.length_cons, List.length_nil, List.length_take, List.length_drop, toS_length]; omega)) kI))
      ·exact oI rfl fun h => yl_move rfl (h.old 1 _ rfl rfl) kI
      ·exact oI rfl fun h => yl_move rfl (h.old 8 _ rfl rfl) kI
      ·exact oI rfl fun h => yl_add rfl (h.dt 6 63 rfl rfl rfl) rfl kI
      ·intro L304 w305 hi306
       have hE307 := hi306.ex
       have hE307z := Ex.size hE307
       exact os rfl ((yl_sslice_lo un9 (a := x108) (l := (IntKind.wrap .i64 (((s_l1Cur_pick p_0_code (x110, x111) (x108.length : Int)).1) + 1)).toNat) rfl (hi306.dt 5 62 rfl rfl rfl) (toNat_op (hi306.dt 7 64 rfl rfl rfl) (by first | omega | assumption | (simp only [wI] at *; omega))) (by first | omega | assumption | (simp only [wI] at *; omega)) kI))
      ·intro L310 w311 hi312
       have hE313 := hi312.ex
       have hE313z := Ex.size hE313
       have hol316 : (x108.take (((s_l1Cur_pick p_0_code (x110, x111) (x108.length : Int)).1).toNat)).length ≤ 1073741824 := (okS.take (by unfold okS; (try dsimp only); omega) _)
       have hol317 : (toS ([((p_2.getD ((s_l1Cur_pick p_0_code ((s_l1Cur_pick p_0_code (x110, x111) (x108.length : Int)).2) (p_2.length : Int)).1).toNat 0).toNat : Int)] : List Int)).length ≤ 1073741824 := (okS_toS (Nat.le_of_ble_eq_true rfl))
       have hol318 : (x108.drop ((IntKind.wrap .i64 (((s_l1Cur_pick p_0_code (x110, x111) (x108.length : Int)).1) + 1)).toNat)).length ≤ 1073741824 := (okS.drop (by unfold okS; (try dsimp only); omega) _)
       exact os rfl ((yl_sadd (a := ((x108.take (((s_l1Cur_pick p_0_code (x110, x111) (x108.length : Int)).1).toNat)) ++ (toS ([((p_2.getD ((s_l1Cur_pick p_0_code ((s_l1Cur_pick p_0_code (x110, x111) (x108.length : Int)).2) (p_2.length : Int)).1).toNat 0).toNat : Int)] : List Int)))) (b := (x108.drop ((IntKind.wrap .i64 (((s_l1Cur_pick p_0_code (x110, x111) (x108.length : Int)).1) + 1)).toNat))) rfl (hi312.dt 4 61 rfl rfl rfl) (hi312.dt 8 65 rfl rfl rfl) (by first | omega | (simp only [List.length_append, List.length_cons, List.length_nil, List.length_take, List.length_drop, toS_length]; omega)) kI))
      ·exact oI rfl fun h => yl_assign rfl (h.dt 9 66 rfl rfl rfl) kI
      ·intro fl327 fh328 L324 w325 hp326
       have hE329 := hp326.ex
       have hE329z := Ex.size hE329
       refine SeqR.done (bn (bn (tn (CW.sub (Sub.cons (d := 0) (hp326.old 0 _ rfl rfl) (Sub.cons (d := 1) (hp326.nt 10 1 rfl rfl rfl) (Sub.cons (d := 2) (hp326.old 2 _ rfl rfl) (Sub.cons (d := 7) (hp326.old 7 _ rfl rfl) (Sub.cons (d := 16) (hp326.old 16 _ rfl rfl) (Sub.cons (d := 17) (hp326.old 17 _ rfl rfl) (Sub.cons (d := 18) (hp326.old 18 _ rfl rfl) (Sub.nil _)))))))) (CW.region (sd rfl (yl_move rfl rfl (sd rfl (yl_sub rfl rfl rfl (sd rfl (yl_assign rfl rfl ?_)))))))))))
       refine dn ?_
       have hB337 : B_s_l1Cur_spoilt_0 p_0_code p_0 p_1 p_2 (x108, x109, x110, x111) = .cont (((x108.take (((s_l1Cur_pick p_0_code (x110, x111) (x108.length : Int)).1).toNat)) ++ (toS ([((p_2.getD ((s_l1Cur_pick p_0_code ((s_l1Cur_pick p_0_code (x110, x111) (x108.length : Int)).2) (p_2.length : Int)).1).toNat 0).toNat : Int)] : List Int))) ++ (x108.drop ((IntKind.wrap .i64 (((s_l1Cur_pick p_0_code (x110, x111) (x108.length : Int)).1) + 1)).toNat)), IntKind.wrap .i64 (x109 - 1), ((s_l1Cur_pick p_0_code ((s_l1Cur_pick p_0_code ((s_l1Cur_pick p_0_code (x110, x111) (x108.length : Int)).2) (p_2.length : Int)).2) 3).2).1, ((s_l1Cur_pick p_0_code ((s_l1Cur_pick p_0_code ((s_l1Cur_pick p_0_code (x110, x111) (x108.length : Int)).2) (p_2.length : Int)).2) 3).2).2) := by simp only [B_s_l1Cur_spoilt_0, hb134, hb135, hb166, hb254, cL]
       have hmu346 : ((IntKind.wrap .i64 (x109 - 1)).toNat) < ((x109).toNat) := by first | omega | assumption | (simp only [List.length_append, List.length_take, List.length_drop, List.length_cons, List.length_nil, toS_length, wI]; omega) | (simp only [List.length_append, List.length_take, List.length_drop, List.length_cons, List.length_nil, toS_length, wI] at *; omega)
       exact ⟨m117 - 1, by omega, ((x108.take (((s_l1Cur_pick p_0_code (x110, x111) (x108.length : Int)).1).toNat)) ++ (toS ([((p_2.getD ((s_l1Cur_pick p_0_code ((s_l1Cur_pick p_0_code (x110, x111) (x108.length : Int)).2) (p_2.length : Int)).1).toNat 0).toNat : Int)] : List Int))) ++ (x108.drop ((IntKind.wrap .i64 (((s_l1Cur_pick p_0_code (x110, x111) (x108.length : Int)).1) + 1)).toNat)), IntKind.wrap .i64 (x109 - 1), ((s_l1Cur_pick p_0_code ((s_l1Cur_pick p_0_code ((s_l1Cur_pick p_0_code (x110, x111) (x108.length : Int)).2) (p_2.length : Int)).2) 3).2).1, ((s_l1Cur_pick p_0_code ((s_l1Cur_pick p_0_code ((s_l1Cur_pick p_0_code (x110, x111) (x108.length : Int)).2) (p_2.length : Int)).2) 3).2).2, (by omega), (by omega), rfl, rfl, rfl, rfl, (Box.ex hB165 hE329), (RdS.ex good_U8 (RdS.chg good_U8 q159 hc164 (fun k hl hk => by simp only [InR, or_false, Iv, Ge] at hk ⊢; omega)) hE329), (Chg.tex (Chg.tchg (Chg.tex (Chg.tchg (Chg.tchg hf129 hc140 (fun k hk => by simp only [InR, or_false] at hk ⊢; omega)) hc147 (fun k hk => by simp only [InR, or_false] at hk ⊢; omega)) hE154) hc164 (fun k hk => by simp only [InR, or_false] at hk ⊢; omega)) hE329), (by first | omega | assumption | (simp only [List.length_append, List.length_take, List.length_drop, List.length_cons, List.length_nil, toS_length, wI]; omega) | (simp only [List.length_append, List.length_take, List.length_drop, List.length_cons, List.length_nil, toS_length, wI] at *; omega)), (by first | omega | assumption | (simp only [List.length_append, List.length_take, List.length_drop, List.length_cons, List.length_nil, toS_length, wI]; omega) | (simp only [List.length_append, List.length_take, List.length_drop, List.length_cons, List.length_nil, toS_length, wI] at *; omega)), (by first | omega | assumption | (simp only [List.length_append, List.length_take, List.length_drop, List.length_cons, List.length_nil, toS_length, wI]; omega) | (simp only [List.length_append, List.length_take, List.length_drop, List.length_cons, List.length_nil, toS_length, wI] at *; omega)), (by first | omega | assumption | (simp only [List.length_append, List.length_take, List.length_drop, List.length_cons, List.length_nil, toS_length, wI]; omega) | (simp only [List.length_append, List.length_take, List.length_drop, List.length_cons, List.length_nil, toS_length, wI] at *; omega)), (loopW.cont hk120 hB337).symm.trans hI121⟩
     ·have hb254p := dec_f hb254
      refine CW.cond_f rfl hb254 ?_
      have hol347 : (x108.take (((s_l1Cur_pick p_0_code (x110, x111) (x108.length : Int)).1).toNat)).length ≤ 1073741824 := (okS.take (by unfold okS; (try dsimp only); omega) _)
      have hol348 : (x108.drop ((IntKind.wrap .i64 (((s_l1Cur_pick p_0_code (x110, x111) (x108.length : Int)).1) + 1)).toNat)).length ≤ 1073741824 := (okS.drop (by unfold okS; (try dsimp only); omega) _)
      refine CW.drawsI 9 (vgetI ([.string (bs (x108)), .int .i64 ((s_l1Cur_pick p_0_code (x110, x111) (x108.length : Int)).1), .string (bs ((x108.take (((s_l1Cur_pick p_0_code (x110, x111) (x108.length : Int)).1).toNat)))), .string (bs (x108)), .int .i64 ((s_l1Cur_pick p_0_code (x110, x111) (x108.length : Int)).1), .int .i64 (IntKind.wrap .i64 (((s_l1Cur_pick p_0_code (x110, x111) (x108.length : Int)).1) + 1)), .string (bs ((x108.drop ((IntKind.wrap .i64 (((s_l1Cur_pick p_0_code (x110, x111) (x108.length : Int)).1) + 1)).toNat)))), .string (bs ((x108.take (((s_l1Cur_pick p_0_code (x110, x111) (x108.length : Int)).1).toNat)) ++ (x108.drop ((IntKind.wrap .i64 (((s_l1Cur_pick p_0_code (x110, x111) (x108.length : Int)).1) + 1)).toNat)))), .string (bs ((x108.take (((s_l1Cur_pick p_0_code (x110, x111) (x108.length : Int)).1).toNat)) ++ (x108.drop ((IntKind.wrap .i64 (((s_l1Cur_pick p_0_code (x110, x111) (x108.length : Int)).1) + 1)).toNat))))].map DetI)) Tryd.follows rfl rfl rfl rfl rfl rfl (vgetI_stable (stD _)) ⟨?_, ?_, ?_, ?_, ?_, ?_, ?_, ?_, ?_, trivial⟩ ?_
      ·exact oI rfl fun h => yl_move rfl (h.old 1 _ rfl rfl) kI
      ·exact oI rfl fun h => yl_move rfl (h.old 8 _ rfl rfl) kI
      ·intro L359 w360 hi361
       have hE362 := hi361.ex
       have hE362z := Ex.size hE362
       exact os rfl ((yl_sslice_hi un9 (a := x108) (h := ((s_l1Cur_pick p_0_code (x110, x111) (x108.length : Int)).1).toNat) rfl (hi361.dt 0 36 rfl rfl rfl) (toNat_op (hi361.dt 1 37 rfl rfl rfl) (by first | omega | assumption | (simp only [wI] at *; omega))) (by first | omega | assumption | (simp only [wI] at *; omega)) kI))
      ·exact oI rfl fun h => yl_move rfl (h.old 1 _ rfl rfl) kI
      ·exact oI rfl fun h => yl_move rfl (h.old 8 _ rfl rfl) kI
      ·exact oI rfl fun h => yl_add rfl (h.dt 4 40 rfl rfl rfl) rfl kI
      ·intro L380 w381 hi382
       have hE383 := hi382.ex
       have hE383z := Ex.size hE383
       exact os rfl ((yl_sslice_lo un9 (a := x108) (l := (IntKind.wrap .i64 (((s_l1Cur_pick p_0_code (x110, x111) (x108.length : Int)).1) + 1)).toNat) rfl (hi382.dt 3 39 rfl rfl rfl) (toNat_op (hi382.dt 5 41 rfl rfl rfl) (by first | omega | assumption | (simp only [wI] at *; omega))) (by first | omega | assumption | (simp only [wI] at *; omega)) kI))
      ·intro L386 w387 hi388
       have hE389 := hi388.ex
       have hE389z := Ex.size hE389
       have hol392 : (x108.take (((s_l1Cur_pick p_0_code (x110, x111) (x108.length : Int)).1).toNat)).length ≤ 1073741824 := (okS.take (by unfold okS; (try dsimp only); omega) _)
       have hol393 : (x108.drop ((IntKind.wrap .i64 (((s_l1Cur_pick p_0_code (x110, x111) (x108.length : Int)).1) + 1)).toNat)).length ≤ 1073741824 := (okS.drop (by unfold okS; (try dsimp only); omega) _)
       exact os rfl ((yl_sadd (a := (x108.take (((s_l1Cur_pick p_0_code (x110, x111) (x108.length : Int)).1).toNat))) (b := (x108.drop ((IntKind.wrap .i64 (((s_l1Cur_pick p_0_code (x110, x111) (x108.length : Int)).1) + 1)).toNat))) rfl (hi388.dt 2 38 rfl rfl rfl) (hi388.dt 6 42 rfl rfl rfl) (by first | omega | (simp only [List.length_append, List.length_cons, List.length_nil, List.length_take, List.length_drop, toS_length]; omega)) kI))
      ·exact oI rfl fun h => yl_assign rfl (h.dt 7 43 rfl rfl rfl) kI
      ·intro fl402 fh403 L399 w400 hp401
       have hE404 := hp401.ex
       have hE404z := Ex.size hE404
       refine SeqR.done (bn (bn (tn (CW.sub (Sub.cons (d := 0) (hp401.old 0 _ rfl rfl) (Sub.cons (d := 1) (hp401.nt 8 1 rfl rfl rfl) (Sub.cons (d := 2) (hp401.old 2 _ rfl rfl) (Sub.cons (d := 7) (hp401.old 7 _ rfl rfl) (Sub.cons (d := 16) (hp401.old 16 _ rfl rfl) (Sub.cons (d := 17) (hp401.old 17 _ rfl rfl) (Sub.cons (d := 18) (hp401.old 18 _ rfl rfl) (Sub.nil _)))))))) (CW.region (sd rfl (yl_move rfl rfl (sd rfl (yl_sub rfl rfl rfl (sd rfl (yl_assign rfl rfl ?_)))))))))))
       refine dn ?_
       have hB412 : B_s_l1Cur_spoilt_0 p_0_code p_0 p_1 p_2 (x108, x109, x110, x111) = .cont ((x108.take (((s_l1Cur_pick p_0_code (x110, x111) (x108.length : Int)).1).toNat)) ++ (x108.drop ((IntKind.wrap .i64 (((s_l1Cur_pick p_0_code (x110, x111) (x108.length : Int)).1) + 1)).toNat)), IntKind.wrap .i64 (x109 - 1), ((s_l1Cur_pick p_0_code ((s_l1Cur_pick p_0_code ((s_l1Cur_pick p_0_code (x110, x111) (x108.length : Int)).2) (p_2.length : Int)).2) 3).2).1, ((s_l1Cur_pick p_0_code ((s_l1Cur_pick p_0_code ((s_l1Cur_pick p_0_code (x110, x111) (x108.length : Int)).2) (p_2.length : Int)).2) 3).2).2) := by simp only [B_s_l1Cur_spoilt_0, hb134, hb135, hb166, hb254, cL]
       have hmu421 : ((IntKind.wrap .i64 (x109 - 1)).toNat) < ((x109).toNat) := by first | omega | assumption | (simp only [List.length_append, List.length_take, List.length_drop, List.length_cons, List.length_nil, toS_length, wI]; omega) | (simp only [List.length_append, List.length_take, List.length_drop, List.length_cons, List.length_nil, toS_length, wI] at *; omega)
       exact ⟨m117 - 1, by omega, (x108.take (((s_l1Cur_pick p_0_code (x110, x111) (x108.length : Int)).1).toNat)) ++ (x108.drop ((IntKind.wrap .i64 (((s_l1Cur_pick p_0_code (x110, x111) (x108.length : Int)).1) + 1)).toNat)), IntKind.wrap .i64 (x109 - 1), ((s_l1Cur_pick p_0_code ((s_l1Cur_pick p_0_code ((s_l1Cur_pick p_0_code (x110, x111) (x108.length : Int)).2) (p_2.length : Int)).2) 3).2).1, ((s_l1Cur_pick p_0_code ((s_l1Cur_pick p_0_code ((s_l1Cur_pick p_0_code (x110, x111) (x108.length : Int)).2) (p_2.length : Int)).2) 3).2).2, (by omega), (by omega), rfl, rfl, rfl, rfl, (Box.ex hB165 hE404), (RdS.ex good_U8 (RdS.chg good_U8 q159 hc164 (fun k hl hk => by simp only [InR, or_false, Iv, Ge] at hk ⊢; omega)) hE404), (Chg.tex (Chg.tchg (Chg.tex (Chg.tchg (Chg.tchg hf129 hc140 (fun k hk => by simp only [InR, or_false] at hk ⊢; omega)) hc147 (fun k hk => by simp only [InR, or_false] at hk ⊢; omega)) hE154) hc164 (fun k hk => by simp only [InR, or_false] at hk ⊢; omega)) hE404), (by first | omega | assumption | (simp only [List.length_append, List.length_take, List.length_drop, List.length_cons, List.length_nil, toS_length, wI]; omega) | (simp only [List.length_append, List.length_take, List.length_drop, List.length_cons, List.length_nil, toS_length, wI] at *; omega)), (by first | omega | assumption | (simp only [List.length_append, List.length_take, List.length_drop, List.length_cons, List.length_nil, toS_length, wI]; omega) | (simp only [List.length_append, List.length_take, List.length_drop, List.length_cons, List.length_nil, toS_length, wI] at *; omega)), (by first | omega | assumption | (simp only [List.length_append, List.length_take, List.length_drop, List.length_cons, List.length_nil, toS_length, wI]; omega) | (simp only [List.length_append, List.length_take, List.length_drop, List.length_cons, List.length_nil, toS_length, wI] at *; omega)), (by first | omega | assumption | (simp only [List.length_append, List.length_take, List.length_drop, List.length_cons, List.length_nil, toS_length, wI]; omega) | (simp only [List.length_append, List.length_take, List.length_drop, List.length_cons, List.length_nil, toS_length, wI] at *; omega)), (loopW.cont hk120 hB412).symm.trans hI121⟩
   ·have hb135p := dec_f hb135
    refine CW.cond_f rfl hb135 (CW.exit (tx (tx ?_)))
    have hB423 : B_s_l1Cur_spoilt_0 p_0_code p_0 p_1 p_2 (x108, x109, x110, x111) = .brk (x108, x109, x110, x111) := by simp only [B_s_l1Cur_spoilt_0, hb134, hb135, cL]
    have hL422 : loopW (B_s_l1Cur_spoilt_0 p_0_code p_0 p_1 p_2) (((IntKind.wrap .i64 (1 + ((s_l1Cur_pick p_0_code p_0 2).1))).toNat) + 1) (p_1, IntKind.wrap .i64 (1 + ((s_l1Cur_pick p_0_code p_0 2).1)), ((s_l1Cur_pick p_0_code p_0 2).2).1, ((s_l1Cur_pick p_0_code p_0 2).2).2) = .done (x108, x109, x110, x111) := hI121.symm.trans (loopW.brk hk120 hB423)
    refine bx (tn (CW.seq (CW.region (sd rfl (yl_move rfl rfl (sd rfl (yl_assign rfl rfl (dn (CW.ret ?_)))))))))
    refine rr rfl (.cons rfl .nil) ?_
    have hM424 : (s_l1Cur_spoilt p_0_code p_0 p_1 p_2) = ((x108, (x110, x111))) := by first | (simp only [s_l1Cur_spoilt, hL422, cond_true, cond_false, loopE_done, loopE_ret, pairE]; done) | (simp only [s_l1Cur_spoilt, hb134, hb135, hL422, cL]; done) | (simp only [s_l1Cur_spoilt, hb134, hb135, hL422, cond_true, cond_false, loopE_done, loopE_ret, pairE]; done) | exact (show (s_l1Cur_spoilt p_0_code p_0 p_1 p_2) = ((x108, (x110, x111))) from by simp only [s_l1Cur_spoilt, hb134, hb135, hL422, cond_true, cond_false, loopE_done, loopE_ret, pairE])
    rw [hM424]
    exact ⟨rfl, (by unfold okS; (try dsimp only); omega), (by (try dsimp only); first | omega | assumption | (simp only [wI] at *; omega)), hf127, hf129⟩
  ·have hb134p := dec_f hb134
   refine sz rfl rfl hb134 (sz rfl rfl hb134 (sz rfl rfl hb134 (sd rfl (yl_pick_f rfl rfl hb134 rfl (dn (CW.cond_f rfl rfl (CW.exit (tx ?_))))))))
   refine tx ?_
   have hB426 : B_s_l1Cur_spoilt_0 p_0_code p_0 p_1 p_2 (x108, x109, x110, x111) = .brk (x108, x109, x110, x111) := by simp only [B_s_l1Cur_spoilt_0, hb134, cL]
   have hL425 : loopW (B_s_l1Cur_spoilt_0 p_0_code p_0 p_1 p_2) (((IntKind.wrap .i64 (1 + ((s_l1Cur_pick p_0_code p_0 2).1))).toNat) + 1) (p_1, IntKind.wrap .i64 (1 + ((s_l1Cur_pick p_0_code p_0 2).1)), ((s_l1Cur_pick p_0_code p_0 2).2).1, ((s_l1Cur_pick p_0_code p_0 2).2).2) = .done (x108, x109, x110, x111) := hI121.symm.trans (loopW.brk hk120 hB426)
   refine bx (tn (CW.seq (CW.region (sd rfl (yl_move rfl rfl (sd rfl (yl_assign rfl rfl (dn (CW.ret ?_)))))))))
   refine rr rfl (.cons rfl .nil) ?_
   have hM427 : (s_l1Cur_spoilt p_0_code p_0 p_1 p_2) = ((x108, (x110, x111))) := by first | (simp only [s_l1Cur_spoilt, hL425, cond_true, cond_false, loopE_done, loopE_ret, pairE]; done) | (simp only [s_l1Cur_spoilt, hb134, hL425, cL]; done) | (simp only [s_l1Cur_spoilt, hb134, hL425, cond_true, cond_false, loopE_done, loopE_ret, pairE]; done) | exact (show (s_l1Cur_spoilt p_0_code p_0 p_1 p_2) = ((x108, (x110, x111))) from by simp only [s_l1Cur_spoilt, hb134, hL425, cond_true, cond_false, loopE_done, loopE_ret, pairE])
   rw [hM427]
   exact ⟨rfl, (by unfold okS; (try dsimp only); omega), (by (try dsimp only); first | omega | assumption | (simp only [wI] at *; omega)), hf127, hf129⟩
end Go.Proofs.YtlnjgkmpaebioaaDoor
