/- Good Work: what each call returns, part 4. -/
import Derived.Test.YtmlfbjlkccnpmaaGreatGoodWorkC3
set_option linter.unusedVariables false
set_option linter.unusedSimpArgs false
namespace Go.Proofs.YtmlfbjlkccnpmaaGreat
open Go.RowKit Go.X
set_option maxRecDepth 100000 in
set_option maxHeartbeats 2000000 in
theorem c_l_eqStringS {A1 : Option Addr} {c1 : Nat} {A2 : Option Addr} {c2 : Nat} {w : World} (p_a : List Str) (p_b : List Str) (h1 : RdS w (Iv 0 w.heap.size) (RF e_Str) 1 A1 p_a.length c1 p_a) (h2 : RdS w (Iv 0 w.heap.size) (RF e_Str) 1 A2 p_b.length c2 p_b) : Cal Tryz.prog 95 #[.slice A1 p_a.length c1, .slice A2 p_b.length c2] w fun v w' => v = .bool ((l_eqStringS p_a p_b)) ∧ Ex w w' := by
 refine Cal.of (vs := [.slice A1 p_a.length c1, .slice A2 p_b.length c2]) Tryz.func95 rfl Tryz.ntmps95 rfl (CW.seq (CW.region (sd rfl (yl_assign rfl rfl (SeqR.done (tn (CW.seq (CW.seq (CW.region ?_)))))))))
 refine sd rfl (yl_move rfl rfl (sd rfl (yl_len Tryz.un62 rfl rfl (sd rfl (yl_move rfl rfl (sd rfl (yl_len Tryz.un62 rfl rfl (sd rfl (yl_neq rfl rfl rfl (SeqR.done (tn (bcase (decide ((p_a.length : Int) = (p_b.length : Int))) (fun hb3 => ?_) (fun hb3 => ?_)))))))))))))
 ·have hb3p := dec_t hb3
  refine CW.cond_f rfl (not_t hb3) (CW.skip (tn (CW.seq (CW.seq (CW.region (sd rfl (yl_assign rfl rfl (SeqR.done (tn ?_)))))))))
  refine CW.block (CW.loop (fun m5 L6 w7 => ∃ (k4 : Nat), m5 = p_a.length - k4 ∧ k4 ≤ p_a.length ∧ w.heap.size ≤ w7.heap.size ∧ lkp L6 0 = some (.slice A1 p_a.length c1) ∧ lkp L6 1 = some (.slice A2 p_b.length c2) ∧ lkp L6 5 = some (.int .i64 ((k4 : Int))) ∧ RdS w7 (Iv 0 w.heap.size) (RF e_Str) 1 A1 p_a.length c1 p_a ∧ RdS w7 (Iv 0 w.heap.size) (RF e_Str) 1 A2 p_b.length c2 p_b ∧ Ex w w7 ∧ loopM (B_l_eqStringS_0 p_a p_b) (p_a.length - k4) k4 () = loopM (B_l_eqStringS_0 p_a p_b) (p_a.length - 0) 0 ()) (p_a.length - 0) ?_ ?_)
  ·exact ⟨0, rfl, (by omega), Nat.le_refl _, rfl, rfl, rfl, h1, h2, (Ex.refl w), rfl⟩
  ·rintro m8 L9 w10 ⟨k4, rfl, hk11, hsz13, hl14, hl15, hl16, hf17, hf18, hf19, hI12⟩
   refine CW.sub (Sub.cons hl14 (Sub.cons hl15 (Sub.cons hl16 (Sub.nil _)))) ?_
   have hf19z := Ex.size hf19
   have hbg20 := RdS.big hf17
   rcases Nat.lt_or_ge k4 p_a.length with hlt21 | hlt21
   ·refine CW.seq (CW.seq (CW.region (sd rfl (yl_move rfl rfl (sd rfl (yl_move rfl rfl (sd rfl (yl_len Tryz.un62 rfl rfl (sd rfl (yl_lss rfl rfl rfl (SeqR.done (tn ?_))))))))))))
    refine CW.cond_t rfl (lt_t hlt21) (CW.skip (tn (CW.seq (CW.block (CW.seq ?_)))))
    obtain ⟨eb22, eo22, ec22, eA22, eS22, ebl22, el22, eR22, eC22⟩ := RdS.atD hf17 d_Str (i := k4) (by first | omega | assumption)
    obtain rfl := eR22
    have eC22 : Cells w10 eb22 (eo22 + k4 * 1) [.string (bs ((p_a.getD k4 d_Str)))] := eC22
    obtain ⟨eb23, eo23, ec23, eA23, eS23, ebl23, el23, eR23, eC23⟩ := RdS.atD hf18 d_Str (i := k4) (by first | omega | assumption)
    obtain rfl := eR23
    have eC23 : Cells w10 eb23 (eo23 + k4 * 1) [.string (bs ((p_b.getD k4 d_Str)))] := eC23
    refine CW.drawsI 9 (vgetI [DetI (.slice A1 p_a.length c1), DetI (.int .i64 ((k4 : Int))), DetI (.pointer (some ⟨eb22, eo22 + k4 * 1, none⟩)), DetI (.string (bs ((p_a.getD k4 d_Str)))), DetI (.slice A2 p_b.length c2), DetI (.int .i64 ((k4 : Int))), DetI (.pointer (some ⟨eb23, eo23 + k4 * 1, none⟩)), DetI (.string (bs ((p_b.getD k4 d_Str)))), DetI (.bool (!((p_a.getD k4 d_Str) == (p_b.getD k4 d_Str))))]) Tryz.follows rfl rfl rfl rfl rfl rfl (vgetI_stable ⟨StableI.det _, StableI.det _, StableI.det _, StableI.det _, StableI.det _, StableI.det _, StableI.det _, StableI.det _, StableI.det _, trivial⟩) ⟨?_, ?_, ?_, ?_, ?_, ?_, ?_, ?_, ?_, trivial⟩ ?_
    ·exact fun _ _ h => os rfl ((yl_move rfl (h.old 0 _ rfl rfl) kI))
    ·exact fun _ _ h => os rfl ((yl_move rfl (h.old 5 _ rfl rfl) kI))
    ·intro L34 w35 hi36
     have hE37 := hi36.ex
     have hE37z := Ex.size hE37
     exact os rfl ((yl_indexAddrN Tryz.un62 Tryz.ty9 rfl (hi36.dt 0 17 rfl rfl rfl) (hi36.dt 1 18 rfl rfl rfl) eA22 (by first | omega | assumption | (simp only [IntKind.wrap_i64] at *; omega)) kI))
    ·exact fun _ _ h => os rfl ((yl_load1 Tryz.ty9 rfl (h.dt 2 19 rfl rfl rfl) ((Cells.ex eC22 h.ex) 0 _ rfl) kI))
    ·exact fun _ _ h => os rfl ((yl_move rfl (h.old 1 _ rfl rfl) kI))
    ·exact fun _ _ h => os rfl ((yl_move rfl (h.old 5 _ rfl rfl) kI))
    ·intro L56 w57 hi58
     have hE59 := hi58.ex
     have hE59z := Ex.size hE59
     exact os rfl ((yl_indexAddrN Tryz.un62 Tryz.ty9 rfl (hi58.dt 4 21 rfl rfl rfl) (hi58.dt 5 22 rfl rfl rfl) eA23 (by first | omega | assumption | (simp only [IntKind.wrap_i64] at *; omega)) kI))
    ·exact fun _ _ h => os rfl ((yl_load1 Tryz.ty9 rfl (h.dt 6 23 rfl rfl rfl) ((Cells.ex eC23 h.ex) 0 _ rfl) kI))
    ·exact fun _ _ h => os rfl ((yl_sneq (a := (p_a.getD k4 d_Str)) (b := (p_b.getD k4 d_Str)) rfl (h.dt 3 20 rfl rfl rfl) (h.dt 7 24 rfl rfl rfl) kI))
    ·intro fl77 fh78 L74 w75 hp76
     have hE79 := hp76.ex
     have hE79z := Ex.size hE79
     refine SeqR.done (tn (CW.sub (Sub.cons (d := 0) (hp76.old 0 _ rfl rfl) (Sub.cons (d := 1) (hp76.old 1 _ rfl rfl) (Sub.cons (d := 5) (hp76.old 5 _ rfl rfl) (Sub.cons (d := 25) (hp76.nt 8 25 rfl rfl rfl) (Sub.nil _))))) (bcase ((p_a.getD k4 d_Str) == (p_b.getD k4 d_Str)) (fun hb84 => ?_) (fun hb84 => ?_))))
     ·refine CW.cond_f rfl (not_t hb84) (CW.skip (bn (tn (CW.region (sd rfl (yl_move rfl rfl (sd rfl (yl_inc rfl rfl rfl (by omega) (sd rfl (yl_assign rfl rfl (SeqR.done ?_)))))))))))
      refine tn ?_
      have hB85 : B_l_eqStringS_0 p_a p_b k4 () = .cont () := by simp only [B_l_eqStringS_0, hb3, hb84, cond_true, cond_false, loopE_done, loopE_ret]
      exact ⟨p_a.length - (k4 + 1), by omega, k4 + 1, rfl, hlt21, (by omega), rfl, rfl, rfl, (RdS.ex good_Str hf17 hE79), (RdS.ex good_Str hf18 hE79), (Ex.trans hf19 hE79), (loopM.cont hlt21 hB85).symm.trans hI12⟩
     ·refine CW.cond_t rfl (not_f hb84) (CW.seq (CW.region (sd rfl (yl_assign rfl rfl (SeqR.done (tn (CW.ret (br (tr ?_)))))))))
      refine tr ?_
      have hB90 : B_l_eqStringS_0 p_a p_b k4 () = .ret false := by simp only [B_l_eqStringS_0, hb3, hb84, cond_true, cond_false, loopE_done, loopE_ret]
      have hL89 : loopM (B_l_eqStringS_0 p_a p_b) (p_a.length - 0) 0 () = .ret false := hI12.symm.trans (loopM.ret hlt21 hB90)
      refine br (tr (rr rfl (.cons rfl .nil) ?_))
      have hM91 : (l_eqStringS p_a p_b) = (false) := by simp only [l_eqStringS, hb3, hb84, hL89, cond_true, cond_false, loopE_done, loopE_ret]
      rw [hM91]
      exact ⟨rfl, (Ex.trans hf19 hE79)⟩
   ·refine CW.seq (CW.seq (CW.region (sd rfl (yl_move rfl rfl (sd rfl (yl_move rfl rfl (sd rfl (yl_len Tryz.un62 rfl rfl (sd rfl (yl_lss rfl rfl rfl (SeqR.done (tn ?_))))))))))))
    refine CW.cond_f rfl (lt_f hlt21) (CW.exit (tx (tx ?_)))
    have hL93 : loopM (B_l_eqStringS_0 p_a p_b) (p_a.length - 0) 0 () = .done () := hI12.symm.trans (loopM.stop hlt21)
    refine bx (tn (CW.seq (CW.region (sd rfl (yl_assign rfl rfl (SeqR.done (tn (CW.ret (rr rfl (.cons rfl .nil) ?_)))))))))
    have hM94 : (l_eqStringS p_a p_b) = (true) := by simp only [l_eqStringS, hb3, hL93, cond_true, cond_false, loopE_done, loopE_ret]
    rw [hM94]
    exact ⟨rfl, hf19⟩
 ·have hb3p := dec_f hb3
  refine CW.cond_t rfl (not_f hb3) (CW.seq (CW.region (sd rfl (yl_assign rfl rfl (SeqR.done (tn (CW.ret (tr (rr rfl (.cons rfl .nil) ?_)))))))))
  have hM95 : (l_eqStringS p_a p_b) = (false) := by simp only [l_eqStringS, hb3, cond_true, cond_false, loopE_done, loopE_ret]
  rw [hM95]
  exact ⟨rfl, (Ex.refl w)⟩
set_option maxRecDepth 100000 in
set_option maxHeartbeats 2000000 in
theorem c_l_eqIdx {w : World} (p_a : DIdx) (p_b : DIdx) : Cal Tryz.prog 104 #[.agg #[.string (bs (p_a.Name)), .int .i64 (p_a.Col), .int .i64 (p_a.Stage)], .agg #[.string (bs (p_b.Name)), .int .i64 (p_b.Col), .int .i64 (p_b.Stage)]] w fun v w' => v = .bool ((l_eqIdx p_a p_b)) ∧ Ex w w' := by
 refine Cal.of (vs := [.agg #[.string (bs (p_a.Name)), .int .i64 (p_a.Col), .int .i64 (p_a.Stage)], .agg #[.string (bs (p_b.Name)), .int .i64 (p_b.Col), .int .i64 (p_b.Stage)]]) Tryz.func104 rfl Tryz.ntmps104 rfl (CW.seq (CW.region (sd rfl (yl_box (cs := [.string (bs (p_a.Name)), .int .i64 (p_a.Col), .int .i64 (p_a.Stage)]) rfl rfl rfl ?_))))
 intro b1 w2 hs3 hz4 hB5 hE6
 refine sd rfl (yl_box (cs := [.string (bs (p_b.Name)), .int .i64 (p_b.Col), .int .i64 (p_b.Stage)]) rfl rfl rfl ?_)
 intro b7 w8 hs9 hz10 hB11 hE12
 refine sd rfl (yl_assign rfl rfl (SeqR.done (tn (CW.seq (CW.seq (CW.region (sd rfl (yl_fieldAddr Tryz.fd87_0 rfl rfl ?_))))))))
 have q13 := Box.ex hB5 hE12
 refine sd rfl (yl_load1 Tryz.ty9 rfl rfl ((q13.cell 0).trans rfl) (sd rfl (yl_fieldAddr Tryz.fd87_0 rfl rfl (sd rfl (yl_load1 Tryz.ty9 rfl rfl ((hB11.cell 0).trans rfl) (sd rfl (yl_sneq (a := p_a.Name) (b := p_b.Name) rfl rfl rfl (SeqR.done (tn (bcase (p_a.Name == p_b.Name) (fun hb14 => ?_) (fun hb14 => ?_)))))))))))
 ·refine CW.cond_f rfl (not_t hb14) (CW.skip (tn (CW.seq (CW.seq (CW.region (sd rfl (yl_fieldAddr Tryz.fd87_1 rfl rfl (sd rfl (yl_load1 Tryz.ty3 rfl rfl ((q13.cell 1).trans rfl) (sd rfl (yl_fieldAddr Tryz.fd87_1 rfl rfl ?_)))))))))))
  refine sd rfl (yl_load1 Tryz.ty3 rfl rfl ((hB11.cell 1).trans rfl) (sd rfl (yl_neq rfl rfl rfl (SeqR.done (tn (bcase (decide (p_a.Col = p_b.Col)) (fun hb15 => ?_) (fun hb15 => ?_)))))))
  ·have hb15p := dec_t hb15
   refine CW.cond_f rfl (not_t hb15) (CW.skip (tn (CW.seq (CW.seq (CW.region (sd rfl (yl_fieldAddr Tryz.fd87_2 rfl rfl (sd rfl (yl_load1 Tryz.ty3 rfl rfl ((q13.cell 2).trans rfl) (sd rfl (yl_fieldAddr Tryz.fd87_2 rfl rfl ?_)))))))))))
   refine sd rfl (yl_load1 Tryz.ty3 rfl rfl ((hB11.cell 2).trans rfl) (sd rfl (yl_neq rfl rfl rfl (SeqR.done (tn (bcase (decide (p_a.Stage = p_b.Stage)) (fun hb16 => ?_) (fun hb16 => ?_)))))))
   ·have hb16p := dec_t hb16
    refine CW.cond_f rfl (not_t hb16) (CW.skip (tn (CW.seq (CW.region (sd rfl (yl_assign rfl rfl (SeqR.done (tn (CW.ret ?_)))))))))
    refine rr rfl (.cons rfl .nil) ?_
    have hM17 : (l_eqIdx p_a p_b) = (true) := by simp only [l_eqIdx, hb14, hb15, hb16, cond_true, cond_false, loopE_done, loopE_ret]
    rw [hM17]
    exact ⟨rfl, (Ex.trans (Ex.trans (Ex.refl w) hE6) hE12)⟩
   ·have hb16p := dec_f hb16
    refine CW.cond_t rfl (not_f hb16) (CW.seq (CW.region (sd rfl (yl_assign rfl rfl (SeqR.done (tn (CW.ret (tr (rr rfl (.cons rfl .nil) ?_)))))))))
    have hM20 : (l_eqIdx p_a p_b) = (false) := by simp only [l_eqIdx, hb14, hb15, hb16, cond_true, cond_false, loopE_done, loopE_ret]
    rw [hM20]
    exact ⟨rfl, (Ex.trans (Ex.trans (Ex.refl w) hE6) hE12)⟩
  ·have hb15p := dec_f hb15
   refine CW.cond_t rfl (not_f hb15) (CW.seq (CW.region (sd rfl (yl_assign rfl rfl (SeqR.done (tn (CW.ret (tr (rr rfl (.cons rfl .nil) ?_)))))))))
   have hM23 : (l_eqIdx p_a p_b) = (false) := by simp only [l_eqIdx, hb14, hb15, cond_true, cond_false, loopE_done, loopE_ret]
   rw [hM23]
   exact ⟨rfl, (Ex.trans (Ex.trans (Ex.refl w) hE6) hE12)⟩
 ·refine CW.cond_t rfl (not_f hb14) (CW.seq (CW.region (sd rfl (yl_assign rfl rfl (SeqR.done (tn (CW.ret (tr (rr rfl (.cons rfl .nil) ?_)))))))))
  have hM26 : (l_eqIdx p_a p_b) = (false) := by simp only [l_eqIdx, hb14, cond_true, cond_false, loopE_done, loopE_ret]
  rw [hM26]
  exact ⟨rfl, (Ex.trans (Ex.trans (Ex.refl w) hE6) hE12)⟩
set_option maxRecDepth 100000 in
set_option maxHeartbeats 2000000 in
theorem c_l_eqIdxS {A1 : Option Addr} {c1 : Nat} {A2 : Option Addr} {c2 : Nat} {w : World} (p_a : List DIdx) (p_b : List DIdx) (h1 : RdS w (Iv 0 w.heap.size) (RF e_Idx) 3 A1 p_a.length c1 p_a) (h2 : RdS w (Iv 0 w.heap.size) (RF e_Idx) 3 A2 p_b.length c2 p_b) : Cal Tryz.prog 96 #[.slice A1 p_a.length c1, .slice A2 p_b.length c2] w fun v w' => v = .bool ((l_eqIdxS p_a p_b)) ∧ Ex w w' := by
 refine Cal.of (vs := [.slice A1 p_a.length c1, .slice A2 p_b.length c2]) Tryz.func96 rfl Tryz.ntmps96 rfl (CW.seq (CW.region (sd rfl (yl_assign rfl rfl (SeqR.done (tn (CW.seq (CW.seq (CW.region ?_)))))))))
 refine sd rfl (yl_move rfl rfl (sd rfl (yl_len Tryz.un63 rfl rfl (sd rfl (yl_move rfl rfl (sd rfl (yl_len Tryz.un63 rfl rfl (sd rfl (yl_neq rfl rfl rfl (SeqR.done (tn (bcase (decide ((p_a.length : Int) = (p_b.length : Int))) (fun hb3 => ?_) (fun hb3 => ?_)))))))))))))
 ·have hb3p := dec_t hb3
  refine CW.cond_f rfl (not_t hb3) (CW.skip (tn (CW.seq (CW.seq (CW.region (sd rfl (yl_assign rfl rfl (SeqR.done (tn ?_)))))))))
  refine CW.block (CW.loop (fun m5 L6 w7 => ∃ (k4 : Nat), m5 = p_a.length - k4 ∧ k4 ≤ p_a.length ∧ w.heap.size ≤ w7.heap.size ∧ lkp L6 0 = some (.slice A1 p_a.length c1) ∧ lkp L6 1 = some (.slice A2 p_b.length c2) ∧ lkp L6 5 = some (.int .i64 ((k4 : Int))) ∧ RdS w7 (Iv 0 w.heap.size) (RF e_Idx) 3 A1 p_a.length c1 p_a ∧ RdS w7 (Iv 0 w.heap.size) (RF e_Idx) 3 A2 p_b.length c2 p_b ∧ Ex w w7 ∧ loopM (B_l_eqIdxS_0 p_a p_b) (p_a.length - k4) k4 () = loopM (B_l_eqIdxS_0 p_a p_b) (p_a.length - 0) 0 ()) (p_a.length - 0) ?_ ?_)
  ·exact ⟨0, rfl, (by omega), Nat.le_refl _, rfl, rfl, rfl, h1, h2, (Ex.refl w), rfl⟩
  ·rintro m8 L9 w10 ⟨k4, rfl, hk11, hsz13, hl14, hl15, hl16, hf17, hf18, hf19, hI12⟩
   refine CW.sub (Sub.cons hl14 (Sub.cons hl15 (Sub.cons hl16 (Sub.nil _)))) ?_
   have hf19z := Ex.size hf19
   have hbg20 := RdS.big hf17
   rcases Nat.lt_or_ge k4 p_a.length with hlt21 | hlt21
   ·refine CW.seq (CW.seq (CW.region (sd rfl (yl_move rfl rfl (sd rfl (yl_move rfl rfl (sd rfl (yl_len Tryz.un63 rfl rfl (sd rfl (yl_lss rfl rfl rfl (SeqR.done (tn ?_))))))))))))
    refine CW.cond_t rfl (lt_t hlt21) (CW.skip (tn (CW.seq (CW.block (CW.seq ?_)))))
    obtain ⟨eb22, eo22, ec22, eA22, eS22, ebl22, el22, eR22, eC22⟩ := RdS.atD hf17 d_Idx (i := k4) (by first | omega | assumption)
    obtain rfl := eR22
    have eC22 : Cells w10 eb22 (eo22 + k4 * 3) [.string (bs ((p_a.getD k4 d_Idx).Name)), .int .i64 ((p_a.getD k4 d_Idx).Col), .int .i64 ((p_a.getD k4 d_Idx).Stage)] := eC22
    obtain ⟨eb23, eo23, ec23, eA23, eS23, ebl23, el23, eR23, eC23⟩ := RdS.atD hf18 d_Idx (i := k4) (by first | omega | assumption)
    obtain rfl := eR23
    have eC23 : Cells w10 eb23 (eo23 + k4 * 3) [.string (bs ((p_b.getD k4 d_Idx).Name)), .int .i64 ((p_b.getD k4 d_Idx).Col), .int .i64 ((p_b.getD k4 d_Idx).Stage)] := eC23
    refine CW.drawsI 10 (vgetI [DetI (.slice A1 p_a.length c1), DetI (.int .i64 ((k4 : Int))), DetI (.pointer (some ⟨eb22, eo22 + k4 * 3, none⟩)), DetI (.agg #[.string (bs ((p_a.getD k4 d_Idx).Name)), .int .i64 ((p_a.getD k4 d_Idx).Col), .int .i64 ((p_a.getD k4 d_Idx).Stage)]), DetI (.slice A2 p_b.length c2), DetI (.int .i64 ((k4 : Int))), DetI (.pointer (some ⟨eb23, eo23 + k4 * 3, none⟩)), DetI (.agg #[.string (bs ((p_b.getD k4 d_Idx).Name)), .int .i64 ((p_b.getD k4 d_Idx).Col), .int .i64 ((p_b.getD k4 d_Idx).Stage)]), DetI (.bool ((l_eqIdx (p_a.getD k4 d_Idx) (p_b.getD k4 d_Idx)))), DetI (.bool (!(l_eqIdx (p_a.getD k4 d_Idx) (p_b.getD k4 d_Idx))))]) Tryz.follows rfl rfl rfl rfl rfl rfl (vgetI_stable ⟨StableI.det _, StableI.det _, StableI.det _, StableI.det _, StableI.det _, StableI.det _, StableI.det _, StableI.det _, StableI.det _, StableI.det _, trivial⟩) ⟨?_, ?_, ?_, ?_, ?_, ?_, ?_, ?_, ?_, ?_, trivial⟩ ?_
    ·exact fun _ _ h => os rfl ((yl_move rfl (h.old 0 _ rfl rfl) kI))
    ·exact fun _ _ h => os rfl ((yl_move rfl (h.old 5 _ rfl rfl) kI))
    ·intro L35 w36 hi37
     have hE38 := hi37.ex
     have hE38z := Ex.size hE38
     exact os rfl ((yl_indexAddrN Tryz.un63 Tryz.ty87 rfl (hi37.dt 0 17 rfl rfl rfl) (hi37.dt 1 18 rfl rfl rfl) eA22 (by first | omega | assumption | (simp only [IntKind.wrap_i64] at *; omega)) kI))
    ·exact fun _ _ h => os rfl ((yl_loadN (cs := [.string (bs ((p_a.getD k4 d_Idx).Name)), .int .i64 ((p_a.getD k4 d_Idx).Col), .int .i64 ((p_a.getD k4 d_Idx).Stage)]) Tryz.ty87 rfl (h.dt 2 19 rfl rfl rfl) (Cells.ex eC22 h.ex) rfl kI))
    ·exact fun _ _ h => os rfl ((yl_move rfl (h.old 1 _ rfl rfl) kI))
    ·exact fun _ _ h => os rfl ((yl_move rfl (h.old 5 _ rfl rfl) kI))
    ·intro L57 w58 hi59
     have hE60 := hi59.ex
     have hE60z := Ex.size hE60
     exact os rfl ((yl_indexAddrN Tryz.un63 Tryz.ty87 rfl (hi59.dt 4 21 rfl rfl rfl) (hi59.dt 5 22 rfl rfl rfl) eA23 (by first | omega | assumption | (simp only [IntKind.wrap_i64] at *; omega)) kI))
    ·exact fun _ _ h => os rfl ((yl_loadN (cs := [.string (bs ((p_b.getD k4 d_Idx).Name)), .int .i64 ((p_b.getD k4 d_Idx).Col), .int .i64 ((p_b.getD k4 d_Idx).Stage)]) Tryz.ty87 rfl (h.dt 6 23 rfl rfl rfl) (Cells.ex eC23 h.ex) rfl kI))
    ·intro L69 w70 hi71
     refine OpR.op' rfl (yl_call Tryz.en104 rfl (opvs_cons (hi71.dt 3 20 rfl rfl rfl) (opvs_cons (hi71.dt 7 24 rfl rfl rfl) opvs_nil)) (Cal.mono (c_l_eqIdx (p_a.getD k4 d_Idx) (p_b.getD k4 d_Idx)) ?_))
     rintro v76 w75 ⟨rfl, hE77⟩
     exact ⟨rfl, hE77⟩
    ·exact fun _ _ h => os rfl ((yl_not rfl (h.dt 8 25 rfl rfl rfl) kI))
    ·intro fl86 fh87 L83 w84 hp85
     have hE88 := hp85.ex
     have hE88z := Ex.size hE88
     refine SeqR.done (tn (CW.sub (Sub.cons (d := 0) (hp85.old 0 _ rfl rfl) (Sub.cons (d := 1) (hp85.old 1 _ rfl rfl) (Sub.cons (d := 5) (hp85.old 5 _ rfl rfl) (Sub.cons (d := 26) (hp85.nt 9 26 rfl rfl rfl) (Sub.nil _))))) (bcase (l_eqIdx (p_a.getD k4 d_Idx) (p_b.getD k4 d_Idx)) (fun hb93 => ?_) (fun hb93 => ?_))))
     ·refine CW.cond_f rfl (not_t hb93) (CW.skip (bn (tn (CW.region (sd rfl (yl_move rfl rfl (sd rfl (yl_inc rfl rfl rfl (by omega) (sd rfl (yl_assign rfl rfl (SeqR.done ?_)))))))))))
      refine tn ?_
      have hB94 : B_l_eqIdxS_0 p_a p_b k4 () = .cont () := by simp only [B_l_eqIdxS_0, hb3, hb93, cond_true, cond_false, loopE_done, loopE_ret]
      exact ⟨p_a.length - (k4 + 1), by omega, k4 + 1, rfl, hlt21, (by omega), rfl, rfl, rfl, (RdS.ex good_Idx hf17 hE88), (RdS.ex good_Idx hf18 hE88), (Ex.trans hf19 hE88), (loopM.cont hlt21 hB94).symm.trans hI12⟩
     ·refine CW.cond_t rfl (not_f hb93) (CW.seq (CW.region (sd rfl (yl_assign rfl rfl (SeqR.done (tn (CW.ret (br (tr ?_)))))))))
      refine tr ?_
      have hB99 : B_l_eqIdxS_0 p_a p_b k4 () = .ret false := by simp only [B_l_eqIdxS_0, hb3, hb93, cond_true, cond_false, loopE_done, loopE_ret]
      have hL98 : loopM (B_l_eqIdxS_0 p_a p_b) (p_a.length - 0) 0 () = .ret false := hI12.symm.trans (loopM.ret hlt21 hB99)
      refine br (tr (rr rfl (.cons rfl .nil) ?_))
      have hM100 : (l_eqIdxS p_a p_b) = (false) := by simp only [l_eqIdxS, hb3, hb93, hL98, cond_true, cond_false, loopE_done, loopE_ret]
      rw [hM100]
      exact ⟨rfl, (Ex.trans hf19 hE88)⟩
   ·refine CW.seq (CW.seq (CW.region (sd rfl (yl_move rfl rfl (sd rfl (yl_move rfl rfl (sd rfl (yl_len Tryz.un63 rfl rfl (sd rfl (yl_lss rfl rfl rfl (SeqR.done (tn ?_))))))))))))
    refine CW.cond_f rfl (lt_f hlt21) (CW.exit (tx (tx ?_)))
    have hL102 : loopM (B_l_eqIdxS_0 p_a p_b) (p_a.length - 0) 0 () = .done () := hI12.symm.trans (loopM.stop hlt21)
    refine bx (tn (CW.seq (CW.region (sd rfl (yl_assign rfl rfl (SeqR.done (tn (CW.ret (rr rfl (.cons rfl .nil) ?_)))))))))
    have hM103 : (l_eqIdxS p_a p_b) = (true) := by simp only [l_eqIdxS, hb3, hL102, cond_true, cond_false, loopE_done, loopE_ret]
    rw [hM103]
    exact ⟨rfl, hf19⟩
 ·have hb3p := dec_f hb3
  refine CW.cond_t rfl (not_f hb3) (CW.seq (CW.region (sd rfl (yl_assign rfl rfl (SeqR.done (tn (CW.ret (tr (rr rfl (.cons rfl .nil) ?_)))))))))
  have hM104 : (l_eqIdxS p_a p_b) = (false) := by simp only [l_eqIdxS, hb3, cond_true, cond_false, loopE_done, loopE_ret]
  rw [hM104]
  exact ⟨rfl, (Ex.refl w)⟩
set_option maxRecDepth 100000 in
set_option maxHeartbeats 2000000 in
theorem c_l_eqTable {A1 : Option Addr} {c1 : Nat} {A2 : Option Addr} {c2 : Nat} {A3 : Option Addr} {c3 : Nat} {A4 : Option Addr} {c4 : Nat} {w : World} (p_a : DTable) (p_b : DTable) (h1 : RdS w (Iv 0 w.heap.size) (RF e_Str) 1 A1 p_a.Cols.length c1 p_a.Cols) (h2 : RdS w (Iv 0 w.heap.size) (RF e_Idx) 3 A2 p_a.Idxs.length c2 p_a.Idxs) (h3 : RdS w (Iv 0 w.heap.size) (RF e_Str) 1 A3 p_b.Cols.length c3 p_b.Cols) (h4 : RdS w (Iv 0 w.heap.size) (RF e_Idx) 3 A4 p_b.Idxs.length c4 p_b.Idxs) : Cal Tryz.prog 69 #[.agg #[.string (bs (p_a.Name)), .slice A1 p_a.Cols.length c1, .slice A2 p_a.Idxs.length c2], .agg #[.string (bs (p_b.Name)), .slice A3 p_b.Cols.length c3, .slice A4 p_b.Idxs.length c4]] w fun v w' => v = .bool ((l_eqTable p_a p_b)) ∧ Ex w w' := by
 refine Cal.of (vs := [.agg #[.string (bs (p_a.Name)), .slice A1 p_a.Cols.length c1, .slice A2 p_a.Idxs.length c2], .agg #[.string (bs (p_b.Name)), .slice A3 p_b.Cols.length c3, .slice A4 p_b.Idxs.length c4]]) Tryz.func69 rfl Tryz.ntmps69 rfl (CW.seq (CW.region (sd rfl (yl_box (cs := [.string (bs (p_a.Name)), .slice A1 p_a.Cols.length c1, .slice A2 p_a.Idxs.length c2]) rfl rfl rfl ?_))))
 intro b5 w6 hs7 hz8 hB9 hE10
 refine sd rfl (yl_box (cs := [.string (bs (p_b.Name)), .slice A3 p_b.Cols.length c3, .slice A4 p_b.Idxs.length c4]) rfl rfl rfl ?_)
 intro b11 w12 hs13 hz14 hB15 hE16
 refine sd rfl (yl_assign rfl rfl (SeqR.done (tn (CW.seq (CW.seq (CW.region (sd rfl (yl_fieldAddr Tryz.fd65_0 rfl rfl ?_))))))))
 have q17 := Box.ex hB9 hE16
 refine sd rfl (yl_load1 Tryz.ty9 rfl rfl ((q17.cell 0).trans rfl) (sd rfl (yl_fieldAddr Tryz.fd65_0 rfl rfl (sd rfl (yl_load1 Tryz.ty9 rfl rfl ((hB15.cell 0).trans rfl) (sd rfl (yl_sneq (a := p_a.Name) (b := p_b.Name) rfl rfl rfl (SeqR.done (tn (bcase (p_a.Name == p_b.Name) (fun hb18 => ?_) (fun hb18 => ?_)))))))))))
 ·refine CW.cond_f rfl (not_t hb18) (CW.skip (tn (CW.seq (CW.seq (CW.region (sd rfl (yl_fieldAddr Tryz.fd65_1 rfl rfl (sd rfl (yl_load1 Tryz.ty62 rfl rfl ((q17.cell 1).trans rfl) (sd rfl (yl_fieldAddr Tryz.fd65_1 rfl rfl ?_)))))))))))
  refine sd rfl (yl_load1 Tryz.ty62 rfl rfl ((hB15.cell 1).trans rfl) (sd rfl (yl_call Tryz.en95 rfl (opvs_cons rfl (opvs_cons rfl opvs_nil)) (Cal.mono (c_l_eqStringS p_a.Cols p_b.Cols (RdS.up (RdS.ex good_Str (RdS.ex good_Str h1 hE10) hE16) good_Str) (RdS.up (RdS.ex good_Str (RdS.ex good_Str h3 hE10) hE16) good_Str)) ?_))))
  rintro v24 w23 ⟨rfl, hE25⟩
  have hE25z := Ex.size hE25
  refine sd rfl (yl_not rfl rfl (SeqR.done (tn (bcase (l_eqStringS p_a.Cols p_b.Cols) (fun hb26 => ?_) (fun hb26 => ?_)))))
  ·refine CW.cond_f rfl (not_t hb26) (CW.skip (tn (CW.seq (CW.seq (CW.region (sd rfl (yl_fieldAddr Tryz.fd65_2 rfl rfl (sd rfl (yl_load1 Tryz.ty63 rfl rfl (((Box.ex q17 hE25).cell 2).trans rfl) (sd rfl (yl_fieldAddr Tryz.fd65_2 rfl rfl ?_)))))))))))
   refine sd rfl (yl_load1 Tryz.ty63 rfl rfl (((Box.ex hB15 hE25).cell 2).trans rfl) (sd rfl (yl_call Tryz.en96 rfl (opvs_cons rfl (opvs_cons rfl opvs_nil)) (Cal.mono (c_l_eqIdxS p_a.Idxs p_b.Idxs (RdS.up (RdS.ex good_Idx (RdS.ex good_Idx (RdS.ex good_Idx h2 hE10) hE16) hE25) good_Idx) (RdS.up (RdS.ex good_Idx (RdS.ex good_Idx (RdS.ex good_Idx h4 hE10) hE16) hE25) good_Idx)) ?_))))
   rintro v36 w35 ⟨rfl, hE37⟩
   have hE37z := Ex.size hE37
   refine sd rfl (yl_not rfl rfl (SeqR.done (tn (bcase (l_eqIdxS p_a.Idxs p_b.Idxs) (fun hb38 => ?_) (fun hb38 => ?_)))))
   ·refine CW.cond_f rfl (not_t hb38) (CW.skip (tn (CW.seq (CW.region (sd rfl (yl_assign rfl rfl (SeqR.done (tn (CW.ret ?_)))))))))
    refine rr rfl (.cons rfl .nil) ?_
    have hM39 : (l_eqTable p_a p_b) = (true) := by simp only [l_eqTable, hb18, hb26, hb38, cond_true, cond_false, loopE_done, loopE_ret]
    rw [hM39]
    exact ⟨rfl, (Ex.trans (Ex.trans (Ex.trans (Ex.trans (Ex.refl w) hE10) hE16) hE25) hE37)⟩
   ·refine CW.cond_t rfl (not_f hb38) (CW.seq (CW.region (sd rfl (yl_assign rfl rfl (SeqR.done (tn (CW.ret (tr (rr rfl (.cons rfl .nil) ?_)))))))))
    have hM44 : (l_eqTable p_a p_b) = (false) := by simp only [l_eqTable, hb18, hb26, hb38, cond_true, cond_false, loopE_done, loopE_ret]
    rw [hM44]
    exact ⟨rfl, (Ex.trans (Ex.trans (Ex.trans (Ex.trans (Ex.refl w) hE10) hE16) hE25) hE37)⟩
  ·refine CW.cond_t rfl (not_f hb26) (CW.seq (CW.region (sd rfl (yl_assign rfl rfl (SeqR.done (tn (CW.ret (tr (rr rfl (.cons rfl .nil) ?_)))))))))
   have hM49 : (l_eqTable p_a p_b) = (false) := by simp only [l_eqTable, hb18, hb26, cond_true, cond_false, loopE_done, loopE_ret]
   rw [hM49]
   exact ⟨rfl, (Ex.trans (Ex.trans (Ex.trans (Ex.refl w) hE10) hE16) hE25)⟩
 ·refine CW.cond_t rfl (not_f hb18) (CW.seq (CW.region (sd rfl (yl_assign rfl rfl (SeqR.done (tn (CW.ret (tr (rr rfl (.cons rfl .nil) ?_)))))))))
  have hM53 : (l_eqTable p_a p_b) = (false) := by simp only [l_eqTable, hb18, cond_true, cond_false, loopE_done, loopE_ret]
  rw [hM53]
  exact ⟨rfl, (Ex.trans (Ex.trans (Ex.refl w) hE10) hE16)⟩
set_option maxRecDepth 100000 in
set_option maxHeartbeats 2000000 in
theorem c_l_eqTableS {A1 : Option Addr} {c1 : Nat} {A2 : Option Addr} {c2 : Nat} {w : World} (p_a : List DTable) (p_b : List DTable) (h1 : RdS w (Iv 0 w.heap.size) R_Table 3 A1 p_a.length c1 p_a) (h2 : RdS w (Iv 0 w.heap.size) R_Table 3 A2 p_b.length c2 p_b) : Cal Tryz.prog 42 #[.slice A1 p_a.length c1, .slice A2 p_b.length c2] w fun v w' => v = .bool ((l_eqTableS p_a p_b)) ∧ Ex w w' := by
 refine Cal.of (vs := [.slice A1 p_a.length c1, .slice A2 p_b.length c2]) Tryz.func42 rfl Tryz.ntmps42 rfl (CW.seq (CW.region (sd rfl (yl_assign rfl rfl (SeqR.done (tn (CW.seq (CW.seq (CW.region ?_)))))))))
 refine sd rfl (yl_move rfl rfl (sd rfl (yl_len Tryz.un33 rfl rfl (sd rfl (yl_move rfl rfl (sd rfl (yl_len Tryz.un33 rfl rfl (sd rfl (yl_neq rfl rfl rfl (SeqR.done (tn (bcase (decide ((p_a.length : Int) = (p_b.length : Int))) (fun hb3 => ?_) (fun hb3 => ?_)))))))))))))
 ·have hb3p := dec_t hb3
  refine CW.cond_f rfl (not_t hb3) (CW.skip (tn (CW.seq (CW.seq (CW.region (sd rfl (yl_assign rfl rfl (SeqR.done (tn ?_)))))))))
  refine CW.block (CW.loop (fun m5 L6 w7 => ∃ (k4 : Nat), m5 = p_a.length - k4 ∧ k4 ≤ p_a.length ∧ w.heap.size ≤ w7.heap.size ∧ lkp L6 0 = some (.slice A1 p_a.length c1) ∧ lkp L6 1 = some (.slice A2 p_b.length c2) ∧ lkp L6 5 = some (.int .i64 ((k4 : Int))) ∧ RdS w7 (Iv 0 w.heap.size) R_Table 3 A1 p_a.length c1 p_a ∧ RdS w7 (Iv 0 w.heap.size) R_Table 3 A2 p_b.length c2 p_b ∧ Ex w w7 ∧ loopM (B_l_eqTableS_0 p_a p_b) (p_a.length - k4) k4 () = loopM (B_l_eqTableS_0 p_a p_b) (p_a.length - 0) 0 ()) (p_a.length - 0) ?_ ?_)
  ·exact ⟨0, rfl, (by omega), Nat.le_refl _, rfl, rfl, rfl, h1, h2, (Ex.refl w), rfl⟩
  ·rintro m8 L9 w10 ⟨k4, rfl, hk11, hsz13, hl14, hl15, hl16, hf17, hf18, hf19, hI12⟩
   refine CW.sub (Sub.cons hl14 (Sub.cons hl15 (Sub.cons hl16 (Sub.nil _)))) ?_
   have hf19z := Ex.size hf19
   have hbg20 := RdS.big hf17
   rcases Nat.lt_or_ge k4 p_a.length with hlt21 | hlt21
   ·refine CW.seq (CW.seq (CW.region (sd rfl (yl_move rfl rfl (sd rfl (yl_move rfl rfl (sd rfl (yl_len Tryz.un33 rfl rfl (sd rfl (yl_lss rfl rfl rfl (SeqR.done (tn ?_))))))))))))
    refine CW.cond_t rfl (lt_t hlt21) (CW.skip (tn (CW.seq (CW.block (CW.seq ?_)))))
    obtain ⟨eb22, eo22, ec22, eA22, eS22, ebl22, el22, eR22, eC22⟩ := RdS.atD hf17 d_Table (i := k4) (by first | omega | assumption)
    obtain ⟨A23, c23, A24, c24, rfl, h23, h24⟩ := eR22
    have eC22 : Cells w10 eb22 (eo22 + k4 * 3) [.string (bs ((p_a.getD k4 d_Table).Name)), .slice A23 (((p_a.getD k4 d_Table).Cols).length) c23, .slice A24 (((p_a.getD k4 d_Table).Idxs).length) c24] := eC22
    obtain ⟨eb25, eo25, ec25, eA25, eS25, ebl25, el25, eR25, eC25⟩ := RdS.atD hf18 d_Table (i := k4) (by first | omega | assumption)
    obtain ⟨A26, c26, A27, c27, rfl, h26, h27⟩ := eR25
    have eC25 : Cells w10 eb25 (eo25 + k4 * 3) [.string (bs ((p_b.getD k4 d_Table).Name)), .slice A26 (((p_b.getD k4 d_Table).Cols).length) c26, .slice A27 (((p_b.getD k4 d_Table).Idxs).length) c27] := eC25
    refine CW.drawsI 10 (vgetI [DetI (.slice A1 p_a.length c1), DetI (.int .i64 ((k4 : Int))), DetI (.pointer (some ⟨eb22, eo22 + k4 * 3, none⟩)), DetI (.agg #[.string (bs ((p_a.getD k4 d_Table).Name)), .slice A23 (((p_a.getD k4 d_Table).Cols).length) c23, .slice A24 (((p_a.getD k4 d_Table).Idxs).length) c24]), DetI (.slice A2 p_b.length c2), DetI (.int .i64 ((k4 : Int))), DetI (.pointer (some ⟨eb25, eo25 + k4 * 3, none⟩)), DetI (.agg #[.string (bs ((p_b.getD k4 d_Table).Name)), .slice A26 (((p_b.getD k4 d_Table).Cols).length) c26, .slice A27 (((p_b.getD k4 d_Table).Idxs).length) c27]), DetI (.bool ((l_eqTable (p_a.getD k4 d_Table) (p_b.getD k4 d_Table)))), DetI (.bool (!(l_eqTable (p_a.getD k4 d_Table) (p_b.getD k4 d_Table))))]) Tryz.follows rfl rfl rfl rfl rfl rfl (vgetI_stable ⟨StableI.det _, StableI.det _, StableI.det _, StableI.det _, StableI.det _, StableI.det _, StableI.det _, StableI.det _, StableI.det _, StableI.det _, trivial⟩) ⟨?_, ?_, ?_, ?_, ?_, ?_, ?_, ?_, ?_, ?_, trivial⟩ ?_
    ·exact fun _ _ h => os rfl ((yl_move rfl (h.old 0 _ rfl rfl) kI))
    ·exact fun _ _ h => os rfl ((yl_move rfl (h.old 5 _ rfl rfl) kI))
    ·intro L39 w40 hi41
     have hE42 := hi41.ex
     have hE42z := Ex.size hE42
     exact os rfl ((yl_indexAddrN Tryz.un33 Tryz.ty65 rfl (hi41.dt 0 17 rfl rfl rfl) (hi41.dt 1 18 rfl rfl rfl) eA22 (by first | omega | assumption | (simp only [IntKind.wrap_i64] at *; omega)) kI))
    ·exact fun _ _ h => os rfl ((yl_loadN (cs := [.string (bs ((p_a.getD k4 d_Table).Name)), .slice A23 (((p_a.getD k4 d_Table).Cols).length) c23, .slice A24 (((p_a.getD k4 d_Table).Idxs).length) c24]) Tryz.ty65 rfl (h.dt 2 19 rfl rfl rfl) (Cells.ex eC22 h.ex) rfl kI))
    ·exact fun _ _ h => os rfl ((yl_move rfl (h.old 1 _ rfl rfl) kI))
    ·exact fun _ _ h => os rfl ((yl_move rfl (h.old 5 _ rfl rfl) kI))
    ·intro L61 w62 hi63
     have hE64 := hi63.ex
     have hE64z := Ex.size hE64
     exact os rfl ((yl_indexAddrN Tryz.un33 Tryz.ty65 rfl (hi63.dt 4 21 rfl rfl rfl) (hi63.dt 5 22 rfl rfl rfl) eA25 (by first | omega | assumption | (simp only [IntKind.wrap_i64] at *; omega)) kI))
    ·exact fun _ _ h => os rfl ((yl_loadN (cs := [.string (bs ((p_b.getD k4 d_Table).Name)), .slice A26 (((p_b.getD k4 d_Table).Cols).length) c26, .slice A27 (((p_b.getD k4 d_Table).Idxs).length) c27]) Tryz.ty65 rfl (h.dt 6 23 rfl rfl rfl) (Cells.ex eC25 h.ex) rfl kI))
    ·intro L73 w74 hi75
     have hE76 := hi75.ex
     refine OpR.op' rfl (yl_call Tryz.en69 rfl (opvs_cons (hi75.dt 3 20 rfl rfl rfl) (opvs_cons (hi75.dt 7 24 rfl rfl rfl) opvs_nil)) (Cal.mono (c_l_eqTable (p_a.getD k4 d_Table) (p_b.getD k4 d_Table) (RdS.up (RdS.ex good_Str h23 hE76) good_Str) (RdS.up (RdS.ex good_Idx h24 hE76) good_Idx) (RdS.up (RdS.ex good_Str h26 hE76) good_Str) (RdS.up (RdS.ex good_Idx h27 hE76) good_Idx)) ?_))
     rintro v84 w83 ⟨rfl, hE85⟩
     exact ⟨rfl, hE85⟩
    ·exact fun _ _ h => os rfl ((yl_not rfl (h.dt 8 25 rfl rfl rfl) kI))
    ·intro fl94 fh95 L91 w92 hp93
     have hE96 := hp93.ex
     have hE96z := Ex.size hE96
     refine SeqR.done (tn (CW.sub (Sub.cons (d := 0) (hp93.old 0 _ rfl rfl) (Sub.cons (d := 1) (hp93.old 1 _ rfl rfl) (Sub.cons (d := 5) (hp93.old 5 _ rfl rfl) (Sub.cons (d := 26) (hp93.nt 9 26 rfl rfl rfl) (Sub.nil _))))) (bcase (l_eqTable (p_a.getD k4 d_Table) (p_b.getD k4 d_Table)) (fun hb101 => ?_) (fun hb101 => ?_))))
     ·refine CW.cond_f rfl (not_t hb101) (CW.skip (bn (tn (CW.region (sd rfl (yl_move rfl rfl (sd rfl (yl_inc rfl rfl rfl (by omega) (sd rfl (yl_assign rfl rfl (SeqR.done ?_)))))))))))
      refine tn ?_
      have hB102 : B_l_eqTableS_0 p_a p_b k4 () = .cont () := by simp only [B_l_eqTableS_0, hb3, hb101, cond_true, cond_false, loopE_done, loopE_ret]
      exact ⟨p_a.length - (k4 + 1), by omega, k4 + 1, rfl, hlt21, (by omega), rfl, rfl, rfl, (RdS.ex good_Table hf17 hE96), (RdS.ex good_Table hf18 hE96), (Ex.trans hf19 hE96), (loopM.cont hlt21 hB102).symm.trans hI12⟩
     ·refine CW.cond_t rfl (not_f hb101) (CW.seq (CW.region (sd rfl (yl_assign rfl rfl (SeqR.done (tn (CW.ret (br (tr ?_)))))))))
      refine tr ?_
      have hB107 : B_l_eqTableS_0 p_a p_b k4 () = .ret false := by simp only [B_l_eqTableS_0, hb3, hb101, cond_true, cond_false, loopE_done, loopE_ret]
      have hL106 : loopM (B_l_eqTableS_0 p_a p_b) (p_a.length - 0) 0 () = .ret false := hI12.symm.trans (loopM.ret hlt21 hB107)
      refine br (tr (rr rfl (.cons rfl .nil) ?_))
      have hM108 : (l_eqTableS p_a p_b) = (false) := by simp only [l_eqTableS, hb3, hb101, hL106, cond_true, cond_false, loopE_done, loopE_ret]
      rw [hM108]
      exact ⟨rfl, (Ex.trans hf19 hE96)⟩
   ·refine CW.seq (CW.seq (CW.region (sd rfl (yl_move rfl rfl (sd rfl (yl_move rfl rfl (sd rfl (yl_len Tryz.un33 rfl rfl (sd rfl (yl_lss rfl rfl rfl (SeqR.done (tn ?_))))))))))))
    refine CW.cond_f rfl (lt_f hlt21) (CW.exit (tx (tx ?_)))
    have hL110 : loopM (B_l_eqTableS_0 p_a p_b) (p_a.length - 0) 0 () = .done () := hI12.symm.trans (loopM.stop hlt21)
    refine bx (tn (CW.seq (CW.region (sd rfl (yl_assign rfl rfl (SeqR.done (tn (CW.ret (rr rfl (.cons rfl .nil) ?_)))))))))
    have hM111 : (l_eqTableS p_a p_b) = (true) := by simp only [l_eqTableS, hb3, hL110, cond_true, cond_false, loopE_done, loopE_ret]
    rw [hM111]
    exact ⟨rfl, hf19⟩
 ·have hb3p := dec_f hb3
  refine CW.cond_t rfl (not_f hb3) (CW.seq (CW.region (sd rfl (yl_assign rfl rfl (SeqR.done (tn (CW.ret (tr (rr rfl (.cons rfl .nil) ?_)))))))))
  have hM112 : (l_eqTableS p_a p_b) = (false) := by simp only [l_eqTableS, hb3, cond_true, cond_false, loopE_done, loopE_ret]
  rw [hM112]
  exact ⟨rfl, (Ex.refl w)⟩
set_option maxRecDepth 100000 in
set_option maxHeartbeats 2000000 in
theorem c_l_eqIntS {A1 : Option Addr} {c1 : Nat} {A2 : Option Addr} {c2 : Nat} {w : World} (p_a : List Int) (p_b : List Int) (h1 : RdS w (Iv 0 w.heap.size) (RF e_Int) 1 A1 p_a.length c1 p_a) (h2 : RdS w (Iv 0 w.heap.size) (RF e_Int) 1 A2 p_b.length c2 p_b) : Cal Tryz.prog 43 #[.slice A1 p_a.length c1, .slice A2 p_b.length c2] w fun v w' => v = .bool ((l_eqIntS p_a p_b)) ∧ Ex w w' := by
 refine Cal.of (vs := [.slice A1 p_a.length c1, .slice A2 p_b.length c2]) Tryz.func43 rfl Tryz.ntmps43 rfl (CW.seq (CW.region (sd rfl (yl_assign rfl rfl (SeqR.done (tn (CW.seq (CW.seq (CW.region ?_)))))))))
 refine sd rfl (yl_move rfl rfl (sd rfl (yl_len Tryz.un23 rfl rfl (sd rfl (yl_move rfl rfl (sd rfl (yl_len Tryz.un23 rfl rfl (sd rfl (yl_neq rfl rfl rfl (SeqR.done (tn (bcase (decide ((p_a.length : Int) = (p_b.length : Int))) (fun hb3 => ?_) (fun hb3 => ?_)))))))))))))
 ·have hb3p := dec_t hb3
  refine CW.cond_f rfl (not_t hb3) (CW.skip (tn (CW.seq (CW.seq (CW.region (sd rfl (yl_assign rfl rfl (SeqR.done (tn ?_)))))))))
  refine CW.block (CW.loop (fun m5 L6 w7 => ∃ (k4 : Nat), m5 = p_a.length - k4 ∧ k4 ≤ p_a.length ∧ w.heap.size ≤ w7.heap.size ∧ lkp L6 0 = some (.slice A1 p_a.length c1) ∧ lkp L6 1 = some (.slice A2 p_b.length c2) ∧ lkp L6 5 = some (.int .i64 ((k4 : Int))) ∧ RdS w7 (Iv 0 w.heap.size) (RF e_Int) 1 A1 p_a.length c1 p_a ∧ RdS w7 (Iv 0 w.heap.size) (RF e_Int) 1 A2 p_b.length c2 p_b ∧ Ex w w7 ∧ loopM (B_l_eqIntS_0 p_a p_b) (p_a.length - k4) k4 () = loopM (B_l_eqIntS_0 p_a p_b) (p_a.length - 0) 0 ()) (p_a.length - 0) ?_ ?_)
  ·exact ⟨0, rfl, (by omega), Nat.le_refl _, rfl, rfl, rfl, h1, h2, (Ex.refl w), rfl⟩
  ·rintro m8 L9 w10 ⟨k4, rfl, hk11, hsz13, hl14, hl15, hl16, hf17, hf18, hf19, hI12⟩
   refine CW.sub (Sub.cons hl14 (Sub.cons hl15 (Sub.cons hl16 (Sub.nil _)))) ?_
   have hf19z := Ex.size hf19
   have hbg20 := RdS.big hf17
   rcases Nat.lt_or_ge k4 p_a.length with hlt21 | hlt21
   ·refine CW.seq (CW.seq (CW.region (sd rfl (yl_move rfl rfl (sd rfl (yl_move rfl rfl (sd rfl (yl_len Tryz.un23 rfl rfl (sd rfl (yl_lss rfl rfl rfl (SeqR.done (tn ?_))))))))))))
    refine CW.cond_t rfl (lt_t hlt21) (CW.skip (tn (CW.seq (CW.block (CW.seq ?_)))))
    obtain ⟨eb22, eo22, ec22, eA22, eS22, ebl22, el22, eR22, eC22⟩ := RdS.atD hf17 d_Int (i := k4) (by first | omega | assumption)
    obtain rfl := eR22
    have eC22 : Cells w10 eb22 (eo22 + k4 * 1) [.int .i64 ((p_a.getD k4 d_Int))] := eC22
    obtain ⟨eb23, eo23, ec23, eA23, eS23, ebl23, el23, eR23, eC23⟩ := RdS.atD hf18 d_Int (i := k4) (by first | omega | assumption)
    obtain rfl := eR23
    have eC23 : Cells w10 eb23 (eo23 + k4 * 1) [.int .i64 ((p_b.getD k4 d_Int))] := eC23
    refine CW.drawsI 9 (vgetI [DetI (.slice A1 p_a.length c1), DetI (.int .i64 ((k4 : Int))), DetI (.pointer (some ⟨eb22, eo22 + k4 * 1, none⟩)), DetI (.int .i64 ((p_a.getD k4 d_Int))), DetI (.slice A2 p_b.length c2), DetI (.int .i64 ((k4 : Int))), DetI (.pointer (some ⟨eb23, eo23 + k4 * 1, none⟩)), DetI (.int .i64 ((p_b.getD k4 d_Int))), DetI (.bool (!(decide ((p_a.getD k4 d_Int) = (p_b.getD k4 d_Int)))))]) Tryz.follows rfl rfl rfl rfl rfl rfl (vgetI_stable ⟨StableI.det _, StableI.det _, StableI.det _, StableI.det _, StableI.det _, StableI.det _, StableI.det _, StableI.det _, StableI.det _, trivial⟩) ⟨?_, ?_, ?_, ?_, ?_, ?_, ?_, ?_, ?_, trivial⟩ ?_
    ·exact fun _ _ h => os rfl ((yl_move rfl (h.old 0 _ rfl rfl) kI))
    ·exact fun _ _ h => os rfl ((yl_move rfl (h.old 5 _ rfl rfl) kI))
    ·intro L34 w35 hi36
     have hE37 := hi36.ex
     have hE37z := Ex.size hE37
     exact os rfl ((yl_indexAddrN Tryz.un23 Tryz.ty3 rfl (hi36.dt 0 17 rfl rfl rfl) (hi36.dt 1 18 rfl rfl rfl) eA22 (by first | omega | assumption | (simp only [IntKind.wrap_i64] at *; omega)) kI))
    ·exact fun _ _ h => os rfl ((yl_load1 Tryz.ty3 rfl (h.dt 2 19 rfl rfl rfl) ((Cells.ex eC22 h.ex) 0 _ rfl) kI))
    ·exact fun _ _ h => os rfl ((yl_move rfl (h.old 1 _ rfl rfl) kI))
    ·exact fun _ _ h => os rfl ((yl_move rfl (h.old 5 _ rfl rfl) kI))
    ·intro L56 w57 hi58
     have hE59 := hi58.ex
     have hE59z := Ex.size hE59
     exact os rfl ((yl_indexAddrN Tryz.un23 Tryz.ty3 rfl (hi58.dt 4 21 rfl rfl rfl) (hi58.dt 5 22 rfl rfl rfl) eA23 (by first | omega | assumption | (simp only [IntKind.wrap_i64] at *; omega)) kI))
    ·exact fun _ _ h => os rfl ((yl_load1 Tryz.ty3 rfl (h.dt 6 23 rfl rfl rfl) ((Cells.ex eC23 h.ex) 0 _ rfl) kI))
    ·exact fun _ _ h => os rfl ((yl_neq rfl (h.dt 3 20 rfl rfl rfl) (h.dt 7 24 rfl rfl rfl) kI))
    ·intro fl77 fh78 L74 w75 hp76
     have hE79 := hp76.ex
     have hE79z := Ex.size hE79
     refine SeqR.done (tn (CW.sub (Sub.cons (d := 0) (hp76.old 0 _ rfl rfl) (Sub.cons (d := 1) (hp76.old 1 _ rfl rfl) (Sub.cons (d := 5) (hp76.old 5 _ rfl rfl) (Sub.cons (d := 25) (hp76.nt 8 25 rfl rfl rfl) (Sub.nil _))))) (bcase (decide ((p_a.getD k4 d_Int) = (p_b.getD k4 d_Int))) (fun hb84 => ?_) (fun hb84 => ?_))))
     ·have hb84p := dec_t hb84
      refine CW.cond_f rfl (not_t hb84) (CW.skip (bn (tn (CW.region (sd rfl (yl_move rfl rfl (sd rfl (yl_inc rfl rfl rfl (by omega) (sd rfl (yl_assign rfl rfl (SeqR.done ?_)))))))))))
      refine tn ?_
      have hB85 : B_l_eqIntS_0 p_a p_b k4 () = .cont () := by simp only [B_l_eqIntS_0, hb3, hb84, cond_true, cond_false, loopE_done, loopE_ret]
      exact ⟨p_a.length - (k4 + 1), by omega, k4 + 1, rfl, hlt21, (by omega), rfl, rfl, rfl, (RdS.ex good_Int hf17 hE79), (RdS.ex good_Int hf18 hE79), (Ex.trans hf19 hE79), (loopM.cont hlt21 hB85).symm.trans hI12⟩
     ·have hb84p := dec_f hb84
      refine CW.cond_t rfl (not_f hb84) (CW.seq (CW.region (sd rfl (yl_assign rfl rfl (SeqR.done (tn (CW.ret (br (tr ?_)))))))))
      refine tr ?_
      have hB90 : B_l_eqIntS_0 p_a p_b k4 () = .ret false := by simp only [B_l_eqIntS_0, hb3, hb84, cond_true, cond_false, loopE_done, loopE_ret]
      have hL89 : loopM (B_l_eqIntS_0 p_a p_b) (p_a.length - 0) 0 () = .ret false := hI12.symm.trans (loopM.ret hlt21 hB90)
      refine br (tr (rr rfl (.cons rfl .nil) ?_))
      have hM91 : (l_eqIntS p_a p_b) = (false) := by simp only [l_eqIntS, hb3, hb84, hL89, cond_true, cond_false, loopE_done, loopE_ret]
      rw [hM91]
      exact ⟨rfl, (Ex.trans hf19 hE79)⟩
   ·refine CW.seq (CW.seq (CW.region (sd rfl (yl_move rfl rfl (sd rfl (yl_move rfl rfl (sd rfl (yl_len Tryz.un23 rfl rfl (sd rfl (yl_lss rfl rfl rfl (SeqR.done (tn ?_))))))))))))
    refine CW.cond_f rfl (lt_f hlt21) (CW.exit (tx (tx ?_)))
    have hL93 : loopM (B_l_eqIntS_0 p_a p_b) (p_a.length - 0) 0 () = .done () := hI12.symm.trans (loopM.stop hlt21)
    refine bx (tn (CW.seq (CW.region (sd rfl (yl_assign rfl rfl (SeqR.done (tn (CW.ret (rr rfl (.cons rfl .nil) ?_)))))))))
    have hM94 : (l_eqIntS p_a p_b) = (true) := by simp only [l_eqIntS, hb3, hL93, cond_true, cond_false, loopE_done, loopE_ret]
    rw [hM94]
    exact ⟨rfl, hf19⟩
 ·have hb3p := dec_f hb3
  refine CW.cond_t rfl (not_f hb3) (CW.seq (CW.region (sd rfl (yl_assign rfl rfl (SeqR.done (tn (CW.ret (tr (rr rfl (.cons rfl .nil) ?_)))))))))
  have hM95 : (l_eqIntS p_a p_b) = (false) := by simp only [l_eqIntS, hb3, cond_true, cond_false, loopE_done, loopE_ret]
  rw [hM95]
  exact ⟨rfl, (Ex.refl w)⟩
set_option maxRecDepth 100000 in
set_option maxHeartbeats 2000000 in
theorem c_l_eqWrite {w : World} (p_a : DWrite) (p_b : DWrite) : Cal Tryz.prog 70 #[.agg #[.string (bs (p_a.Key)), .string (bs (p_a.Val)), .bool (p_a.Gone)], .agg #[.string (bs (p_b.Key)), .string (bs (p_b.Val)), .bool (p_b.Gone)]] w fun v w' => v = .bool ((l_eqWrite p_a p_b)) ∧ Ex w w' := by
 refine Cal.of (vs := [.agg #[.string (bs (p_a.Key)), .string (bs (p_a.Val)), .bool (p_a.Gone)], .agg #[.string (bs (p_b.Key)), .string (bs (p_b.Val)), .bool (p_b.Gone)]]) Tryz.func70 rfl Tryz.ntmps70 rfl (CW.seq (CW.region (sd rfl (yl_box (cs := [.string (bs (p_a.Key)), .string (bs (p_a.Val)), .bool (p_a.Gone)]) rfl rfl rfl ?_))))
 intro b1 w2 hs3 hz4 hB5 hE6
 refine sd rfl (yl_box (cs := [.string (bs (p_b.Key)), .string (bs (p_b.Val)), .bool (p_b.Gone)]) rfl rfl rfl ?_)
 intro b7 w8 hs9 hz10 hB11 hE12
 refine sd rfl (yl_assign rfl rfl (SeqR.done (tn (CW.seq (CW.seq (CW.region (sd rfl (yl_fieldAddr Tryz.fd89_0 rfl rfl ?_))))))))
 have q13 := Box.ex hB5 hE12
 refine sd rfl (yl_load1 Tryz.ty9 rfl rfl ((q13.cell 0).trans rfl) (sd rfl (yl_fieldAddr Tryz.fd89_0 rfl rfl (sd rfl (yl_load1 Tryz.ty9 rfl rfl ((hB11.cell 0).trans rfl) (sd rfl (yl_sneq (a := p_a.Key) (b := p_b.Key) rfl rfl rfl (SeqR.done (tn (bcase (p_a.Key == p_b.Key) (fun hb14 => ?_) (fun hb14 => ?_)))))))))))
 ·refine CW.cond_f rfl (not_t hb14) (CW.skip (tn (CW.seq (CW.seq (CW.region (sd rfl (yl_fieldAddr Tryz.fd89_1 rfl rfl (sd rfl (yl_load1 Tryz.ty9 rfl rfl ((q13.cell 1).trans rfl) (sd rfl (yl_fieldAddr Tryz.fd89_1 rfl rfl ?_)))))))))))
  refine sd rfl (yl_load1 Tryz.ty9 rfl rfl ((hB11.cell 1).trans rfl) (sd rfl (yl_sneq (a := p_a.Val) (b := p_b.Val) rfl rfl rfl (SeqR.done (tn (bcase (p_a.Val == p_b.Val) (fun hb15 => ?_) (fun hb15 => ?_)))))))
  ·refine CW.cond_f rfl (not_t hb15) (CW.skip (tn (CW.seq (CW.seq (CW.region (sd rfl (yl_fieldAddr Tryz.fd89_2 rfl rfl (sd rfl (yl_load1 Tryz.ty4 rfl rfl ((q13.cell 2).trans rfl) (sd rfl (yl_fieldAddr Tryz.fd89_2 rfl rfl ?_)))))))))))
   refine sd rfl (yl_load1 Tryz.ty4 rfl rfl ((hB11.cell 2).trans rfl) (sd rfl (yl_bneq Tryz.un4 rfl rfl rfl (SeqR.done (tn (bcase (p_a.Gone == p_b.Gone) (fun hb16 => ?_) (fun hb16 => ?_)))))))
   ·refine CW.cond_f rfl (not_t hb16) (CW.skip (tn (CW.seq (CW.region (sd rfl (yl_assign rfl rfl (SeqR.done (tn (CW.ret ?_)))))))))
    refine rr rfl (.cons rfl .nil) ?_
    have hM17 : (l_eqWrite p_a p_b) = (true) := by simp only [l_eqWrite, hb14, hb15, hb16, cond_true, cond_false, loopE_done, loopE_ret]
    rw [hM17]
    exact ⟨rfl, (Ex.trans (Ex.trans (Ex.refl w) hE6) hE12)⟩
   ·refine CW.cond_t rfl (not_f hb16) (CW.seq (CW.region (sd rfl (yl_assign rfl rfl (SeqR.done (tn (CW.ret (tr (rr rfl (.cons rfl .nil) ?_)))))))))
    have hM20 : (l_eqWrite p_a p_b) = (false) := by simp only [l_eqWrite, hb14, hb15, hb16, cond_true, cond_false, loopE_done, loopE_ret]
    rw [hM20]
    exact ⟨rfl, (Ex.trans (Ex.trans (Ex.refl w) hE6) hE12)⟩
  ·refine CW.cond_t rfl (not_f hb15) (CW.seq (CW.region (sd rfl (yl_assign rfl rfl (SeqR.done (tn (CW.ret (tr (rr rfl (.cons rfl .nil) ?_)))))))))
   have hM23 : (l_eqWrite p_a p_b) = (false) := by simp only [l_eqWrite, hb14, hb15, cond_true, cond_false, loopE_done, loopE_ret]
   rw [hM23]
   exact ⟨rfl, (Ex.trans (Ex.trans (Ex.refl w) hE6) hE12)⟩
 ·refine CW.cond_t rfl (not_f hb14) (CW.seq (CW.region (sd rfl (yl_assign rfl rfl (SeqR.done (tn (CW.ret (tr (rr rfl (.cons rfl .nil) ?_)))))))))
  have hM26 : (l_eqWrite p_a p_b) = (false) := by simp only [l_eqWrite, hb14, cond_true, cond_false, loopE_done, loopE_ret]
  rw [hM26]
  exact ⟨rfl, (Ex.trans (Ex.trans (Ex.refl w) hE6) hE12)⟩
set_option maxRecDepth 100000 in
set_option maxHeartbeats 2000000 in
theorem c_l_eqWriteS {A1 : Option Addr} {c1 : Nat} {A2 : Option Addr} {c2 : Nat} {w : World} (p_a : List DWrite) (p_b : List DWrite) (h1 : RdS w (Iv 0 w.heap.size) (RF e_Write) 3 A1 p_a.length c1 p_a) (h2 : RdS w (Iv 0 w.heap.size) (RF e_Write) 3 A2 p_b.length c2 p_b) : Cal Tryz.prog 44 #[.slice A1 p_a.length c1, .slice A2 p_b.length c2] w fun v w' => v = .bool ((l_eqWriteS p_a p_b)) ∧ Ex w w' := by
 refine Cal.of (vs := [.slice A1 p_a.length c1, .slice A2 p_b.length c2]) Tryz.func44 rfl Tryz.ntmps44 rfl (CW.seq (CW.region (sd rfl (yl_assign rfl rfl (SeqR.done (tn (CW.seq (CW.seq (CW.region ?_)))))))))
 refine sd rfl (yl_move rfl rfl (sd rfl (yl_len Tryz.un34 rfl rfl (sd rfl (yl_move rfl rfl (sd rfl (yl_len Tryz.un34 rfl rfl (sd rfl (yl_neq rfl rfl rfl (SeqR.done (tn (bcase (decide ((p_a.length : Int) = (p_b.length : Int))) (fun hb3 => ?_) (fun hb3 => ?_)))))))))))))
 ·have hb3p := dec_t hb3
  refine CW.cond_f rfl (not_t hb3) (CW.skip (tn (CW.seq (CW.seq (CW.region (sd rfl (yl_assign rfl rfl (SeqR.done (tn ?_)))))))))
  refine CW.block (CW.loop (fun m5 L6 w7 => ∃ (k4 : Nat), m5 = p_a.length - k4 ∧ k4 ≤ p_a.length ∧ w.heap.size ≤ w7.heap.size ∧ lkp L6 0 = some (.slice A1 p_a.length c1) ∧ lkp L6 1 = some (.slice A2 p_b.length c2) ∧ lkp L6 5 = some (.int .i64 ((k4 : Int))) ∧ RdS w7 (Iv 0 w.heap.size) (RF e_Write) 3 A1 p_a.length c1 p_a ∧ RdS w7 (Iv 0 w.heap.size) (RF e_Write) 3 A2 p_b.length c2 p_b ∧ Ex w w7 ∧ loopM (B_l_eqWriteS_0 p_a p_b) (p_a.length - k4) k4 () = loopM (B_l_eqWriteS_0 p_a p_b) (p_a.length - 0) 0 ()) (p_a.length - 0) ?_ ?_)
  ·exact ⟨0, rfl, (by omega), Nat.le_refl _, rfl, rfl, rfl, h1, h2, (Ex.refl w), rfl⟩
  ·rintro m8 L9 w10 ⟨k4, rfl, hk11, hsz13, hl14, hl15, hl16, hf17, hf18, hf19, hI12⟩
   refine CW.sub (Sub.cons hl14 (Sub.cons hl15 (Sub.cons hl16 (Sub.nil _)))) ?_
   have hf19z := Ex.size hf19
   have hbg20 := RdS.big hf17
   rcases Nat.lt_or_ge k4 p_a.length with hlt21 | hlt21
   ·refine CW.seq (CW.seq (CW.region (sd rfl (yl_move rfl rfl (sd rfl (yl_move rfl rfl (sd rfl (yl_len Tryz.un34 rfl rfl (sd rfl (yl_lss rfl rfl rfl (SeqR.done (tn ?_))))))))))))
    refine CW.cond_t rfl (lt_t hlt21) (CW.skip (tn (CW.seq (CW.block (CW.seq ?_)))))
    obtain ⟨eb22, eo22, ec22, eA22, eS22, ebl22, el22, eR22, eC22⟩ := RdS.atD hf17 d_Write (i := k4) (by first | omega | assumption)
    obtain rfl := eR22
    have eC22 : Cells w10 eb22 (eo22 + k4 * 3) [.string (bs ((p_a.getD k4 d_Write).Key)), .string (bs ((p_a.getD k4 d_Write).Val)), .bool ((p_a.getD k4 d_Write).Gone)] := eC22
    obtain ⟨eb23, eo23, ec23, eA23, eS23, ebl23, el23, eR23, eC23⟩ := RdS.atD hf18 d_Write (i := k4) (by first | omega | assumption)
    obtain rfl := eR23
    have eC23 : Cells w10 eb23 (eo23 + k4 * 3) [.string (bs ((p_b.getD k4 d_Write).Key)), .string (bs ((p_b.getD k4 d_Write).Val)), .bool ((p_b.getD k4 d_Write).Gone)] := eC23
    refine CW.drawsI 10 (vgetI [DetI (.slice A1 p_a.length c1), DetI (.int .i64 ((k4 : Int))), DetI (.pointer (some ⟨eb22, eo22 + k4 * 3, none⟩)), DetI (.agg #[.string (bs ((p_a.getD k4 d_Write).Key)), .string (bs ((p_a.getD k4 d_Write).Val)), .bool ((p_a.getD k4 d_Write).Gone)]), DetI (.slice A2 p_b.length c2), DetI (.int .i64 ((k4 : Int))), DetI (.pointer (some ⟨eb23, eo23 + k4 * 3, none⟩)), DetI (.agg #[.string (bs ((p_b.getD k4 d_Write).Key)), .string (bs ((p_b.getD k4 d_Write).Val)), .bool ((p_b.getD k4 d_Write).Gone)]), DetI (.bool ((l_eqWrite (p_a.getD k4 d_Write) (p_b.getD k4 d_Write)))), DetI (.bool (!(l_eqWrite (p_a.getD k4 d_Write) (p_b.getD k4 d_Write))))]) Tryz.follows rfl rfl rfl rfl rfl rfl (vgetI_stable ⟨StableI.det _, StableI.det _, StableI.det _, StableI.det _, StableI.det _, StableI.det _, StableI.det _, StableI.det _, StableI.det _, StableI.det _, trivial⟩) ⟨?_, ?_, ?_, ?_, ?_, ?_, ?_, ?_, ?_, ?_, trivial⟩ ?_
    ·exact fun _ _ h => os rfl ((yl_move rfl (h.old 0 _ rfl rfl) kI))
    ·exact fun _ _ h => os rfl ((yl_move rfl (h.old 5 _ rfl rfl) kI))
    ·intro L35 w36 hi37
     have hE38 := hi37.ex
     have hE38z := Ex.size hE38
     exact os rfl ((yl_indexAddrN Tryz.un34 Tryz.ty89 rfl (hi37.dt 0 17 rfl rfl rfl) (hi37.dt 1 18 rfl rfl rfl) eA22 (by first | omega | assumption | (simp only [IntKind.wrap_i64] at *; omega)) kI))
    ·exact fun _ _ h => os rfl ((yl_loadN (cs := [.string (bs ((p_a.getD k4 d_Write).Key)), .string (bs ((p_a.getD k4 d_Write).Val)), .bool ((p_a.getD k4 d_Write).Gone)]) Tryz.ty89 rfl (h.dt 2 19 rfl rfl rfl) (Cells.ex eC22 h.ex) rfl kI))
    ·exact fun _ _ h => os rfl ((yl_move rfl (h.old 1 _ rfl rfl) kI))
    ·exact fun _ _ h => os rfl ((yl_move rfl (h.old 5 _ rfl rfl) kI))
    ·intro L57 w58 hi59
     have hE60 := hi59.ex
     have hE60z := Ex.size hE60
     exact os rfl ((yl_indexAddrN Tryz.un34 Tryz.ty89 rfl (hi59.dt 4 21 rfl rfl rfl) (hi59.dt 5 22 rfl rfl rfl) eA23 (by first | omega | assumption | (simp only [IntKind.wrap_i64] at *; omega)) kI))
    ·exact fun _ _ h => os rfl ((yl_loadN (cs := [.string (bs ((p_b.getD k4 d_Write).Key)), .string (bs ((p_b.getD k4 d_Write).Val)), .bool ((p_b.getD k4 d_Write).Gone)]) Tryz.ty89 rfl (h.dt 6 23 rfl rfl rfl) (Cells.ex eC23 h.ex) rfl kI))
    ·intro L69 w70 hi71
     refine OpR.op' rfl (yl_call Tryz.en70 rfl (opvs_cons (hi71.dt 3 20 rfl rfl rfl) (opvs_cons (hi71.dt 7 24 rfl rfl rfl) opvs_nil)) (Cal.mono (c_l_eqWrite (p_a.getD k4 d_Write) (p_b.getD k4 d_Write)) ?_))
     rintro v76 w75 ⟨rfl, hE77⟩
     exact ⟨rfl, hE77⟩
    ·exact fun _ _ h => os rfl ((yl_not rfl (h.dt 8 25 rfl rfl rfl) kI))
    ·intro fl86 fh87 L83 w84 hp85
     have hE88 := hp85.ex
     have hE88z := Ex.size hE88
     refine SeqR.done (tn (CW.sub (Sub.cons (d := 0) (hp85.old 0 _ rfl rfl) (Sub.cons (d := 1) (hp85.old 1 _ rfl rfl) (Sub.cons (d := 5) (hp85.old 5 _ rfl rfl) (Sub.cons (d := 26) (hp85.nt 9 26 rfl rfl rfl) (Sub.nil _))))) (bcase (l_eqWrite (p_a.getD k4 d_Write) (p_b.getD k4 d_Write)) (fun hb93 => ?_) (fun hb93 => ?_))))
     ·refine CW.cond_f rfl (not_t hb93) (CW.skip (bn (tn (CW.region (sd rfl (yl_move rfl rfl (sd rfl (yl_inc rfl rfl rfl (by omega) (sd rfl (yl_assign rfl rfl (SeqR.done ?_)))))))))))
      refine tn ?_
      have hB94 : B_l_eqWriteS_0 p_a p_b k4 () = .cont () := by simp only [B_l_eqWriteS_0, hb3, hb93, cond_true, cond_false, loopE_done, loopE_ret]
      exact ⟨p_a.length - (k4 + 1), by omega, k4 + 1, rfl, hlt21, (by omega), rfl, rfl, rfl, (RdS.ex good_Write hf17 hE88), (RdS.ex good_Write hf18 hE88), (Ex.trans hf19 hE88), (loopM.cont hlt21 hB94).symm.trans hI12⟩
     ·refine CW.cond_t rfl (not_f hb93) (CW.seq (CW.region (sd rfl (yl_assign rfl rfl (SeqR.done (tn (CW.ret (br (tr ?_)))))))))
      refine tr ?_
      have hB99 : B_l_eqWriteS_0 p_a p_b k4 () = .ret false := by simp only [B_l_eqWriteS_0, hb3, hb93, cond_true, cond_false, loopE_done, loopE_ret]
      have hL98 : loopM (B_l_eqWriteS_0 p_a p_b) (p_a.length - 0) 0 () = .ret false := hI12.symm.trans (loopM.ret hlt21 hB99)
      refine br (tr (rr rfl (.cons rfl .nil) ?_))
      have hM100 : (l_eqWriteS p_a p_b) = (false) := by simp only [l_eqWriteS, hb3, hb93, hL98, cond_true, cond_false, loopE_done, loopE_ret]
      rw [hM100]
      exact ⟨rfl, (Ex.trans hf19 hE88)⟩
   ·refine CW.seq (CW.seq (CW.region (sd rfl (yl_move rfl rfl (sd rfl (yl_move rfl rfl (sd rfl (yl_len Tryz.un34 rfl rfl (sd rfl (yl_lss rfl rfl rfl (SeqR.done (tn ?_))))))))))))
    refine CW.cond_f rfl (lt_f hlt21) (CW.exit (tx (tx ?_)))
    have hL102 : loopM (B_l_eqWriteS_0 p_a p_b) (p_a.length - 0) 0 () = .done () := hI12.symm.trans (loopM.stop hlt21)
    refine bx (tn (CW.seq (CW.region (sd rfl (yl_assign rfl rfl (SeqR.done (tn (CW.ret (rr rfl (.cons rfl .nil) ?_)))))))))
    have hM103 : (l_eqWriteS p_a p_b) = (true) := by simp only [l_eqWriteS, hb3, hL102, cond_true, cond_false, loopE_done, loopE_ret]
    rw [hM103]
    exact ⟨rfl, hf19⟩
 ·have hb3p := dec_f hb3
  refine CW.cond_t rfl (not_f hb3) (CW.seq (CW.region (sd rfl (yl_assign rfl rfl (SeqR.done (tn (CW.ret (tr (rr rfl (.cons rfl .nil) ?_)))))))))
  have hM104 : (l_eqWriteS p_a p_b) = (false) := by simp only [l_eqWriteS, hb3, cond_true, cond_false, loopE_done, loopE_ret]
  rw [hM104]
  exact ⟨rfl, (Ex.refl w)⟩
set_option maxRecDepth 100000 in
set_option maxHeartbeats 2000000 in
theorem c_l_eqShift {A1 : Option Addr} {c1 : Nat} {A2 : Option Addr} {c2 : Nat} {A3 : Option Addr} {c3 : Nat} {A4 : Option Addr} {c4 : Nat} {A5 : Option Addr} {c5 : Nat} {A6 : Option Addr} {c6 : Nat} {w : World} (p_a : DShift) (p_b : DShift) (h1 : RdS w (Iv 0 w.heap.size) R_Table 3 A1 p_a.Ways.length c1 p_a.Ways) (h2 : RdS w (Iv 0 w.heap.size) (RF e_Int) 1 A2 p_a.At.length c2 p_a.At) (h3 : RdS w (Iv 0 w.heap.size) (RF e_Write) 3 A3 p_a.Store.length c3 p_a.Store) (h4 : RdS w (Iv 0 w.heap.size) R_Table 3 A4 p_b.Ways.length c4 p_b.Ways) (h5 : RdS w (Iv 0 w.heap.size) (RF e_Int) 1 A5 p_b.At.length c5 p_b.At) (h6 : RdS w (Iv 0 w.heap.size) (RF e_Write) 3 A6 p_b.Store.length c6 p_b.Store) : Cal Tryz.prog 17 #[.agg #[.string (bs (p_a.Name)), .slice A1 p_a.Ways.length c1, .slice A2 p_a.At.length c2, .slice A3 p_a.Store.length c3], .agg #[.string (bs (p_b.Name)), .slice A4 p_b.Ways.length c4, .slice A5 p_b.At.length c5, .slice A6 p_b.Store.length c6]] w fun v w' => v = .bool ((l_eqShift p_a p_b)) ∧ Ex w w' := by
 refine Cal.of (vs := [.agg #[.string (bs (p_a.Name)), .slice A1 p_a.Ways.length c1, .slice A2 p_a.At.length c2, .slice A3 p_a.Store.length c3], .agg #[.string (bs (p_b.Name)), .slice A4 p_b.Ways.length c4, .slice A5 p_b.At.length c5, .slice A6 p_b.Store.length c6]]) Tryz.func17 rfl Tryz.ntmps17 rfl (CW.seq (CW.region (sd rfl (yl_box (cs := [.string (bs (p_a.Name)), .slice A1 p_a.Ways.length c1, .slice A2 p_a.At.length c2, .slice A3 p_a.Store.length c3]) rfl rfl rfl ?_))))
 intro b7 w8 hs9 hz10 hB11 hE12
 refine sd rfl (yl_box (cs := [.string (bs (p_b.Name)), .slice A4 p_b.Ways.length c4, .slice A5 p_b.At.length c5, .slice A6 p_b.Store.length c6]) rfl rfl rfl ?_)
 intro b13 w14 hs15 hz16 hB17 hE18
 refine sd rfl (yl_assign rfl rfl (SeqR.done (tn (CW.seq (CW.seq (CW.region (sd rfl (yl_fieldAddr Tryz.fd36_0 rfl rfl ?_))))))))
 have q19 := Box.ex hB11 hE18
 refine sd rfl (yl_load1 Tryz.ty9 rfl rfl ((q19.cell 0).trans rfl) (sd rfl (yl_fieldAddr Tryz.fd36_0 rfl rfl (sd rfl (yl_load1 Tryz.ty9 rfl rfl ((hB17.cell 0).trans rfl) (sd rfl (yl_sneq (a := p_a.Name) (b := p_b.Name) rfl rfl rfl (SeqR.done (tn (bcase (p_a.Name == p_b.Name) (fun hb20 => ?_) (fun hb20 => ?_)))))))))))
 ·refine CW.cond_f rfl (not_t hb20) (CW.skip (tn (CW.seq (CW.seq (CW.region (sd rfl (yl_fieldAddr Tryz.fd36_1 rfl rfl (sd rfl (yl_load1 Tryz.ty33 rfl rfl ((q19.cell 1).trans rfl) (sd rfl (yl_fieldAddr Tryz.fd36_1 rfl rfl ?_)))))))))))
  refine sd rfl (yl_load1 Tryz.ty33 rfl rfl ((hB17.cell 1).trans rfl) (sd rfl (yl_call Tryz.en42 rfl (opvs_cons rfl (opvs_cons rfl opvs_nil)) (Cal.mono (c_l_eqTableS p_a.Ways p_b.Ways (RdS.up (RdS.ex good_Table (RdS.ex good_Table h1 hE12) hE18) good_Table) (RdS.up (RdS.ex good_Table (RdS.ex good_Table h4 hE12) hE18) good_Table)) ?_))))
  rintro v26 w25 ⟨rfl, hE27⟩
  have hE27z := Ex.size hE27
  refine sd rfl (yl_not rfl rfl (SeqR.done (tn (bcase (l_eqTableS p_a.Ways p_b.Ways) (fun hb28 => ?_) (fun hb28 => ?_)))))
  ·refine CW.cond_f rfl (not_t hb28) (CW.skip (tn (CW.seq (CW.seq (CW.region (sd rfl (yl_fieldAddr Tryz.fd36_2 rfl rfl ?_)))))))
   have q29 := Box.ex q19 hE27
   refine sd rfl (yl_load1 Tryz.ty23 rfl rfl ((q29.cell 2).trans rfl) (sd rfl (yl_fieldAddr Tryz.fd36_2 rfl rfl ?_)))
   have q30 := Box.ex hB17 hE27
   refine sd rfl (yl_load1 Tryz.ty23 rfl rfl ((q30.cell 2).trans rfl) (sd rfl (yl_call Tryz.en43 rfl (opvs_cons rfl (opvs_cons rfl opvs_nil)) (Cal.mono (c_l_eqIntS p_a.At p_b.At (RdS.up (RdS.ex good_Int (RdS.ex good_Int (RdS.ex good_Int h2 hE12) hE18) hE27) good_Int) (RdS.up (RdS.ex good_Int (RdS.ex good_Int (RdS.ex good_Int h5 hE12) hE18) hE27) good_Int)) ?_))))
   rintro v38 w37 ⟨rfl, hE39⟩
   have hE39z := Ex.size hE39
   refine sd rfl (yl_not rfl rfl (SeqR.done (tn (bcase (l_eqIntS p_a.At p_b.At) (fun hb40 => ?_) (fun hb40 => ?_)))))
   ·refine CW.cond_f rfl (not_t hb40) (CW.skip (tn (CW.seq (CW.seq (CW.region (sd rfl (yl_fieldAddr Tryz.fd36_3 rfl rfl (sd rfl (yl_load1 Tryz.ty34 rfl rfl (((Box.ex q29 hE39).cell 3).trans rfl) (sd rfl (yl_fieldAddr Tryz.fd36_3 rfl rfl ?_)))))))))))
    refine sd rfl (yl_load1 Tryz.ty34 rfl rfl (((Box.ex q30 hE39).cell 3).trans rfl) (sd rfl (yl_call Tryz.en44 rfl (opvs_cons rfl (opvs_cons rfl opvs_nil)) (Cal.mono (c_l_eqWriteS p_a.Store p_b.Store (RdS.up (RdS.ex good_Write (RdS.ex good_Write (RdS.ex good_Write (RdS.ex good_Write h3 hE12) hE18) hE27) hE39) good_Write) (RdS.up (RdS.ex good_Write (RdS.ex good_Write (RdS.ex good_Write (RdS.ex good_Write h6 hE12) hE18) hE27) hE39) good_Write)) ?_))))
    rintro v52 w51 ⟨rfl, hE53⟩
    have hE53z := Ex.size hE53
    refine sd rfl (yl_not rfl rfl (SeqR.done (tn (bcase (l_eqWriteS p_a.Store p_b.Store) (fun hb54 => ?_) (fun hb54 => ?_)))))
    ·refine CW.cond_f rfl (not_t hb54) (CW.skip (tn (CW.seq (CW.region (sd rfl (yl_assign rfl rfl (SeqR.done (tn (CW.ret ?_)))))))))
     refine rr rfl (.cons rfl .nil) ?_
     have hM55 : (l_eqShift p_a p_b) = (true) := by simp only [l_eqShift, hb20, hb28, hb40, hb54, cond_true, cond_false, loopE_done, loopE_ret]
     rw [hM55]
     exact ⟨rfl, (Ex.trans (Ex.trans (Ex.trans (Ex.trans (Ex.trans (Ex.refl w) hE12) hE18) hE27) hE39) hE53)⟩
    ·refine CW.cond_t rfl (not_f hb54) (CW.seq (CW.region (sd rfl (yl_assign rfl rfl (SeqR.done (tn (CW.ret (tr (rr rfl (.cons rfl .nil) ?_)))))))))
     have hM61 : (l_eqShift p_a p_b) = (false) := by simp only [l_eqShift, hb20, hb28, hb40, hb54, cond_true, cond_false, loopE_done, loopE_ret]
     rw [hM61]
     exact ⟨rfl, (Ex.trans (Ex.trans (Ex.trans (Ex.trans (Ex.trans (Ex.refl w) hE12) hE18) hE27) hE39) hE53)⟩
   ·refine CW.cond_t rfl (not_f hb40) (CW.seq (CW.region (sd rfl (yl_assign rfl rfl (SeqR.done (tn (CW.ret (tr (rr rfl (.cons rfl .nil) ?_)))))))))
    have hM67 : (l_eqShift p_a p_b) = (false) := by simp only [l_eqShift, hb20, hb28, hb40, cond_true, cond_false, loopE_done, loopE_ret]
    rw [hM67]
    exact ⟨rfl, (Ex.trans (Ex.trans (Ex.trans (Ex.trans (Ex.refl w) hE12) hE18) hE27) hE39)⟩
  ·refine CW.cond_t rfl (not_f hb28) (CW.seq (CW.region (sd rfl (yl_assign rfl rfl (SeqR.done (tn (CW.ret (tr (rr rfl (.cons rfl .nil) ?_)))))))))
   have hM72 : (l_eqShift p_a p_b) = (false) := by simp only [l_eqShift, hb20, hb28, cond_true, cond_false, loopE_done, loopE_ret]
   rw [hM72]
   exact ⟨rfl, (Ex.trans (Ex.trans (Ex.trans (Ex.refl w) hE12) hE18) hE27)⟩
 ·refine CW.cond_t rfl (not_f hb20) (CW.seq (CW.region (sd rfl (yl_assign rfl rfl (SeqR.done (tn (CW.ret (tr (rr rfl (.cons rfl .nil) ?_)))))))))
  have hM76 : (l_eqShift p_a p_b) = (false) := by simp only [l_eqShift, hb20, cond_true, cond_false, loopE_done, loopE_ret]
  rw [hM76]
  exact ⟨rfl, (Ex.trans (Ex.trans (Ex.refl w) hE12) hE18)⟩
set_option maxRecDepth 100000 in
set_option maxHeartbeats 2000000 in
theorem c_l_eqFill {w : World} (p_a : DFill) (p_b : DFill) : Cal Tryz.prog 18 #[.agg #[.string (bs (p_a.Last)), .bool (p_a.Over)], .agg #[.string (bs (p_b.Last)), .bool (p_b.Over)]] w fun v w' => v = .bool ((l_eqFill p_a p_b)) ∧ Ex w w' := by
 refine Cal.of (vs := [.agg #[.string (bs (p_a.Last)), .bool (p_a.Over)], .agg #[.string (bs (p_b.Last)), .bool (p_b.Over)]]) Tryz.func18 rfl Tryz.ntmps18 rfl (CW.seq (CW.region (sd rfl (yl_box (cs := [.string (bs (p_a.Last)), .bool (p_a.Over)]) rfl rfl rfl ?_))))
 intro b1 w2 hs3 hz4 hB5 hE6
 refine sd rfl (yl_box (cs := [.string (bs (p_b.Last)), .bool (p_b.Over)]) rfl rfl rfl ?_)
 intro b7 w8 hs9 hz10 hB11 hE12
 refine sd rfl (yl_assign rfl rfl (SeqR.done (tn (CW.seq (CW.seq (CW.region (sd rfl (yl_fieldAddr Tryz.fd37_0 rfl rfl ?_))))))))
 have q13 := Box.ex hB5 hE12
 refine sd rfl (yl_load1 Tryz.ty9 rfl rfl ((q13.cell 0).trans rfl) (sd rfl (yl_fieldAddr Tryz.fd37_0 rfl rfl (sd rfl (yl_load1 Tryz.ty9 rfl rfl ((hB11.cell 0).trans rfl) (sd rfl (yl_sneq (a := p_a.Last) (b := p_b.Last) rfl rfl rfl (SeqR.done (tn (bcase (p_a.Last == p_b.Last) (fun hb14 => ?_) (fun hb14 => ?_)))))))))))
 ·refine CW.cond_f rfl (not_t hb14) (CW.skip (tn (CW.seq (CW.seq (CW.region (sd rfl (yl_fieldAddr Tryz.fd37_1 rfl rfl (sd rfl (yl_load1 Tryz.ty4 rfl rfl ((q13.cell 1).trans rfl) (sd rfl (yl_fieldAddr Tryz.fd37_1 rfl rfl ?_)))))))))))
  refine sd rfl (yl_load1 Tryz.ty4 rfl rfl ((hB11.cell 1).trans rfl) (sd rfl (yl_bneq Tryz.un4 rfl rfl rfl (SeqR.done (tn (bcase (p_a.Over == p_b.Over) (fun hb15 => ?_) (fun hb15 => ?_)))))))
  ·refine CW.cond_f rfl (not_t hb15) (CW.skip (tn (CW.seq (CW.region (sd rfl (yl_assign rfl rfl (SeqR.done (tn (CW.ret ?_)))))))))
   refine rr rfl (.cons rfl .nil) ?_
   have hM16 : (l_eqFill p_a p_b) = (true) := by simp only [l_eqFill, hb14, hb15, cond_true, cond_false, loopE_done, loopE_ret]
   rw [hM16]
   exact ⟨rfl, (Ex.trans (Ex.trans (Ex.refl w) hE6) hE12)⟩
  ·refine CW.cond_t rfl (not_f hb15) (CW.seq (CW.region (sd rfl (yl_assign rfl rfl (SeqR.done (tn (CW.ret (tr (rr rfl (.cons rfl .nil) ?_)))))))))
   have hM19 : (l_eqFill p_a p_b) = (false) := by simp only [l_eqFill, hb14, hb15, cond_true, cond_false, loopE_done, loopE_ret]
   rw [hM19]
   exact ⟨rfl, (Ex.trans (Ex.trans (Ex.refl w) hE6) hE12)⟩
 ·refine CW.cond_t rfl (not_f hb14) (CW.seq (CW.region (sd rfl (yl_assign rfl rfl (SeqR.done (tn (CW.ret (tr (rr rfl (.cons rfl .nil) ?_)))))))))
  have hM22 : (l_eqFill p_a p_b) = (false) := by simp only [l_eqFill, hb14, cond_true, cond_false, loopE_done, loopE_ret]
  rw [hM22]
  exact ⟨rfl, (Ex.trans (Ex.trans (Ex.refl w) hE6) hE12)⟩
set_option maxRecDepth 100000 in
set_option maxHeartbeats 2000000 in
theorem c_l_eqWork {A1 : Option Addr} {c1 : Nat} {A2 : Option Addr} {c2 : Nat} {A3 : Option Addr} {c3 : Nat} {A4 : Option Addr} {c4 : Nat} {A5 : Option Addr} {c5 : Nat} {A6 : Option Addr} {c6 : Nat} {w : World} (p_a : DWork) (p_b : DWork) (h1 : RdS w (Iv 0 w.heap.size) R_Table 3 A1 p_a.Shift.Ways.length c1 p_a.Shift.Ways) (h2 : RdS w (Iv 0 w.heap.size) (RF e_Int) 1 A2 p_a.Shift.At.length c2 p_a.Shift.At) (h3 : RdS w (Iv 0 w.heap.size) (RF e_Write) 3 A3 p_a.Shift.Store.length c3 p_a.Shift.Store) (h4 : RdS w (Iv 0 w.heap.size) R_Table 3 A4 p_b.Shift.Ways.length c4 p_b.Shift.Ways) (h5 : RdS w (Iv 0 w.heap.size) (RF e_Int) 1 A5 p_b.Shift.At.length c5 p_b.Shift.At) (h6 : RdS w (Iv 0 w.heap.size) (RF e_Write) 3 A6 p_b.Shift.Store.length c6 p_b.Shift.Store) : Cal Tryz.prog 8 #[.agg #[.string (bs (p_a.Shift.Name)), .slice A1 p_a.Shift.Ways.length c1, .slice A2 p_a.Shift.At.length c2, .slice A3 p_a.Shift.Store.length c3, .string (bs (p_a.Up.Last)), .bool (p_a.Up.Over), .string (bs (p_a.Down.Last)), .bool (p_a.Down.Over)], .agg #[.string (bs (p_b.Shift.Name)), .slice A4 p_b.Shift.Ways.length c4, .slice A5 p_b.Shift.At.length c5, .slice A6 p_b.Shift.Store.length c6, .string (bs (p_b.Up.Last)), .bool (p_b.Up.Over), .string (bs (p_b.Down.Last)), .bool (p_b.Down.Over)]] w fun v w' => v = .bool ((l_eqWork p_a p_b)) ∧ Ex w w' := by
 refine Cal.of (vs := [.agg #[.string (bs (p_a.Shift.Name)), .slice A1 p_a.Shift.Ways.length c1, .slice A2 p_a.Shift.At.length c2, .slice A3 p_a.Shift.Store.length c3, .string (bs (p_a.Up.Last)), .bool (p_a.Up.Over), .string (bs (p_a.Down.Last)), .bool (p_a.Down.Over)], .agg #[.string (bs (p_b.Shift.Name)), .slice A4 p_b.Shift.Ways.length c4, .slice A5 p_b.Shift.At.length c5, .slice A6 p_b.Shift.Store.length c6, .string (bs (p_b.Up.Last)), .bool (p_b.Up.Over), .string (bs (p_b.Down.Last)), .bool (p_b.Down.Over)]]) Tryz.func8 rfl Tryz.ntmps8 rfl (CW.seq (CW.region (sd rfl (yl_box (cs := [.string (bs (p_a.Shift.Name)), .slice A1 p_a.Shift.Ways.length c1, .slice A2 p_a.Shift.At.length c2, .slice A3 p_a.Shift.Store.length c3, .string (bs (p_a.Up.Last)), .bool (p_a.Up.Over), .string (bs (p_a.Down.Last)), .bool (p_a.Down.Over)]) rfl rfl rfl ?_))))
 intro b7 w8 hs9 hz10 hB11 hE12
 refine sd rfl (yl_box (cs := [.string (bs (p_b.Shift.Name)), .slice A4 p_b.Shift.Ways.length c4, .slice A5 p_b.Shift.At.length c5, .slice A6 p_b.Shift.Store.length c6, .string (bs (p_b.Up.Last)), .bool (p_b.Up.Over), .string (bs (p_b.Down.Last)), .bool (p_b.Down.Over)]) rfl rfl rfl ?_)
 intro b13 w14 hs15 hz16 hB17 hE18
 refine sd rfl (yl_assign rfl rfl (SeqR.done (tn (CW.seq (CW.seq (CW.region (sd rfl (yl_fieldAddr Tryz.fd39_0 rfl rfl ?_))))))))
 have q19 := Box.ex hB11 hE18
 refine sd rfl (yl_loadN (cs := [.string (bs (p_a.Shift.Name)), .slice A1 p_a.Shift.Ways.length c1, .slice A2 p_a.Shift.At.length c2, .slice A3 p_a.Shift.Store.length c3]) Tryz.ty36 rfl rfl (q19.cells (n := 4) rfl) rfl (sd rfl (yl_fieldAddr Tryz.fd39_0 rfl rfl (sd rfl (yl_loadN (cs := [.string (bs (p_b.Shift.Name)), .slice A4 p_b.Shift.Ways.length c4, .slice A5 p_b.Shift.At.length c5, .slice A6 p_b.Shift.Store.length c6]) Tryz.ty36 rfl rfl (hB17.cells (n := 4) rfl) rfl (sd rfl (yl_call Tryz.en17 rfl (opvs_cons rfl (opvs_cons rfl opvs_nil)) (Cal.mono (c_l_eqShift p_a.Shift p_b.Shift (RdS.up (RdS.ex good_Table (RdS.ex good_Table h1 hE12) hE18) good_Table) (RdS.up (RdS.ex good_Int (RdS.ex good_Int h2 hE12) hE18) good_Int) (RdS.up (RdS.ex good_Write (RdS.ex good_Write h3 hE12) hE18) good_Write) (RdS.up (RdS.ex good_Table (RdS.ex good_Table h4 hE12) hE18) good_Table) (RdS.up (RdS.ex good_Int (RdS.ex good_Int h5 hE12) hE18) good_Int) (RdS.up (RdS.ex good_Write (RdS.ex good_Write h6 hE12) hE18) good_Write)) ?_))))))))
 rintro v33 w32 ⟨rfl, hE34⟩
 have hE34z := Ex.size hE34
 refine sd rfl (yl_not rfl rfl (SeqR.done (tn (bcase (l_eqShift p_a.Shift p_b.Shift) (fun hb35 => ?_) (fun hb35 => ?_)))))
 ·refine CW.cond_f rfl (not_t hb35) (CW.skip (tn (CW.seq (CW.seq (CW.region (sd rfl (yl_fieldAddr Tryz.fd39_1 rfl rfl ?_)))))))
  have q36 := Box.ex q19 hE34
  refine sd rfl (yl_loadN (cs := [.string (bs (p_a.Up.Last)), .bool (p_a.Up.Over)]) Tryz.ty37 rfl rfl (q36.cells (n := 2) rfl) rfl (sd rfl (yl_fieldAddr Tryz.fd39_1 rfl rfl ?_)))
  have q37 := Box.ex hB17 hE34
  refine sd rfl (yl_loadN (cs := [.string (bs (p_b.Up.Last)), .bool (p_b.Up.Over)]) Tryz.ty37 rfl rfl (q37.cells (n := 2) rfl) rfl (sd rfl (yl_call Tryz.en18 rfl (opvs_cons rfl (opvs_cons rfl opvs_nil)) (Cal.mono (c_l_eqFill p_a.Up p_b.Up) ?_))))
  rintro v39 w38 ⟨rfl, hE40⟩
  have hE40z := Ex.size hE40
  refine sd rfl (yl_not rfl rfl (SeqR.done (tn (bcase (l_eqFill p_a.Up p_b.Up) (fun hb41 => ?_) (fun hb41 => ?_)))))
  ·refine CW.cond_f rfl (not_t hb41) (CW.skip (tn (CW.seq (CW.seq (CW.region (sd rfl (yl_fieldAddr Tryz.fd39_2 rfl rfl (sd rfl (yl_loadN (cs := [.string (bs (p_a.Down.Last)), .bool (p_a.Down.Over)]) Tryz.ty37 rfl rfl ((Box.ex q36 hE40).cells (n := 2) rfl) rfl (sd rfl (yl_fieldAddr Tryz.fd39_2 rfl rfl ?_)))))))))))
   refine sd rfl (yl_loadN (cs := [.string (bs (p_b.Down.Last)), .bool (p_b.Down.Over)]) Tryz.ty37 rfl rfl ((Box.ex q37 hE40).cells (n := 2) rfl) rfl (sd rfl (yl_call Tryz.en18 rfl (opvs_cons rfl (opvs_cons rfl opvs_nil)) (Cal.mono (c_l_eqFill p_a.Down p_b.Down) ?_))))
   rintro v45 w44 ⟨rfl, hE46⟩
   have hE46z := Ex.size hE46
   refine sd rfl (yl_not rfl rfl (SeqR.done (tn (bcase (l_eqFill p_a.Down p_b.Down) (fun hb47 => ?_) (fun hb47 => ?_)))))
   ·refine CW.cond_f rfl (not_t hb47) (CW.skip (tn (CW.seq (CW.region (sd rfl (yl_assign rfl rfl (SeqR.done (tn (CW.ret ?_)))))))))
    refine rr rfl (.cons rfl .nil) ?_
    have hM48 : (l_eqWork p_a p_b) = (true) := by simp only [l_eqWork, hb35, hb41, hb47, cond_true, cond_false, loopE_done, loopE_ret]
    rw [hM48]
    exact ⟨rfl, (Ex.trans (Ex.trans (Ex.trans (Ex.trans (Ex.trans (Ex.refl w) hE12) hE18) hE34) hE40) hE46)⟩
   ·refine CW.cond_t rfl (not_f hb47) (CW.seq (CW.region (sd rfl (yl_assign rfl rfl (SeqR.done (tn (CW.ret (tr (rr rfl (.cons rfl .nil) ?_)))))))))
    have hM54 : (l_eqWork p_a p_b) = (false) := by simp only [l_eqWork, hb35, hb41, hb47, cond_true, cond_false, loopE_done, loopE_ret]
    rw [hM54]
    exact ⟨rfl, (Ex.trans (Ex.trans (Ex.trans (Ex.trans (Ex.trans (Ex.refl w) hE12) hE18) hE34) hE40) hE46)⟩
  ·refine CW.cond_t rfl (not_f hb41) (CW.seq (CW.region (sd rfl (yl_assign rfl rfl (SeqR.done (tn (CW.ret (tr (rr rfl (.cons rfl .nil) ?_)))))))))
   have hM60 : (l_eqWork p_a p_b) = (false) := by simp only [l_eqWork, hb35, hb41, cond_true, cond_false, loopE_done, loopE_ret]
   rw [hM60]
   exact ⟨rfl, (Ex.trans (Ex.trans (Ex.trans (Ex.trans (Ex.refl w) hE12) hE18) hE34) hE40)⟩
 ·refine CW.cond_t rfl (not_f hb35) (CW.seq (CW.region (sd rfl (yl_assign rfl rfl (SeqR.done (tn (CW.ret (tr (rr rfl (.cons rfl .nil) ?_)))))))))
  have hM65 : (l_eqWork p_a p_b) = (false) := by simp only [l_eqWork, hb35, cond_true, cond_false, loopE_done, loopE_ret]
  rw [hM65]
  exact ⟨rfl, (Ex.trans (Ex.trans (Ex.trans (Ex.refl w) hE12) hE18) hE34)⟩
set_option maxRecDepth 100000 in
set_option maxHeartbeats 2000000 in
theorem c_l_FnExactGoodWork {A1 : Option Addr} {c1 : Nat} {A2 : Option Addr} {c2 : Nat} {A3 : Option Addr} {c3 : Nat} {w : World} (p_aW : DWork) (h1 : RdS w (Iv 0 w.heap.size) R_Table 3 A1 p_aW.Shift.Ways.length c1 p_aW.Shift.Ways) (h2 : RdS w (Iv 0 w.heap.size) (RF e_Int) 1 A2 p_aW.Shift.At.length c2 p_aW.Shift.At) (h3 : RdS w (Iv 0 w.heap.size) (RF e_Write) 3 A3 p_aW.Shift.Store.length c3 p_aW.Shift.Store) (pre0 : wf_Work p_aW) : Cal Tryz.prog 3 #[.agg #[.string (bs (p_aW.Shift.Name)), .slice A1 p_aW.Shift.Ways.length c1, .slice A2 p_aW.Shift.At.length c2, .slice A3 p_aW.Shift.Store.length c3, .string (bs (p_aW.Up.Last)), .bool (p_aW.Up.Over), .string (bs (p_aW.Down.Last)), .bool (p_aW.Down.Over)]] w fun v w' => v = .bool ((l_FnExactGoodWork p_aW)) ∧ Ex w w' := by
 refine Cal.of (vs := [.agg #[.string (bs (p_aW.Shift.Name)), .slice A1 p_aW.Shift.Ways.length c1, .slice A2 p_aW.Shift.At.length c2, .slice A3 p_aW.Shift.Store.length c3, .string (bs (p_aW.Up.Last)), .bool (p_aW.Up.Over), .string (bs (p_aW.Down.Last)), .bool (p_aW.Down.Over)]]) Tryz.func3 rfl Tryz.ntmps3 rfl (CW.seq (CW.region (sd rfl (yl_box (cs := [.string (bs (p_aW.Shift.Name)), .slice A1 p_aW.Shift.Ways.length c1, .slice A2 p_aW.Shift.At.length c2, .slice A3 p_aW.Shift.Store.length c3, .string (bs (p_aW.Up.Last)), .bool (p_aW.Up.Over), .string (bs (p_aW.Down.Last)), .bool (p_aW.Down.Over)]) rfl rfl rfl ?_))))
 intro b4 w5 hs6 hz7 hB8 hE9
 refine sd rfl (yl_assign rfl rfl (SeqR.done (tn (CW.seq (CW.region (sd rfl (yl_assign rfl rfl (SeqR.done (tn (CW.seq ?_))))))))))
 refine CW.region (sd rfl (yl_loadN (cs := [.string (bs (p_aW.Shift.Name)), .slice A1 p_aW.Shift.Ways.length c1, .slice A2 p_aW.Shift.At.length c2, .slice A3 p_aW.Shift.Store.length c3, .string (bs (p_aW.Up.Last)), .bool (p_aW.Up.Over), .string (bs (p_aW.Down.Last)), .bool (p_aW.Down.Over)]) Tryz.ty30 rfl rfl (hB8.cells (n := 8) rfl) rfl (sd rfl (yl_move rfl rfl ?_))))
 have q10 := RdS.ex good_Table h1 hE9
 have q11 := RdS.ex good_Int h2 hE9
 have q12 := RdS.ex good_Write h3 hE9
 refine sd rfl (yl_call Tryz.en4 rfl (opvs_cons rfl (opvs_cons rfl opvs_nil)) (Cal.mono (c_l_szWork p_aW 1048576 (RdS.up q10 good_Table) (RdS.up q11 good_Int) (RdS.up q12 good_Write)) ?_))
 rintro v14 w13 ⟨rfl, hE15⟩
 have hE15z := Ex.size hE15
 refine sd rfl (yl_assign rfl rfl (SeqR.done (tn (CW.seq (CW.seq (CW.region (sd rfl (yl_move rfl rfl (sd rfl (yl_lss rfl rfl rfl (SeqR.done ?_)))))))))))
 refine tn (bcase (decide ((l_szWork p_aW 1048576) < 0)) (fun hb16 => ?_) (fun hb16 => ?_))
 ·have hb16p := dec_t hb16
  refine CW.cond_t rfl hb16 (CW.seq (CW.region (sd rfl (yl_assign rfl rfl (SeqR.done (tn (CW.ret (tr (rr rfl (.cons rfl .nil) ?_)))))))))
  have hM17 : (l_FnExactGoodWork p_aW) = (true) := by simp only [l_FnExactGoodWork, hb16, cond_true, cond_false, loopE_done, loopE_ret]
  rw [hM17]
  exact ⟨rfl, (Ex.trans (Ex.trans (Ex.refl w) hE9) hE15)⟩
 ·have hb16p := dec_f hb16
  refine CW.cond_f rfl hb16 (CW.skip (tn (CW.seq (CW.region ?_))))
  have q20 := Box.ex hB8 hE15
  refine sd rfl (yl_loadN (cs := [.string (bs (p_aW.Shift.Name)), .slice A1 p_aW.Shift.Ways.length c1, .slice A2 p_aW.Shift.At.length c2, .slice A3 p_aW.Shift.Store.length c3, .string (bs (p_aW.Up.Last)), .bool (p_aW.Up.Over), .string (bs (p_aW.Down.Last)), .bool (p_aW.Down.Over)]) Tryz.ty30 rfl rfl (q20.cells (n := 8) rfl) rfl ?_)
  have q21 := RdS.ex good_Table q10 hE15
  have q22 := RdS.ex good_Int q11 hE15
  have q23 := RdS.ex good_Write q12 hE15
  refine sd rfl (yl_call Tryz.en6 rfl (opvs_cons rfl opvs_nil) (Cal.mono (c_l_toWork p_aW (RdS.up q21 good_Table) (RdS.up q22 good_Int) (RdS.up q23 good_Write) ((szok_Work pre0 (by decide) (dec_f hb16)).1)) ?_))
  rintro v28 w24 ⟨A25, c25, lo25, hi25, A26, c26, lo26, hi26, A27, c27, lo27, hi27, rfl, h25, h26, h27, hrn30, hrn31, hrn32, hrn33, hrn34, hrn35, hE29⟩
  have hE29z := Ex.size hE29
  refine sd rfl (yl_call Tryz.en5 rfl (opvs_cons rfl opvs_nil) (Cal.mono (c_s_GoodWork p_aW (RdS.up (OwnL.rd good_Table h25) good_Table) (RdS.up (OwnL.rd good_Int h26) good_Int) (RdS.up (OwnL.rd good_Write h27) good_Write) ((szok_Work pre0 (by decide) (dec_f hb16)).1)) ?_))
  rintro v40 w39 ⟨rfl, hE41⟩
  have hE41z := Ex.size hE41
  refine sd rfl (yl_assign rfl rfl (SeqR.done (tn (CW.seq (CW.region ?_)))))
  have q43 := Box.ex (Box.ex q20 hE29) hE41
  refine sd rfl (yl_loadN (cs := [.string (bs (p_aW.Shift.Name)), .slice A1 p_aW.Shift.Ways.length c1, .slice A2 p_aW.Shift.At.length c2, .slice A3 p_aW.Shift.Store.length c3, .string (bs (p_aW.Up.Last)), .bool (p_aW.Up.Over), .string (bs (p_aW.Down.Last)), .bool (p_aW.Down.Over)]) Tryz.ty30 rfl rfl (q43.cells (n := 8) rfl) rfl ?_)
  have q45 := RdS.ex good_Table (RdS.ex good_Table q21 hE29) hE41
  have q47 := RdS.ex good_Int (RdS.ex good_Int q22 hE29) hE41
  have q49 := RdS.ex good_Write (RdS.ex good_Write q23 hE29) hE41
  refine sd rfl (yl_call Tryz.en6 rfl (opvs_cons rfl opvs_nil) (Cal.mono (c_l_toWork p_aW (RdS.up q45 good_Table) (RdS.up q47 good_Int) (RdS.up q49 good_Write) ((szok_Work pre0 (by decide) (dec_f hb16)).1)) ?_))
  rintro v54 w50 ⟨A51, c51, lo51, hi51, A52, c52, lo52, hi52, A53, c53, lo53, hi53, rfl, h51, h52, h53, hrn56, hrn57, hrn58, hrn59, hrn60, hrn61, hE55⟩
  have hE55z := Ex.size hE55
  refine sd rfl (yl_alloc Tryz.ty39 (cs := [.string (bs (([] : Str))), .slice none 0 0, .slice none 0 0, .slice none 0 0, .string (bs (([] : Str))), .bool (false), .string (bs (([] : Str))), .bool (false)]) rfl rfl ?_)
  intro b62 w63 hs64 hz65 hB66 hE67
  refine SeqR.u rfl rfl (yl_store (vs := [.string (bs (p_aW.Shift.Name)), .slice A51 p_aW.Shift.Ways.length c51, .slice A52 p_aW.Shift.At.length c52, .slice A53 p_aW.Shift.Store.length c53, .string (bs (p_aW.Up.Last)), .bool (p_aW.Up.Over), .string (bs (p_aW.Down.Last)), .bool (p_aW.Down.Over)]) Tryz.ty39 rfl rfl rfl rfl rfl rfl hB66 (Nat.le_of_ble_eq_true rfl) ?_)
  intro w68 hB69 hO70
  have hB69 : Box w68 b62 39 [.string (bs (p_aW.Shift.Name)), .slice A51 p_aW.Shift.Ways.length c51, .slice A52 p_aW.Shift.At.length c52, .slice A53 p_aW.Shift.Store.length c53, .string (bs (p_aW.Up.Last)), .bool (p_aW.Up.Over), .string (bs (p_aW.Down.Last)), .bool (p_aW.Down.Over)] := hB69
  have hO70z := hO70.size
  refine SeqR.done (tn (CW.seq (CW.region (sd rfl (yl_loadN (cs := [.string (bs (p_aW.Shift.Name)), .slice A51 p_aW.Shift.Ways.length c51, .slice A52 p_aW.Shift.At.length c52, .slice A53 p_aW.Shift.Store.length c53, .string (bs (p_aW.Up.Last)), .bool (p_aW.Up.Over), .string (bs (p_aW.Down.Last)), .bool (p_aW.Down.Over)]) Tryz.ty39 rfl rfl (hB69.cells (n := 8) rfl) rfl ?_)))))
  have q73 := OwnL.only good_Table (OwnL.ex good_Table h51 hE67) hO70 (by omega)
  have q76 := OwnL.only good_Int (OwnL.ex good_Int h52 hE67) hO70 (by omega)
  have q79 := OwnL.only good_Write (OwnL.ex good_Write h53 hE67) hO70 (by omega)
  refine sd rfl (yl_call Tryz.en7 rfl (opvs_cons rfl opvs_nil) (Cal.mono (c_i_GoodWork p_aW (RdS.up (OwnL.rd good_Table q73) good_Table) (RdS.up (OwnL.rd good_Int q76) good_Int) (RdS.up (OwnL.rd good_Write q79) good_Write) ((szok_Work pre0 (by decide) (dec_f hb16)).1)) ?_))
  rintro v81 w80 ⟨rfl, hE82⟩
  have hE82z := Ex.size hE82
  refine sd rfl (yl_assign rfl rfl (SeqR.done (tn (CW.seq (CW.seq (CW.region (sd rfl (yl_move rfl rfl (sd rfl (yl_move rfl rfl (sd rfl (yl_bneq Tryz.un4 rfl rfl rfl ?_))))))))))))
  refine SeqR.done (tn (bcase ((i_GoodWork p_aW) == (s_GoodWork p_aW)) (fun hb83 => ?_) (fun hb83 => ?_)))
  ·refine CW.cond_f rfl (not_t hb83) (CW.skip (tn (CW.seq (CW.seq (CW.drawsI 5 (vgetI [DetI (.agg #[.string (bs (p_aW.Shift.Name)), .slice A51 p_aW.Shift.Ways.length c51, .slice A52 p_aW.Shift.At.length c52, .slice A53 p_aW.Shift.Store.length c53, .string (bs (p_aW.Up.Last)), .bool (p_aW.Up.Over), .string (bs (p_aW.Down.Last)), .bool (p_aW.Down.Over)]), DetI (.agg #[.string (bs (p_aW.Shift.Name)), .slice A1 p_aW.Shift.Ways.length c1, .slice A2 p_aW.Shift.At.length c2, .slice A3 p_aW.Shift.Store.length c3, .string (bs (p_aW.Up.Last)), .bool (p_aW.Up.Over), .string (bs (p_aW.Down.Last)), .bool (p_aW.Down.Over)]), fun lo hi v wq => ∃ A102 c102 lo102 hi102 A103 c103 lo103 hi103 A104 c104 lo104 hi104, v = .agg #[.string (bs (p_aW.Shift.Name)), .slice A102 p_aW.Shift.Ways.length c102, .slice A103 p_aW.Shift.At.length c103, .slice A104 p_aW.Shift.Store.length c104, .string (bs (p_aW.Up.Last)), .bool (p_aW.Up.Over), .string (bs (p_aW.Down.Last)), .bool (p_aW.Down.Over)] ∧ OwnL wq lo102 hi102 65 3 R_Table A102 p_aW.Shift.Ways.length c102 p_aW.Shift.Ways ∧ OwnL wq lo103 hi103 3 1 (RF e_Int) A103 p_aW.Shift.At.length c103 p_aW.Shift.At ∧ OwnL wq lo104 hi104 89 3 (RF e_Write) A104 p_aW.Shift.Store.length c104 p_aW.Shift.Store ∧ (lo ≤ lo102 ∧ lo102 ≤ hi102 ∧ hi102 ≤ hi) ∧ (lo ≤ lo103 ∧ lo103 ≤ hi103 ∧ hi103 ≤ hi) ∧ (lo ≤ lo104 ∧ lo104 ≤ hi104 ∧ hi104 ≤ hi) ∧ (hi102 ≤ lo103 ∨ hi103 ≤ lo102) ∧ (hi102 ≤ lo104 ∨ hi104 ≤ lo102) ∧ (hi103 ≤ lo104 ∨ hi104 ≤ lo103), DetI (.bool ((l_eqWork p_aW p_aW))), DetI (.bool (!(l_eqWork p_aW p_aW)))]) Tryz.follows rfl rfl rfl rfl rfl rfl (vgetI_stable ⟨StableI.det _, StableI.det _, (fun _ _ _ _ _ ⟨A102, c102, lo102, hi102, A103, c103, lo103, hi103, A104, c104, lo104, hi104, hv, h102, h103, h104, hr0, hr1, hr2, hr3, hr4, hr5⟩ e => ⟨A102, c102, lo102, hi102, A103, c103, lo103, hi103, A104, c104, lo104, hi104, hv, OwnL.ex good_Table h102 e, OwnL.ex good_Int h103 e, OwnL.ex good_Write h104 e, hr0, hr1, hr2, hr3, hr4, hr5⟩), StableI.det _, StableI.det _, trivial⟩) ⟨?_, ?_, ?_, ?_, ?_, trivial⟩ ?_)))))
   ·exact fun _ _ h => os rfl ((yl_loadN (cs := [.string (bs (p_aW.Shift.Name)), .slice A51 p_aW.Shift.Ways.length c51, .slice A52 p_aW.Shift.At.length c52, .slice A53 p_aW.Shift.Store.length c53, .string (bs (p_aW.Up.Last)), .bool (p_aW.Up.Over), .string (bs (p_aW.Down.Last)), .bool (p_aW.Down.Over)]) Tryz.ty39 rfl (h.old 5 _ rfl rfl) ((Box.ex (Box.ex hB69 hE82) h.ex).cells (n := 8) rfl) rfl kI))
   ·intro L118 w119 hi120
    have hE121 := hi120.ex
    have hE121z := Ex.size hE121
    exact os rfl ((yl_loadN (cs := [.string (bs (p_aW.Shift.Name)), .slice A1 p_aW.Shift.Ways.length c1, .slice A2 p_aW.Shift.At.length c2, .slice A3 p_aW.Shift.Store.length c3, .string (bs (p_aW.Up.Last)), .bool (p_aW.Up.Over), .string (bs (p_aW.Down.Last)), .bool (p_aW.Down.Over)]) Tryz.ty30 rfl (hi120.old 1 _ rfl rfl) ((Box.ex (Box.ex (Box.only (Box.ex (Box.ex q43 hE55) hE67) hO70 (by omega)) hE82) hE121).cells (n := 8) rfl) rfl kI))
   ·intro L124 w125 hi126
    have hE127 := hi126.ex
    have hE127z := Ex.size hE127
    refine OpR.op' rfl (yl_call Tryz.en6 rfl (opvs_cons (hi126.dt 1 23 rfl rfl rfl) opvs_nil) (Cal.mono (c_l_toWork p_aW (RdS.up (RdS.ex good_Table (RdS.ex good_Table (RdS.only good_Table (RdS.ex good_Table (RdS.ex good_Table q45 hE55) hE67) hO70 (by simp only [Iv]; omega)) hE82) hE127) good_Table) (RdS.up (RdS.ex good_Int (RdS.ex good_Int (RdS.only good_Int (RdS.ex good_Int (RdS.ex good_Int q47 hE55) hE67) hO70 (by simp only [Iv]; omega)) hE82) hE127) good_Int) (RdS.up (RdS.ex good_Write (RdS.ex good_Write (RdS.only good_Write (RdS.ex good_Write (RdS.ex good_Write q49 hE55) hE67) hO70 (by simp only [Iv]; omega)) hE82) hE127) good_Write) ((szok_Work pre0 (by decide) (dec_f hb16)).1)) ?_))
    rintro v136 w132 ⟨A133, c133, lo133, hi133, A134, c134, lo134, hi134, A135, c135, lo135, hi135, rfl, h133, h134, h135, hrn138, hrn139, hrn140, hrn141, hrn142, hrn143, hE137⟩
    exact ⟨⟨A133, c133, lo133, hi133, A134, c134, lo134, hi134, A135, c135, lo135, hi135, rfl, h133, h134, h135, hrn138, hrn139, hrn140, hrn141, hrn142, hrn143⟩, hE137⟩
   ·intro L144 w145 hi146
    have hE147 := hi146.ex
    obtain ⟨lo150, hh151, _, hx149, hr152, hr153, hr154, A102_155, c102_156, lo102_157, hi102_158, A103_159, c103_160, lo103_161, hi103_162, A104_163, c104_164, lo104_165, hi104_166, rfl, h167, h168, h169, hrn170, hrn171, hrn172, hrn173, hrn174, hrn175⟩ := hi146.dep 2 24 rfl rfl
    refine OpR.op' rfl (yl_call Tryz.en8 rfl (opvs_cons (hi146.dt 0 22 rfl rfl rfl) (opvs_cons hx149 opvs_nil)) (Cal.mono (c_l_eqWork p_aW p_aW (RdS.up (OwnL.rd good_Table (OwnL.ex good_Table (OwnL.ex good_Table q73 hE82) hE147)) good_Table) (RdS.up (OwnL.rd good_Int (OwnL.ex good_Int (OwnL.ex good_Int q76 hE82) hE147)) good_Int) (RdS.up (OwnL.rd good_Write (OwnL.ex good_Write (OwnL.ex good_Write q79 hE82) hE147)) good_Write) (RdS.up (OwnL.rd good_Table h167) good_Table) (RdS.up (OwnL.rd good_Int h168) good_Int) (RdS.up (OwnL.rd good_Write h169) good_Write)) ?_))
    rintro v186 w185 ⟨rfl, hE187⟩
    exact ⟨rfl, hE187⟩
   ·exact fun _ _ h => os rfl ((yl_not rfl (h.dt 3 25 rfl rfl rfl) kI))
   ·intro fl196 fh197 L193 w194 hp195
    have hE198 := hp195.ex
    have hE198z := Ex.size hE198
    have hr200 := hp195.rng 2 rfl
    obtain ⟨_, hx199, A102_201, c102_202, lo102_203, hi102_204, A103_205, c103_206, lo103_207, hi103_208, A104_209, c104_210, lo104_211, hi104_212, rfl, h213, h214, h215, hrn216, hrn217, hrn218, hrn219, hrn220, hrn221⟩ := hp195.new 2 24 rfl rfl
    refine SeqR.done (tn (CW.sub (Sub.cons (d := 26) (hp195.nt 4 26 rfl rfl rfl) (Sub.nil _)) (bcase (l_eqWork p_aW p_aW) (fun hb223 => ?_) (fun hb223 => ?_))))
    ·refine CW.cond_f rfl (not_t hb223) (CW.skip (tn (CW.seq (CW.region (sd rfl (yl_assign rfl rfl (SeqR.done (tn (CW.ret ?_)))))))))
     refine rr rfl (.cons rfl .nil) ?_
     have hM224 : (l_FnExactGoodWork p_aW) = (true) := by simp only [l_FnExactGoodWork, hb16, hb83, hb223, cond_true, cond_false, loopE_done, loopE_ret]
     rw [hM224]
     exact ⟨rfl, (Ex.trans (Ex.trans (Below.only (Ex.trans (Ex.trans (Ex.trans (Ex.trans (Ex.trans (Ex.trans (Ex.refl w) hE9) hE15) hE29) hE41) hE55) hE67) hO70 (by omega)) hE82) hE198)⟩
    ·refine CW.cond_t rfl (not_f hb223) (CW.seq (CW.region (sd rfl (yl_assign rfl rfl (SeqR.done (tn (CW.ret (tr (rr rfl (.cons rfl .nil) ?_)))))))))
     have hM234 : (l_FnExactGoodWork p_aW) = (false) := by simp only [l_FnExactGoodWork, hb16, hb83, hb223, cond_true, cond_false, loopE_done, loopE_ret]
     rw [hM234]
     exact ⟨rfl, (Ex.trans (Ex.trans (Below.only (Ex.trans (Ex.trans (Ex.trans (Ex.trans (Ex.trans (Ex.trans (Ex.refl w) hE9) hE15) hE29) hE41) hE55) hE67) hO70 (by omega)) hE82) hE198)⟩
  ·refine CW.cond_t rfl (not_f hb83) (CW.seq (CW.region (sd rfl (yl_assign rfl rfl (SeqR.done (tn (CW.ret (tr (rr rfl (.cons rfl .nil) ?_)))))))))
   have hM244 : (l_FnExactGoodWork p_aW) = (false) := by simp only [l_FnExactGoodWork, hb16, hb83, cond_true, cond_false, loopE_done, loopE_ret]
   rw [hM244]
   exact ⟨rfl, (Ex.trans (Below.only (Ex.trans (Ex.trans (Ex.trans (Ex.trans (Ex.trans (Ex.trans (Ex.refl w) hE9) hE15) hE29) hE41) hE55) hE67) hO70 (by omega)) hE82)⟩
end Go.Proofs.YtmlfbjlkccnpmaaGreat
