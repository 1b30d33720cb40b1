/- Entries In: what each call returns, part 3. -/
import Derived.Test.YtjeafbkejeallaaEntriesInC2
set_option linter.unusedVariables false
set_option linter.unusedSimpArgs false
namespace Go.Proofs.Ytjeafbkejeallaa
open Go.RowKit Go.X
set_option maxRecDepth 100000 in
set_option maxHeartbeats 2000000 in
theorem c_l_eqWrite {w : World} (p_a : DWrite) (p_b : DWrite) : Cal Try.prog 122 #[.agg #[.string (bs (p_a.Key)), .string (bs (p_a.Val)), .bool (p_a.Gone)], .agg #[.string (bs (p_b.Key)), .string (bs (p_b.Val)), .bool (p_b.Gone)]] w fun v w' => v = .bool ((l_eqWrite p_a p_b)) ∧ Ex w w' := by
 refine Cal.of (vs := [.agg #[.string (bs (p_a.Key)), .string (bs (p_a.Val)), .bool (p_a.Gone)], .agg #[.string (bs (p_b.Key)), .string (bs (p_b.Val)), .bool (p_b.Gone)]]) Try.func122 rfl Try.ntmps122 rfl (CW.seq (CW.region (sd rfl (yl_box (cs := [.string (bs (p_a.Key)), .string (bs (p_a.Val)), .bool (p_a.Gone)]) rfl rfl rfl ?_))))
 intro b1 w2 hs3 hz4 hB5 hE6
 refine sd rfl (yl_box (cs := [.string (bs (p_b.Key)), .string (bs (p_b.Val)), .bool (p_b.Gone)]) rfl rfl rfl ?_)
 intro b7 w8 hs9 hz10 hB11 hE12
 refine sd rfl (yl_assign rfl rfl (SeqR.done (tn (CW.seq (CW.seq (CW.region (sd rfl (yl_fieldAddr Try.fd125_0 rfl rfl ?_))))))))
 have q13 := Box.ex hB5 hE12
 refine sd rfl (yl_load1 Try.ty9 rfl rfl ((q13.cell 0).trans rfl) (sd rfl (yl_fieldAddr Try.fd125_0 rfl rfl (sd rfl (yl_load1 Try.ty9 rfl rfl ((hB11.cell 0).trans rfl) (sd rfl (yl_sneq (a := p_a.Key) (b := p_b.Key) rfl rfl rfl (SeqR.done (tn (bcase (p_a.Key == p_b.Key) (fun hb14 => ?_) (fun hb14 => ?_)))))))))))
 ·refine CW.cond_f rfl (not_t hb14) (CW.skip (tn (CW.seq (CW.seq (CW.region (sd rfl (yl_fieldAddr Try.fd125_1 rfl rfl (sd rfl (yl_load1 Try.ty9 rfl rfl ((q13.cell 1).trans rfl) (sd rfl (yl_fieldAddr Try.fd125_1 rfl rfl ?_)))))))))))
  refine sd rfl (yl_load1 Try.ty9 rfl rfl ((hB11.cell 1).trans rfl) (sd rfl (yl_sneq (a := p_a.Val) (b := p_b.Val) rfl rfl rfl (SeqR.done (tn (bcase (p_a.Val == p_b.Val) (fun hb15 => ?_) (fun hb15 => ?_)))))))
  ·refine CW.cond_f rfl (not_t hb15) (CW.skip (tn (CW.seq (CW.seq (CW.region (sd rfl (yl_fieldAddr Try.fd125_2 rfl rfl (sd rfl (yl_load1 Try.ty4 rfl rfl ((q13.cell 2).trans rfl) (sd rfl (yl_fieldAddr Try.fd125_2 rfl rfl ?_)))))))))))
   refine sd rfl (yl_load1 Try.ty4 rfl rfl ((hB11.cell 2).trans rfl) (sd rfl (yl_bneq Try.un4 rfl rfl rfl (SeqR.done (tn (bcase (p_a.Gone == p_b.Gone) (fun hb16 => ?_) (fun hb16 => ?_)))))))
   ·refine CW.cond_f rfl (not_t hb16) (CW.skip (tn (CW.seq (CW.region (sd rfl (yl_assign rfl rfl (SeqR.done (tn (CW.ret ?_)))))))))
    refine rr rfl (.cons rfl .nil) ?_
    have hM17 : (l_eqWrite p_a p_b) = (true) := by simp only [l_eqWrite, hb14, hb15, hb16, cond_true, cond_false, loopE_done, loopE_ret]
    rw [hM17]
    exact ⟨rfl, (Ex.trans (Ex.trans (Ex.refl w) hE6) hE12)⟩
   ·refine CW.cond_t rfl (not_f hb16) (CW.seq (CW.region (sd rfl (yl_assign rfl rfl (SeqR.done (tn (CW.ret (tr (rr rfl (.cons rfl .nil) ?_)))))))))
    have hM20 : (l_eqWrite p_a p_b) = (false) := by simp only [l_eqWrite, hb14, hb15, hb16, cond_true, cond_false, loopE_done, loopE_ret]
    rw [hM20]
    exact ⟨rfl, (Ex.trans (Ex.trans (Ex.refl w) hE6) hE12)⟩
  ·refine CW.cond_t rfl (not_f hb15) (CW.seq (CW.region (sd rfl (yl_assign rfl rfl (SeqR.done (tn (CW.ret (tr (rr rfl (.cons rfl .nil) ?_)))))))))
   have hM23 : (l_eqWrite p_a p_b) = (false) := by simp only [l_eqWrite, hb14, hb15, cond_true, cond_false, loopE_done, loopE_ret]
   rw [hM23]
   exact ⟨rfl, (Ex.trans (Ex.trans (Ex.refl w) hE6) hE12)⟩
 ·refine CW.cond_t rfl (not_f hb14) (CW.seq (CW.region (sd rfl (yl_assign rfl rfl (SeqR.done (tn (CW.ret (tr (rr rfl (.cons rfl .nil) ?_)))))))))
  have hM26 : (l_eqWrite p_a p_b) = (false) := by simp only [l_eqWrite, hb14, cond_true, cond_false, loopE_done, loopE_ret]
  rw [hM26]
  exact ⟨rfl, (Ex.trans (Ex.trans (Ex.refl w) hE6) hE12)⟩
set_option maxRecDepth 100000 in
set_option maxHeartbeats 2000000 in
theorem c_l_eqWriteS {A1 : Option Addr} {c1 : Nat} {A2 : Option Addr} {c2 : Nat} {w : World} (p_a : List DWrite) (p_b : List DWrite) (h1 : RdS w (Iv 0 w.heap.size) (RF e_Write) 3 A1 p_a.length c1 p_a) (h2 : RdS w (Iv 0 w.heap.size) (RF e_Write) 3 A2 p_b.length c2 p_b) : Cal Try.prog 52 #[.slice A1 p_a.length c1, .slice A2 p_b.length c2] w fun v w' => v = .bool ((l_eqWriteS p_a p_b)) ∧ Ex w w' := by
 refine Cal.of (vs := [.slice A1 p_a.length c1, .slice A2 p_b.length c2]) Try.func52 rfl Try.ntmps52 rfl (CW.seq (CW.region (sd rfl (yl_assign rfl rfl (SeqR.done (tn (CW.seq (CW.seq (CW.region ?_)))))))))
 refine sd rfl (yl_move rfl rfl (sd rfl (yl_len Try.un35 rfl rfl (sd rfl (yl_move rfl rfl (sd rfl (yl_len Try.un35 rfl rfl (sd rfl (yl_neq rfl rfl rfl (SeqR.done (tn (bcase (decide ((p_a.length : Int) = (p_b.length : Int))) (fun hb3 => ?_) (fun hb3 => ?_)))))))))))))
 ·have hb3p := dec_t hb3
  refine CW.cond_f rfl (not_t hb3) (CW.skip (tn (CW.seq (CW.seq (CW.region (sd rfl (yl_assign rfl rfl (SeqR.done (tn ?_)))))))))
  refine CW.block (CW.loop (fun m5 L6 w7 => ∃ (k4 : Nat), m5 = p_a.length - k4 ∧ k4 ≤ p_a.length ∧ w.heap.size ≤ w7.heap.size ∧ lkp L6 0 = some (.slice A1 p_a.length c1) ∧ lkp L6 1 = some (.slice A2 p_b.length c2) ∧ lkp L6 5 = some (.int .i64 ((k4 : Int))) ∧ RdS w7 (Iv 0 w.heap.size) (RF e_Write) 3 A1 p_a.length c1 p_a ∧ RdS w7 (Iv 0 w.heap.size) (RF e_Write) 3 A2 p_b.length c2 p_b ∧ Ex w w7 ∧ loopM (B_l_eqWriteS_0 p_a p_b) (p_a.length - k4) k4 () = loopM (B_l_eqWriteS_0 p_a p_b) (p_a.length - 0) 0 ()) (p_a.length - 0) ?_ ?_)
  ·exact ⟨0, rfl, (by omega), Nat.le_refl _, rfl, rfl, rfl, h1, h2, (Ex.refl w), rfl⟩
  ·rintro m8 L9 w10 ⟨k4, rfl, hk11, hsz13, hl14, hl15, hl16, hf17, hf18, hf19, hI12⟩
   refine CW.sub (Sub.cons hl14 (Sub.cons hl15 (Sub.cons hl16 (Sub.nil _)))) ?_
   have hf19z := Ex.size hf19
   have hbg20 := RdS.big hf17
   rcases Nat.lt_or_ge k4 p_a.length with hlt21 | hlt21
   ·refine CW.seq (CW.seq (CW.region (sd rfl (yl_move rfl rfl (sd rfl (yl_move rfl rfl (sd rfl (yl_len Try.un35 rfl rfl (sd rfl (yl_lss rfl rfl rfl (SeqR.done (tn ?_))))))))))))
    refine CW.cond_t rfl (lt_t hlt21) (CW.skip (tn (CW.seq (CW.block (CW.seq ?_)))))
    obtain ⟨eb22, eo22, ec22, eA22, eS22, ebl22, el22, eR22, eC22⟩ := RdS.atD hf17 d_Write (i := k4) (by first | omega | assumption)
    obtain rfl := eR22
    have eC22 : Cells w10 eb22 (eo22 + k4 * 3) [.string (bs ((p_a.getD k4 d_Write).Key)), .string (bs ((p_a.getD k4 d_Write).Val)), .bool ((p_a.getD k4 d_Write).Gone)] := eC22
    obtain ⟨eb23, eo23, ec23, eA23, eS23, ebl23, el23, eR23, eC23⟩ := RdS.atD hf18 d_Write (i := k4) (by first | omega | assumption)
    obtain rfl := eR23
    have eC23 : Cells w10 eb23 (eo23 + k4 * 3) [.string (bs ((p_b.getD k4 d_Write).Key)), .string (bs ((p_b.getD k4 d_Write).Val)), .bool ((p_b.getD k4 d_Write).Gone)] := eC23
    refine CW.drawsI 10 (vgetI [DetI (.slice A1 p_a.length c1), DetI (.int .i64 ((k4 : Int))), DetI (.pointer (some ⟨eb22, eo22 + k4 * 3, none⟩)), DetI (.agg #[.string (bs ((p_a.getD k4 d_Write).Key)), .string (bs ((p_a.getD k4 d_Write).Val)), .bool ((p_a.getD k4 d_Write).Gone)]), DetI (.slice A2 p_b.length c2), DetI (.int .i64 ((k4 : Int))), DetI (.pointer (some ⟨eb23, eo23 + k4 * 3, none⟩)), DetI (.agg #[.string (bs ((p_b.getD k4 d_Write).Key)), .string (bs ((p_b.getD k4 d_Write).Val)), .bool ((p_b.getD k4 d_Write).Gone)]), DetI (.bool ((l_eqWrite (p_a.getD k4 d_Write) (p_b.getD k4 d_Write)))), DetI (.bool (!(l_eqWrite (p_a.getD k4 d_Write) (p_b.getD k4 d_Write))))]) Try.follows rfl rfl rfl rfl rfl rfl (vgetI_stable ⟨StableI.det _, StableI.det _, StableI.det _, StableI.det _, StableI.det _, StableI.det _, StableI.det _, StableI.det _, StableI.det _, StableI.det _, trivial⟩) ⟨?_, ?_, ?_, ?_, ?_, ?_, ?_, ?_, ?_, ?_, trivial⟩ ?_
    ·exact fun _ _ h => os rfl ((yl_move rfl (h.old 0 _ rfl rfl) kI))
    ·exact fun _ _ h => os rfl ((yl_move rfl (h.old 5 _ rfl rfl) kI))
    ·intro L35 w36 hi37
     have hE38 := hi37.ex
     have hE38z := Ex.size hE38
     exact os rfl ((yl_indexAddrN Try.un35 Try.ty125 rfl (hi37.dt 0 17 rfl rfl rfl) (hi37.dt 1 18 rfl rfl rfl) eA22 (by first | omega | assumption | (simp only [IntKind.wrap_i64] at *; omega)) kI))
    ·exact fun _ _ h => os rfl ((yl_loadN (cs := [.string (bs ((p_a.getD k4 d_Write).Key)), .string (bs ((p_a.getD k4 d_Write).Val)), .bool ((p_a.getD k4 d_Write).Gone)]) Try.ty125 rfl (h.dt 2 19 rfl rfl rfl) (Cells.ex eC22 h.ex) rfl kI))
    ·exact fun _ _ h => os rfl ((yl_move rfl (h.old 1 _ rfl rfl) kI))
    ·exact fun _ _ h => os rfl ((yl_move rfl (h.old 5 _ rfl rfl) kI))
    ·intro L57 w58 hi59
     have hE60 := hi59.ex
     have hE60z := Ex.size hE60
     exact os rfl ((yl_indexAddrN Try.un35 Try.ty125 rfl (hi59.dt 4 21 rfl rfl rfl) (hi59.dt 5 22 rfl rfl rfl) eA23 (by first | omega | assumption | (simp only [IntKind.wrap_i64] at *; omega)) kI))
    ·exact fun _ _ h => os rfl ((yl_loadN (cs := [.string (bs ((p_b.getD k4 d_Write).Key)), .string (bs ((p_b.getD k4 d_Write).Val)), .bool ((p_b.getD k4 d_Write).Gone)]) Try.ty125 rfl (h.dt 6 23 rfl rfl rfl) (Cells.ex eC23 h.ex) rfl kI))
    ·intro L69 w70 hi71
     refine OpR.op' rfl (yl_call Try.en122 rfl (opvs_cons (hi71.dt 3 20 rfl rfl rfl) (opvs_cons (hi71.dt 7 24 rfl rfl rfl) opvs_nil)) (Cal.mono (c_l_eqWrite (p_a.getD k4 d_Write) (p_b.getD k4 d_Write)) ?_))
     rintro v76 w75 ⟨rfl, hE77⟩
     exact ⟨rfl, hE77⟩
    ·exact fun _ _ h => os rfl ((yl_not rfl (h.dt 8 25 rfl rfl rfl) kI))
    ·intro fl86 fh87 L83 w84 hp85
     have hE88 := hp85.ex
     have hE88z := Ex.size hE88
     refine SeqR.done (tn (CW.sub (Sub.cons (d := 0) (hp85.old 0 _ rfl rfl) (Sub.cons (d := 1) (hp85.old 1 _ rfl rfl) (Sub.cons (d := 5) (hp85.old 5 _ rfl rfl) (Sub.cons (d := 26) (hp85.nt 9 26 rfl rfl rfl) (Sub.nil _))))) (bcase (l_eqWrite (p_a.getD k4 d_Write) (p_b.getD k4 d_Write)) (fun hb93 => ?_) (fun hb93 => ?_))))
     ·refine CW.cond_f rfl (not_t hb93) (CW.skip (bn (tn (CW.region (sd rfl (yl_move rfl rfl (sd rfl (yl_inc rfl rfl rfl (by omega) (sd rfl (yl_assign rfl rfl (SeqR.done ?_)))))))))))
      refine tn ?_
      have hB94 : B_l_eqWriteS_0 p_a p_b k4 () = .cont () := by simp only [B_l_eqWriteS_0, hb3, hb93, cond_true, cond_false, loopE_done, loopE_ret]
      exact ⟨p_a.length - (k4 + 1), by omega, k4 + 1, rfl, hlt21, (by omega), rfl, rfl, rfl, (RdS.ex good_Write hf17 hE88), (RdS.ex good_Write hf18 hE88), (Ex.trans hf19 hE88), (loopM.cont hlt21 hB94).symm.trans hI12⟩
     ·refine CW.cond_t rfl (not_f hb93) (CW.seq (CW.region (sd rfl (yl_assign rfl rfl (SeqR.done (tn (CW.ret (br (tr ?_)))))))))
      refine tr ?_
      have hB99 : B_l_eqWriteS_0 p_a p_b k4 () = .ret false := by simp only [B_l_eqWriteS_0, hb3, hb93, cond_true, cond_false, loopE_done, loopE_ret]
      have hL98 : loopM (B_l_eqWriteS_0 p_a p_b) (p_a.length - 0) 0 () = .ret false := hI12.symm.trans (loopM.ret hlt21 hB99)
      refine br (tr (rr rfl (.cons rfl .nil) ?_))
      have hM100 : (l_eqWriteS p_a p_b) = (false) := by simp only [l_eqWriteS, hb3, hb93, hL98, cond_true, cond_false, loopE_done, loopE_ret]
      rw [hM100]
      exact ⟨rfl, (Ex.trans hf19 hE88)⟩
   ·refine CW.seq (CW.seq (CW.region (sd rfl (yl_move rfl rfl (sd rfl (yl_move rfl rfl (sd rfl (yl_len Try.un35 rfl rfl (sd rfl (yl_lss rfl rfl rfl (SeqR.done (tn ?_))))))))))))
    refine CW.cond_f rfl (lt_f hlt21) (CW.exit (tx (tx ?_)))
    have hL102 : loopM (B_l_eqWriteS_0 p_a p_b) (p_a.length - 0) 0 () = .done () := hI12.symm.trans (loopM.stop hlt21)
    refine bx (tn (CW.seq (CW.region (sd rfl (yl_assign rfl rfl (SeqR.done (tn (CW.ret (rr rfl (.cons rfl .nil) ?_)))))))))
    have hM103 : (l_eqWriteS p_a p_b) = (true) := by simp only [l_eqWriteS, hb3, hL102, cond_true, cond_false, loopE_done, loopE_ret]
    rw [hM103]
    exact ⟨rfl, hf19⟩
 ·have hb3p := dec_f hb3
  refine CW.cond_t rfl (not_f hb3) (CW.seq (CW.region (sd rfl (yl_assign rfl rfl (SeqR.done (tn (CW.ret (tr (rr rfl (.cons rfl .nil) ?_)))))))))
  have hM104 : (l_eqWriteS p_a p_b) = (false) := by simp only [l_eqWriteS, hb3, cond_true, cond_false, loopE_done, loopE_ret]
  rw [hM104]
  exact ⟨rfl, (Ex.refl w)⟩
set_option maxRecDepth 100000 in
set_option maxHeartbeats 2000000 in
theorem c_l_markWriteS {A1 : Option Addr} {c1 : Nat} {lo1 hi1 : Nat} {w : World} (p_a : List DWrite) (p_k : Int) (h1 : OwnL w lo1 hi1 125 3 (RF e_Write) A1 p_a.length c1 p_a) (hrn2 : (0 ≤ lo1 ∧ lo1 ≤ hi1 ∧ hi1 ≤ w.heap.size)) (pre0 : p_k ≤ 9223372036854775807) : Cal Try.prog 53 #[.slice A1 p_a.length c1, .int .i64 (p_k)] w fun v w' => v = .int .i64 ((l_markWriteS p_a p_k).1) ∧ OwnL w' lo1 hi1 125 3 (RF e_Write) A1 p_a.length c1 ((l_markWriteS p_a p_k).2) ∧ Mut [(lo1, hi1)] w w' := by
 refine Cal.of (vs := [.slice A1 p_a.length c1, .int .i64 (p_k)]) Try.func53 rfl Try.ntmps53 rfl (CW.seq (CW.region (sd rfl (yl_assign rfl rfl (SeqR.done (tn (CW.seq (CW.seq (CW.region ?_)))))))))
 refine sd rfl (yl_assign rfl rfl (SeqR.done (tn (CW.block (CW.loop (fun m31 L32 w33 => ∃ (k3 : Nat) (x29 : Int) (x30 : List DWrite), m31 = p_a.length - k3 ∧ k3 ≤ p_a.length ∧ w.heap.size ≤ w33.heap.size ∧ lkp L32 0 = some (.slice A1 p_a.length c1) ∧ lkp L32 1 = some (.int .i64 (x29)) ∧ lkp L32 5 = some (.int .i64 ((k3 : Int))) ∧ OwnL w33 lo1 hi1 125 3 (RF e_Write) A1 p_a.length c1 x30 ∧ Mut [(lo1, hi1)] w w33 ∧ x29 ≤ 9223372036854775807 ∧ loopM (B_l_markWriteS_0 p_a p_k) (p_a.length - k3) k3 (x29, x30) = loopM (B_l_markWriteS_0 p_a p_k) (p_a.length - 0) 0 (p_k, p_a)) (p_a.length - 0) ?_ ?_)))))
 ·exact ⟨0, p_k, p_a, rfl, (by omega), Nat.le_refl _, rfl, rfl, rfl, h1, (Mut.refl (l := [(lo1, hi1)]) w), (by first | omega | assumption | (simp only [IntKind.wrap_i64] at *; omega)), rfl⟩
 ·rintro m34 L35 w36 ⟨k3, x29, x30, rfl, hk37, hsz39, hl40, hl41, hl42, hf43, hf44, hv45, hI38⟩
  refine CW.sub (Sub.cons hl40 (Sub.cons hl41 (Sub.cons hl42 (Sub.nil _)))) ?_
  have hf44z := Mut.size hf44
  have hbg46 := RdS.big (OwnL.rd good_Write hf43)
  rcases Nat.lt_or_ge k3 p_a.length with hlt48 | hlt48
  ·refine CW.seq (CW.seq (CW.region (sd rfl (yl_move rfl rfl (sd rfl (yl_move rfl rfl (sd rfl (yl_len Try.un35 rfl rfl (sd rfl (yl_lss rfl rfl rfl (SeqR.done (tn ?_))))))))))))
   refine CW.cond_t rfl (lt_t hlt48) (CW.skip (tn (CW.seq (CW.block (CW.seq (CW.region (sd rfl (yl_move rfl rfl (sd rfl (yl_move rfl rfl ?_))))))))))
   refine sd rfl (yl_move rfl rfl (sd rfl (yl_call Try.en95 rfl (opvs_cons rfl opvs_nil) (Cal.mono (c_l_markText x29 (by first | omega | assumption | (simp only [IntKind.wrap_i64] at *; omega))) ?_))))
   rintro v50 w49 ⟨rfl, hE51⟩
   have hE51z := Ex.size hE51
   have q53 := OwnL.ex good_Write hf43 hE51
   obtain ⟨eb54, eo54, ec54, eA54, eS54, ebl54, el54, eR54, eC54⟩ := RdS.atD (OwnL.rd good_Write q53) d_Write (i := k3) (by first | omega | assumption)
   obtain rfl := eR54
   have eC54 : Cells w49 eb54 (eo54 + k3 * 3) [.string (bs ((x30.getD k3 d_Write).Key)), .string (bs ((x30.getD k3 d_Write).Val)), .bool ((x30.getD k3 d_Write).Gone)] := eC54
   refine sd rfl (yl_indexAddrN Try.un35 Try.ty125 rfl rfl rfl eA54 (by first | omega | assumption | (simp only [IntKind.wrap_i64] at *; omega)) (sd rfl (yl_fieldAddr Try.fd125_0 rfl rfl ?_)))
   have hrg55 := OwnL.rng q53 (i := k3) (by first | omega | assumption | (simp only [IntKind.wrap_i64] at *; omega)) eb54 (by rw [eA54]; rfl)
   refine SeqR.u rfl rfl (yl_storeF (off := eo54) (i := k3) (d := 0) (dx := d_Write) (x' := (⟨(l_markText x29), (x30.getD k3 d_Write).Val, (x30.getD k3 d_Write).Gone⟩ : DWrite)) (vs := [.string (bs ((l_markText x29)))]) Try.ty9 rfl q53 eA54 rfl rfl rfl rfl rfl (by first | omega | assumption | (simp only [IntKind.wrap_i64] at *; omega)) (Nat.le_of_ble_eq_true rfl) rfl rfl ?_)
   intro w56 hB57 hO58
   have hO58z := hO58.size
   refine SeqR.done (tn (CW.seq (CW.region (sd rfl (yl_move rfl rfl (sd rfl (yl_add rfl rfl rfl (sd rfl (yl_assign rfl rfl (SeqR.done (tn ?_)))))))))))
   refine CW.seq (CW.region (sd rfl (yl_move rfl rfl (sd rfl (yl_move rfl rfl (sd rfl (yl_move rfl rfl (sd rfl (yl_call Try.en95 rfl (opvs_cons rfl opvs_nil) (Cal.mono (c_l_markText (IntKind.wrap .i64 (x29 + 1)) (by first | omega | assumption | (simp only [IntKind.wrap_i64] at *; omega))) ?_))))))))))
   rintro v60 w59 ⟨rfl, hE61⟩
   have hE61z := Ex.size hE61
   have q63 := OwnL.ex good_Write hB57 hE61
   obtain ⟨eb64, eo64, ec64, eA64, eS64, ebl64, el64, eR64, eC64⟩ := RdS.atD (OwnL.rd good_Write q63) d_Write (i := k3) (by first | omega | assumption)
   obtain rfl := eR64
   have eC64 : Cells w59 eb64 (eo64 + k3 * 3) [.string (bs (((x30.set k3 (⟨(l_markText x29), (x30.getD k3 d_Write).Val, (x30.getD k3 d_Write).Gone⟩ : DWrite)).getD k3 d_Write).Key)), .string (bs (((x30.set k3 (⟨(l_markText x29), (x30.getD k3 d_Write).Val, (x30.getD k3 d_Write).Gone⟩ : DWrite)).getD k3 d_Write).Val)), .bool (((x30.set k3 (⟨(l_markText x29), (x30.getD k3 d_Write).Val, (x30.getD k3 d_Write).Gone⟩ : DWrite)).getD k3 d_Write).Gone)] := eC64
   refine sd rfl (yl_indexAddrN Try.un35 Try.ty125 rfl rfl rfl eA64 (by first | omega | assumption | (simp only [IntKind.wrap_i64] at *; omega)) (sd rfl (yl_fieldAddr Try.fd125_1 rfl rfl ?_)))
   have hrg65 := OwnL.rng q63 (i := k3) (by first | omega | assumption | (simp only [IntKind.wrap_i64] at *; omega)) eb64 (by rw [eA64]; rfl)
   refine SeqR.u rfl rfl (yl_storeF (off := eo64) (i := k3) (d := 1) (dx := d_Write) (x' := (⟨((x30.set k3 (⟨(l_markText x29), (x30.getD k3 d_Write).Val, (x30.getD k3 d_Write).Gone⟩ : DWrite)).getD k3 d_Write).Key, (l_markText (IntKind.wrap .i64 (x29 + 1))), ((x30.set k3 (⟨(l_markText x29), (x30.getD k3 d_Write).Val, (x30.getD k3 d_Write).Gone⟩ : DWrite)).getD k3 d_Write).Gone⟩ : DWrite)) (vs := [.string (bs ((l_markText (IntKind.wrap .i64 (x29 + 1)))))]) Try.ty9 rfl q63 eA64 rfl rfl rfl rfl rfl (by first | omega | assumption | (simp only [IntKind.wrap_i64] at *; omega)) (Nat.le_of_ble_eq_true rfl) rfl rfl ?_)
   intro w66 hB67 hO68
   have hO68z := hO68.size
   refine SeqR.done (tn (CW.seq (CW.region (sd rfl (yl_move rfl rfl (sd rfl (yl_add rfl rfl rfl (sd rfl (yl_assign rfl rfl (SeqR.done (tn ?_)))))))))))
   refine CW.seq (CW.region (sd rfl (yl_move rfl rfl (sd rfl (yl_move rfl rfl (sd rfl (yl_move rfl rfl (sd rfl (yl_rem rfl rfl rfl (by decide) (sd rfl (yl_eql rfl rfl rfl ?_)))))))))))
   obtain ⟨eb70, eo70, ec70, eA70, eS70, ebl70, el70, eR70, eC70⟩ := RdS.atD (OwnL.rd good_Write hB67) d_Write (i := k3) (by first | omega | assumption)
   obtain rfl := eR70
   have eC70 : Cells w66 eb70 (eo70 + k3 * 3) [.string (bs ((((x30.set k3 (⟨(l_markText x29), (x30.getD k3 d_Write).Val, (x30.getD k3 d_Write).Gone⟩ : DWrite)).set k3 (⟨((x30.set k3 (⟨(l_markText x29), (x30.getD k3 d_Write).Val, (x30.getD k3 d_Write).Gone⟩ : DWrite)).getD k3 d_Write).Key, (l_markText (IntKind.wrap .i64 (x29 + 1))), ((x30.set k3 (⟨(l_markText x29), (x30.getD k3 d_Write).Val, (x30.getD k3 d_Write).Gone⟩ : DWrite)).getD k3 d_Write).Gone⟩ : DWrite)).getD k3 d_Write).Key)), .string (bs ((((x30.set k3 (⟨(l_markText x29), (x30.getD k3 d_Write).Val, (x30.getD k3 d_Write).Gone⟩ : DWrite)).set k3 (⟨((x30.set k3 (⟨(l_markText x29), (x30.getD k3 d_Write).Val, (x30.getD k3 d_Write).Gone⟩ : DWrite)).getD k3 d_Write).Key, (l_markText (IntKind.wrap .i64 (x29 + 1))), ((x30.set k3 (⟨(l_markText x29), (x30.getD k3 d_Write).Val, (x30.getD k3 d_Write).Gone⟩ : DWrite)).getD k3 d_Write).Gone⟩ : DWrite)).getD k3 d_Write).Val)), .bool ((((x30.set k3 (⟨(l_markText x29), (x30.getD k3 d_Write).Val, (x30.getD k3 d_Write).Gone⟩ : DWrite)).set k3 (⟨((x30.set k3 (⟨(l_markText x29), (x30.getD k3 d_Write).Val, (x30.getD k3 d_Write).Gone⟩ : DWrite)).getD k3 d_Write).Key, (l_markText (IntKind.wrap .i64 (x29 + 1))), ((x30.set k3 (⟨(l_markText x29), (x30.getD k3 d_Write).Val, (x30.getD k3 d_Write).Gone⟩ : DWrite)).getD k3 d_Write).Gone⟩ : DWrite)).getD k3 d_Write).Gone)] := eC70
   refine sd rfl (yl_indexAddrN Try.un35 Try.ty125 rfl rfl rfl eA70 (by first | omega | assumption | (simp only [IntKind.wrap_i64] at *; omega)) (sd rfl (yl_fieldAddr Try.fd125_2 rfl rfl ?_)))
   have hrg71 := OwnL.rng hB67 (i := k3) (by first | omega | assumption | (simp only [IntKind.wrap_i64] at *; omega)) eb70 (by rw [eA70]; rfl)
   refine SeqR.u rfl rfl (yl_storeF (off := eo70) (i := k3) (d := 2) (dx := d_Write) (x' := (⟨(((x30.set k3 (⟨(l_markText x29), (x30.getD k3 d_Write).Val, (x30.getD k3 d_Write).Gone⟩ : DWrite)).set k3 (⟨((x30.set k3 (⟨(l_markText x29), (x30.getD k3 d_Write).Val, (x30.getD k3 d_Write).Gone⟩ : DWrite)).getD k3 d_Write).Key, (l_markText (IntKind.wrap .i64 (x29 + 1))), ((x30.set k3 (⟨(l_markText x29), (x30.getD k3 d_Write).Val, (x30.getD k3 d_Write).Gone⟩ : DWrite)).getD k3 d_Write).Gone⟩ : DWrite)).getD k3 d_Write).Key, (((x30.set k3 (⟨(l_markText x29), (x30.getD k3 d_Write).Val, (x30.getD k3 d_Write).Gone⟩ : DWrite)).set k3 (⟨((x30.set k3 (⟨(l_markText x29), (x30.getD k3 d_Write).Val, (x30.getD k3 d_Write).Gone⟩ : DWrite)).getD k3 d_Write).Key, (l_markText (IntKind.wrap .i64 (x29 + 1))), ((x30.set k3 (⟨(l_markText x29), (x30.getD k3 d_Write).Val, (x30.getD k3 d_Write).Gone⟩ : DWrite)).getD k3 d_Write).Gone⟩ : DWrite)).getD k3 d_Write).Val, decide ((Int.tmod (IntKind.wrap .i64 ((IntKind.wrap .i64 (x29 + 1)) + 1)) 3) = 0)⟩ : DWrite)) (vs := [.bool (decide ((Int.tmod (IntKind.wrap .i64 ((IntKind.wrap .i64 (x29 + 1)) + 1)) 3) = 0))]) Try.ty4 rfl hB67 eA70 rfl rfl rfl rfl rfl (by first | omega | assumption | (simp only [IntKind.wrap_i64] at *; omega)) (Nat.le_of_ble_eq_true rfl) rfl rfl ?_)
   intro w72 hB73 hO74
   have hO74z := hO74.size
   refine SeqR.done (tn (CW.region (sd rfl (yl_move rfl rfl (sd rfl (yl_add rfl rfl rfl (sd rfl (yl_assign rfl rfl (SeqR.done (bn (tn ?_)))))))))))
   refine CW.region (sd rfl (yl_move rfl rfl (sd rfl (yl_inc rfl rfl rfl (by omega) (sd rfl (yl_assign rfl rfl (SeqR.done (tn ?_))))))))
   have hB75 : B_l_markWriteS_0 p_a p_k k3 (x29, x30) = .cont (IntKind.wrap .i64 ((IntKind.wrap .i64 ((IntKind.wrap .i64 (x29 + 1)) + 1)) + 1), (((x30.set k3 (⟨(l_markText x29), (x30.getD k3 d_Write).Val, (x30.getD k3 d_Write).Gone⟩ : DWrite)).set k3 (⟨((x30.set k3 (⟨(l_markText x29), (x30.getD k3 d_Write).Val, (x30.getD k3 d_Write).Gone⟩ : DWrite)).getD k3 d_Write).Key, (l_markText (IntKind.wrap .i64 (x29 + 1))), ((x30.set k3 (⟨(l_markText x29), (x30.getD k3 d_Write).Val, (x30.getD k3 d_Write).Gone⟩ : DWrite)).getD k3 d_Write).Gone⟩ : DWrite)).set k3 (⟨(((x30.set k3 (⟨(l_markText x29), (x30.getD k3 d_Write).Val, (x30.getD k3 d_Write).Gone⟩ : DWrite)).set k3 (⟨((x30.set k3 (⟨(l_markText x29), (x30.getD k3 d_Write).Val, (x30.getD k3 d_Write).Gone⟩ : DWrite)).getD k3 d_Write).Key, (l_markText (IntKind.wrap .i64 (x29 + 1))), ((x30.set k3 (⟨(l_markText x29), (x30.getD k3 d_Write).Val, (x30.getD k3 d_Write).Gone⟩ : DWrite)).getD k3 d_Write).Gone⟩ : DWrite)).getD k3 d_Write).Key, (((x30.set k3 (⟨(l_markText x29), (x30.getD k3 d_Write).Val, (x30.getD k3 d_Write).Gone⟩ : DWrite)).set k3 (⟨((x30.set k3 (⟨(l_markText x29), (x30.getD k3 d_Write).Val, (x30.getD k3 d_Write).Gone⟩ : DWrite)).getD k3 d_Write).Key, (l_markText (IntKind.wrap .i64 (x29 + 1))), ((x30.set k3 (⟨(l_markText x29), (x30.getD k3 d_Write).Val, (x30.getD k3 d_Write).Gone⟩ : DWrite)).getD k3 d_Write).Gone⟩ : DWrite)).getD k3 d_Write).Val, decide ((Int.tmod (IntKind.wrap .i64 ((IntKind.wrap .i64 (x29 + 1)) + 1)) 3) = 0)⟩ : DWrite))) := by simp only [B_l_markWriteS_0, cond_true, cond_false, loopE_done, loopE_ret]
   exact ⟨p_a.length - (k3 + 1), by omega, k3 + 1, IntKind.wrap .i64 ((IntKind.wrap .i64 ((IntKind.wrap .i64 (x29 + 1)) + 1)) + 1), (((x30.set k3 (⟨(l_markText x29), (x30.getD k3 d_Write).Val, (x30.getD k3 d_Write).Gone⟩ : DWrite)).set k3 (⟨((x30.set k3 (⟨(l_markText x29), (x30.getD k3 d_Write).Val, (x30.getD k3 d_Write).Gone⟩ : DWrite)).getD k3 d_Write).Key, (l_markText (IntKind.wrap .i64 (x29 + 1))), ((x30.set k3 (⟨(l_markText x29), (x30.getD k3 d_Write).Val, (x30.getD k3 d_Write).Gone⟩ : DWrite)).getD k3 d_Write).Gone⟩ : DWrite)).set k3 (⟨(((x30.set k3 (⟨(l_markText x29), (x30.getD k3 d_Write).Val, (x30.getD k3 d_Write).Gone⟩ : DWrite)).set k3 (⟨((x30.set k3 (⟨(l_markText x29), (x30.getD k3 d_Write).Val, (x30.getD k3 d_Write).Gone⟩ : DWrite)).getD k3 d_Write).Key, (l_markText (IntKind.wrap .i64 (x29 + 1))), ((x30.set k3 (⟨(l_markText x29), (x30.getD k3 d_Write).Val, (x30.getD k3 d_Write).Gone⟩ : DWrite)).getD k3 d_Write).Gone⟩ : DWrite)).getD k3 d_Write).Key, (((x30.set k3 (⟨(l_markText x29), (x30.getD k3 d_Write).Val, (x30.getD k3 d_Write).Gone⟩ : DWrite)).set k3 (⟨((x30.set k3 (⟨(l_markText x29), (x30.getD k3 d_Write).Val, (x30.getD k3 d_Write).Gone⟩ : DWrite)).getD k3 d_Write).Key, (l_markText (IntKind.wrap .i64 (x29 + 1))), ((x30.set k3 (⟨(l_markText x29), (x30.getD k3 d_Write).Val, (x30.getD k3 d_Write).Gone⟩ : DWrite)).getD k3 d_Write).Gone⟩ : DWrite)).getD k3 d_Write).Val, decide ((Int.tmod (IntKind.wrap .i64 ((IntKind.wrap .i64 (x29 + 1)) + 1)) 3) = 0)⟩ : DWrite)), rfl, hlt48, (by omega), rfl, rfl, rfl, hB73, (Mut.only (Mut.only (Mut.ex (Mut.only (Mut.ex hf44 hE51) hO58 (by simp only [InR, or_false]; omega)) hE61) hO68 (by simp only [InR, or_false]; omega)) hO74 (by simp only [InR, or_false]; omega)), (by first | omega | assumption | (simp only [IntKind.wrap_i64] at *; omega)), (loopM.cont hlt48 hB75).symm.trans hI38⟩
  ·refine CW.seq (CW.seq (CW.region (sd rfl (yl_move rfl rfl (sd rfl (yl_move rfl rfl (sd rfl (yl_len Try.un35 rfl rfl (sd rfl (yl_lss rfl rfl rfl (SeqR.done (tn ?_))))))))))))
   refine CW.cond_f rfl (lt_f hlt48) (CW.exit (tx (tx ?_)))
   have hL81 : loopM (B_l_markWriteS_0 p_a p_k) (p_a.length - 0) 0 (p_k, p_a) = .done (x29, x30) := hI38.symm.trans (loopM.stop hlt48)
   refine bx (tn (CW.seq (CW.region (sd rfl (yl_move rfl rfl (sd rfl (yl_assign rfl rfl (SeqR.done (tn (CW.ret ?_))))))))))
   refine rr rfl (.cons rfl .nil) ?_
   have hM82 : (l_markWriteS p_a p_k) = ((x29, x30)) := by simp only [l_markWriteS, hL81, cond_true, cond_false, loopE_done, loopE_ret]
   rw [hM82]
   exact ⟨rfl, hf43, hf44⟩
set_option maxRecDepth 100000 in
set_option maxHeartbeats 2000000 in
theorem c_l_heldStringS {A1 : Option Addr} {c1 : Nat} {w : World} (p_a : List Str) (p_k : Int) (h1 : RdS w (Iv 0 w.heap.size) (RF e_Str) 1 A1 p_a.length c1 p_a) (pre0 : p_k ≤ 9223372036854775807) : Cal Try.prog 55 #[.slice A1 p_a.length c1, .int .i64 (p_k)] w fun v w' => v = .int .i64 ((l_heldStringS p_a p_k)) ∧ Ex w w' := by
 refine Cal.of (vs := [.slice A1 p_a.length c1, .int .i64 (p_k)]) Try.func55 rfl Try.ntmps55 rfl (CW.seq (CW.region (sd rfl (yl_assign rfl rfl (SeqR.done (tn (CW.seq (CW.seq (CW.region ?_)))))))))
 refine sd rfl (yl_assign rfl rfl (SeqR.done (tn (CW.block (CW.loop (fun m4 L5 w6 => ∃ (k2 : Nat) (x3 : Int), m4 = p_a.length - k2 ∧ k2 ≤ p_a.length ∧ w.heap.size ≤ w6.heap.size ∧ lkp L5 0 = some (.slice A1 p_a.length c1) ∧ lkp L5 1 = some (.int .i64 (x3)) ∧ lkp L5 5 = some (.int .i64 ((k2 : Int))) ∧ RdS w6 (Iv 0 w.heap.size) (RF e_Str) 1 A1 p_a.length c1 p_a ∧ Ex w w6 ∧ x3 ≤ 9223372036854775807 ∧ loopM (B_l_heldStringS_0 p_a p_k) (p_a.length - k2) k2 (x3) = loopM (B_l_heldStringS_0 p_a p_k) (p_a.length - 0) 0 (p_k)) (p_a.length - 0) ?_ ?_)))))
 ·exact ⟨0, p_k, rfl, (by omega), Nat.le_refl _, rfl, rfl, rfl, h1, (Ex.refl w), (by first | omega | assumption | (simp only [IntKind.wrap_i64] at *; omega)), rfl⟩
 ·rintro m7 L8 w9 ⟨k2, x3, rfl, hk10, hsz12, hl13, hl14, hl15, hf16, hf17, hv18, hI11⟩
  refine CW.sub (Sub.cons hl13 (Sub.cons hl14 (Sub.cons hl15 (Sub.nil _)))) ?_
  have hf17z := Ex.size hf17
  have hbg19 := RdS.big hf16
  rcases Nat.lt_or_ge k2 p_a.length with hlt20 | hlt20
  ·refine CW.seq (CW.seq (CW.region (sd rfl (yl_move rfl rfl (sd rfl (yl_move rfl rfl (sd rfl (yl_len Try.un52 rfl rfl (sd rfl (yl_lss rfl rfl rfl (SeqR.done (tn ?_))))))))))))
   refine CW.cond_t rfl (lt_t hlt20) (CW.skip (tn (CW.seq (CW.block (CW.seq (CW.seq ?_))))))
   obtain ⟨eb21, eo21, ec21, eA21, eS21, ebl21, el21, eR21, eC21⟩ := RdS.atD hf16 d_Str (i := k2) (by first | omega | assumption)
   obtain rfl := eR21
   have eC21 : Cells w9 eb21 (eo21 + k2 * 1) [.string (bs ((p_a.getD k2 d_Str)))] := eC21
   refine CW.drawsI 7 (vgetI [DetI (.slice A1 p_a.length c1), DetI (.int .i64 ((k2 : Int))), DetI (.pointer (some ⟨eb21, eo21 + k2 * 1, none⟩)), DetI (.string (bs ((p_a.getD k2 d_Str)))), DetI (.int .i64 (x3)), DetI (.string (bs ((l_markText x3)))), DetI (.bool (!((p_a.getD k2 d_Str) == (l_markText x3))))]) Try.follows rfl rfl rfl rfl rfl rfl (vgetI_stable ⟨StableI.det _, StableI.det _, StableI.det _, StableI.det _, StableI.det _, StableI.det _, StableI.det _, trivial⟩) ⟨?_, ?_, ?_, ?_, ?_, ?_, ?_, trivial⟩ ?_
   ·exact fun _ _ h => os rfl ((yl_move rfl (h.old 0 _ rfl rfl) kI))
   ·exact fun _ _ h => os rfl ((yl_move rfl (h.old 5 _ rfl rfl) kI))
   ·intro L33 w34 hi35
    have hE36 := hi35.ex
    have hE36z := Ex.size hE36
    exact os rfl ((yl_indexAddrN Try.un52 Try.ty9 rfl (hi35.dt 0 12 rfl rfl rfl) (hi35.dt 1 13 rfl rfl rfl) eA21 (by first | omega | assumption | (simp only [IntKind.wrap_i64] at *; omega)) kI))
   ·exact fun _ _ h => os rfl ((yl_load1 Try.ty9 rfl (h.dt 2 14 rfl rfl rfl) ((Cells.ex eC21 h.ex) 0 _ rfl) kI))
   ·exact fun _ _ h => os rfl ((yl_move rfl (h.old 1 _ rfl rfl) kI))
   ·intro L50 w51 hi52
    have hE53 := hi52.ex
    have hE53z := Ex.size hE53
    refine OpR.op' rfl (yl_call Try.en95 rfl (opvs_cons (hi52.dt 4 16 rfl rfl rfl) opvs_nil) (Cal.mono (c_l_markText x3 (by first | omega | assumption | (simp only [IntKind.wrap_i64] at *; omega))) ?_))
    rintro v56 w55 ⟨rfl, hE57⟩
    exact ⟨rfl, hE57⟩
   ·exact fun _ _ h => os rfl ((yl_sneq (a := (p_a.getD k2 d_Str)) (b := (l_markText x3)) rfl (h.dt 3 15 rfl rfl rfl) (h.dt 5 17 rfl rfl rfl) kI))
   ·intro fl67 fh68 L64 w65 hp66
    have hE69 := hp66.ex
    have hE69z := Ex.size hE69
    refine SeqR.done (tn (CW.sub (Sub.cons (d := 0) (hp66.old 0 _ rfl rfl) (Sub.cons (d := 1) (hp66.old 1 _ rfl rfl) (Sub.cons (d := 5) (hp66.old 5 _ rfl rfl) (Sub.cons (d := 18) (hp66.nt 6 18 rfl rfl rfl) (Sub.nil _))))) (bcase ((p_a.getD k2 d_Str) == (l_markText x3)) (fun hb74 => ?_) (fun hb74 => ?_))))
    ·refine CW.cond_f rfl (not_t hb74) (CW.skip (tn (CW.region (sd rfl (yl_move rfl rfl (sd rfl (yl_add rfl rfl rfl (sd rfl (yl_assign rfl rfl (SeqR.done (bn ?_)))))))))))
     refine tn (CW.region (sd rfl (yl_move rfl rfl (sd rfl (yl_inc rfl rfl rfl (by omega) (sd rfl (yl_assign rfl rfl (SeqR.done (tn ?_)))))))))
     have hB75 : B_l_heldStringS_0 p_a p_k k2 (x3) = .cont (IntKind.wrap .i64 (x3 + 1)) := by simp only [B_l_heldStringS_0, hb74, cond_true, cond_false, loopE_done, loopE_ret]
     exact ⟨p_a.length - (k2 + 1), by omega, k2 + 1, IntKind.wrap .i64 (x3 + 1), rfl, hlt20, (by omega), rfl, rfl, rfl, (RdS.ex good_Str hf16 hE69), (Ex.trans hf17 hE69), (by first | omega | assumption | (simp only [IntKind.wrap_i64] at *; omega)), (loopM.cont hlt20 hB75).symm.trans hI11⟩
    ·refine CW.cond_t rfl (not_f hb74) (CW.seq (CW.region (sd rfl (yl_assign rfl rfl (SeqR.done (tn (CW.ret (tr (br ?_)))))))))
     refine tr (tr ?_)
     have hB79 : B_l_heldStringS_0 p_a p_k k2 (x3) = .ret (-1) := by simp only [B_l_heldStringS_0, hb74, cond_true, cond_false, loopE_done, loopE_ret]
     have hL78 : loopM (B_l_heldStringS_0 p_a p_k) (p_a.length - 0) 0 (p_k) = .ret (-1) := hI11.symm.trans (loopM.ret hlt20 hB79)
     refine br (tr (rr rfl (.cons rfl .nil) ?_))
     have hM80 : (l_heldStringS p_a p_k) = (-1) := by simp only [l_heldStringS, hb74, hL78, cond_true, cond_false, loopE_done, loopE_ret]
     rw [hM80]
     exact ⟨rfl, (Ex.trans hf17 hE69)⟩
  ·refine CW.seq (CW.seq (CW.region (sd rfl (yl_move rfl rfl (sd rfl (yl_move rfl rfl (sd rfl (yl_len Try.un52 rfl rfl (sd rfl (yl_lss rfl rfl rfl (SeqR.done (tn ?_))))))))))))
   refine CW.cond_f rfl (lt_f hlt20) (CW.exit (tx (tx ?_)))
   have hL82 : loopM (B_l_heldStringS_0 p_a p_k) (p_a.length - 0) 0 (p_k) = .done (x3) := hI11.symm.trans (loopM.stop hlt20)
   refine bx (tn (CW.seq (CW.region (sd rfl (yl_move rfl rfl (sd rfl (yl_assign rfl rfl (SeqR.done (tn (CW.ret ?_))))))))))
   refine rr rfl (.cons rfl .nil) ?_
   have hM83 : (l_heldStringS p_a p_k) = (x3) := by simp only [l_heldStringS, hL82, cond_true, cond_false, loopE_done, loopE_ret]
   rw [hM83]
   exact ⟨rfl, hf17⟩
set_option maxRecDepth 100000 in
set_option maxHeartbeats 2000000 in
theorem c_l_FnExactEntriesIn {A1 : Option Addr} {c1 : Nat} {A2 : Option Addr} {c2 : Nat} {A3 : Option Addr} {c3 : Nat} {w : World} (p_0 : DTable) (p_1 : Str) (p_2 : List DWrite) (h1 : RdS w (Iv 0 w.heap.size) (RF e_Str) 1 A1 p_0.Cols.length c1 p_0.Cols) (h2 : RdS w (Iv 0 w.heap.size) (RF e_Idx) 3 A2 p_0.Idxs.length c2 p_0.Idxs) (h3 : RdS w (Iv 0 w.heap.size) (RF e_Write) 3 A3 p_2.length c3 p_2) (pre0 : wf_Table p_0) (pre1 : wfS p_1) (pre2 : (wfL wf_Write) p_2) : Cal Try.prog 9 #[.agg #[.string (bs (p_0.Name)), .slice A1 p_0.Cols.length c1, .slice A2 p_0.Idxs.length c2], .string (bs (p_1)), .slice A3 p_2.length c3] w fun v w' => v = .bool ((l_FnExactEntriesIn p_0 p_1 p_2)) ∧ Ex w w' := by
 refine Cal.of (vs := [.agg #[.string (bs (p_0.Name)), .slice A1 p_0.Cols.length c1, .slice A2 p_0.Idxs.length c2], .string (bs (p_1)), .slice A3 p_2.length c3]) Try.func9 rfl Try.ntmps9 rfl (CW.seq (CW.region (sd rfl (yl_box (cs := [.string (bs (p_0.Name)), .slice A1 p_0.Cols.length c1, .slice A2 p_0.Idxs.length c2]) rfl rfl rfl ?_))))
 intro b4 w5 hs6 hz7 hB8 hE9
 refine sd rfl (yl_assign rfl rfl (SeqR.done (tn (CW.seq (CW.seq (CW.region (sd rfl (yl_move rfl rfl (sd rfl (yl_slen Try.un9 (a := p_1) rfl rfl (sd rfl (yl_gtr rfl rfl rfl ?_))))))))))))
 refine SeqR.done (tn (bcase (decide (1048576 < (p_1.length : Int))) (fun hb10 => ?_) (fun hb10 => ?_)))
 ·have hb10p := dec_t hb10
  refine CW.cond_t rfl hb10 (CW.seq (CW.region (sd rfl (yl_assign rfl rfl (SeqR.done (tn (CW.ret (tr (rr rfl (.cons rfl .nil) ?_)))))))))
  have hM11 : (l_FnExactEntriesIn p_0 p_1 p_2) = (true) := by simp only [l_FnExactEntriesIn, hb10, cond_true, cond_false, loopE_done, loopE_ret]
  rw [hM11]
  exact ⟨rfl, (Ex.trans (Ex.refl w) hE9)⟩
 ·have hb10p := dec_f hb10
  refine CW.cond_f rfl hb10 (CW.skip (tn (CW.seq (CW.region (sd rfl (yl_assign rfl rfl (SeqR.done (tn (CW.seq ?_)))))))))
  refine CW.region (sd rfl (yl_loadN (cs := [.string (bs (p_0.Name)), .slice A1 p_0.Cols.length c1, .slice A2 p_0.Idxs.length c2]) Try.ty55 rfl rfl (hB8.cells (n := 3) rfl) rfl (sd rfl (yl_move rfl rfl ?_))))
  have q13 := RdS.ex good_Str h1 hE9
  have q14 := RdS.ex good_Idx h2 hE9
  refine sd rfl (yl_call Try.en32 rfl (opvs_cons rfl (opvs_cons rfl opvs_nil)) (Cal.mono (c_l_szTable p_0 1048576 (RdS.up q13 good_Str) (RdS.up q14 good_Idx)) ?_))
  rintro v16 w15 ⟨rfl, hE17⟩
  have hE17z := Ex.size hE17
  refine sd rfl (yl_assign rfl rfl (SeqR.done (tn (CW.seq (CW.seq (CW.region (sd rfl (yl_move rfl rfl (sd rfl (yl_lss rfl rfl rfl (SeqR.done ?_)))))))))))
  refine tn (bcase (decide ((l_szTable p_0 1048576) < 0)) (fun hb18 => ?_) (fun hb18 => ?_))
  ·have hb18p := dec_t hb18
   refine CW.cond_t rfl hb18 (CW.seq (CW.region (sd rfl (yl_assign rfl rfl (SeqR.done (tn (CW.ret (tr (rr rfl (.cons rfl .nil) ?_)))))))))
   have hM19 : (l_FnExactEntriesIn p_0 p_1 p_2) = (true) := by simp only [l_FnExactEntriesIn, hb10, hb18, cond_true, cond_false, loopE_done, loopE_ret]
   rw [hM19]
   exact ⟨rfl, (Ex.trans (Ex.trans (Ex.refl w) hE9) hE17)⟩
  ·have hb18p := dec_f hb18
   refine CW.cond_f rfl hb18 (CW.skip (tn (CW.seq (CW.region (sd rfl (yl_move rfl rfl (sd rfl (yl_move rfl rfl ?_))))))))
   have q23 := RdS.ex good_Write (RdS.ex good_Write h3 hE9) hE17
   refine sd rfl (yl_call Try.en47 rfl (opvs_cons rfl (opvs_cons rfl opvs_nil)) (Cal.mono (c_l_szWriteS p_2 (l_szTable p_0 1048576) (RdS.up q23 good_Write)) ?_))
   rintro v25 w24 ⟨rfl, hE26⟩
   have hE26z := Ex.size hE26
   refine sd rfl (yl_assign rfl rfl (SeqR.done (tn (CW.seq (CW.seq (CW.region (sd rfl (yl_move rfl rfl (sd rfl (yl_lss rfl rfl rfl (SeqR.done ?_)))))))))))
   refine tn (bcase (decide ((l_szWriteS p_2 (l_szTable p_0 1048576)) < 0)) (fun hb27 => ?_) (fun hb27 => ?_))
   ·have hb27p := dec_t hb27
    refine CW.cond_t rfl hb27 (CW.seq (CW.region (sd rfl (yl_assign rfl rfl (SeqR.done (tn (CW.ret (tr (rr rfl (.cons rfl .nil) ?_)))))))))
    have hM28 : (l_FnExactEntriesIn p_0 p_1 p_2) = (true) := by simp only [l_FnExactEntriesIn, hb10, hb18, hb27, cond_true, cond_false, loopE_done, loopE_ret]
    rw [hM28]
    exact ⟨rfl, (Ex.trans (Ex.trans (Ex.trans (Ex.refl w) hE9) hE17) hE26)⟩
   ·have hb27p := dec_f hb27
    refine CW.cond_f rfl hb27 (CW.skip (tn (CW.seq (CW.region ?_))))
    have q33 := Box.ex (Box.ex hB8 hE17) hE26
    refine sd rfl (yl_loadN (cs := [.string (bs (p_0.Name)), .slice A1 p_0.Cols.length c1, .slice A2 p_0.Idxs.length c2]) Try.ty55 rfl rfl (q33.cells (n := 3) rfl) rfl ?_)
    have q35 := RdS.ex good_Str (RdS.ex good_Str q13 hE17) hE26
    have q37 := RdS.ex good_Idx (RdS.ex good_Idx q14 hE17) hE26
    refine sd rfl (yl_call Try.en35 rfl (opvs_cons rfl opvs_nil) (Cal.mono (c_l_toTable p_0 (RdS.up q35 good_Str) (RdS.up q37 good_Idx) ((szok_Table pre0 (by decide) (dec_f hb18)).1)) ?_))
    rintro v41 w38 ⟨A39, c39, lo39, hi39, A40, c40, lo40, hi40, rfl, h39, h40, hrn43, hrn44, hrn45, hE42⟩
    have hE42z := Ex.size hE42
    refine sd rfl (yl_move rfl rfl (sd rfl (yl_move rfl rfl ?_)))
    have q47 := RdS.ex good_Write (RdS.ex good_Write q23 hE26) hE42
    refine sd rfl (yl_call Try.en49 rfl (opvs_cons rfl opvs_nil) (Cal.mono (c_l_toWriteS p_2 (RdS.up q47 good_Write) ((szok_WriteS pre2 (szok_Table pre0 (by decide) (dec_f hb18)).2 (dec_f hb27)).1)) ?_))
    rintro v50 w48 ⟨A49, c49, lo49, hi49, rfl, h49, hrn52, hE51⟩
    have hE51z := Ex.size hE51
    refine sd rfl (yl_call Try.en48 rfl (opvs_cons rfl (opvs_cons rfl (opvs_cons rfl opvs_nil))) (Cal.mono (c_s_EntriesIn p_0 p_1 p_2 (RdS.up (OwnL.rd good_Str (OwnL.ex good_Str h39 hE51)) good_Str) (RdS.up (OwnL.rd good_Idx (OwnL.ex good_Idx h40 hE51)) good_Idx) (RdS.up (OwnL.rd good_Write h49) good_Write) ((szok_Table pre0 (by decide) (dec_f hb18)).1) (by unfold okS; omega) ((szok_WriteS pre2 (szok_Table pre0 (by decide) (dec_f hb18)).2 (dec_f hb27)).1)) ?_))
    rintro v61 w58 ⟨A59, c59, lo59, hi59, rfl, h59, ho60, hrn63, hE62⟩
    have hE62z := Ex.size hE62
    refine sd rfl (yl_move rfl rfl (sd rfl (yl_extract rfl rfl rfl (sd rfl (yl_extract rfl rfl rfl (sd rfl (yl_assign rfl rfl (sd rfl (yl_assign rfl rfl (SeqR.done (tn (CW.seq (CW.region ?_)))))))))))))
    have q66 := Box.ex (Box.ex (Box.ex q33 hE42) hE51) hE62
    refine sd rfl (yl_loadN (cs := [.string (bs (p_0.Name)), .slice A1 p_0.Cols.length c1, .slice A2 p_0.Idxs.length c2]) Try.ty55 rfl rfl (q66.cells (n := 3) rfl) rfl ?_)
    have q69 := RdS.ex good_Str (RdS.ex good_Str (RdS.ex good_Str q35 hE42) hE51) hE62
    have q72 := RdS.ex good_Idx (RdS.ex good_Idx (RdS.ex good_Idx q37 hE42) hE51) hE62
    refine sd rfl (yl_call Try.en35 rfl (opvs_cons rfl opvs_nil) (Cal.mono (c_l_toTable p_0 (RdS.up q69 good_Str) (RdS.up q72 good_Idx) ((szok_Table pre0 (by decide) (dec_f hb18)).1)) ?_))
    rintro v76 w73 ⟨A74, c74, lo74, hi74, A75, c75, lo75, hi75, rfl, h74, h75, hrn78, hrn79, hrn80, hE77⟩
    have hE77z := Ex.size hE77
    refine sd rfl (yl_alloc Try.ty65 (cs := [.string (bs (([] : Str))), .slice none 0 0, .slice none 0 0]) rfl rfl ?_)
    intro b81 w82 hs83 hz84 hB85 hE86
    refine SeqR.u rfl rfl (yl_store (vs := [.string (bs (p_0.Name)), .slice A74 p_0.Cols.length c74, .slice A75 p_0.Idxs.length c75]) Try.ty65 rfl rfl rfl rfl rfl rfl hB85 (Nat.le_of_ble_eq_true rfl) ?_)
    intro w87 hB88 hO89
    have hB88 : Box w87 b81 65 [.string (bs (p_0.Name)), .slice A74 p_0.Cols.length c74, .slice A75 p_0.Idxs.length c75] := hB88
    have hO89z := hO89.size
    refine SeqR.done (tn (CW.seq (CW.region (sd rfl (yl_move rfl rfl ?_)))))
    have q94 := RdS.only good_Write (RdS.ex good_Write (RdS.ex good_Write (RdS.ex good_Write (RdS.ex good_Write q47 hE51) hE62) hE77) hE86) hO89 (by simp only [Iv]; omega)
    refine sd rfl (yl_call Try.en49 rfl (opvs_cons rfl opvs_nil) (Cal.mono (c_l_toWriteS p_2 (RdS.up q94 good_Write) ((szok_WriteS pre2 (szok_Table pre0 (by decide) (dec_f hb18)).2 (dec_f hb27)).1)) ?_))
    rintro v97 w95 ⟨A96, c96, lo96, hi96, rfl, h96, hrn99, hE98⟩
    have hE98z := Ex.size hE98
    refine sd rfl (yl_assign rfl rfl (SeqR.done (tn (CW.seq (CW.region ?_)))))
    have q100 := Box.ex hB88 hE98
    refine sd rfl (yl_loadN (cs := [.string (bs (p_0.Name)), .slice A74 p_0.Cols.length c74, .slice A75 p_0.Idxs.length c75]) Try.ty65 rfl rfl (q100.cells (n := 3) rfl) rfl (sd rfl (yl_move rfl rfl (sd rfl (yl_move rfl rfl ?_)))))
    have q104 := OwnL.ex good_Str (OwnL.only good_Str (OwnL.ex good_Str h74 hE86) hO89 (by omega)) hE98
    have q108 := OwnL.ex good_Idx (OwnL.only good_Idx (OwnL.ex good_Idx h75 hE86) hO89 (by omega)) hE98
    refine sd rfl (yl_call Try.en50 rfl (opvs_cons rfl (opvs_cons rfl (opvs_cons rfl opvs_nil))) (Cal.mono (c_i_EntriesIn p_0 p_1 p_2 (RdS.up (OwnL.rd good_Str q104) good_Str) (RdS.up (OwnL.rd good_Idx q108) good_Idx) (RdS.up (OwnL.rd good_Write h96) good_Write) ((szok_Table pre0 (by decide) (dec_f hb18)).1) (by unfold okS; omega) ((szok_WriteS pre2 (szok_Table pre0 (by decide) (dec_f hb18)).2 (dec_f hb27)).1)) ?_))
    rintro v113 w110 ⟨A111, c111, lo111, hi111, rfl, h111, ho112, hrn115, hE114⟩
    have hE114z := Ex.size hE114
    refine sd rfl (yl_move rfl rfl (sd rfl (yl_extract rfl rfl rfl (sd rfl (yl_extract rfl rfl rfl (sd rfl (yl_assign rfl rfl (sd rfl (yl_assign rfl rfl (SeqR.done (tn (CW.seq (CW.seq ?_)))))))))))))
    refine CW.region (sd rfl (yl_move rfl rfl (sd rfl (yl_move rfl rfl ?_))))
    have q122 := OwnL.ex good_Str (OwnL.ex good_Str (OwnL.only good_Str (OwnL.ex good_Str (OwnL.ex good_Str h59 hE77) hE86) hO89 (by omega)) hE98) hE114
    refine sd rfl (yl_call Try.en51 rfl (opvs_cons rfl (opvs_cons rfl opvs_nil)) (Cal.mono (c_l_eqStringS ((i_EntriesIn p_0 p_1 p_2).1) ((s_EntriesIn p_0 p_1 p_2).1) (RdS.up (OwnL.rd good_Str h111) good_Str) (RdS.up (OwnL.rd good_Str q122) good_Str)) ?_))
    rintro v124 w123 ⟨rfl, hE125⟩
    have hE125z := Ex.size hE125
    refine sd rfl (yl_not rfl rfl (sd rfl (yl_move rfl rfl (bcase (l_eqStringS ((i_EntriesIn p_0 p_1 p_2).1) ((s_EntriesIn p_0 p_1 p_2).1)) (fun hb126 => ?_) (fun hb126 => ?_)))))
    ·refine sy rfl rfl (not_t hb126) (yl_move rfl rfl (sy rfl rfl (not_t hb126) (yl_move rfl rfl (sy rfl rfl (not_t hb126) (yl_bneq Try.un4 rfl rfl rfl (sd rfl (yl_pick_f rfl rfl (not_t hb126) rfl (SeqR.done (tn (bcase (((i_EntriesIn p_0 p_1 p_2).2) == ((s_EntriesIn p_0 p_1 p_2).2)) (fun hb127 => ?_) (fun hb127 => ?_)))))))))))
     ·refine CW.cond_f rfl (not_t hb127) (CW.skip (tn (CW.seq (CW.seq ?_))))
      have q129 := Box.ex (Box.ex q100 hE114) hE125
      have q135 := Box.ex (Box.ex (Box.ex (Box.only (Box.ex (Box.ex q66 hE77) hE86) hO89 (by omega)) hE98) hE114) hE125
      have q141 := RdS.ex good_Str (RdS.ex good_Str (RdS.ex good_Str (RdS.only good_Str (RdS.ex good_Str (RdS.ex good_Str q69 hE77) hE86) hO89 (by simp only [Iv]; omega)) hE98) hE114) hE125
      have q147 := RdS.ex good_Idx (RdS.ex good_Idx (RdS.ex good_Idx (RdS.only good_Idx (RdS.ex good_Idx (RdS.ex good_Idx q72 hE77) hE86) hO89 (by simp only [Iv]; omega)) hE98) hE114) hE125
      have q153 := OwnL.ex good_Str (OwnL.ex good_Str q104 hE114) hE125
      have q156 := OwnL.ex good_Idx (OwnL.ex good_Idx q108 hE114) hE125
      refine CW.drawsI 5 (vgetI [DetI (.agg #[.string (bs (p_0.Name)), .slice A74 p_0.Cols.length c74, .slice A75 p_0.Idxs.length c75]), DetI (.agg #[.string (bs (p_0.Name)), .slice A1 p_0.Cols.length c1, .slice A2 p_0.Idxs.length c2]), fun lo hi v wq => ∃ A149 c149 lo149 hi149 A150 c150 lo150 hi150, v = .agg #[.string (bs (p_0.Name)), .slice A149 p_0.Cols.length c149, .slice A150 p_0.Idxs.length c150] ∧ OwnL wq lo149 hi149 9 1 (RF e_Str) A149 p_0.Cols.length c149 p_0.Cols ∧ OwnL wq lo150 hi150 152 3 (RF e_Idx) A150 p_0.Idxs.length c150 p_0.Idxs ∧ (lo ≤ lo149 ∧ lo149 ≤ hi149 ∧ hi149 ≤ hi) ∧ (lo ≤ lo150 ∧ lo150 ≤ hi150 ∧ hi150 ≤ hi) ∧ (hi149 ≤ lo150 ∨ hi150 ≤ lo149), DetI (.bool ((l_eqTable p_0 p_0))), DetI (.bool (!(l_eqTable p_0 p_0)))]) Try.follows rfl rfl rfl rfl rfl rfl (vgetI_stable ⟨StableI.det _, StableI.det _, (fun _ _ _ _ _ ⟨A149, c149, lo149, hi149, A150, c150, lo150, hi150, hv, h149, h150, hr0, hr1, hr2⟩ e => ⟨A149, c149, lo149, hi149, A150, c150, lo150, hi150, hv, OwnL.ex good_Str h149 e, OwnL.ex good_Idx h150 e, hr0, hr1, hr2⟩), StableI.det _, StableI.det _, trivial⟩) ⟨?_, ?_, ?_, ?_, ?_, trivial⟩ ?_
      ·exact fun _ _ h => os rfl ((yl_loadN (cs := [.string (bs (p_0.Name)), .slice A74 p_0.Cols.length c74, .slice A75 p_0.Idxs.length c75]) Try.ty65 rfl (h.old 10 _ rfl rfl) ((Box.ex q129 h.ex).cells (n := 3) rfl) rfl kI))
      ·exact fun _ _ h => os rfl ((yl_loadN (cs := [.string (bs (p_0.Name)), .slice A1 p_0.Cols.length c1, .slice A2 p_0.Idxs.length c2]) Try.ty55 rfl (h.old 3 _ rfl rfl) ((Box.ex q135 h.ex).cells (n := 3) rfl) rfl kI))
      ·intro L170 w171 hi172
       have hE173 := hi172.ex
       refine OpR.op' rfl (yl_call Try.en35 rfl (opvs_cons (hi172.dt 1 62 rfl rfl rfl) opvs_nil) (Cal.mono (c_l_toTable p_0 (RdS.up (RdS.ex good_Str q141 hE173) good_Str) (RdS.up (RdS.ex good_Idx q147 hE173) good_Idx) ((szok_Table pre0 (by decide) (dec_f hb18)).1)) ?_))
       rintro v180 w177 ⟨A178, c178, lo178, hi178, A179, c179, lo179, hi179, rfl, h178, h179, hrn182, hrn183, hrn184, hE181⟩
       exact ⟨⟨A178, c178, lo178, hi178, A179, c179, lo179, hi179, rfl, h178, h179, hrn182, hrn183, hrn184⟩, hE181⟩
      ·intro L185 w186 hi187
       have hE188 := hi187.ex
       obtain ⟨lo191, hh192, _, hx190, hr193, hr194, hr195, A149_196, c149_197, lo149_198, hi149_199, A150_200, c150_201, lo150_202, hi150_203, rfl, h204, h205, hrn206, hrn207, hrn208⟩ := hi187.dep 2 63 rfl rfl
       refine OpR.op' rfl (yl_call Try.en39 rfl (opvs_cons (hi187.dt 0 61 rfl rfl rfl) (opvs_cons hx190 opvs_nil)) (Cal.mono (c_l_eqTable p_0 p_0 (RdS.up (OwnL.rd good_Str (OwnL.ex good_Str q153 hE188)) good_Str) (RdS.up (OwnL.rd good_Idx (OwnL.ex good_Idx q156 hE188)) good_Idx) (RdS.up (OwnL.rd good_Str h204) good_Str) (RdS.up (OwnL.rd good_Idx h205) good_Idx)) ?_))
       rintro v216 w215 ⟨rfl, hE217⟩
       exact ⟨rfl, hE217⟩
      ·exact fun _ _ h => os rfl ((yl_not rfl (h.dt 3 64 rfl rfl rfl) kI))
      ·intro fl226 fh227 L223 w224 hp225
       have hE228 := hp225.ex
       have hE228z := Ex.size hE228
       have hr239 := hp225.rng 2 rfl
       obtain ⟨_, hx238, A149_240, c149_241, lo149_242, hi149_243, A150_244, c150_245, lo150_246, hi150_247, rfl, h248, h249, hrn250, hrn251, hrn252⟩ := hp225.new 2 63 rfl rfl
       refine SeqR.done (tn (CW.sub (Sub.cons (d := 1) (hp225.old 1 _ rfl rfl) (Sub.cons (d := 2) (hp225.old 2 _ rfl rfl) (Sub.cons (d := 3) (hp225.old 3 _ rfl rfl) (Sub.cons (d := 8) (hp225.old 8 _ rfl rfl) (Sub.cons (d := 9) (hp225.old 9 _ rfl rfl) (Sub.cons (d := 10) (hp225.old 10 _ rfl rfl) (Sub.cons (d := 11) (hp225.old 11 _ rfl rfl) (Sub.cons (d := 12) (hp225.old 12 _ rfl rfl) (Sub.cons (d := 13) (hp225.old 13 _ rfl rfl) (Sub.cons (d := 65) (hp225.nt 4 65 rfl rfl rfl) (Sub.nil _))))))))))) (bcase (l_eqTable p_0 p_0) (fun hb254 => ?_) (fun hb254 => ?_))))
       ·refine CW.cond_f rfl (not_t hb254) (CW.skip (tn (CW.seq (CW.seq (CW.region (sd rfl (yl_move rfl rfl (sd rfl (yl_move rfl rfl ?_)))))))))
        have q258 := RdS.ex good_Write (RdS.ex good_Write (RdS.ex good_Write (RdS.ex good_Write q94 hE98) hE114) hE125) hE228
        refine sd rfl (yl_call Try.en49 rfl (opvs_cons rfl opvs_nil) (Cal.mono (c_l_toWriteS p_2 (RdS.up q258 good_Write) ((szok_WriteS pre2 (szok_Table pre0 (by decide) (dec_f hb18)).2 (dec_f hb27)).1)) ?_))
        rintro v261 w259 ⟨A260, c260, lo260, hi260, rfl, h260, hrn263, hE262⟩
        have hE262z := Ex.size hE262
        have q268 := OwnL.ex good_Write (OwnL.ex good_Write (OwnL.ex good_Write (OwnL.ex good_Write h96 hE114) hE125) hE228) hE262
        refine sd rfl (yl_call Try.en52 rfl (opvs_cons rfl (opvs_cons rfl opvs_nil)) (Cal.mono (c_l_eqWriteS p_2 p_2 (RdS.up (OwnL.rd good_Write q268) good_Write) (RdS.up (OwnL.rd good_Write h260) good_Write)) ?_))
        rintro v271 w270 ⟨rfl, hE272⟩
        have hE272z := Ex.size hE272
        refine sd rfl (yl_not rfl rfl (SeqR.done (tn (bcase (l_eqWriteS p_2 p_2) (fun hb273 => ?_) (fun hb273 => ?_)))))
        ·refine CW.cond_f rfl (not_t hb273) (CW.skip (tn (CW.seq (CW.region (sd rfl (yl_assign rfl rfl (SeqR.done (tn (CW.seq ?_)))))))))
         refine CW.region (sd rfl (yl_loadN (cs := [.string (bs (p_0.Name)), .slice A74 p_0.Cols.length c74, .slice A75 p_0.Idxs.length c75]) Try.ty65 rfl rfl ((Box.ex (Box.ex (Box.ex q129 hE228) hE262) hE272).cells (n := 3) rfl) rfl (sd rfl (yl_move rfl rfl (sd rfl (yl_call Try.en41 rfl (opvs_cons rfl (opvs_cons rfl opvs_nil)) (Cal.mono (c_l_markTable p_0 1 (OwnL.ex good_Str (OwnL.ex good_Str (OwnL.ex good_Str q153 hE228) hE262) hE272) (OwnL.ex good_Idx (OwnL.ex good_Idx (OwnL.ex good_Idx q156 hE228) hE262) hE272) (by omega) (by omega) (by omega) (by first | omega | assumption | (simp only [IntKind.wrap_i64] at *; omega))) ?_)))))))
         rintro v284 w283 ⟨rfl, h286, h287, hm285⟩
         have hm285z := Mut.size hm285
         have hrf288 := rf_markTable p_0 1 (by first | omega | assumption | (simp only [IntKind.wrap_i64] at *; omega))
         refine sd rfl (yl_assign rfl rfl (SeqR.done (tn (CW.seq (CW.region (sd rfl (yl_move rfl rfl (sd rfl (yl_move rfl rfl (sd rfl (yl_call Try.en53 rfl (opvs_cons rfl (opvs_cons rfl opvs_nil)) (Cal.mono (c_l_markWriteS p_2 ((l_markTable p_0 1).1) (OwnL.mut good_Write (OwnL.ex good_Write q268 hE272) hm285 (fun k hk => by simp only [InR, or_false] at hk; omega)) (by omega) (by first | omega | assumption | (simp only [IntKind.wrap_i64] at *; omega))) ?_))))))))))))
         rintro v292 w291 ⟨rfl, h294, hm293⟩
         have hm293z := Mut.size hm293
         have hrf295 := rf_markWriteS p_2 ((l_markTable p_0 1).1) (by first | omega | assumption | (simp only [IntKind.wrap_i64] at *; omega))
         refine sd rfl (yl_assign rfl rfl (SeqR.done (tn (CW.seq (CW.seq (CW.region (sd rfl (yl_move rfl rfl (sd rfl (yl_lss rfl rfl rfl (sd rfl (yl_move rfl rfl ?_))))))))))))
         refine bcase (decide (((l_markWriteS p_2 ((l_markTable p_0 1).1)).1) < 0)) (fun hb296 => ?_) (fun hb296 => ?_)
         ·have hb296p := dec_t hb296
          refine sz rfl rfl hb296 (sz rfl rfl hb296 (sz rfl rfl hb296 (sz rfl rfl hb296 (sd rfl (yl_pick_t rfl rfl hb296 rfl (sd rfl (yl_move rfl rfl (sz rfl rfl rfl (sz rfl rfl rfl (sz rfl rfl rfl ?_))))))))))
          refine sd rfl (yl_pick_t rfl rfl rfl rfl (SeqR.done (tn (CW.cond_t rfl rfl (CW.seq (CW.region (sd rfl (yl_assign rfl rfl (SeqR.done (tn ?_))))))))))
          refine CW.ret (tr (rr rfl (.cons rfl .nil) ?_))
          have hM297 : (l_FnExactEntriesIn p_0 p_1 p_2) = (false) := by simp only [l_FnExactEntriesIn, hb10, hb18, hb27, hb126, hb127, hb254, hb273, hb296, cond_true, cond_false, loopE_done, loopE_ret]
          rw [hM297]
          have q314 := Ex.mut (Ex.mut (Ex.trans (Ex.trans (Ex.trans (Ex.trans (Ex.trans (Ex.trans (Below.only (Ex.trans (Ex.trans (Ex.trans (Ex.trans (Ex.trans (Ex.trans (Ex.trans (Ex.trans (Ex.refl w) hE9) hE17) hE26) hE42) hE51) hE62) hE77) hE86) hO89 (by omega)) hE98) hE114) hE125) hE228) hE262) hE272) hm285 (fun k hk => by simp only [InR, or_false] at hk; omega)) hm293 (fun k hk => by simp only [InR, or_false] at hk; omega)
          exact ⟨rfl, q314⟩
         ·have hb296p := dec_f hb296
          refine sy rfl rfl hb296 (yl_move rfl rfl (sy rfl rfl hb296 (yl_move rfl rfl ?_)))
          have q321 := OwnL.mut good_Str (OwnL.mut good_Str (OwnL.ex good_Str (OwnL.ex good_Str (OwnL.ex good_Str (OwnL.ex good_Str h111 hE125) hE228) hE262) hE272) hm285 (fun k hk => by simp only [InR, or_false] at hk; omega)) hm293 (fun k hk => by simp only [InR, or_false] at hk; omega)
          have q328 := OwnL.mut good_Str (OwnL.mut good_Str (OwnL.ex good_Str (OwnL.ex good_Str (OwnL.ex good_Str (OwnL.ex good_Str q122 hE125) hE228) hE262) hE272) hm285 (fun k hk => by simp only [InR, or_false] at hk; omega)) hm293 (fun k hk => by simp only [InR, or_false] at hk; omega)
          refine sy rfl rfl hb296 (yl_call Try.en51 rfl (opvs_cons rfl (opvs_cons rfl opvs_nil)) (Cal.mono (c_l_eqStringS ((i_EntriesIn p_0 p_1 p_2).1) ((s_EntriesIn p_0 p_1 p_2).1) (RdS.up (OwnL.rd good_Str q321) good_Str) (RdS.up (OwnL.rd good_Str q328) good_Str)) ?_))
          rintro v330 w329 ⟨rfl, hE331⟩
          have hE331z := Ex.size hE331
          refine sy rfl rfl hb296 (yl_not rfl rfl (sd rfl (yl_pick_f rfl rfl hb296 rfl (sd rfl (yl_move rfl rfl (sy rfl rfl (not_t hb126) (yl_move rfl rfl (sy rfl rfl (not_t hb126) (yl_move rfl rfl (sy rfl rfl (not_t hb126) (yl_bneq Try.un4 rfl rfl rfl (sd rfl (yl_pick_f rfl rfl (not_t hb126) rfl (SeqR.done (tn ?_)))))))))))))))
          refine CW.cond_f rfl (not_t hb127) (CW.skip (tn (CW.seq (CW.region (sd rfl (yl_assign rfl rfl (SeqR.done (tn (CW.seq ?_)))))))))
          refine CW.region (sd rfl (yl_move rfl rfl (sd rfl (yl_move rfl rfl (sd rfl (yl_call Try.en54 rfl (opvs_cons rfl (opvs_cons rfl opvs_nil)) (Cal.mono (c_l_markStringS ((i_EntriesIn p_0 p_1 p_2).1) 1 (OwnL.ex good_Str q321 hE331) (by omega) (by first | omega | assumption | (simp only [IntKind.wrap_i64] at *; omega))) ?_)))))))
          rintro v334 w333 ⟨rfl, h336, hm335⟩
          have hm335z := Mut.size hm335
          have hrf337 := rf_markStringS ((i_EntriesIn p_0 p_1 p_2).1) 1 (by first | omega | assumption | (simp only [IntKind.wrap_i64] at *; omega))
          refine sd rfl (yl_assign rfl rfl (SeqR.done (tn (CW.seq (CW.region (sd rfl (yl_assign rfl rfl (SeqR.done (tn (CW.seq ?_))))))))))
          refine CW.region (sd rfl (yl_move rfl rfl (sd rfl (yl_move rfl rfl ?_))))
          have hle338 := OwnL.len h336
          refine sd rfl (yl_call Try.en55 rfl (opvs_cons rfl (opvs_cons rfl opvs_nil)) (Cal.mono (Cal.args (by rw [← hle338] <;> rfl) (c_l_heldStringS ((l_markStringS ((i_EntriesIn p_0 p_1 p_2).1) 1).2) 1 (RdS.fix (RdS.up (OwnL.rd good_Str h336) good_Str)) (by first | omega | assumption | (simp only [IntKind.wrap_i64] at *; omega)))) ?_))
          rintro v341 w340 ⟨rfl, hE342⟩
          have hE342z := Ex.size hE342
          have hrf343 := rf_heldStringS ((l_markStringS ((i_EntriesIn p_0 p_1 p_2).1) 1).2) 1 (by first | omega | assumption | (simp only [IntKind.wrap_i64] at *; omega))
          refine sd rfl (yl_assign rfl rfl (SeqR.done (tn (CW.seq (CW.seq (CW.region (sd rfl (yl_move rfl rfl (sd rfl (yl_lss rfl rfl rfl (SeqR.done ?_)))))))))))
          refine tn (bcase (decide ((l_heldStringS ((l_markStringS ((i_EntriesIn p_0 p_1 p_2).1) 1).2) 1) < 0)) (fun hb344 => ?_) (fun hb344 => ?_))
          ·have hb344p := dec_t hb344
           refine CW.cond_t rfl hb344 (CW.seq (CW.region (sd rfl (yl_assign rfl rfl (SeqR.done (tn (CW.ret (tr (rr rfl (.cons rfl .nil) ?_)))))))))
           have hM345 : (l_FnExactEntriesIn p_0 p_1 p_2) = (false) := by simp only [l_FnExactEntriesIn, hb10, hb18, hb27, hb126, hb127, hb254, hb273, hb296, hb344, cond_true, cond_false, loopE_done, loopE_ret]
           rw [hM345]
           have q362 := Ex.mut (Ex.mut (Ex.trans (Ex.trans (Ex.trans (Ex.trans (Ex.trans (Ex.trans (Below.only (Ex.trans (Ex.trans (Ex.trans (Ex.trans (Ex.trans (Ex.trans (Ex.trans (Ex.trans (Ex.refl w) hE9) hE17) hE26) hE42) hE51) hE62) hE77) hE86) hO89 (by omega)) hE98) hE114) hE125) hE228) hE262) hE272) hm285 (fun k hk => by simp only [InR, or_false] at hk; omega)) hm293 (fun k hk => by simp only [InR, or_false] at hk; omega)
           exact ⟨rfl, (Ex.trans (Ex.mut (Ex.trans q362 hE331) hm335 (fun k hk => by simp only [InR, or_false] at hk; omega)) hE342)⟩
          ·have hb344p := dec_f hb344
           refine CW.cond_f rfl hb344 (CW.skip (tn (CW.seq (CW.seq (CW.region (sd rfl (yl_move rfl rfl (sd rfl (yl_move rfl rfl (sd rfl (yl_neq rfl rfl rfl ?_)))))))))))
           refine SeqR.done (tn (bcase (decide ((l_heldStringS ((l_markStringS ((i_EntriesIn p_0 p_1 p_2).1) 1).2) 1) = ((l_markStringS ((i_EntriesIn p_0 p_1 p_2).1) 1).1))) (fun hb366 => ?_) (fun hb366 => ?_)))
           ·have hb366p := dec_t hb366
            refine CW.cond_f rfl (not_t hb366) (CW.skip (tn (CW.seq (CW.region (sd rfl (yl_loadN (cs := [.string (bs (p_0.Name)), .slice A1 p_0.Cols.length c1, .slice A2 p_0.Idxs.length c2]) Try.ty55 rfl rfl ((Box.ex (Box.mut (Box.ex (Box.mut (Box.mut (Box.ex (Box.ex (Box.ex q135 hE228) hE262) hE272) hm285 (fun k hk => by simp only [InR, or_false] at hk; omega)) hm293 (fun k hk => by simp only [InR, or_false] at hk; omega)) hE331) hm335 (fun k hk => by simp only [InR, or_false] at hk; omega)) hE342).cells (n := 3) rfl) rfl (sd rfl (yl_call Try.en35 rfl (opvs_cons rfl opvs_nil) (Cal.mono (c_l_toTable p_0 (RdS.up (RdS.ex good_Str (RdS.mut good_Str (RdS.ex good_Str (RdS.mut good_Str (RdS.mut good_Str (RdS.ex good_Str (RdS.ex good_Str (RdS.ex good_Str q141 hE228) hE262) hE272) hm285 (fun k hk => by simp only [InR, or_false, Iv, Ge] at hk ⊢; omega)) hm293 (fun k hk => by simp only [InR, or_false, Iv, Ge] at hk ⊢; omega)) hE331) hm335 (fun k hk => by simp only [InR, or_false, Iv, Ge] at hk ⊢; omega)) hE342) good_Str) (RdS.up (RdS.ex good_Idx (RdS.mut good_Idx (RdS.ex good_Idx (RdS.mut good_Idx (RdS.mut good_Idx (RdS.ex good_Idx (RdS.ex good_Idx (RdS.ex good_Idx q147 hE228) hE262) hE272) hm285 (fun k hk => by simp only [InR, or_false, Iv, Ge] at hk ⊢; omega)) hm293 (fun k hk => by simp only [InR, or_false, Iv, Ge] at hk ⊢; omega)) hE331) hm335 (fun k hk => by simp only [InR, or_false, Iv, Ge] at hk ⊢; omega)) hE342) good_Idx) ((szok_Table pre0 (by decide) (dec_f hb18)).1)) ?_)))))))))
            rintro v394 w391 ⟨A392, c392, lo392, hi392, A393, c393, lo393, hi393, rfl, h392, h393, hrn396, hrn397, hrn398, hE395⟩
            have hE395z := Ex.size hE395
            refine sd rfl (yl_move rfl rfl (sd rfl (yl_move rfl rfl ?_)))
            have q406 := RdS.ex good_Write (RdS.ex good_Write (RdS.mut good_Write (RdS.ex good_Write (RdS.mut good_Write (RdS.mut good_Write (RdS.ex good_Write (RdS.ex good_Write q258 hE262) hE272) hm285 (fun k hk => by simp only [InR, or_false, Iv, Ge] at hk ⊢; omega)) hm293 (fun k hk => by simp only [InR, or_false, Iv, Ge] at hk ⊢; omega)) hE331) hm335 (fun k hk => by simp only [InR, or_false, Iv, Ge] at hk ⊢; omega)) hE342) hE395
            refine sd rfl (yl_call Try.en49 rfl (opvs_cons rfl opvs_nil) (Cal.mono (c_l_toWriteS p_2 (RdS.up q406 good_Write) ((szok_WriteS pre2 (szok_Table pre0 (by decide) (dec_f hb18)).2 (dec_f hb27)).1)) ?_))
            rintro v409 w407 ⟨A408, c408, lo408, hi408, rfl, h408, hrn411, hE410⟩
            have hE410z := Ex.size hE410
            refine sd rfl (yl_call Try.en50 rfl (opvs_cons rfl (opvs_cons rfl (opvs_cons rfl opvs_nil))) (Cal.mono (c_i_EntriesIn p_0 p_1 p_2 (RdS.up (OwnL.rd good_Str (OwnL.ex good_Str h392 hE410)) good_Str) (RdS.up (OwnL.rd good_Idx (OwnL.ex good_Idx h393 hE410)) good_Idx) (RdS.up (OwnL.rd good_Write h408) good_Write) ((szok_Table pre0 (by decide) (dec_f hb18)).1) (by unfold okS; omega) ((szok_WriteS pre2 (szok_Table pre0 (by decide) (dec_f hb18)).2 (dec_f hb27)).1)) ?_))
            rintro v420 w417 ⟨A418, c418, lo418, hi418, rfl, h418, ho419, hrn422, hE421⟩
            have hE421z := Ex.size hE421
            refine sd rfl (yl_move rfl rfl (sd rfl (yl_extract rfl rfl rfl (sd rfl (yl_extract rfl rfl rfl (sd rfl (yl_assign rfl rfl (sd rfl (yl_assign rfl rfl (SeqR.done (tn (CW.seq (CW.seq ?_)))))))))))))
            refine CW.region (sd rfl (yl_move rfl rfl (sd rfl (yl_move rfl rfl (sd rfl (yl_call Try.en51 rfl (opvs_cons rfl (opvs_cons rfl opvs_nil)) (Cal.mono (c_l_eqStringS ((i_EntriesIn p_0 p_1 p_2).1) ((s_EntriesIn p_0 p_1 p_2).1) (RdS.up (OwnL.rd good_Str h418) good_Str) (RdS.up (OwnL.rd good_Str (OwnL.ex good_Str (OwnL.ex good_Str (OwnL.ex good_Str (OwnL.ex good_Str (OwnL.mut good_Str (OwnL.ex good_Str q328 hE331) hm335 (fun k hk => by simp only [InR, or_false] at hk; omega)) hE342) hE395) hE410) hE421)) good_Str)) ?_)))))))
            rintro v432 w431 ⟨rfl, hE433⟩
            have hE433z := Ex.size hE433
            refine sd rfl (yl_not rfl rfl (sd rfl (yl_move rfl rfl (sy rfl rfl (not_t hb126) (yl_move rfl rfl (sy rfl rfl (not_t hb126) (yl_move rfl rfl (sy rfl rfl (not_t hb126) (yl_bneq Try.un4 rfl rfl rfl (sd rfl (yl_pick_f rfl rfl (not_t hb126) rfl (SeqR.done (tn (CW.cond_f rfl (not_t hb127) ?_))))))))))))))
            refine CW.skip (tn (CW.seq (CW.region (sd rfl (yl_assign rfl rfl (SeqR.done (tn (CW.seq (CW.region ?_)))))))))
            refine sd rfl (yl_move rfl rfl (sd rfl (yl_move rfl rfl ?_)))
            have q439 := OwnL.ex good_Str (OwnL.ex good_Str (OwnL.ex good_Str (OwnL.ex good_Str (OwnL.ex good_Str h336 hE342) hE395) hE410) hE421) hE433
            have hle434 := OwnL.len q439
            refine sd rfl (yl_call Try.en55 rfl (opvs_cons rfl (opvs_cons rfl opvs_nil)) (Cal.mono (Cal.args (by rw [← hle434] <;> rfl) (c_l_heldStringS ((l_markStringS ((i_EntriesIn p_0 p_1 p_2).1) 1).2) 1 (RdS.fix (RdS.up (OwnL.rd good_Str q439) good_Str)) (by first | omega | assumption | (simp only [IntKind.wrap_i64] at *; omega)))) ?_))
            rintro v442 w441 ⟨rfl, hE443⟩
            have hE443z := Ex.size hE443
            have hrf444 := rf_heldStringS ((l_markStringS ((i_EntriesIn p_0 p_1 p_2).1) 1).2) 1 (by first | omega | assumption | (simp only [IntKind.wrap_i64] at *; omega))
            refine sd rfl (yl_assign rfl rfl (SeqR.done (tn (CW.seq (CW.seq (CW.region (sd rfl (yl_move rfl rfl (sd rfl (yl_lss rfl rfl rfl (SeqR.done ?_)))))))))))
            refine tn (CW.cond_f rfl hb344 (CW.skip (tn (CW.seq (CW.seq (CW.region (sd rfl (yl_move rfl rfl (sd rfl (yl_move rfl rfl ?_))))))))))
            refine sd rfl (yl_neq rfl rfl rfl (SeqR.done (tn (CW.cond_f rfl (not_t hb366) (CW.skip (tn (CW.seq (CW.region (sd rfl (yl_assign rfl rfl ?_))))))))))
            refine SeqR.done (tn (CW.ret (rr rfl (.cons rfl .nil) ?_)))
            have hM445 : (l_FnExactEntriesIn p_0 p_1 p_2) = (true) := by simp only [l_FnExactEntriesIn, hb10, hb18, hb27, hb126, hb127, hb254, hb273, hb296, hb344, hb366, cond_true, cond_false, loopE_done, loopE_ret]
            rw [hM445]
            have q462 := Ex.mut (Ex.mut (Ex.trans (Ex.trans (Ex.trans (Ex.trans (Ex.trans (Ex.trans (Below.only (Ex.trans (Ex.trans (Ex.trans (Ex.trans (Ex.trans (Ex.trans (Ex.trans (Ex.trans (Ex.refl w) hE9) hE17) hE26) hE42) hE51) hE62) hE77) hE86) hO89 (by omega)) hE98) hE114) hE125) hE228) hE262) hE272) hm285 (fun k hk => by simp only [InR, or_false] at hk; omega)) hm293 (fun k hk => by simp only [InR, or_false] at hk; omega)
            exact ⟨rfl, (Ex.trans (Ex.trans (Ex.trans (Ex.trans (Ex.trans (Ex.trans (Ex.mut (Ex.trans q462 hE331) hm335 (fun k hk => by simp only [InR, or_false] at hk; omega)) hE342) hE395) hE410) hE421) hE433) hE443)⟩
           ·have hb366p := dec_f hb366
            refine CW.cond_t rfl (not_f hb366) (CW.seq (CW.region (sd rfl (yl_assign rfl rfl (SeqR.done (tn (CW.ret (tr (rr rfl (.cons rfl .nil) ?_)))))))))
            have hM471 : (l_FnExactEntriesIn p_0 p_1 p_2) = (false) := by simp only [l_FnExactEntriesIn, hb10, hb18, hb27, hb126, hb127, hb254, hb273, hb296, hb344, hb366, cond_true, cond_false, loopE_done, loopE_ret]
            rw [hM471]
            have q488 := Ex.mut (Ex.mut (Ex.trans (Ex.trans (Ex.trans (Ex.trans (Ex.trans (Ex.trans (Below.only (Ex.trans (Ex.trans (Ex.trans (Ex.trans (Ex.trans (Ex.trans (Ex.trans (Ex.trans (Ex.refl w) hE9) hE17) hE26) hE42) hE51) hE62) hE77) hE86) hO89 (by omega)) hE98) hE114) hE125) hE228) hE262) hE272) hm285 (fun k hk => by simp only [InR, or_false] at hk; omega)) hm293 (fun k hk => by simp only [InR, or_false] at hk; omega)
            exact ⟨rfl, (Ex.trans (Ex.mut (Ex.trans q488 hE331) hm335 (fun k hk => by simp only [InR, or_false] at hk; omega)) hE342)⟩
        ·refine CW.cond_t rfl (not_f hb273) (CW.seq (CW.region (sd rfl (yl_assign rfl rfl (SeqR.done (tn (CW.ret (tr (rr rfl (.cons rfl .nil) ?_)))))))))
         have hM492 : (l_FnExactEntriesIn p_0 p_1 p_2) = (false) := by simp only [l_FnExactEntriesIn, hb10, hb18, hb27, hb126, hb127, hb254, hb273, cond_true, cond_false, loopE_done, loopE_ret]
         rw [hM492]
         exact ⟨rfl, (Ex.trans (Ex.trans (Ex.trans (Ex.trans (Ex.trans (Ex.trans (Below.only (Ex.trans (Ex.trans (Ex.trans (Ex.trans (Ex.trans (Ex.trans (Ex.trans (Ex.trans (Ex.refl w) hE9) hE17) hE26) hE42) hE51) hE62) hE77) hE86) hO89 (by omega)) hE98) hE114) hE125) hE228) hE262) hE272)⟩
       ·refine CW.cond_t rfl (not_f hb254) (CW.seq (CW.region (sd rfl (yl_assign rfl rfl (SeqR.done (tn (CW.ret (tr (rr rfl (.cons rfl .nil) ?_)))))))))
        have hM508 : (l_FnExactEntriesIn p_0 p_1 p_2) = (false) := by simp only [l_FnExactEntriesIn, hb10, hb18, hb27, hb126, hb127, hb254, cond_true, cond_false, loopE_done, loopE_ret]
        rw [hM508]
        exact ⟨rfl, (Ex.trans (Ex.trans (Ex.trans (Ex.trans (Below.only (Ex.trans (Ex.trans (Ex.trans (Ex.trans (Ex.trans (Ex.trans (Ex.trans (Ex.trans (Ex.refl w) hE9) hE17) hE26) hE42) hE51) hE62) hE77) hE86) hO89 (by omega)) hE98) hE114) hE125) hE228)⟩
     ·refine CW.cond_t rfl (not_f hb127) (CW.seq (CW.region (sd rfl (yl_assign rfl rfl (SeqR.done (tn (CW.ret (tr (rr rfl (.cons rfl .nil) ?_)))))))))
      have hM522 : (l_FnExactEntriesIn p_0 p_1 p_2) = (false) := by simp only [l_FnExactEntriesIn, hb10, hb18, hb27, hb126, hb127, cond_true, cond_false, loopE_done, loopE_ret]
      rw [hM522]
      exact ⟨rfl, (Ex.trans (Ex.trans (Ex.trans (Below.only (Ex.trans (Ex.trans (Ex.trans (Ex.trans (Ex.trans (Ex.trans (Ex.trans (Ex.trans (Ex.refl w) hE9) hE17) hE26) hE42) hE51) hE62) hE77) hE86) hO89 (by omega)) hE98) hE114) hE125)⟩
    ·refine sz rfl rfl (not_f hb126) (sz rfl rfl (not_f hb126) (sz rfl rfl (not_f hb126) (sd rfl (yl_pick_t rfl rfl (not_f hb126) rfl (SeqR.done (tn (CW.cond_t rfl rfl (CW.seq (CW.region ?_)))))))))
     refine sd rfl (yl_assign rfl rfl (SeqR.done (tn (CW.ret (tr (rr rfl (.cons rfl .nil) ?_))))))
     have hM535 : (l_FnExactEntriesIn p_0 p_1 p_2) = (false) := by simp only [l_FnExactEntriesIn, hb10, hb18, hb27, hb126, cond_true, cond_false, loopE_done, loopE_ret]
     rw [hM535]
     exact ⟨rfl, (Ex.trans (Ex.trans (Ex.trans (Below.only (Ex.trans (Ex.trans (Ex.trans (Ex.trans (Ex.trans (Ex.trans (Ex.trans (Ex.trans (Ex.refl w) hE9) hE17) hE26) hE42) hE51) hE62) hE77) hE86) hO89 (by omega)) hE98) hE114) hE125)⟩
end Go.Proofs.Ytjeafbkejeallaa
