/- Are Near: what each call returns, part 1. -/
import Derived.Test.YtnfjabkdlkejkaaAreNearL
import Derived.Test.YtnfjabkdlkejkaaAreNearF
set_option linter.unusedVariables false
set_option linter.unusedSimpArgs false
namespace Go.Proofs.Ytnfjabkdlkejkaa
open Go.RowKit Go.X
set_option maxRecDepth 100000 in
set_option maxHeartbeats 2000000 in
theorem c_l_eqClock {w : World} (p_a : DClock) (p_b : DClock) : Cal Try.prog 57 #[.agg #[.int .i64 (p_a.Off)], .agg #[.int .i64 (p_b.Off)]] w fun v w' => v = .bool ((l_eqClock p_a p_b)) ∧ Ex w w' := by
  refine Cal.of (vs := [.agg #[.int .i64 (p_a.Off)], .agg #[.int .i64 (p_b.Off)]]) Try.func57 rfl Try.ntmps57 rfl ?_
  refine CW.seq ?_
  refine CW.region ?_
  refine SeqR.d1 rfl rfl rfl (yl_box (cs := [.int .i64 (p_a.Off)]) rfl rfl rfl ?_)
  intro b1 w2 hs3 hz4 hB5 hE6
  refine SeqR.d1 rfl rfl rfl (yl_box (cs := [.int .i64 (p_b.Off)]) rfl rfl rfl ?_)
  intro b7 w8 hs9 hz10 hB11 hE12
  refine SeqR.d1 rfl rfl rfl (yl_assign rfl rfl ?_)
  refine SeqR.done ?_
  refine tn ?_
  refine CW.seq ?_
  refine CW.seq ?_
  refine CW.region ?_
  refine SeqR.d1 rfl rfl rfl (yl_fieldAddr Try.fd33_0 rfl rfl ?_)
  have q13 := Box.ex hB5 hE12
  refine SeqR.d1 rfl rfl rfl (yl_load1 Try.ty3 rfl rfl ((q13.cell 0).trans rfl) ?_)
  refine SeqR.d1 rfl rfl rfl (yl_fieldAddr Try.fd33_0 rfl rfl ?_)
  refine SeqR.d1 rfl rfl rfl (yl_load1 Try.ty3 rfl rfl ((hB11.cell 0).trans rfl) ?_)
  refine SeqR.d1 rfl rfl rfl (yl_neq rfl rfl rfl ?_)
  refine SeqR.done ?_
  refine tn ?_
  refine bcase (decide (p_a.Off = p_b.Off)) (fun hb14 => ?_) (fun hb14 => ?_)
  · have hb14p := dec_t hb14
    refine CW.cond_f rfl (not_t hb14) ?_
    refine CW.skip ?_
    refine tn ?_
    refine CW.seq ?_
    refine CW.region ?_
    refine SeqR.d1 rfl rfl rfl (yl_assign rfl rfl ?_)
    refine SeqR.done ?_
    refine tn ?_
    refine CW.ret ?_
    refine rr rfl (.cons rfl .nil) ?_
    have hM15 : (l_eqClock p_a p_b) = (true) := by simp only [l_eqClock, hb14, cond_true, cond_false, loopE_done, loopE_ret]
    rw [hM15]
    have q16 := Ex.trans (Ex.refl w) hE6
    have q17 := Ex.trans q16 hE12
    exact ⟨rfl, q17⟩
  · have hb14p := dec_f hb14
    refine CW.cond_t rfl (not_f hb14) ?_
    refine CW.seq ?_
    refine CW.region ?_
    refine SeqR.d1 rfl rfl rfl (yl_assign rfl rfl ?_)
    refine SeqR.done ?_
    refine tn ?_
    refine CW.ret ?_
    refine tr ?_
    refine rr rfl (.cons rfl .nil) ?_
    have hM18 : (l_eqClock p_a p_b) = (false) := by simp only [l_eqClock, hb14, cond_true, cond_false, loopE_done, loopE_ret]
    rw [hM18]
    have q19 := Ex.trans (Ex.refl w) hE6
    have q20 := Ex.trans q19 hE12
    exact ⟨rfl, q20⟩
set_option maxRecDepth 100000 in
set_option maxHeartbeats 2000000 in
theorem c_l_eqClockS {A1 : Option Addr} {c1 : Nat} {A2 : Option Addr} {c2 : Nat} {w : World} (p_a : List DClock) (p_b : List DClock) (h1 : RdS w (Iv 0 w.heap.size) (RF e_Clock) 1 A1 p_a.length c1 p_a) (h2 : RdS w (Iv 0 w.heap.size) (RF e_Clock) 1 A2 p_b.length c2 p_b) : Cal Try.prog 58 #[.slice A1 p_a.length c1, .slice A2 p_b.length c2] w fun v w' => v = .bool ((l_eqClockS p_a p_b)) ∧ Ex w w' := by
  refine Cal.of (vs := [.slice A1 p_a.length c1, .slice A2 p_b.length c2]) Try.func58 rfl Try.ntmps58 rfl ?_
  refine CW.seq ?_
  refine CW.region ?_
  refine SeqR.d1 rfl rfl rfl (yl_assign rfl rfl ?_)
  refine SeqR.done ?_
  refine tn ?_
  refine CW.seq ?_
  refine CW.seq ?_
  refine CW.region ?_
  refine SeqR.d1 rfl rfl rfl (yl_move rfl rfl ?_)
  refine SeqR.d1 rfl rfl rfl (yl_len Try.un34 rfl rfl ?_)
  refine SeqR.d1 rfl rfl rfl (yl_move rfl rfl ?_)
  refine SeqR.d1 rfl rfl rfl (yl_len Try.un34 rfl rfl ?_)
  refine SeqR.d1 rfl rfl rfl (yl_neq rfl rfl rfl ?_)
  refine SeqR.done ?_
  refine tn ?_
  refine bcase (decide ((p_a.length : Int) = (p_b.length : Int))) (fun hb3 => ?_) (fun hb3 => ?_)
  · have hb3p := dec_t hb3
    refine CW.cond_f rfl (not_t hb3) ?_
    refine CW.skip ?_
    refine tn ?_
    refine CW.seq ?_
    refine CW.seq ?_
    refine CW.region ?_
    refine SeqR.d1 rfl rfl rfl (yl_assign rfl rfl ?_)
    refine SeqR.done ?_
    refine tn ?_
    refine CW.block ?_
    refine CW.loop (fun m5 L6 w7 => ∃ (k4 : Nat), m5 = p_a.length - k4 ∧ k4 ≤ p_a.length ∧ lkp L6 0 = some (.slice A1 p_a.length c1) ∧ lkp L6 1 = some (.slice A2 p_b.length c2) ∧ lkp L6 5 = some (.int .i64 ((k4 : Int))) ∧ RdS w7 (Iv 0 w.heap.size) (RF e_Clock) 1 A1 p_a.length c1 p_a ∧ RdS w7 (Iv 0 w.heap.size) (RF e_Clock) 1 A2 p_b.length c2 p_b ∧ Ex w w7 ∧ loopM (B_l_eqClockS_0 p_a p_b) (p_a.length - k4) k4 () = loopM (B_l_eqClockS_0 p_a p_b) (p_a.length - 0) 0 ()) (p_a.length - 0) ?_ ?_
    · exact ⟨0, rfl, (by omega), rfl, rfl, rfl, h1, h2, (Ex.refl w), rfl⟩
    · rintro m8 L9 w10 ⟨k4, rfl, hk11, hl13, hl14, hl15, hf16, hf17, hf18, hI12⟩
      refine CW.sub (Sub.cons hl13 (Sub.cons hl14 (Sub.cons hl15 (Sub.nil _)))) ?_
      have hf18z := Ex.size hf18
      have hbg19 := RdS.big hf16
      rcases Nat.lt_or_ge k4 p_a.length with hlt20 | hlt20
      · skip
        refine CW.seq ?_
        refine CW.seq ?_
        refine CW.region ?_
        refine SeqR.d1 rfl rfl rfl (yl_move rfl rfl ?_)
        refine SeqR.d1 rfl rfl rfl (yl_move rfl rfl ?_)
        refine SeqR.d1 rfl rfl rfl (yl_len Try.un34 rfl rfl ?_)
        refine SeqR.d1 rfl rfl rfl (yl_lss rfl rfl rfl ?_)
        refine SeqR.done ?_
        refine tn ?_
        refine CW.cond_t rfl (lt_t hlt20) ?_
        refine CW.skip ?_
        refine tn ?_
        refine CW.seq ?_
        refine CW.block ?_
        refine CW.seq ?_
        obtain ⟨eb21, eo21, ec21, eA21, eS21, ebl21, el21, eR21, eC21⟩ := RdS.atD hf16 d_Clock (i := k4) (by first | omega | assumption)
        obtain rfl := eR21
        have eC21 : Cells w10 eb21 (eo21 + k4 * 1) [.int .i64 ((p_a.getD k4 d_Clock).Off)] := eC21
        obtain ⟨eb22, eo22, ec22, eA22, eS22, ebl22, el22, eR22, eC22⟩ := RdS.atD hf17 d_Clock (i := k4) (by first | omega | assumption)
        obtain rfl := eR22
        have eC22 : Cells w10 eb22 (eo22 + k4 * 1) [.int .i64 ((p_b.getD k4 d_Clock).Off)] := eC22
        refine CW.drawsI 10 (vgetI [DetI (.slice A1 p_a.length c1), DetI (.int .i64 ((k4 : Int))), DetI (.pointer (some ⟨eb21, eo21 + k4 * 1, none⟩)), DetI (.agg #[.int .i64 ((p_a.getD k4 d_Clock).Off)]), DetI (.slice A2 p_b.length c2), DetI (.int .i64 ((k4 : Int))), DetI (.pointer (some ⟨eb22, eo22 + k4 * 1, none⟩)), DetI (.agg #[.int .i64 ((p_b.getD k4 d_Clock).Off)]), DetI (.bool ((l_eqClock (p_a.getD k4 d_Clock) (p_b.getD k4 d_Clock)))), DetI (.bool (!(l_eqClock (p_a.getD k4 d_Clock) (p_b.getD k4 d_Clock))))]) Try.follows rfl rfl rfl rfl rfl rfl (vgetI_stable ⟨StableI.det _, StableI.det _, StableI.det _, StableI.det _, StableI.det _, StableI.det _, StableI.det _, StableI.det _, StableI.det _, StableI.det _, trivial⟩) ⟨?_, ?_, ?_, ?_, ?_, ?_, ?_, ?_, ?_, ?_, trivial⟩ ?_
        · intro L24 w25 hi26
          have hE27 := hi26.ex
          have hE27z := Ex.size hE27
          have hx28 := hi26.old 0 _ rfl rfl
          exact OpR.op' rfl (Yl.sameI (yl_move rfl hx28 ⟨fun _ _ => rfl, rfl⟩))
        · intro L29 w30 hi31
          have hE32 := hi31.ex
          have hE32z := Ex.size hE32
          have hx33 := hi31.old 5 _ rfl rfl
          exact OpR.op' rfl (Yl.sameI (yl_move rfl hx33 ⟨fun _ _ => rfl, rfl⟩))
        · intro L34 w35 hi36
          have hE37 := hi36.ex
          have hE37z := Ex.size hE37
          obtain ⟨_, _, _, hx38, -, -, -, rfl⟩ := hi36.dep 0 17 rfl rfl
          obtain ⟨_, _, _, hx39, -, -, -, rfl⟩ := hi36.dep 1 18 rfl rfl
          exact OpR.op' rfl (Yl.sameI (yl_indexAddrN Try.un34 Try.ty33 rfl hx38 hx39 eA21 (by first | omega | assumption | (simp only [IntKind.wrap_i64] at *; omega)) ⟨fun _ _ => rfl, rfl⟩))
        · intro L40 w41 hi42
          have hE43 := hi42.ex
          have hE43z := Ex.size hE43
          obtain ⟨_, _, _, hx44, -, -, -, rfl⟩ := hi42.dep 2 19 rfl rfl
          have q45 := Cells.ex eC21 hE43
          exact OpR.op' rfl (Yl.sameI (yl_loadN (cs := [.int .i64 ((p_a.getD k4 d_Clock).Off)]) Try.ty33 rfl hx44 q45 rfl ⟨fun _ _ => rfl, rfl⟩))
        · intro L46 w47 hi48
          have hE49 := hi48.ex
          have hE49z := Ex.size hE49
          have hx50 := hi48.old 1 _ rfl rfl
          exact OpR.op' rfl (Yl.sameI (yl_move rfl hx50 ⟨fun _ _ => rfl, rfl⟩))
        · intro L51 w52 hi53
          have hE54 := hi53.ex
          have hE54z := Ex.size hE54
          have hx55 := hi53.old 5 _ rfl rfl
          exact OpR.op' rfl (Yl.sameI (yl_move rfl hx55 ⟨fun _ _ => rfl, rfl⟩))
        · intro L56 w57 hi58
          have hE59 := hi58.ex
          have hE59z := Ex.size hE59
          obtain ⟨_, _, _, hx60, -, -, -, rfl⟩ := hi58.dep 4 21 rfl rfl
          obtain ⟨_, _, _, hx61, -, -, -, rfl⟩ := hi58.dep 5 22 rfl rfl
          exact OpR.op' rfl (Yl.sameI (yl_indexAddrN Try.un34 Try.ty33 rfl hx60 hx61 eA22 (by first | omega | assumption | (simp only [IntKind.wrap_i64] at *; omega)) ⟨fun _ _ => rfl, rfl⟩))
        · intro L62 w63 hi64
          have hE65 := hi64.ex
          have hE65z := Ex.size hE65
          obtain ⟨_, _, _, hx66, -, -, -, rfl⟩ := hi64.dep 6 23 rfl rfl
          have q67 := Cells.ex eC22 hE65
          exact OpR.op' rfl (Yl.sameI (yl_loadN (cs := [.int .i64 ((p_b.getD k4 d_Clock).Off)]) Try.ty33 rfl hx66 q67 rfl ⟨fun _ _ => rfl, rfl⟩))
        · intro L68 w69 hi70
          have hE71 := hi70.ex
          have hE71z := Ex.size hE71
          obtain ⟨_, _, _, hx72, -, -, -, rfl⟩ := hi70.dep 3 20 rfl rfl
          obtain ⟨_, _, _, hx73, -, -, -, rfl⟩ := hi70.dep 7 24 rfl rfl
          refine OpR.op' rfl (yl_call Try.en57 rfl (opvs_cons hx72 (opvs_cons hx73 opvs_nil)) (Cal.mono (c_l_eqClock (p_a.getD k4 d_Clock) (p_b.getD k4 d_Clock)) ?_))
          rintro v75 w74 ⟨rfl, hE76⟩
          exact ⟨rfl, hE76⟩
        · intro L77 w78 hi79
          have hE80 := hi79.ex
          have hE80z := Ex.size hE80
          obtain ⟨_, _, _, hx81, -, -, -, rfl⟩ := hi79.dep 8 25 rfl rfl
          exact OpR.op' rfl (Yl.sameI (yl_not rfl hx81 ⟨fun _ _ => rfl, rfl⟩))
        · intro fl85 fh86 L82 w83 hp84
          have hE87 := hp84.ex
          have hE87z := Ex.size hE87
          have hx88 := hp84.old 0 _ rfl rfl
          have hx89 := hp84.old 1 _ rfl rfl
          have hx90 := hp84.old 5 _ rfl rfl
          obtain ⟨_, hx91, rfl⟩ := hp84.new 9 26 rfl rfl
          refine SeqR.done ?_
          refine tn ?_
          refine CW.sub (Sub.cons (d := 0) hx88 (Sub.cons (d := 1) hx89 (Sub.cons (d := 5) hx90 (Sub.cons (d := 26) hx91 (Sub.nil _))))) ?_
          refine bcase (l_eqClock (p_a.getD k4 d_Clock) (p_b.getD k4 d_Clock)) (fun hb92 => ?_) (fun hb92 => ?_)
          · skip
            refine CW.cond_f rfl (not_t hb92) ?_
            refine CW.skip ?_
            refine bn ?_
            refine tn ?_
            refine CW.region ?_
            refine SeqR.d1 rfl rfl rfl (yl_move rfl rfl ?_)
            refine SeqR.d1 rfl rfl rfl (yl_inc rfl rfl rfl (by omega) ?_)
            refine SeqR.d1 rfl rfl rfl (yl_assign rfl rfl ?_)
            refine SeqR.done ?_
            refine tn ?_
            have hB93 : B_l_eqClockS_0 p_a p_b k4 () = .cont () := by simp only [B_l_eqClockS_0, hb3, hb92, cond_true, cond_false, loopE_done, loopE_ret]
            have q94 := RdS.ex good_Clock hf16 hE87
            have q95 := RdS.ex good_Clock hf17 hE87
            have q96 := Ex.trans hf18 hE87
            exact ⟨p_a.length - (k4 + 1), by omega, k4 + 1, rfl, hlt20, rfl, rfl, rfl, q94, q95, q96, (loopM.cont hlt20 hB93).symm.trans hI12⟩
          · skip
            refine CW.cond_t rfl (not_f hb92) ?_
            refine CW.seq ?_
            refine CW.region ?_
            refine SeqR.d1 rfl rfl rfl (yl_assign rfl rfl ?_)
            refine SeqR.done ?_
            refine tn ?_
            refine CW.ret ?_
            refine br ?_
            refine tr ?_
            refine tr ?_
            have hB98 : B_l_eqClockS_0 p_a p_b k4 () = .ret false := by simp only [B_l_eqClockS_0, hb3, hb92, cond_true, cond_false, loopE_done, loopE_ret]
            have hL97 : loopM (B_l_eqClockS_0 p_a p_b) (p_a.length - 0) 0 () = .ret false := hI12.symm.trans (loopM.ret hlt20 hB98)
            refine br ?_
            refine tr ?_
            refine rr rfl (.cons rfl .nil) ?_
            have hM99 : (l_eqClockS p_a p_b) = (false) := by simp only [l_eqClockS, hb3, hb92, hL97, cond_true, cond_false, loopE_done, loopE_ret]
            rw [hM99]
            have q100 := Ex.trans hf18 hE87
            exact ⟨rfl, q100⟩
      · skip
        refine CW.seq ?_
        refine CW.seq ?_
        refine CW.region ?_
        refine SeqR.d1 rfl rfl rfl (yl_move rfl rfl ?_)
        refine SeqR.d1 rfl rfl rfl (yl_move rfl rfl ?_)
        refine SeqR.d1 rfl rfl rfl (yl_len Try.un34 rfl rfl ?_)
        refine SeqR.d1 rfl rfl rfl (yl_lss rfl rfl rfl ?_)
        refine SeqR.done ?_
        refine tn ?_
        refine CW.cond_f rfl (lt_f hlt20) ?_
        refine CW.exit ?_
        refine tx ?_
        refine tx ?_
        have hL101 : loopM (B_l_eqClockS_0 p_a p_b) (p_a.length - 0) 0 () = .done () := hI12.symm.trans (loopM.stop hlt20)
        refine bx ?_
        refine tn ?_
        refine CW.seq ?_
        refine CW.region ?_
        refine SeqR.d1 rfl rfl rfl (yl_assign rfl rfl ?_)
        refine SeqR.done ?_
        refine tn ?_
        refine CW.ret ?_
        refine rr rfl (.cons rfl .nil) ?_
        have hM102 : (l_eqClockS p_a p_b) = (true) := by simp only [l_eqClockS, hb3, hL101, cond_true, cond_false, loopE_done, loopE_ret]
        rw [hM102]
        exact ⟨rfl, hf18⟩
  · have hb3p := dec_f hb3
    refine CW.cond_t rfl (not_f hb3) ?_
    refine CW.seq ?_
    refine CW.region ?_
    refine SeqR.d1 rfl rfl rfl (yl_assign rfl rfl ?_)
    refine SeqR.done ?_
    refine tn ?_
    refine CW.ret ?_
    refine tr ?_
    refine rr rfl (.cons rfl .nil) ?_
    have hM103 : (l_eqClockS p_a p_b) = (false) := by simp only [l_eqClockS, hb3, cond_true, cond_false, loopE_done, loopE_ret]
    rw [hM103]
    exact ⟨rfl, (Ex.refl w)⟩
set_option maxRecDepth 100000 in
set_option maxHeartbeats 2000000 in
theorem c_l_eqVLease {w : World} (p_a : DVLease) (p_b : DVLease) : Cal Try.prog 101 #[.agg #[.int .i64 (p_a.Ver), .int .i64 (p_a.Until)], .agg #[.int .i64 (p_b.Ver), .int .i64 (p_b.Until)]] w fun v w' => v = .bool ((l_eqVLease p_a p_b)) ∧ Ex w w' := by
  refine Cal.of (vs := [.agg #[.int .i64 (p_a.Ver), .int .i64 (p_a.Until)], .agg #[.int .i64 (p_b.Ver), .int .i64 (p_b.Until)]]) Try.func101 rfl Try.ntmps101 rfl ?_
  refine CW.seq ?_
  refine CW.region ?_
  refine SeqR.d1 rfl rfl rfl (yl_box (cs := [.int .i64 (p_a.Ver), .int .i64 (p_a.Until)]) rfl rfl rfl ?_)
  intro b1 w2 hs3 hz4 hB5 hE6
  refine SeqR.d1 rfl rfl rfl (yl_box (cs := [.int .i64 (p_b.Ver), .int .i64 (p_b.Until)]) rfl rfl rfl ?_)
  intro b7 w8 hs9 hz10 hB11 hE12
  refine SeqR.d1 rfl rfl rfl (yl_assign rfl rfl ?_)
  refine SeqR.done ?_
  refine tn ?_
  refine CW.seq ?_
  refine CW.seq ?_
  refine CW.region ?_
  refine SeqR.d1 rfl rfl rfl (yl_fieldAddr Try.fd103_0 rfl rfl ?_)
  have q13 := Box.ex hB5 hE12
  refine SeqR.d1 rfl rfl rfl (yl_load1 Try.ty3 rfl rfl ((q13.cell 0).trans rfl) ?_)
  refine SeqR.d1 rfl rfl rfl (yl_fieldAddr Try.fd103_0 rfl rfl ?_)
  refine SeqR.d1 rfl rfl rfl (yl_load1 Try.ty3 rfl rfl ((hB11.cell 0).trans rfl) ?_)
  refine SeqR.d1 rfl rfl rfl (yl_neq rfl rfl rfl ?_)
  refine SeqR.done ?_
  refine tn ?_
  refine bcase (decide (p_a.Ver = p_b.Ver)) (fun hb14 => ?_) (fun hb14 => ?_)
  · have hb14p := dec_t hb14
    refine CW.cond_f rfl (not_t hb14) ?_
    refine CW.skip ?_
    refine tn ?_
    refine CW.seq ?_
    refine CW.seq ?_
    refine CW.region ?_
    refine SeqR.d1 rfl rfl rfl (yl_fieldAddr Try.fd103_1 rfl rfl ?_)
    refine SeqR.d1 rfl rfl rfl (yl_load1 Try.ty3 rfl rfl ((q13.cell 1).trans rfl) ?_)
    refine SeqR.d1 rfl rfl rfl (yl_fieldAddr Try.fd103_1 rfl rfl ?_)
    refine SeqR.d1 rfl rfl rfl (yl_load1 Try.ty3 rfl rfl ((hB11.cell 1).trans rfl) ?_)
    refine SeqR.d1 rfl rfl rfl (yl_neq rfl rfl rfl ?_)
    refine SeqR.done ?_
    refine tn ?_
    refine bcase (decide (p_a.Until = p_b.Until)) (fun hb15 => ?_) (fun hb15 => ?_)
    · have hb15p := dec_t hb15
      refine CW.cond_f rfl (not_t hb15) ?_
      refine CW.skip ?_
      refine tn ?_
      refine CW.seq ?_
      refine CW.region ?_
      refine SeqR.d1 rfl rfl rfl (yl_assign rfl rfl ?_)
      refine SeqR.done ?_
      refine tn ?_
      refine CW.ret ?_
      refine rr rfl (.cons rfl .nil) ?_
      have hM16 : (l_eqVLease p_a p_b) = (true) := by simp only [l_eqVLease, hb14, hb15, cond_true, cond_false, loopE_done, loopE_ret]
      rw [hM16]
      have q17 := Ex.trans (Ex.refl w) hE6
      have q18 := Ex.trans q17 hE12
      exact ⟨rfl, q18⟩
    · have hb15p := dec_f hb15
      refine CW.cond_t rfl (not_f hb15) ?_
      refine CW.seq ?_
      refine CW.region ?_
      refine SeqR.d1 rfl rfl rfl (yl_assign rfl rfl ?_)
      refine SeqR.done ?_
      refine tn ?_
      refine CW.ret ?_
      refine tr ?_
      refine rr rfl (.cons rfl .nil) ?_
      have hM19 : (l_eqVLease p_a p_b) = (false) := by simp only [l_eqVLease, hb14, hb15, cond_true, cond_false, loopE_done, loopE_ret]
      rw [hM19]
      have q20 := Ex.trans (Ex.refl w) hE6
      have q21 := Ex.trans q20 hE12
      exact ⟨rfl, q21⟩
  · have hb14p := dec_f hb14
    refine CW.cond_t rfl (not_f hb14) ?_
    refine CW.seq ?_
    refine CW.region ?_
    refine SeqR.d1 rfl rfl rfl (yl_assign rfl rfl ?_)
    refine SeqR.done ?_
    refine tn ?_
    refine CW.ret ?_
    refine tr ?_
    refine rr rfl (.cons rfl .nil) ?_
    have hM22 : (l_eqVLease p_a p_b) = (false) := by simp only [l_eqVLease, hb14, cond_true, cond_false, loopE_done, loopE_ret]
    rw [hM22]
    have q23 := Ex.trans (Ex.refl w) hE6
    have q24 := Ex.trans q23 hE12
    exact ⟨rfl, q24⟩
set_option maxRecDepth 100000 in
set_option maxHeartbeats 2000000 in
theorem c_l_eqVLeaseS {A1 : Option Addr} {c1 : Nat} {A2 : Option Addr} {c2 : Nat} {w : World} (p_a : List DVLease) (p_b : List DVLease) (h1 : RdS w (Iv 0 w.heap.size) (RF e_VLease) 2 A1 p_a.length c1 p_a) (h2 : RdS w (Iv 0 w.heap.size) (RF e_VLease) 2 A2 p_b.length c2 p_b) : Cal Try.prog 59 #[.slice A1 p_a.length c1, .slice A2 p_b.length c2] w fun v w' => v = .bool ((l_eqVLeaseS p_a p_b)) ∧ Ex w w' := by
  refine Cal.of (vs := [.slice A1 p_a.length c1, .slice A2 p_b.length c2]) Try.func59 rfl Try.ntmps59 rfl ?_
  refine CW.seq ?_
  refine CW.region ?_
  refine SeqR.d1 rfl rfl rfl (yl_assign rfl rfl ?_)
  refine SeqR.done ?_
  refine tn ?_
  refine CW.seq ?_
  refine CW.seq ?_
  refine CW.region ?_
  refine SeqR.d1 rfl rfl rfl (yl_move rfl rfl ?_)
  refine SeqR.d1 rfl rfl rfl (yl_len Try.un35 rfl rfl ?_)
  refine SeqR.d1 rfl rfl rfl (yl_move rfl rfl ?_)
  refine SeqR.d1 rfl rfl rfl (yl_len Try.un35 rfl rfl ?_)
  refine SeqR.d1 rfl rfl rfl (yl_neq rfl rfl rfl ?_)
  refine SeqR.done ?_
  refine tn ?_
  refine bcase (decide ((p_a.length : Int) = (p_b.length : Int))) (fun hb3 => ?_) (fun hb3 => ?_)
  · have hb3p := dec_t hb3
    refine CW.cond_f rfl (not_t hb3) ?_
    refine CW.skip ?_
    refine tn ?_
    refine CW.seq ?_
    refine CW.seq ?_
    refine CW.region ?_
    refine SeqR.d1 rfl rfl rfl (yl_assign rfl rfl ?_)
    refine SeqR.done ?_
    refine tn ?_
    refine CW.block ?_
    refine CW.loop (fun m5 L6 w7 => ∃ (k4 : Nat), m5 = p_a.length - k4 ∧ k4 ≤ p_a.length ∧ lkp L6 0 = some (.slice A1 p_a.length c1) ∧ lkp L6 1 = some (.slice A2 p_b.length c2) ∧ lkp L6 5 = some (.int .i64 ((k4 : Int))) ∧ RdS w7 (Iv 0 w.heap.size) (RF e_VLease) 2 A1 p_a.length c1 p_a ∧ RdS w7 (Iv 0 w.heap.size) (RF e_VLease) 2 A2 p_b.length c2 p_b ∧ Ex w w7 ∧ loopM (B_l_eqVLeaseS_0 p_a p_b) (p_a.length - k4) k4 () = loopM (B_l_eqVLeaseS_0 p_a p_b) (p_a.length - 0) 0 ()) (p_a.length - 0) ?_ ?_
    · exact ⟨0, rfl, (by omega), rfl, rfl, rfl, h1, h2, (Ex.refl w), rfl⟩
    · rintro m8 L9 w10 ⟨k4, rfl, hk11, hl13, hl14, hl15, hf16, hf17, hf18, hI12⟩
      refine CW.sub (Sub.cons hl13 (Sub.cons hl14 (Sub.cons hl15 (Sub.nil _)))) ?_
      have hf18z := Ex.size hf18
      have hbg19 := RdS.big hf16
      rcases Nat.lt_or_ge k4 p_a.length with hlt20 | hlt20
      · skip
        refine CW.seq ?_
        refine CW.seq ?_
        refine CW.region ?_
        refine SeqR.d1 rfl rfl rfl (yl_move rfl rfl ?_)
        refine SeqR.d1 rfl rfl rfl (yl_move rfl rfl ?_)
        refine SeqR.d1 rfl rfl rfl (yl_len Try.un35 rfl rfl ?_)
        refine SeqR.d1 rfl rfl rfl (yl_lss rfl rfl rfl ?_)
        refine SeqR.done ?_
        refine tn ?_
        refine CW.cond_t rfl (lt_t hlt20) ?_
        refine CW.skip ?_
        refine tn ?_
        refine CW.seq ?_
        refine CW.block ?_
        refine CW.seq ?_
        obtain ⟨eb21, eo21, ec21, eA21, eS21, ebl21, el21, eR21, eC21⟩ := RdS.atD hf16 d_VLease (i := k4) (by first | omega | assumption)
        obtain rfl := eR21
        have eC21 : Cells w10 eb21 (eo21 + k4 * 2) [.int .i64 ((p_a.getD k4 d_VLease).Ver), .int .i64 ((p_a.getD k4 d_VLease).Until)] := eC21
        obtain ⟨eb22, eo22, ec22, eA22, eS22, ebl22, el22, eR22, eC22⟩ := RdS.atD hf17 d_VLease (i := k4) (by first | omega | assumption)
        obtain rfl := eR22
        have eC22 : Cells w10 eb22 (eo22 + k4 * 2) [.int .i64 ((p_b.getD k4 d_VLease).Ver), .int .i64 ((p_b.getD k4 d_VLease).Until)] := eC22
        refine CW.drawsI 10 (vgetI [DetI (.slice A1 p_a.length c1), DetI (.int .i64 ((k4 : Int))), DetI (.pointer (some ⟨eb21, eo21 + k4 * 2, none⟩)), DetI (.agg #[.int .i64 ((p_a.getD k4 d_VLease).Ver), .int .i64 ((p_a.getD k4 d_VLease).Until)]), DetI (.slice A2 p_b.length c2), DetI (.int .i64 ((k4 : Int))), DetI (.pointer (some ⟨eb22, eo22 + k4 * 2, none⟩)), DetI (.agg #[.int .i64 ((p_b.getD k4 d_VLease).Ver), .int .i64 ((p_b.getD k4 d_VLease).Until)]), DetI (.bool ((l_eqVLease (p_a.getD k4 d_VLease) (p_b.getD k4 d_VLease)))), DetI (.bool (!(l_eqVLease (p_a.getD k4 d_VLease) (p_b.getD k4 d_VLease))))]) Try.follows rfl rfl rfl rfl rfl rfl (vgetI_stable ⟨StableI.det _, StableI.det _, StableI.det _, StableI.det _, StableI.det _, StableI.det _, StableI.det _, StableI.det _, StableI.det _, StableI.det _, trivial⟩) ⟨?_, ?_, ?_, ?_, ?_, ?_, ?_, ?_, ?_, ?_, trivial⟩ ?_
        · intro L24 w25 hi26
          have hE27 := hi26.ex
          have hE27z := Ex.size hE27
          have hx28 := hi26.old 0 _ rfl rfl
          exact OpR.op' rfl (Yl.sameI (yl_move rfl hx28 ⟨fun _ _ => rfl, rfl⟩))
        · intro L29 w30 hi31
          have hE32 := hi31.ex
          have hE32z := Ex.size hE32
          have hx33 := hi31.old 5 _ rfl rfl
          exact OpR.op' rfl (Yl.sameI (yl_move rfl hx33 ⟨fun _ _ => rfl, rfl⟩))
        · intro L34 w35 hi36
          have hE37 := hi36.ex
          have hE37z := Ex.size hE37
          obtain ⟨_, _, _, hx38, -, -, -, rfl⟩ := hi36.dep 0 17 rfl rfl
          obtain ⟨_, _, _, hx39, -, -, -, rfl⟩ := hi36.dep 1 18 rfl rfl
          exact OpR.op' rfl (Yl.sameI (yl_indexAddrN Try.un35 Try.ty103 rfl hx38 hx39 eA21 (by first | omega | assumption | (simp only [IntKind.wrap_i64] at *; omega)) ⟨fun _ _ => rfl, rfl⟩))
        · intro L40 w41 hi42
          have hE43 := hi42.ex
          have hE43z := Ex.size hE43
          obtain ⟨_, _, _, hx44, -, -, -, rfl⟩ := hi42.dep 2 19 rfl rfl
          have q45 := Cells.ex eC21 hE43
          exact OpR.op' rfl (Yl.sameI (yl_loadN (cs := [.int .i64 ((p_a.getD k4 d_VLease).Ver), .int .i64 ((p_a.getD k4 d_VLease).Until)]) Try.ty103 rfl hx44 q45 rfl ⟨fun _ _ => rfl, rfl⟩))
        · intro L46 w47 hi48
          have hE49 := hi48.ex
          have hE49z := Ex.size hE49
          have hx50 := hi48.old 1 _ rfl rfl
          exact OpR.op' rfl (Yl.sameI (yl_move rfl hx50 ⟨fun _ _ => rfl, rfl⟩))
        · intro L51 w52 hi53
          have hE54 := hi53.ex
          have hE54z := Ex.size hE54
          have hx55 := hi53.old 5 _ rfl rfl
          exact OpR.op' rfl (Yl.sameI (yl_move rfl hx55 ⟨fun _ _ => rfl, rfl⟩))
        · intro L56 w57 hi58
          have hE59 := hi58.ex
          have hE59z := Ex.size hE59
          obtain ⟨_, _, _, hx60, -, -, -, rfl⟩ := hi58.dep 4 21 rfl rfl
          obtain ⟨_, _, _, hx61, -, -, -, rfl⟩ := hi58.dep 5 22 rfl rfl
          exact OpR.op' rfl (Yl.sameI (yl_indexAddrN Try.un35 Try.ty103 rfl hx60 hx61 eA22 (by first | omega | assumption | (simp only [IntKind.wrap_i64] at *; omega)) ⟨fun _ _ => rfl, rfl⟩))
        · intro L62 w63 hi64
          have hE65 := hi64.ex
          have hE65z := Ex.size hE65
          obtain ⟨_, _, _, hx66, -, -, -, rfl⟩ := hi64.dep 6 23 rfl rfl
          have q67 := Cells.ex eC22 hE65
          exact OpR.op' rfl (Yl.sameI (yl_loadN (cs := [.int .i64 ((p_b.getD k4 d_VLease).Ver), .int .i64 ((p_b.getD k4 d_VLease).Until)]) Try.ty103 rfl hx66 q67 rfl ⟨fun _ _ => rfl, rfl⟩))
        · intro L68 w69 hi70
          have hE71 := hi70.ex
          have hE71z := Ex.size hE71
          obtain ⟨_, _, _, hx72, -, -, -, rfl⟩ := hi70.dep 3 20 rfl rfl
          obtain ⟨_, _, _, hx73, -, -, -, rfl⟩ := hi70.dep 7 24 rfl rfl
          refine OpR.op' rfl (yl_call Try.en101 rfl (opvs_cons hx72 (opvs_cons hx73 opvs_nil)) (Cal.mono (c_l_eqVLease (p_a.getD k4 d_VLease) (p_b.getD k4 d_VLease)) ?_))
          rintro v75 w74 ⟨rfl, hE76⟩
          exact ⟨rfl, hE76⟩
        · intro L77 w78 hi79
          have hE80 := hi79.ex
          have hE80z := Ex.size hE80
          obtain ⟨_, _, _, hx81, -, -, -, rfl⟩ := hi79.dep 8 25 rfl rfl
          exact OpR.op' rfl (Yl.sameI (yl_not rfl hx81 ⟨fun _ _ => rfl, rfl⟩))
        · intro fl85 fh86 L82 w83 hp84
          have hE87 := hp84.ex
          have hE87z := Ex.size hE87
          have hx88 := hp84.old 0 _ rfl rfl
          have hx89 := hp84.old 1 _ rfl rfl
          have hx90 := hp84.old 5 _ rfl rfl
          obtain ⟨_, hx91, rfl⟩ := hp84.new 9 26 rfl rfl
          refine SeqR.done ?_
          refine tn ?_
          refine CW.sub (Sub.cons (d := 0) hx88 (Sub.cons (d := 1) hx89 (Sub.cons (d := 5) hx90 (Sub.cons (d := 26) hx91 (Sub.nil _))))) ?_
          refine bcase (l_eqVLease (p_a.getD k4 d_VLease) (p_b.getD k4 d_VLease)) (fun hb92 => ?_) (fun hb92 => ?_)
          · skip
            refine CW.cond_f rfl (not_t hb92) ?_
            refine CW.skip ?_
            refine bn ?_
            refine tn ?_
            refine CW.region ?_
            refine SeqR.d1 rfl rfl rfl (yl_move rfl rfl ?_)
            refine SeqR.d1 rfl rfl rfl (yl_inc rfl rfl rfl (by omega) ?_)
            refine SeqR.d1 rfl rfl rfl (yl_assign rfl rfl ?_)
            refine SeqR.done ?_
            refine tn ?_
            have hB93 : B_l_eqVLeaseS_0 p_a p_b k4 () = .cont () := by simp only [B_l_eqVLeaseS_0, hb3, hb92, cond_true, cond_false, loopE_done, loopE_ret]
            have q94 := RdS.ex good_VLease hf16 hE87
            have q95 := RdS.ex good_VLease hf17 hE87
            have q96 := Ex.trans hf18 hE87
            exact ⟨p_a.length - (k4 + 1), by omega, k4 + 1, rfl, hlt20, rfl, rfl, rfl, q94, q95, q96, (loopM.cont hlt20 hB93).symm.trans hI12⟩
          · skip
            refine CW.cond_t rfl (not_f hb92) ?_
            refine CW.seq ?_
            refine CW.region ?_
            refine SeqR.d1 rfl rfl rfl (yl_assign rfl rfl ?_)
            refine SeqR.done ?_
            refine tn ?_
            refine CW.ret ?_
            refine br ?_
            refine tr ?_
            refine tr ?_
            have hB98 : B_l_eqVLeaseS_0 p_a p_b k4 () = .ret false := by simp only [B_l_eqVLeaseS_0, hb3, hb92, cond_true, cond_false, loopE_done, loopE_ret]
            have hL97 : loopM (B_l_eqVLeaseS_0 p_a p_b) (p_a.length - 0) 0 () = .ret false := hI12.symm.trans (loopM.ret hlt20 hB98)
            refine br ?_
            refine tr ?_
            refine rr rfl (.cons rfl .nil) ?_
            have hM99 : (l_eqVLeaseS p_a p_b) = (false) := by simp only [l_eqVLeaseS, hb3, hb92, hL97, cond_true, cond_false, loopE_done, loopE_ret]
            rw [hM99]
            have q100 := Ex.trans hf18 hE87
            exact ⟨rfl, q100⟩
      · skip
        refine CW.seq ?_
        refine CW.seq ?_
        refine CW.region ?_
        refine SeqR.d1 rfl rfl rfl (yl_move rfl rfl ?_)
        refine SeqR.d1 rfl rfl rfl (yl_move rfl rfl ?_)
        refine SeqR.d1 rfl rfl rfl (yl_len Try.un35 rfl rfl ?_)
        refine SeqR.d1 rfl rfl rfl (yl_lss rfl rfl rfl ?_)
        refine SeqR.done ?_
        refine tn ?_
        refine CW.cond_f rfl (lt_f hlt20) ?_
        refine CW.exit ?_
        refine tx ?_
        refine tx ?_
        have hL101 : loopM (B_l_eqVLeaseS_0 p_a p_b) (p_a.length - 0) 0 () = .done () := hI12.symm.trans (loopM.stop hlt20)
        refine bx ?_
        refine tn ?_
        refine CW.seq ?_
        refine CW.region ?_
        refine SeqR.d1 rfl rfl rfl (yl_assign rfl rfl ?_)
        refine SeqR.done ?_
        refine tn ?_
        refine CW.ret ?_
        refine rr rfl (.cons rfl .nil) ?_
        have hM102 : (l_eqVLeaseS p_a p_b) = (true) := by simp only [l_eqVLeaseS, hb3, hL101, cond_true, cond_false, loopE_done, loopE_ret]
        rw [hM102]
        exact ⟨rfl, hf18⟩
  · have hb3p := dec_f hb3
    refine CW.cond_t rfl (not_f hb3) ?_
    refine CW.seq ?_
    refine CW.region ?_
    refine SeqR.d1 rfl rfl rfl (yl_assign rfl rfl ?_)
    refine SeqR.done ?_
    refine tn ?_
    refine CW.ret ?_
    refine tr ?_
    refine rr rfl (.cons rfl .nil) ?_
    have hM103 : (l_eqVLeaseS p_a p_b) = (false) := by simp only [l_eqVLeaseS, hb3, cond_true, cond_false, loopE_done, loopE_ret]
    rw [hM103]
    exact ⟨rfl, (Ex.refl w)⟩
set_option maxRecDepth 100000 in
set_option maxHeartbeats 2000000 in
theorem c_l_eqRenew {A1 : Option Addr} {c1 : Nat} {A2 : Option Addr} {c2 : Nat} {A3 : Option Addr} {c3 : Nat} {A4 : Option Addr} {c4 : Nat} {w : World} (p_a : DRenew) (p_b : DRenew) (h1 : RdS w (Iv 0 w.heap.size) (RF e_Clock) 1 A1 p_a.Clocks.length c1 p_a.Clocks) (h2 : RdS w (Iv 0 w.heap.size) (RF e_VLease) 2 A2 p_a.Leases.length c2 p_a.Leases) (h3 : RdS w (Iv 0 w.heap.size) (RF e_Clock) 1 A3 p_b.Clocks.length c3 p_b.Clocks) (h4 : RdS w (Iv 0 w.heap.size) (RF e_VLease) 2 A4 p_b.Leases.length c4 p_b.Leases) : Cal Try.prog 21 #[.agg #[.int .i64 (p_a.Now), .int .i64 (p_a.Master.Off), .slice A1 p_a.Clocks.length c1, .int .i64 (p_a.Ver), .slice A2 p_a.Leases.length c2], .agg #[.int .i64 (p_b.Now), .int .i64 (p_b.Master.Off), .slice A3 p_b.Clocks.length c3, .int .i64 (p_b.Ver), .slice A4 p_b.Leases.length c4]] w fun v w' => v = .bool ((l_eqRenew p_a p_b)) ∧ Ex w w' := by
  refine Cal.of (vs := [.agg #[.int .i64 (p_a.Now), .int .i64 (p_a.Master.Off), .slice A1 p_a.Clocks.length c1, .int .i64 (p_a.Ver), .slice A2 p_a.Leases.length c2], .agg #[.int .i64 (p_b.Now), .int .i64 (p_b.Master.Off), .slice A3 p_b.Clocks.length c3, .int .i64 (p_b.Ver), .slice A4 p_b.Leases.length c4]]) Try.func21 rfl Try.ntmps21 rfl ?_
  refine CW.seq ?_
  refine CW.region ?_
  refine SeqR.d1 rfl rfl rfl (yl_box (cs := [.int .i64 (p_a.Now), .int .i64 (p_a.Master.Off), .slice A1 p_a.Clocks.length c1, .int .i64 (p_a.Ver), .slice A2 p_a.Leases.length c2]) rfl rfl rfl ?_)
  intro b5 w6 hs7 hz8 hB9 hE10
  refine SeqR.d1 rfl rfl rfl (yl_box (cs := [.int .i64 (p_b.Now), .int .i64 (p_b.Master.Off), .slice A3 p_b.Clocks.length c3, .int .i64 (p_b.Ver), .slice A4 p_b.Leases.length c4]) rfl rfl rfl ?_)
  intro b11 w12 hs13 hz14 hB15 hE16
  refine SeqR.d1 rfl rfl rfl (yl_assign rfl rfl ?_)
  refine SeqR.done ?_
  refine tn ?_
  refine CW.seq ?_
  refine CW.seq ?_
  refine CW.region ?_
  refine SeqR.d1 rfl rfl rfl (yl_fieldAddr Try.fd37_0 rfl rfl ?_)
  have q17 := Box.ex hB9 hE16
  refine SeqR.d1 rfl rfl rfl (yl_load1 Try.ty3 rfl rfl ((q17.cell 0).trans rfl) ?_)
  refine SeqR.d1 rfl rfl rfl (yl_fieldAddr Try.fd37_0 rfl rfl ?_)
  refine SeqR.d1 rfl rfl rfl (yl_load1 Try.ty3 rfl rfl ((hB15.cell 0).trans rfl) ?_)
  refine SeqR.d1 rfl rfl rfl (yl_neq rfl rfl rfl ?_)
  refine SeqR.done ?_
  refine tn ?_
  refine bcase (decide (p_a.Now = p_b.Now)) (fun hb18 => ?_) (fun hb18 => ?_)
  · have hb18p := dec_t hb18
    refine CW.cond_f rfl (not_t hb18) ?_
    refine CW.skip ?_
    refine tn ?_
    refine CW.seq ?_
    refine CW.seq ?_
    refine CW.region ?_
    refine SeqR.d1 rfl rfl rfl (yl_fieldAddr Try.fd37_1 rfl rfl ?_)
    refine SeqR.d1 rfl rfl rfl (yl_loadN (cs := [.int .i64 (p_a.Master.Off)]) Try.ty33 rfl rfl (q17.cells (n := 1) rfl) rfl ?_)
    refine SeqR.d1 rfl rfl rfl (yl_fieldAddr Try.fd37_1 rfl rfl ?_)
    refine SeqR.d1 rfl rfl rfl (yl_loadN (cs := [.int .i64 (p_b.Master.Off)]) Try.ty33 rfl rfl (hB15.cells (n := 1) rfl) rfl ?_)
    refine SeqR.d1 rfl rfl rfl (yl_call Try.en57 rfl (opvs_cons rfl (opvs_cons rfl opvs_nil)) (Cal.mono (c_l_eqClock p_a.Master p_b.Master) ?_))
    rintro v20 w19 ⟨rfl, hE21⟩
    have hE21z := Ex.size hE21
    refine SeqR.d1 rfl rfl rfl (yl_not rfl rfl ?_)
    refine SeqR.done ?_
    refine tn ?_
    refine bcase (l_eqClock p_a.Master p_b.Master) (fun hb22 => ?_) (fun hb22 => ?_)
    · skip
      refine CW.cond_f rfl (not_t hb22) ?_
      refine CW.skip ?_
      refine tn ?_
      refine CW.seq ?_
      refine CW.seq ?_
      refine CW.region ?_
      refine SeqR.d1 rfl rfl rfl (yl_fieldAddr Try.fd37_2 rfl rfl ?_)
      have q23 := Box.ex q17 hE21
      refine SeqR.d1 rfl rfl rfl (yl_load1 Try.ty34 rfl rfl ((q23.cell 2).trans rfl) ?_)
      refine SeqR.d1 rfl rfl rfl (yl_fieldAddr Try.fd37_2 rfl rfl ?_)
      have q24 := Box.ex hB15 hE21
      refine SeqR.d1 rfl rfl rfl (yl_load1 Try.ty34 rfl rfl ((q24.cell 2).trans rfl) ?_)
      have q25 := RdS.ex good_Clock h1 hE10
      have q26 := RdS.ex good_Clock q25 hE16
      have q27 := RdS.ex good_Clock q26 hE21
      have q28 := RdS.ex good_Clock h3 hE10
      have q29 := RdS.ex good_Clock q28 hE16
      have q30 := RdS.ex good_Clock q29 hE21
      refine SeqR.d1 rfl rfl rfl (yl_call Try.en58 rfl (opvs_cons rfl (opvs_cons rfl opvs_nil)) (Cal.mono (c_l_eqClockS p_a.Clocks p_b.Clocks (RdS.up q27 good_Clock) (RdS.up q30 good_Clock)) ?_))
      rintro v32 w31 ⟨rfl, hE33⟩
      have hE33z := Ex.size hE33
      refine SeqR.d1 rfl rfl rfl (yl_not rfl rfl ?_)
      refine SeqR.done ?_
      refine tn ?_
      refine bcase (l_eqClockS p_a.Clocks p_b.Clocks) (fun hb34 => ?_) (fun hb34 => ?_)
      · skip
        refine CW.cond_f rfl (not_t hb34) ?_
        refine CW.skip ?_
        refine tn ?_
        refine CW.seq ?_
        refine CW.seq ?_
        refine CW.region ?_
        refine SeqR.d1 rfl rfl rfl (yl_fieldAddr Try.fd37_3 rfl rfl ?_)
        have q35 := Box.ex q23 hE33
        refine SeqR.d1 rfl rfl rfl (yl_load1 Try.ty3 rfl rfl ((q35.cell 3).trans rfl) ?_)
        refine SeqR.d1 rfl rfl rfl (yl_fieldAddr Try.fd37_3 rfl rfl ?_)
        have q36 := Box.ex q24 hE33
        refine SeqR.d1 rfl rfl rfl (yl_load1 Try.ty3 rfl rfl ((q36.cell 3).trans rfl) ?_)
        refine SeqR.d1 rfl rfl rfl (yl_neq rfl rfl rfl ?_)
        refine SeqR.done ?_
        refine tn ?_
        refine bcase (decide (p_a.Ver = p_b.Ver)) (fun hb37 => ?_) (fun hb37 => ?_)
        · have hb37p := dec_t hb37
          refine CW.cond_f rfl (not_t hb37) ?_
          refine CW.skip ?_
          refine tn ?_
          refine CW.seq ?_
          refine CW.seq ?_
          refine CW.region ?_
          refine SeqR.d1 rfl rfl rfl (yl_fieldAddr Try.fd37_4 rfl rfl ?_)
          refine SeqR.d1 rfl rfl rfl (yl_load1 Try.ty35 rfl rfl ((q35.cell 4).trans rfl) ?_)
          refine SeqR.d1 rfl rfl rfl (yl_fieldAddr Try.fd37_4 rfl rfl ?_)
          refine SeqR.d1 rfl rfl rfl (yl_load1 Try.ty35 rfl rfl ((q36.cell 4).trans rfl) ?_)
          have q38 := RdS.ex good_VLease h2 hE10
          have q39 := RdS.ex good_VLease q38 hE16
          have q40 := RdS.ex good_VLease q39 hE21
          have q41 := RdS.ex good_VLease q40 hE33
          have q42 := RdS.ex good_VLease h4 hE10
          have q43 := RdS.ex good_VLease q42 hE16
          have q44 := RdS.ex good_VLease q43 hE21
          have q45 := RdS.ex good_VLease q44 hE33
          refine SeqR.d1 rfl rfl rfl (yl_call Try.en59 rfl (opvs_cons rfl (opvs_cons rfl opvs_nil)) (Cal.mono (c_l_eqVLeaseS p_a.Leases p_b.Leases (RdS.up q41 good_VLease) (RdS.up q45 good_VLease)) ?_))
          rintro v47 w46 ⟨rfl, hE48⟩
          have hE48z := Ex.size hE48
          refine SeqR.d1 rfl rfl rfl (yl_not rfl rfl ?_)
          refine SeqR.done ?_
          refine tn ?_
          refine bcase (l_eqVLeaseS p_a.Leases p_b.Leases) (fun hb49 => ?_) (fun hb49 => ?_)
          · skip
            refine CW.cond_f rfl (not_t hb49) ?_
            refine CW.skip ?_
            refine tn ?_
            refine CW.seq ?_
            refine CW.region ?_
            refine SeqR.d1 rfl rfl rfl (yl_assign rfl rfl ?_)
            refine SeqR.done ?_
            refine tn ?_
            refine CW.ret ?_
            refine rr rfl (.cons rfl .nil) ?_
            have hM50 : (l_eqRenew p_a p_b) = (true) := by simp only [l_eqRenew, hb18, hb22, hb34, hb37, hb49, cond_true, cond_false, loopE_done, loopE_ret]
            rw [hM50]
            have q51 := Ex.trans (Ex.refl w) hE10
            have q52 := Ex.trans q51 hE16
            have q53 := Ex.trans q52 hE21
            have q54 := Ex.trans q53 hE33
            have q55 := Ex.trans q54 hE48
            exact ⟨rfl, q55⟩
          · skip
            refine CW.cond_t rfl (not_f hb49) ?_
            refine CW.seq ?_
            refine CW.region ?_
            refine SeqR.d1 rfl rfl rfl (yl_assign rfl rfl ?_)
            refine SeqR.done ?_
            refine tn ?_
            refine CW.ret ?_
            refine tr ?_
            refine rr rfl (.cons rfl .nil) ?_
            have hM56 : (l_eqRenew p_a p_b) = (false) := by simp only [l_eqRenew, hb18, hb22, hb34, hb37, hb49, cond_true, cond_false, loopE_done, loopE_ret]
            rw [hM56]
            have q57 := Ex.trans (Ex.refl w) hE10
            have q58 := Ex.trans q57 hE16
            have q59 := Ex.trans q58 hE21
            have q60 := Ex.trans q59 hE33
            have q61 := Ex.trans q60 hE48
            exact ⟨rfl, q61⟩
        · have hb37p := dec_f hb37
          refine CW.cond_t rfl (not_f hb37) ?_
          refine CW.seq ?_
          refine CW.region ?_
          refine SeqR.d1 rfl rfl rfl (yl_assign rfl rfl ?_)
          refine SeqR.done ?_
          refine tn ?_
          refine CW.ret ?_
          refine tr ?_
          refine rr rfl (.cons rfl .nil) ?_
          have hM62 : (l_eqRenew p_a p_b) = (false) := by simp only [l_eqRenew, hb18, hb22, hb34, hb37, cond_true, cond_false, loopE_done, loopE_ret]
          rw [hM62]
          have q63 := Ex.trans (Ex.refl w) hE10
          have q64 := Ex.trans q63 hE16
          have q65 := Ex.trans q64 hE21
          have q66 := Ex.trans q65 hE33
          exact ⟨rfl, q66⟩
      · skip
        refine CW.cond_t rfl (not_f hb34) ?_
        refine CW.seq ?_
        refine CW.region ?_
        refine SeqR.d1 rfl rfl rfl (yl_assign rfl rfl ?_)
        refine SeqR.done ?_
        refine tn ?_
        refine CW.ret ?_
        refine tr ?_
        refine rr rfl (.cons rfl .nil) ?_
        have hM67 : (l_eqRenew p_a p_b) = (false) := by simp only [l_eqRenew, hb18, hb22, hb34, cond_true, cond_false, loopE_done, loopE_ret]
        rw [hM67]
        have q68 := Ex.trans (Ex.refl w) hE10
        have q69 := Ex.trans q68 hE16
        have q70 := Ex.trans q69 hE21
        have q71 := Ex.trans q70 hE33
        exact ⟨rfl, q71⟩
    · skip
      refine CW.cond_t rfl (not_f hb22) ?_
      refine CW.seq ?_
      refine CW.region ?_
      refine SeqR.d1 rfl rfl rfl (yl_assign rfl rfl ?_)
      refine SeqR.done ?_
      refine tn ?_
      refine CW.ret ?_
      refine tr ?_
      refine rr rfl (.cons rfl .nil) ?_
      have hM72 : (l_eqRenew p_a p_b) = (false) := by simp only [l_eqRenew, hb18, hb22, cond_true, cond_false, loopE_done, loopE_ret]
      rw [hM72]
      have q73 := Ex.trans (Ex.refl w) hE10
      have q74 := Ex.trans q73 hE16
      have q75 := Ex.trans q74 hE21
      exact ⟨rfl, q75⟩
  · have hb18p := dec_f hb18
    refine CW.cond_t rfl (not_f hb18) ?_
    refine CW.seq ?_
    refine CW.region ?_
    refine SeqR.d1 rfl rfl rfl (yl_assign rfl rfl ?_)
    refine SeqR.done ?_
    refine tn ?_
    refine CW.ret ?_
    refine tr ?_
    refine rr rfl (.cons rfl .nil) ?_
    have hM76 : (l_eqRenew p_a p_b) = (false) := by simp only [l_eqRenew, hb18, cond_true, cond_false, loopE_done, loopE_ret]
    rw [hM76]
    have q77 := Ex.trans (Ex.refl w) hE10
    have q78 := Ex.trans q77 hE16
    exact ⟨rfl, q78⟩
set_option maxRecDepth 100000 in
set_option maxHeartbeats 2000000 in
theorem c_l_szClockS {A1 : Option Addr} {c1 : Nat} {w : World} (p_a : List DClock) (p_left : Int) (h1 : RdS w (Iv 0 w.heap.size) (RF e_Clock) 1 A1 p_a.length c1 p_a) : Cal Try.prog 64 #[.slice A1 p_a.length c1, .int .i64 (p_left)] w fun v w' => v = .int .i64 ((l_szClockS p_a p_left)) ∧ Ex w w' := by
  refine Cal.of (vs := [.slice A1 p_a.length c1, .int .i64 (p_left)]) Try.func64 rfl Try.ntmps64 rfl ?_
  refine CW.seq ?_
  refine CW.region ?_
  refine SeqR.d1 rfl rfl rfl (yl_assign rfl rfl ?_)
  refine SeqR.done ?_
  refine tn ?_
  refine CW.seq ?_
  refine CW.region ?_
  refine SeqR.d1 rfl rfl rfl (yl_move rfl rfl ?_)
  refine SeqR.d1 rfl rfl rfl (yl_move rfl rfl ?_)
  refine SeqR.d1 rfl rfl rfl (yl_len Try.un43 rfl rfl ?_)
  refine SeqR.d1 rfl rfl rfl (yl_sub rfl rfl rfl ?_)
  refine SeqR.d1 rfl rfl rfl (yl_assign rfl rfl ?_)
  refine SeqR.done ?_
  refine tn ?_
  refine CW.seq ?_
  refine CW.seq ?_
  refine CW.region ?_
  refine SeqR.d1 rfl rfl rfl (yl_move rfl rfl ?_)
  refine SeqR.d1 rfl rfl rfl (yl_lss rfl rfl rfl ?_)
  refine SeqR.done ?_
  refine tn ?_
  refine bcase (decide ((IntKind.wrap .i64 (p_left - (p_a.length : Int))) < 0)) (fun hb2 => ?_) (fun hb2 => ?_)
  · have hb2p := dec_t hb2
    refine CW.cond_t rfl hb2 ?_
    refine CW.seq ?_
    refine CW.region ?_
    refine SeqR.d1 rfl rfl rfl (yl_assign rfl rfl ?_)
    refine SeqR.done ?_
    refine tn ?_
    refine CW.ret ?_
    refine tr ?_
    refine rr rfl (.cons rfl .nil) ?_
    have hM3 : (l_szClockS p_a p_left) = (-1) := by simp only [l_szClockS, hb2, cond_true, cond_false, loopE_done, loopE_ret]
    rw [hM3]
    exact ⟨rfl, (Ex.refl w)⟩
  · have hb2p := dec_f hb2
    refine CW.cond_f rfl hb2 ?_
    refine CW.skip ?_
    refine tn ?_
    refine CW.seq ?_
    refine CW.region ?_
    refine SeqR.d1 rfl rfl rfl (yl_move rfl rfl ?_)
    refine SeqR.d1 rfl rfl rfl (yl_assign rfl rfl ?_)
    refine SeqR.done ?_
    refine tn ?_
    refine CW.ret ?_
    refine rr rfl (.cons rfl .nil) ?_
    have hM4 : (l_szClockS p_a p_left) = (IntKind.wrap .i64 (p_left - (p_a.length : Int))) := by simp only [l_szClockS, hb2, cond_true, cond_false, loopE_done, loopE_ret]
    rw [hM4]
    exact ⟨rfl, (Ex.refl w)⟩
set_option maxRecDepth 100000 in
set_option maxHeartbeats 2000000 in
theorem c_l_szVLeaseS {A1 : Option Addr} {c1 : Nat} {w : World} (p_a : List DVLease) (p_left : Int) (h1 : RdS w (Iv 0 w.heap.size) (RF e_VLease) 2 A1 p_a.length c1 p_a) : Cal Try.prog 65 #[.slice A1 p_a.length c1, .int .i64 (p_left)] w fun v w' => v = .int .i64 ((l_szVLeaseS p_a p_left)) ∧ Ex w w' := by
  refine Cal.of (vs := [.slice A1 p_a.length c1, .int .i64 (p_left)]) Try.func65 rfl Try.ntmps65 rfl ?_
  refine CW.seq ?_
  refine CW.region ?_
  refine SeqR.d1 rfl rfl rfl (yl_assign rfl rfl ?_)
  refine SeqR.done ?_
  refine tn ?_
  refine CW.seq ?_
  refine CW.region ?_
  refine SeqR.d1 rfl rfl rfl (yl_move rfl rfl ?_)
  refine SeqR.d1 rfl rfl rfl (yl_move rfl rfl ?_)
  refine SeqR.d1 rfl rfl rfl (yl_len Try.un44 rfl rfl ?_)
  refine SeqR.d1 rfl rfl rfl (yl_sub rfl rfl rfl ?_)
  refine SeqR.d1 rfl rfl rfl (yl_assign rfl rfl ?_)
  refine SeqR.done ?_
  refine tn ?_
  refine CW.seq ?_
  refine CW.seq ?_
  refine CW.region ?_
  refine SeqR.d1 rfl rfl rfl (yl_move rfl rfl ?_)
  refine SeqR.d1 rfl rfl rfl (yl_lss rfl rfl rfl ?_)
  refine SeqR.done ?_
  refine tn ?_
  refine bcase (decide ((IntKind.wrap .i64 (p_left - (p_a.length : Int))) < 0)) (fun hb2 => ?_) (fun hb2 => ?_)
  · have hb2p := dec_t hb2
    refine CW.cond_t rfl hb2 ?_
    refine CW.seq ?_
    refine CW.region ?_
    refine SeqR.d1 rfl rfl rfl (yl_assign rfl rfl ?_)
    refine SeqR.done ?_
    refine tn ?_
    refine CW.ret ?_
    refine tr ?_
    refine rr rfl (.cons rfl .nil) ?_
    have hM3 : (l_szVLeaseS p_a p_left) = (-1) := by simp only [l_szVLeaseS, hb2, cond_true, cond_false, loopE_done, loopE_ret]
    rw [hM3]
    exact ⟨rfl, (Ex.refl w)⟩
  · have hb2p := dec_f hb2
    refine CW.cond_f rfl hb2 ?_
    refine CW.skip ?_
    refine tn ?_
    refine CW.seq ?_
    refine CW.region ?_
    refine SeqR.d1 rfl rfl rfl (yl_move rfl rfl ?_)
    refine SeqR.d1 rfl rfl rfl (yl_assign rfl rfl ?_)
    refine SeqR.done ?_
    refine tn ?_
    refine CW.ret ?_
    refine rr rfl (.cons rfl .nil) ?_
    have hM4 : (l_szVLeaseS p_a p_left) = (IntKind.wrap .i64 (p_left - (p_a.length : Int))) := by simp only [l_szVLeaseS, hb2, cond_true, cond_false, loopE_done, loopE_ret]
    rw [hM4]
    exact ⟨rfl, (Ex.refl w)⟩
set_option maxRecDepth 100000 in
set_option maxHeartbeats 2000000 in
theorem c_l_szRenew {A1 : Option Addr} {c1 : Nat} {A2 : Option Addr} {c2 : Nat} {w : World} (p_a : DRenew) (p_left : Int) (h1 : RdS w (Iv 0 w.heap.size) (RF e_Clock) 1 A1 p_a.Clocks.length c1 p_a.Clocks) (h2 : RdS w (Iv 0 w.heap.size) (RF e_VLease) 2 A2 p_a.Leases.length c2 p_a.Leases) : Cal Try.prog 24 #[.agg #[.int .i64 (p_a.Now), .int .i64 (p_a.Master.Off), .slice A1 p_a.Clocks.length c1, .int .i64 (p_a.Ver), .slice A2 p_a.Leases.length c2], .int .i64 (p_left)] w fun v w' => v = .int .i64 ((l_szRenew p_a p_left)) ∧ Ex w w' := by
  refine Cal.of (vs := [.agg #[.int .i64 (p_a.Now), .int .i64 (p_a.Master.Off), .slice A1 p_a.Clocks.length c1, .int .i64 (p_a.Ver), .slice A2 p_a.Leases.length c2], .int .i64 (p_left)]) Try.func24 rfl Try.ntmps24 rfl ?_
  refine CW.seq ?_
  refine CW.region ?_
  refine SeqR.d1 rfl rfl rfl (yl_box (cs := [.int .i64 (p_a.Now), .int .i64 (p_a.Master.Off), .slice A1 p_a.Clocks.length c1, .int .i64 (p_a.Ver), .slice A2 p_a.Leases.length c2]) rfl rfl rfl ?_)
  intro b3 w4 hs5 hz6 hB7 hE8
  refine SeqR.d1 rfl rfl rfl (yl_assign rfl rfl ?_)
  refine SeqR.done ?_
  refine tn ?_
  refine CW.seq ?_
  refine CW.region ?_
  refine SeqR.d1 rfl rfl rfl (yl_fieldAddr Try.fd46_2 rfl rfl ?_)
  refine SeqR.d1 rfl rfl rfl (yl_load1 Try.ty43 rfl rfl ((hB7.cell 2).trans rfl) ?_)
  refine SeqR.d1 rfl rfl rfl (yl_move rfl rfl ?_)
  have q9 := RdS.ex good_Clock h1 hE8
  refine SeqR.d1 rfl rfl rfl (yl_call Try.en64 rfl (opvs_cons rfl (opvs_cons rfl opvs_nil)) (Cal.mono (c_l_szClockS p_a.Clocks p_left (RdS.up q9 good_Clock)) ?_))
  rintro v11 w10 ⟨rfl, hE12⟩
  have hE12z := Ex.size hE12
  refine SeqR.d1 rfl rfl rfl (yl_assign rfl rfl ?_)
  refine SeqR.done ?_
  refine tn ?_
  refine CW.seq ?_
  refine CW.seq ?_
  refine CW.region ?_
  refine SeqR.d1 rfl rfl rfl (yl_move rfl rfl ?_)
  refine SeqR.d1 rfl rfl rfl (yl_lss rfl rfl rfl ?_)
  refine SeqR.done ?_
  refine tn ?_
  refine bcase (decide ((l_szClockS p_a.Clocks p_left) < 0)) (fun hb13 => ?_) (fun hb13 => ?_)
  · have hb13p := dec_t hb13
    refine CW.cond_t rfl hb13 ?_
    refine CW.seq ?_
    refine CW.region ?_
    refine SeqR.d1 rfl rfl rfl (yl_assign rfl rfl ?_)
    refine SeqR.done ?_
    refine tn ?_
    refine CW.ret ?_
    refine tr ?_
    refine rr rfl (.cons rfl .nil) ?_
    have hM14 : (l_szRenew p_a p_left) = (-1) := by simp only [l_szRenew, hb13, cond_true, cond_false, loopE_done, loopE_ret]
    rw [hM14]
    have q15 := Ex.trans (Ex.refl w) hE8
    have q16 := Ex.trans q15 hE12
    exact ⟨rfl, q16⟩
  · have hb13p := dec_f hb13
    refine CW.cond_f rfl hb13 ?_
    refine CW.skip ?_
    refine tn ?_
    refine CW.seq ?_
    refine CW.region ?_
    refine SeqR.d1 rfl rfl rfl (yl_fieldAddr Try.fd46_4 rfl rfl ?_)
    have q17 := Box.ex hB7 hE12
    refine SeqR.d1 rfl rfl rfl (yl_load1 Try.ty44 rfl rfl ((q17.cell 4).trans rfl) ?_)
    refine SeqR.d1 rfl rfl rfl (yl_move rfl rfl ?_)
    have q18 := RdS.ex good_VLease h2 hE8
    have q19 := RdS.ex good_VLease q18 hE12
    refine SeqR.d1 rfl rfl rfl (yl_call Try.en65 rfl (opvs_cons rfl (opvs_cons rfl opvs_nil)) (Cal.mono (c_l_szVLeaseS p_a.Leases (l_szClockS p_a.Clocks p_left) (RdS.up q19 good_VLease)) ?_))
    rintro v21 w20 ⟨rfl, hE22⟩
    have hE22z := Ex.size hE22
    refine SeqR.d1 rfl rfl rfl (yl_assign rfl rfl ?_)
    refine SeqR.done ?_
    refine tn ?_
    refine CW.seq ?_
    refine CW.seq ?_
    refine CW.region ?_
    refine SeqR.d1 rfl rfl rfl (yl_move rfl rfl ?_)
    refine SeqR.d1 rfl rfl rfl (yl_lss rfl rfl rfl ?_)
    refine SeqR.done ?_
    refine tn ?_
    refine bcase (decide ((l_szVLeaseS p_a.Leases (l_szClockS p_a.Clocks p_left)) < 0)) (fun hb23 => ?_) (fun hb23 => ?_)
    · have hb23p := dec_t hb23
      refine CW.cond_t rfl hb23 ?_
      refine CW.seq ?_
      refine CW.region ?_
      refine SeqR.d1 rfl rfl rfl (yl_assign rfl rfl ?_)
      refine SeqR.done ?_
      refine tn ?_
      refine CW.ret ?_
      refine tr ?_
      refine rr rfl (.cons rfl .nil) ?_
      have hM24 : (l_szRenew p_a p_left) = (-1) := by simp only [l_szRenew, hb13, hb23, cond_true, cond_false, loopE_done, loopE_ret]
      rw [hM24]
      have q25 := Ex.trans (Ex.refl w) hE8
      have q26 := Ex.trans q25 hE12
      have q27 := Ex.trans q26 hE22
      exact ⟨rfl, q27⟩
    · have hb23p := dec_f hb23
      refine CW.cond_f rfl hb23 ?_
      refine CW.skip ?_
      refine tn ?_
      refine CW.seq ?_
      refine CW.region ?_
      refine SeqR.d1 rfl rfl rfl (yl_move rfl rfl ?_)
      refine SeqR.d1 rfl rfl rfl (yl_assign rfl rfl ?_)
      refine SeqR.done ?_
      refine tn ?_
      refine CW.ret ?_
      refine rr rfl (.cons rfl .nil) ?_
      have hM28 : (l_szRenew p_a p_left) = ((l_szVLeaseS p_a.Leases (l_szClockS p_a.Clocks p_left))) := by simp only [l_szRenew, hb13, hb23, cond_true, cond_false, loopE_done, loopE_ret]
      rw [hM28]
      have q29 := Ex.trans (Ex.refl w) hE8
      have q30 := Ex.trans q29 hE12
      have q31 := Ex.trans q30 hE22
      exact ⟨rfl, q31⟩
set_option maxRecDepth 100000 in
set_option maxHeartbeats 2000000 in
theorem c_l_toClock {w : World} (p_a : DClock) : Cal Try.prog 68 #[.agg #[.int .i64 (p_a.Off)]] w fun v w' => v = .agg #[.int .i64 (p_a.Off)] ∧ Ex w w' := by
  refine Cal.of (vs := [.agg #[.int .i64 (p_a.Off)]]) Try.func68 rfl Try.ntmps68 rfl ?_
  refine CW.seq ?_
  refine CW.region ?_
  refine SeqR.d1 rfl rfl rfl (yl_box (cs := [.int .i64 (p_a.Off)]) rfl rfl rfl ?_)
  intro b1 w2 hs3 hz4 hB5 hE6
  refine SeqR.d1 rfl rfl rfl (yl_alloc Try.ty33 (cs := [.int .i64 (0)]) rfl rfl ?_)
  intro b7 w8 hs9 hz10 hB11 hE12
  refine SeqR.done ?_
  refine tn ?_
  refine CW.seq ?_
  refine CW.region ?_
  refine SeqR.d1 rfl rfl rfl (yl_alloc Try.ty33 (cs := [.int .i64 (0)]) rfl rfl ?_)
  intro b13 w14 hs15 hz16 hB17 hE18
  refine SeqR.done ?_
  refine tn ?_
  refine CW.seq ?_
  refine CW.region ?_
  refine SeqR.d1 rfl rfl rfl (yl_fieldAddr Try.fd42_0 rfl rfl ?_)
  have q19 := Box.ex hB5 hE12
  have q20 := Box.ex q19 hE18
  refine SeqR.d1 rfl rfl rfl (yl_load1 Try.ty3 rfl rfl ((q20.cell 0).trans rfl) ?_)
  refine SeqR.d1 rfl rfl rfl (yl_fieldAddr Try.fd33_0 rfl rfl ?_)
  refine SeqR.u rfl rfl (yl_store (vs := [.int .i64 (p_a.Off)]) Try.ty3 rfl rfl rfl rfl rfl rfl hB17 (Nat.le_of_ble_eq_true rfl) ?_)
  intro w21 hB22 hO23
  have hB22 : Box w21 b13 33 [.int .i64 (p_a.Off)] := hB22
  have hO23z := hO23.size
  refine SeqR.done ?_
  refine tn ?_
  refine CW.seq ?_
  refine CW.region ?_
  refine SeqR.d1 rfl rfl rfl (yl_loadN (cs := [.int .i64 (p_a.Off)]) Try.ty33 rfl rfl (hB22.cells (n := 1) rfl) rfl ?_)
  have q24 := Box.ex hB11 hE18
  have q25 := Box.only q24 hO23 (by omega)
  refine SeqR.u rfl rfl (yl_store (vs := [.int .i64 (p_a.Off)]) Try.ty33 rfl rfl rfl rfl rfl rfl q25 (Nat.le_of_ble_eq_true rfl) ?_)
  intro w26 hB27 hO28
  have hB27 : Box w26 b7 33 [.int .i64 (p_a.Off)] := hB27
  have hO28z := hO28.size
  refine SeqR.done ?_
  refine tn ?_
  refine CW.ret ?_
  refine rr rfl (.cons ⟨_, rfl, run_loadN Try.ty33 (cs := [.int .i64 (p_a.Off)]) rfl (hB27.cells (n := 1) rfl)⟩ .nil) ?_
  have hM29 : p_a = (p_a) := (to_Clock _).symm.trans <| by simp only [l_toClock, cond_true, cond_false, loopE_done, loopE_ret]
  rw [hM29]
  have q30 := Ex.trans (Ex.refl w) hE6
  have q31 := Ex.trans q30 hE12
  have q32 := Ex.trans q31 hE18
  have q33 := Below.only q32 hO23 (by omega)
  have q34 := Below.only q33 hO28 (by omega)
  exact ⟨rfl, q34⟩
set_option maxRecDepth 100000 in
set_option maxHeartbeats 2000000 in
theorem c_l_toClockS {A1 : Option Addr} {c1 : Nat} {w : World} (p_a : List DClock) (h1 : RdS w (Iv 0 w.heap.size) (RF e_Clock) 1 A1 p_a.length c1 p_a) (o2 : (okL okT) p_a) : Cal Try.prog 69 #[.slice A1 p_a.length c1] w fun v w' => ∃ A_1 c_1, v = .slice A_1 p_a.length c_1 ∧ RdS w' (Iv w.heap.size w'.heap.size) (RF e_Clock) 1 A_1 p_a.length c_1 p_a ∧ Ex w w' := by
  have hol3 := o2.1
  refine Cal.of (vs := [.slice A1 p_a.length c1]) Try.func69 rfl Try.ntmps69 rfl ?_
  refine CW.seq ?_
  refine CW.region ?_
  refine SeqR.d1 rfl rfl rfl (yl_assign rfl rfl ?_)
  refine SeqR.done ?_
  refine tn ?_
  refine CW.seq ?_
  refine CW.region ?_
  refine SeqR.d1 rfl rfl rfl (yl_move rfl rfl ?_)
  refine SeqR.d1 rfl rfl rfl (yl_len Try.un43 rfl rfl ?_)
  refine SeqR.d1 rfl rfl rfl (yl_make (zs := [.int .i64 (0)]) (n := p_a.length) Try.un34 Try.ty33 rfl rfl (Nat.le_of_ble_eq_true rfl) rfl rfl rfl (by first | omega | assumption | (simp only [IntKind.wrap_i64] at *; omega)) (by first | omega | assumption | (simp only [IntKind.wrap_i64] at *; omega)) ?_)
  intro b4 w5 hs6 hz7 hB8 hE9
  have hO10 : OwnL w5 b4 (b4 + 1) 33 1 (RF e_Clock) (some ⟨b4, 0, none⟩) p_a.length p_a.length (List.replicate p_a.length d_Clock) := by have := OwnL.of_boxF (lo := b4) (hi := b4 + 1) (xs := (List.replicate p_a.length d_Clock)) hB8 (Nat.le_refl _) (Nat.lt_succ_self _) (EncL.zerosF (enc := e_Clock) (d := d_Clock) rfl p_a.length) (by rw [List.length_replicate]; omega); rwa [List.length_replicate] at this
  refine SeqR.d1 rfl rfl rfl (yl_assign rfl rfl ?_)
  refine SeqR.done ?_
  refine tn ?_
  refine CW.seq ?_
  refine CW.seq ?_
  refine CW.region ?_
  refine SeqR.d1 rfl rfl rfl (yl_assign rfl rfl ?_)
  refine SeqR.done ?_
  refine tn ?_
  refine CW.block ?_
  have q26 := RdS.ex good_Clock h1 hE9
  have q27 := Ex.trans (Ex.refl w) hE9
  refine CW.loop (fun m23 L24 w25 => ∃ (k11 : Nat) (x22 : List DClock), m23 = p_a.length - k11 ∧ k11 ≤ p_a.length ∧ lkp L24 0 = some (.slice A1 p_a.length c1) ∧ lkp L24 3 = some (.slice (some ⟨b4, 0, none⟩) p_a.length p_a.length) ∧ lkp L24 4 = some (.int .i64 ((k11 : Int))) ∧ RdS w25 (Iv 0 w.heap.size) (RF e_Clock) 1 A1 p_a.length c1 p_a ∧ OwnL w25 b4 (b4 + 1) 33 1 (RF e_Clock) (some ⟨b4, 0, none⟩) p_a.length p_a.length x22 ∧ Ex w w25 ∧ loopM (B_l_toClockS_0 p_a) (p_a.length - k11) k11 (x22) = loopM (B_l_toClockS_0 p_a) (p_a.length - 0) 0 ((List.replicate p_a.length d_Clock))) (p_a.length - 0) ?_ ?_
  · exact ⟨0, (List.replicate p_a.length d_Clock), rfl, (by omega), rfl, rfl, rfl, q26, hO10, q27, rfl⟩
  · rintro m28 L29 w30 ⟨k11, x22, rfl, hk31, hl33, hl34, hl35, hf36, hf37, hf38, hI32⟩
    refine CW.sub (Sub.cons hl33 (Sub.cons hl34 (Sub.cons hl35 (Sub.nil _)))) ?_
    have hf38z := Ex.size hf38
    have hbg39 := RdS.big hf36
    rcases Nat.lt_or_ge k11 p_a.length with hlt40 | hlt40
    · skip
      refine CW.seq ?_
      refine CW.seq ?_
      refine CW.region ?_
      refine SeqR.d1 rfl rfl rfl (yl_move rfl rfl ?_)
      refine SeqR.d1 rfl rfl rfl (yl_move rfl rfl ?_)
      refine SeqR.d1 rfl rfl rfl (yl_len Try.un43 rfl rfl ?_)
      refine SeqR.d1 rfl rfl rfl (yl_lss rfl rfl rfl ?_)
      refine SeqR.done ?_
      refine tn ?_
      refine CW.cond_t rfl (lt_t hlt40) ?_
      refine CW.skip ?_
      refine tn ?_
      refine CW.seq ?_
      refine CW.block ?_
      refine CW.region ?_
      refine SeqR.d1 rfl rfl rfl (yl_move rfl rfl ?_)
      refine SeqR.d1 rfl rfl rfl (yl_move rfl rfl ?_)
      refine SeqR.d1 rfl rfl rfl (yl_move rfl rfl ?_)
      refine SeqR.d1 rfl rfl rfl (yl_move rfl rfl ?_)
      obtain ⟨eb41, eo41, ec41, eA41, eS41, ebl41, el41, eR41, eC41⟩ := RdS.atD hf36 d_Clock (i := k11) (by first | omega | assumption)
      obtain rfl := eR41
      have eC41 : Cells w30 eb41 (eo41 + k11 * 1) [.int .i64 ((p_a.getD k11 d_Clock).Off)] := eC41
      refine SeqR.d1 rfl rfl rfl (yl_indexAddrN Try.un43 Try.ty42 rfl rfl rfl eA41 (by first | omega | assumption | (simp only [IntKind.wrap_i64] at *; omega)) ?_)
      refine SeqR.d1 rfl rfl rfl (yl_loadN (cs := [.int .i64 ((p_a.getD k11 d_Clock).Off)]) Try.ty42 rfl rfl eC41 rfl ?_)
      refine SeqR.d1 rfl rfl rfl (yl_call Try.en68 rfl (opvs_cons rfl opvs_nil) (Cal.mono (c_l_toClock (p_a.getD k11 d_Clock)) ?_))
      rintro v43 w42 ⟨rfl, hE44⟩
      have hE44z := Ex.size hE44
      have q46 := OwnL.ex good_Clock hf37 hE44
      have q45 := OwnL.rd good_Clock q46
      obtain ⟨eb47, eo47, ec47, eA47, eS47, ebl47, el47, eR47, eC47⟩ := RdS.atD q45 d_Clock (i := k11) (by first | omega | assumption)
      obtain rfl := eR47
      have eC47 : Cells w42 eb47 (eo47 + k11 * 1) [.int .i64 ((x22.getD k11 d_Clock).Off)] := eC47
      refine SeqR.d1 rfl rfl rfl (yl_indexAddrN Try.un34 Try.ty33 rfl rfl rfl eA47 (by first | omega | assumption | (simp only [IntKind.wrap_i64] at *; omega)) ?_)
      have hrg48 := OwnL.rng q46 eb47 (by rw [eA47]; rfl)
      refine SeqR.u rfl rfl (yl_storeF (off := eo47) (i := k11) (d := 0) (dx := d_Clock) (x' := (p_a.getD k11 d_Clock)) (vs := [.int .i64 ((p_a.getD k11 d_Clock).Off)]) Try.ty33 rfl q46 eA47 rfl rfl rfl rfl rfl (by first | omega | assumption | (simp only [IntKind.wrap_i64] at *; omega)) (Nat.le_of_ble_eq_true rfl) rfl rfl ?_)
      intro w49 hB50 hO51
      have hO51z := hO51.size
      refine SeqR.done ?_
      refine bn ?_
      refine tn ?_
      refine CW.region ?_
      refine SeqR.d1 rfl rfl rfl (yl_move rfl rfl ?_)
      refine SeqR.d1 rfl rfl rfl (yl_inc rfl rfl rfl (by omega) ?_)
      refine SeqR.d1 rfl rfl rfl (yl_assign rfl rfl ?_)
      refine SeqR.done ?_
      refine tn ?_
      have hB52 : B_l_toClockS_0 p_a k11 (x22) = .cont ((x22.set k11 (p_a.getD k11 d_Clock))) := by simp only [B_l_toClockS_0, cond_true, cond_false, loopE_done, loopE_ret]
      have q53 := RdS.ex good_Clock hf36 hE44
      have q54 := RdS.only good_Clock q53 hO51 (by simp only [Iv]; omega)
      have q55 := Ex.trans hf38 hE44
      have q56 := Below.only q55 hO51 (by omega)
      exact ⟨p_a.length - (k11 + 1), by omega, k11 + 1, (x22.set k11 (p_a.getD k11 d_Clock)), rfl, hlt40, rfl, rfl, rfl, q54, hB50, q56, (loopM.cont hlt40 hB52).symm.trans hI32⟩
    · skip
      refine CW.seq ?_
      refine CW.seq ?_
      refine CW.region ?_
      refine SeqR.d1 rfl rfl rfl (yl_move rfl rfl ?_)
      refine SeqR.d1 rfl rfl rfl (yl_move rfl rfl ?_)
      refine SeqR.d1 rfl rfl rfl (yl_len Try.un43 rfl rfl ?_)
      refine SeqR.d1 rfl rfl rfl (yl_lss rfl rfl rfl ?_)
      refine SeqR.done ?_
      refine tn ?_
      refine CW.cond_f rfl (lt_f hlt40) ?_
      refine CW.exit ?_
      refine tx ?_
      refine tx ?_
      have hL57 : loopM (B_l_toClockS_0 p_a) (p_a.length - 0) 0 ((List.replicate p_a.length d_Clock)) = .done (x22) := hI32.symm.trans (loopM.stop hlt40)
      refine bx ?_
      refine tn ?_
      refine CW.seq ?_
      refine CW.region ?_
      refine SeqR.d1 rfl rfl rfl (yl_move rfl rfl ?_)
      refine SeqR.d1 rfl rfl rfl (yl_assign rfl rfl ?_)
      refine SeqR.done ?_
      refine tn ?_
      refine CW.ret ?_
      refine rr rfl (.cons rfl .nil) ?_
      have hM58 : p_a = (x22) := (to_ClockS _).symm.trans <| by simp only [l_toClockS, hL57, cond_true, cond_false, loopE_done, loopE_ret]
      have q59 := OwnL.rd good_Clock hf37
      subst hM58
      exact ⟨(some ⟨b4, 0, none⟩), p_a.length, rfl, (RdS.wideI good_Clock q59 (by omega)), hf38⟩
set_option maxRecDepth 100000 in
set_option maxHeartbeats 2000000 in
theorem c_l_toVLease {w : World} (p_a : DVLease) : Cal Try.prog 103 #[.agg #[.int .i64 (p_a.Ver), .int .i64 (p_a.Until)]] w fun v w' => v = .agg #[.int .i64 (p_a.Ver), .int .i64 (p_a.Until)] ∧ Ex w w' := by
  refine Cal.of (vs := [.agg #[.int .i64 (p_a.Ver), .int .i64 (p_a.Until)]]) Try.func103 rfl Try.ntmps103 rfl ?_
  refine CW.seq ?_
  refine CW.region ?_
  refine SeqR.d1 rfl rfl rfl (yl_box (cs := [.int .i64 (p_a.Ver), .int .i64 (p_a.Until)]) rfl rfl rfl ?_)
  intro b1 w2 hs3 hz4 hB5 hE6
  refine SeqR.d1 rfl rfl rfl (yl_alloc Try.ty103 (cs := [.int .i64 (0), .int .i64 (0)]) rfl rfl ?_)
  intro b7 w8 hs9 hz10 hB11 hE12
  refine SeqR.done ?_
  refine tn ?_
  refine CW.seq ?_
  refine CW.region ?_
  refine SeqR.d1 rfl rfl rfl (yl_alloc Try.ty103 (cs := [.int .i64 (0), .int .i64 (0)]) rfl rfl ?_)
  intro b13 w14 hs15 hz16 hB17 hE18
  refine SeqR.done ?_
  refine tn ?_
  refine CW.seq ?_
  refine CW.region ?_
  refine SeqR.d1 rfl rfl rfl (yl_fieldAddr Try.fd129_0 rfl rfl ?_)
  have q19 := Box.ex hB5 hE12
  have q20 := Box.ex q19 hE18
  refine SeqR.d1 rfl rfl rfl (yl_load1 Try.ty3 rfl rfl ((q20.cell 0).trans rfl) ?_)
  refine SeqR.d1 rfl rfl rfl (yl_fieldAddr Try.fd103_0 rfl rfl ?_)
  refine SeqR.u rfl rfl (yl_store (vs := [.int .i64 (p_a.Ver)]) Try.ty3 rfl rfl rfl rfl rfl rfl hB17 (Nat.le_of_ble_eq_true rfl) ?_)
  intro w21 hB22 hO23
  have hB22 : Box w21 b13 103 [.int .i64 (p_a.Ver), .int .i64 (0)] := hB22
  have hO23z := hO23.size
  refine SeqR.done ?_
  refine tn ?_
  refine CW.seq ?_
  refine CW.region ?_
  refine SeqR.d1 rfl rfl rfl (yl_fieldAddr Try.fd129_1 rfl rfl ?_)
  have q24 := Box.only q20 hO23 (by omega)
  refine SeqR.d1 rfl rfl rfl (yl_load1 Try.ty3 rfl rfl ((q24.cell 1).trans rfl) ?_)
  refine SeqR.d1 rfl rfl rfl (yl_fieldAddr Try.fd103_1 rfl rfl ?_)
  refine SeqR.u rfl rfl (yl_store (vs := [.int .i64 (p_a.Until)]) Try.ty3 rfl rfl rfl rfl rfl rfl hB22 (Nat.le_of_ble_eq_true rfl) ?_)
  intro w25 hB26 hO27
  have hB26 : Box w25 b13 103 [.int .i64 (p_a.Ver), .int .i64 (p_a.Until)] := hB26
  have hO27z := hO27.size
  refine SeqR.done ?_
  refine tn ?_
  refine CW.seq ?_
  refine CW.region ?_
  refine SeqR.d1 rfl rfl rfl (yl_loadN (cs := [.int .i64 (p_a.Ver), .int .i64 (p_a.Until)]) Try.ty103 rfl rfl (hB26.cells (n := 2) rfl) rfl ?_)
  have q28 := Box.ex hB11 hE18
  have q29 := Box.only q28 hO23 (by omega)
  have q30 := Box.only q29 hO27 (by omega)
  refine SeqR.u rfl rfl (yl_store (vs := [.int .i64 (p_a.Ver), .int .i64 (p_a.Until)]) Try.ty103 rfl rfl rfl rfl rfl rfl q30 (Nat.le_of_ble_eq_true rfl) ?_)
  intro w31 hB32 hO33
  have hB32 : Box w31 b7 103 [.int .i64 (p_a.Ver), .int .i64 (p_a.Until)] := hB32
  have hO33z := hO33.size
  refine SeqR.done ?_
  refine tn ?_
  refine CW.ret ?_
  refine rr rfl (.cons ⟨_, rfl, run_loadN Try.ty103 (cs := [.int .i64 (p_a.Ver), .int .i64 (p_a.Until)]) rfl (hB32.cells (n := 2) rfl)⟩ .nil) ?_
  have hM34 : p_a = (p_a) := (to_VLease _).symm.trans <| by simp only [l_toVLease, cond_true, cond_false, loopE_done, loopE_ret]
  rw [hM34]
  have q35 := Ex.trans (Ex.refl w) hE6
  have q36 := Ex.trans q35 hE12
  have q37 := Ex.trans q36 hE18
  have q38 := Below.only q37 hO23 (by omega)
  have q39 := Below.only q38 hO27 (by omega)
  have q40 := Below.only q39 hO33 (by omega)
  exact ⟨rfl, q40⟩
set_option maxRecDepth 100000 in
set_option maxHeartbeats 2000000 in
theorem c_l_toVLeaseS {A1 : Option Addr} {c1 : Nat} {w : World} (p_a : List DVLease) (h1 : RdS w (Iv 0 w.heap.size) (RF e_VLease) 2 A1 p_a.length c1 p_a) (o2 : (okL okT) p_a) : Cal Try.prog 70 #[.slice A1 p_a.length c1] w fun v w' => ∃ A_1 c_1, v = .slice A_1 p_a.length c_1 ∧ RdS w' (Iv w.heap.size w'.heap.size) (RF e_VLease) 2 A_1 p_a.length c_1 p_a ∧ Ex w w' := by
  have hol3 := o2.1
  refine Cal.of (vs := [.slice A1 p_a.length c1]) Try.func70 rfl Try.ntmps70 rfl ?_
  refine CW.seq ?_
  refine CW.region ?_
  refine SeqR.d1 rfl rfl rfl (yl_assign rfl rfl ?_)
  refine SeqR.done ?_
  refine tn ?_
  refine CW.seq ?_
  refine CW.region ?_
  refine SeqR.d1 rfl rfl rfl (yl_move rfl rfl ?_)
  refine SeqR.d1 rfl rfl rfl (yl_len Try.un44 rfl rfl ?_)
  refine SeqR.d1 rfl rfl rfl (yl_make (zs := [.int .i64 (0), .int .i64 (0)]) (n := p_a.length) Try.un35 Try.ty103 rfl rfl (Nat.le_of_ble_eq_true rfl) rfl rfl rfl (by first | omega | assumption | (simp only [IntKind.wrap_i64] at *; omega)) (by first | omega | assumption | (simp only [IntKind.wrap_i64] at *; omega)) ?_)
  intro b4 w5 hs6 hz7 hB8 hE9
  have hO10 : OwnL w5 b4 (b4 + 1) 103 2 (RF e_VLease) (some ⟨b4, 0, none⟩) p_a.length p_a.length (List.replicate p_a.length d_VLease) := by have := OwnL.of_boxF (lo := b4) (hi := b4 + 1) (xs := (List.replicate p_a.length d_VLease)) hB8 (Nat.le_refl _) (Nat.lt_succ_self _) (EncL.zerosF (enc := e_VLease) (d := d_VLease) rfl p_a.length) (by rw [List.length_replicate]; omega); rwa [List.length_replicate] at this
  refine SeqR.d1 rfl rfl rfl (yl_assign rfl rfl ?_)
  refine SeqR.done ?_
  refine tn ?_
  refine CW.seq ?_
  refine CW.seq ?_
  refine CW.region ?_
  refine SeqR.d1 rfl rfl rfl (yl_assign rfl rfl ?_)
  refine SeqR.done ?_
  refine tn ?_
  refine CW.block ?_
  have q26 := RdS.ex good_VLease h1 hE9
  have q27 := Ex.trans (Ex.refl w) hE9
  refine CW.loop (fun m23 L24 w25 => ∃ (k11 : Nat) (x22 : List DVLease), m23 = p_a.length - k11 ∧ k11 ≤ p_a.length ∧ lkp L24 0 = some (.slice A1 p_a.length c1) ∧ lkp L24 3 = some (.slice (some ⟨b4, 0, none⟩) p_a.length p_a.length) ∧ lkp L24 4 = some (.int .i64 ((k11 : Int))) ∧ RdS w25 (Iv 0 w.heap.size) (RF e_VLease) 2 A1 p_a.length c1 p_a ∧ OwnL w25 b4 (b4 + 1) 103 2 (RF e_VLease) (some ⟨b4, 0, none⟩) p_a.length p_a.length x22 ∧ Ex w w25 ∧ loopM (B_l_toVLeaseS_0 p_a) (p_a.length - k11) k11 (x22) = loopM (B_l_toVLeaseS_0 p_a) (p_a.length - 0) 0 ((List.replicate p_a.length d_VLease))) (p_a.length - 0) ?_ ?_
  · exact ⟨0, (List.replicate p_a.length d_VLease), rfl, (by omega), rfl, rfl, rfl, q26, hO10, q27, rfl⟩
  · rintro m28 L29 w30 ⟨k11, x22, rfl, hk31, hl33, hl34, hl35, hf36, hf37, hf38, hI32⟩
    refine CW.sub (Sub.cons hl33 (Sub.cons hl34 (Sub.cons hl35 (Sub.nil _)))) ?_
    have hf38z := Ex.size hf38
    have hbg39 := RdS.big hf36
    rcases Nat.lt_or_ge k11 p_a.length with hlt40 | hlt40
    · skip
      refine CW.seq ?_
      refine CW.seq ?_
      refine CW.region ?_
      refine SeqR.d1 rfl rfl rfl (yl_move rfl rfl ?_)
      refine SeqR.d1 rfl rfl rfl (yl_move rfl rfl ?_)
      refine SeqR.d1 rfl rfl rfl (yl_len Try.un44 rfl rfl ?_)
      refine SeqR.d1 rfl rfl rfl (yl_lss rfl rfl rfl ?_)
      refine SeqR.done ?_
      refine tn ?_
      refine CW.cond_t rfl (lt_t hlt40) ?_
      refine CW.skip ?_
      refine tn ?_
      refine CW.seq ?_
      refine CW.block ?_
      refine CW.region ?_
      refine SeqR.d1 rfl rfl rfl (yl_move rfl rfl ?_)
      refine SeqR.d1 rfl rfl rfl (yl_move rfl rfl ?_)
      refine SeqR.d1 rfl rfl rfl (yl_move rfl rfl ?_)
      refine SeqR.d1 rfl rfl rfl (yl_move rfl rfl ?_)
      obtain ⟨eb41, eo41, ec41, eA41, eS41, ebl41, el41, eR41, eC41⟩ := RdS.atD hf36 d_VLease (i := k11) (by first | omega | assumption)
      obtain rfl := eR41
      have eC41 : Cells w30 eb41 (eo41 + k11 * 2) [.int .i64 ((p_a.getD k11 d_VLease).Ver), .int .i64 ((p_a.getD k11 d_VLease).Until)] := eC41
      refine SeqR.d1 rfl rfl rfl (yl_indexAddrN Try.un44 Try.ty129 rfl rfl rfl eA41 (by first | omega | assumption | (simp only [IntKind.wrap_i64] at *; omega)) ?_)
      refine SeqR.d1 rfl rfl rfl (yl_loadN (cs := [.int .i64 ((p_a.getD k11 d_VLease).Ver), .int .i64 ((p_a.getD k11 d_VLease).Until)]) Try.ty129 rfl rfl eC41 rfl ?_)
      refine SeqR.d1 rfl rfl rfl (yl_call Try.en103 rfl (opvs_cons rfl opvs_nil) (Cal.mono (c_l_toVLease (p_a.getD k11 d_VLease)) ?_))
      rintro v43 w42 ⟨rfl, hE44⟩
      have hE44z := Ex.size hE44
      have q46 := OwnL.ex good_VLease hf37 hE44
      have q45 := OwnL.rd good_VLease q46
      obtain ⟨eb47, eo47, ec47, eA47, eS47, ebl47, el47, eR47, eC47⟩ := RdS.atD q45 d_VLease (i := k11) (by first | omega | assumption)
      obtain rfl := eR47
      have eC47 : Cells w42 eb47 (eo47 + k11 * 2) [.int .i64 ((x22.getD k11 d_VLease).Ver), .int .i64 ((x22.getD k11 d_VLease).Until)] := eC47
      refine SeqR.d1 rfl rfl rfl (yl_indexAddrN Try.un35 Try.ty103 rfl rfl rfl eA47 (by first | omega | assumption | (simp only [IntKind.wrap_i64] at *; omega)) ?_)
      have hrg48 := OwnL.rng q46 eb47 (by rw [eA47]; rfl)
      refine SeqR.u rfl rfl (yl_storeF (off := eo47) (i := k11) (d := 0) (dx := d_VLease) (x' := (p_a.getD k11 d_VLease)) (vs := [.int .i64 ((p_a.getD k11 d_VLease).Ver), .int .i64 ((p_a.getD k11 d_VLease).Until)]) Try.ty103 rfl q46 eA47 rfl rfl rfl rfl rfl (by first | omega | assumption | (simp only [IntKind.wrap_i64] at *; omega)) (Nat.le_of_ble_eq_true rfl) rfl rfl ?_)
      intro w49 hB50 hO51
      have hO51z := hO51.size
      refine SeqR.done ?_
      refine bn ?_
      refine tn ?_
      refine CW.region ?_
      refine SeqR.d1 rfl rfl rfl (yl_move rfl rfl ?_)
      refine SeqR.d1 rfl rfl rfl (yl_inc rfl rfl rfl (by omega) ?_)
      refine SeqR.d1 rfl rfl rfl (yl_assign rfl rfl ?_)
      refine SeqR.done ?_
      refine tn ?_
      have hB52 : B_l_toVLeaseS_0 p_a k11 (x22) = .cont ((x22.set k11 (p_a.getD k11 d_VLease))) := by simp only [B_l_toVLeaseS_0, cond_true, cond_false, loopE_done, loopE_ret]
      have q53 := RdS.ex good_VLease hf36 hE44
      have q54 := RdS.only good_VLease q53 hO51 (by simp only [Iv]; omega)
      have q55 := Ex.trans hf38 hE44
      have q56 := Below.only q55 hO51 (by omega)
      exact ⟨p_a.length - (k11 + 1), by omega, k11 + 1, (x22.set k11 (p_a.getD k11 d_VLease)), rfl, hlt40, rfl, rfl, rfl, q54, hB50, q56, (loopM.cont hlt40 hB52).symm.trans hI32⟩
    · skip
      refine CW.seq ?_
      refine CW.seq ?_
      refine CW.region ?_
      refine SeqR.d1 rfl rfl rfl (yl_move rfl rfl ?_)
      refine SeqR.d1 rfl rfl rfl (yl_move rfl rfl ?_)
      refine SeqR.d1 rfl rfl rfl (yl_len Try.un44 rfl rfl ?_)
      refine SeqR.d1 rfl rfl rfl (yl_lss rfl rfl rfl ?_)
      refine SeqR.done ?_
      refine tn ?_
      refine CW.cond_f rfl (lt_f hlt40) ?_
      refine CW.exit ?_
      refine tx ?_
      refine tx ?_
      have hL57 : loopM (B_l_toVLeaseS_0 p_a) (p_a.length - 0) 0 ((List.replicate p_a.length d_VLease)) = .done (x22) := hI32.symm.trans (loopM.stop hlt40)
      refine bx ?_
      refine tn ?_
      refine CW.seq ?_
      refine CW.region ?_
      refine SeqR.d1 rfl rfl rfl (yl_move rfl rfl ?_)
      refine SeqR.d1 rfl rfl rfl (yl_assign rfl rfl ?_)
      refine SeqR.done ?_
      refine tn ?_
      refine CW.ret ?_
      refine rr rfl (.cons rfl .nil) ?_
      have hM58 : p_a = (x22) := (to_VLeaseS _).symm.trans <| by simp only [l_toVLeaseS, hL57, cond_true, cond_false, loopE_done, loopE_ret]
      have q59 := OwnL.rd good_VLease hf37
      subst hM58
      exact ⟨(some ⟨b4, 0, none⟩), p_a.length, rfl, (RdS.wideI good_VLease q59 (by omega)), hf38⟩
set_option maxRecDepth 100000 in
set_option maxHeartbeats 2000000 in
theorem c_l_toRenew {A1 : Option Addr} {c1 : Nat} {A2 : Option Addr} {c2 : Nat} {w : World} (p_a : DRenew) (h1 : RdS w (Iv 0 w.heap.size) (RF e_Clock) 1 A1 p_a.Clocks.length c1 p_a.Clocks) (h2 : RdS w (Iv 0 w.heap.size) (RF e_VLease) 2 A2 p_a.Leases.length c2 p_a.Leases) (o3 : ok_Renew p_a) : Cal Try.prog 26 #[.agg #[.int .i64 (p_a.Now), .int .i64 (p_a.Master.Off), .slice A1 p_a.Clocks.length c1, .int .i64 (p_a.Ver), .slice A2 p_a.Leases.length c2]] w fun v w' => ∃ A_1 c_1 A_2 c_2, v = .agg #[.int .i64 (p_a.Now), .int .i64 (p_a.Master.Off), .slice A_1 p_a.Clocks.length c_1, .int .i64 (p_a.Ver), .slice A_2 p_a.Leases.length c_2] ∧ RdS w' (Iv w.heap.size w'.heap.size) (RF e_Clock) 1 A_1 p_a.Clocks.length c_1 p_a.Clocks ∧ RdS w' (Iv w.heap.size w'.heap.size) (RF e_VLease) 2 A_2 p_a.Leases.length c_2 p_a.Leases ∧ Ex w w' := by
  have hol4 := o3.1.1
  have hol5 := o3.2.1
  refine Cal.of (vs := [.agg #[.int .i64 (p_a.Now), .int .i64 (p_a.Master.Off), .slice A1 p_a.Clocks.length c1, .int .i64 (p_a.Ver), .slice A2 p_a.Leases.length c2]]) Try.func26 rfl Try.ntmps26 rfl ?_
  refine CW.seq ?_
  refine CW.region ?_
  refine SeqR.d1 rfl rfl rfl (yl_box (cs := [.int .i64 (p_a.Now), .int .i64 (p_a.Master.Off), .slice A1 p_a.Clocks.length c1, .int .i64 (p_a.Ver), .slice A2 p_a.Leases.length c2]) rfl rfl rfl ?_)
  intro b6 w7 hs8 hz9 hB10 hE11
  refine SeqR.d1 rfl rfl rfl (yl_alloc Try.ty37 (cs := [.int .i64 (0), .int .i64 (0), .slice none 0 0, .int .i64 (0), .slice none 0 0]) rfl rfl ?_)
  intro b12 w13 hs14 hz15 hB16 hE17
  refine SeqR.done ?_
  refine tn ?_
  refine CW.seq ?_
  refine CW.region ?_
  refine SeqR.d1 rfl rfl rfl (yl_alloc Try.ty37 (cs := [.int .i64 (0), .int .i64 (0), .slice none 0 0, .int .i64 (0), .slice none 0 0]) rfl rfl ?_)
  intro b18 w19 hs20 hz21 hB22 hE23
  refine SeqR.done ?_
  refine tn ?_
  refine CW.seq ?_
  refine CW.region ?_
  refine SeqR.d1 rfl rfl rfl (yl_fieldAddr Try.fd46_0 rfl rfl ?_)
  have q24 := Box.ex hB10 hE17
  have q25 := Box.ex q24 hE23
  refine SeqR.d1 rfl rfl rfl (yl_load1 Try.ty3 rfl rfl ((q25.cell 0).trans rfl) ?_)
  refine SeqR.d1 rfl rfl rfl (yl_fieldAddr Try.fd37_0 rfl rfl ?_)
  refine SeqR.u rfl rfl (yl_store (vs := [.int .i64 (p_a.Now)]) Try.ty3 rfl rfl rfl rfl rfl rfl hB22 (Nat.le_of_ble_eq_true rfl) ?_)
  intro w26 hB27 hO28
  have hB27 : Box w26 b18 37 [.int .i64 (p_a.Now), .int .i64 (0), .slice none 0 0, .int .i64 (0), .slice none 0 0] := hB27
  have hO28z := hO28.size
  refine SeqR.done ?_
  refine tn ?_
  refine CW.seq ?_
  refine CW.region ?_
  refine SeqR.d1 rfl rfl rfl (yl_fieldAddr Try.fd46_1 rfl rfl ?_)
  have q29 := Box.only q25 hO28 (by omega)
  refine SeqR.d1 rfl rfl rfl (yl_loadN (cs := [.int .i64 (p_a.Master.Off)]) Try.ty42 rfl rfl (q29.cells (n := 1) rfl) rfl ?_)
  refine SeqR.d1 rfl rfl rfl (yl_call Try.en68 rfl (opvs_cons rfl opvs_nil) (Cal.mono (c_l_toClock p_a.Master) ?_))
  rintro v31 w30 ⟨rfl, hE32⟩
  have hE32z := Ex.size hE32
  refine SeqR.d1 rfl rfl rfl (yl_fieldAddr Try.fd37_1 rfl rfl ?_)
  have q33 := Box.ex hB27 hE32
  refine SeqR.u rfl rfl (yl_store (vs := [.int .i64 (p_a.Master.Off)]) Try.ty33 rfl rfl rfl rfl rfl rfl q33 (Nat.le_of_ble_eq_true rfl) ?_)
  intro w34 hB35 hO36
  have hB35 : Box w34 b18 37 [.int .i64 (p_a.Now), .int .i64 (p_a.Master.Off), .slice none 0 0, .int .i64 (0), .slice none 0 0] := hB35
  have hO36z := hO36.size
  refine SeqR.done ?_
  refine tn ?_
  refine CW.seq ?_
  refine CW.region ?_
  refine SeqR.d1 rfl rfl rfl (yl_fieldAddr Try.fd46_2 rfl rfl ?_)
  have q37 := Box.ex q29 hE32
  have q38 := Box.only q37 hO36 (by omega)
  refine SeqR.d1 rfl rfl rfl (yl_load1 Try.ty43 rfl rfl ((q38.cell 2).trans rfl) ?_)
  have q39 := RdS.ex good_Clock h1 hE11
  have q40 := RdS.ex good_Clock q39 hE17
  have q41 := RdS.ex good_Clock q40 hE23
  have q42 := RdS.only good_Clock q41 hO28 (by simp only [Iv]; omega)
  have q43 := RdS.ex good_Clock q42 hE32
  have q44 := RdS.only good_Clock q43 hO36 (by simp only [Iv]; omega)
  refine SeqR.d1 rfl rfl rfl (yl_call Try.en69 rfl (opvs_cons rfl opvs_nil) (Cal.mono (c_l_toClockS p_a.Clocks (RdS.up q44 good_Clock) o3.1) ?_))
  rintro v47 w45 ⟨A46, c46, rfl, h46, hE48⟩
  have hE48z := Ex.size hE48
  refine SeqR.d1 rfl rfl rfl (yl_fieldAddr Try.fd37_2 rfl rfl ?_)
  have q49 := Box.ex hB35 hE48
  refine SeqR.u rfl rfl (yl_store (vs := [.slice A46 p_a.Clocks.length c46]) Try.ty34 rfl rfl rfl rfl rfl rfl q49 (Nat.le_of_ble_eq_true rfl) ?_)
  intro w50 hB51 hO52
  have hB51 : Box w50 b18 37 [.int .i64 (p_a.Now), .int .i64 (p_a.Master.Off), .slice A46 p_a.Clocks.length c46, .int .i64 (0), .slice none 0 0] := hB51
  have hO52z := hO52.size
  refine SeqR.done ?_
  refine tn ?_
  refine CW.seq ?_
  refine CW.region ?_
  refine SeqR.d1 rfl rfl rfl (yl_fieldAddr Try.fd46_3 rfl rfl ?_)
  have q53 := Box.ex q38 hE48
  have q54 := Box.only q53 hO52 (by omega)
  refine SeqR.d1 rfl rfl rfl (yl_load1 Try.ty3 rfl rfl ((q54.cell 3).trans rfl) ?_)
  refine SeqR.d1 rfl rfl rfl (yl_fieldAddr Try.fd37_3 rfl rfl ?_)
  refine SeqR.u rfl rfl (yl_store (vs := [.int .i64 (p_a.Ver)]) Try.ty3 rfl rfl rfl rfl rfl rfl hB51 (Nat.le_of_ble_eq_true rfl) ?_)
  intro w55 hB56 hO57
  have hB56 : Box w55 b18 37 [.int .i64 (p_a.Now), .int .i64 (p_a.Master.Off), .slice A46 p_a.Clocks.length c46, .int .i64 (p_a.Ver), .slice none 0 0] := hB56
  have hO57z := hO57.size
  refine SeqR.done ?_
  refine tn ?_
  refine CW.seq ?_
  refine CW.region ?_
  refine SeqR.d1 rfl rfl rfl (yl_fieldAddr Try.fd46_4 rfl rfl ?_)
  have q58 := Box.only q54 hO57 (by omega)
  refine SeqR.d1 rfl rfl rfl (yl_load1 Try.ty44 rfl rfl ((q58.cell 4).trans rfl) ?_)
  have q59 := RdS.ex good_VLease h2 hE11
  have q60 := RdS.ex good_VLease q59 hE17
  have q61 := RdS.ex good_VLease q60 hE23
  have q62 := RdS.only good_VLease q61 hO28 (by simp only [Iv]; omega)
  have q63 := RdS.ex good_VLease q62 hE32
  have q64 := RdS.only good_VLease q63 hO36 (by simp only [Iv]; omega)
  have q65 := RdS.ex good_VLease q64 hE48
  have q66 := RdS.only good_VLease q65 hO52 (by simp only [Iv]; omega)
  have q67 := RdS.only good_VLease q66 hO57 (by simp only [Iv]; omega)
  refine SeqR.d1 rfl rfl rfl (yl_call Try.en70 rfl (opvs_cons rfl opvs_nil) (Cal.mono (c_l_toVLeaseS p_a.Leases (RdS.up q67 good_VLease) o3.2) ?_))
  rintro v70 w68 ⟨A69, c69, rfl, h69, hE71⟩
  have hE71z := Ex.size hE71
  refine SeqR.d1 rfl rfl rfl (yl_fieldAddr Try.fd37_4 rfl rfl ?_)
  have q72 := Box.ex hB56 hE71
  refine SeqR.u rfl rfl (yl_store (vs := [.slice A69 p_a.Leases.length c69]) Try.ty35 rfl rfl rfl rfl rfl rfl q72 (Nat.le_of_ble_eq_true rfl) ?_)
  intro w73 hB74 hO75
  have hB74 : Box w73 b18 37 [.int .i64 (p_a.Now), .int .i64 (p_a.Master.Off), .slice A46 p_a.Clocks.length c46, .int .i64 (p_a.Ver), .slice A69 p_a.Leases.length c69] := hB74
  have hO75z := hO75.size
  refine SeqR.done ?_
  refine tn ?_
  refine CW.seq ?_
  refine CW.region ?_
  refine SeqR.d1 rfl rfl rfl (yl_loadN (cs := [.int .i64 (p_a.Now), .int .i64 (p_a.Master.Off), .slice A46 p_a.Clocks.length c46, .int .i64 (p_a.Ver), .slice A69 p_a.Leases.length c69]) Try.ty37 rfl rfl (hB74.cells (n := 5) rfl) rfl ?_)
  have q76 := Box.ex hB16 hE23
  have q77 := Box.only q76 hO28 (by omega)
  have q78 := Box.ex q77 hE32
  have q79 := Box.only q78 hO36 (by omega)
  have q80 := Box.ex q79 hE48
  have q81 := Box.only q80 hO52 (by omega)
  have q82 := Box.only q81 hO57 (by omega)
  have q83 := Box.ex q82 hE71
  have q84 := Box.only q83 hO75 (by omega)
  refine SeqR.u rfl rfl (yl_store (vs := [.int .i64 (p_a.Now), .int .i64 (p_a.Master.Off), .slice A46 p_a.Clocks.length c46, .int .i64 (p_a.Ver), .slice A69 p_a.Leases.length c69]) Try.ty37 rfl rfl rfl rfl rfl rfl q84 (Nat.le_of_ble_eq_true rfl) ?_)
  intro w85 hB86 hO87
  have hB86 : Box w85 b12 37 [.int .i64 (p_a.Now), .int .i64 (p_a.Master.Off), .slice A46 p_a.Clocks.length c46, .int .i64 (p_a.Ver), .slice A69 p_a.Leases.length c69] := hB86
  have hO87z := hO87.size
  refine SeqR.done ?_
  refine tn ?_
  refine CW.ret ?_
  refine rr rfl (.cons ⟨_, rfl, run_loadN Try.ty37 (cs := [.int .i64 (p_a.Now), .int .i64 (p_a.Master.Off), .slice A46 p_a.Clocks.length c46, .int .i64 (p_a.Ver), .slice A69 p_a.Leases.length c69]) rfl (hB86.cells (n := 5) rfl)⟩ .nil) ?_
  have hM88 : p_a = (p_a) := (to_Renew _).symm.trans <| by simp only [l_toRenew, cond_true, cond_false, loopE_done, loopE_ret]
  have q89 := RdS.only good_Clock h46 hO52 (by simp only [Iv]; omega)
  have q90 := RdS.only good_Clock q89 hO57 (by simp only [Iv]; omega)
  have q91 := RdS.ex good_Clock q90 hE71
  have q92 := RdS.only good_Clock q91 hO75 (by simp only [Iv]; omega)
  have q93 := RdS.only good_Clock q92 hO87 (by simp only [Iv]; omega)
  have q94 := RdS.only good_VLease h69 hO75 (by simp only [Iv]; omega)
  have q95 := RdS.only good_VLease q94 hO87 (by simp only [Iv]; omega)
  rw [hM88]
  have q96 := Ex.trans (Ex.refl w) hE11
  have q97 := Ex.trans q96 hE17
  have q98 := Ex.trans q97 hE23
  have q99 := Below.only q98 hO28 (by omega)
  have q100 := Ex.trans q99 hE32
  have q101 := Below.only q100 hO36 (by omega)
  have q102 := Ex.trans q101 hE48
  have q103 := Below.only q102 hO52 (by omega)
  have q104 := Below.only q103 hO57 (by omega)
  have q105 := Ex.trans q104 hE71
  have q106 := Below.only q105 hO75 (by omega)
  have q107 := Below.only q106 hO87 (by omega)
  exact ⟨A46, c46, A69, c69, rfl, (RdS.wideI good_Clock q93 (by omega)), (RdS.wideI good_VLease q95 (by omega)), q107⟩
set_option maxRecDepth 100000 in
set_option maxHeartbeats 2000000 in
theorem c_s_l1In {w : World} (p_n : Int) (p_lo : Int) (p_hi : Int) : Cal Try.prog 50 #[.int .i64 (p_n), .int .i64 (p_lo), .int .i64 (p_hi)] w fun v w' => v = .bool ((s_l1In p_n p_lo p_hi)) ∧ Ex w w' := by
  refine Cal.of (vs := [.int .i64 (p_n), .int .i64 (p_lo), .int .i64 (p_hi)]) Try.func50 rfl Try.ntmps50 rfl ?_
  refine CW.seq ?_
  refine CW.region ?_
  refine SeqR.d1 rfl rfl rfl (yl_assign rfl rfl ?_)
  refine SeqR.done ?_
  refine tn ?_
  refine CW.seq ?_
  refine CW.region ?_
  refine SeqR.d1 rfl rfl rfl (yl_move rfl rfl ?_)
  refine SeqR.d1 rfl rfl rfl (yl_move rfl rfl ?_)
  refine SeqR.d1 rfl rfl rfl (yl_geq rfl rfl rfl ?_)
  refine SeqR.d1 rfl rfl rfl (yl_move rfl rfl ?_)
  refine bcase (decide (p_lo ≤ p_n)) (fun hb1 => ?_) (fun hb1 => ?_)
  · have hb1p := dec_t hb1
    refine SeqR.y rfl rfl rfl rfl rfl hb1 (yl_move rfl rfl ?_)
    refine SeqR.y rfl rfl rfl rfl rfl hb1 (yl_move rfl rfl ?_)
    refine SeqR.y rfl rfl rfl rfl rfl hb1 (yl_leq rfl rfl rfl ?_)
    refine SeqR.d1 rfl rfl rfl (yl_pick_t rfl rfl hb1 rfl ?_)
    refine SeqR.d1 rfl rfl rfl (yl_assign rfl rfl ?_)
    refine SeqR.done ?_
    refine tn ?_
    refine CW.ret ?_
    refine rr rfl (.cons rfl .nil) ?_
    have hM2 : (s_l1In p_n p_lo p_hi) = (decide (p_n ≤ p_hi)) := by simp only [s_l1In, hb1, cond_true, cond_false, loopE_done, loopE_ret]
    rw [hM2]
    exact ⟨rfl, (Ex.refl w)⟩
  · have hb1p := dec_f hb1
    refine SeqR.z rfl rfl rfl rfl rfl hb1 ?_
    refine SeqR.z rfl rfl rfl rfl rfl hb1 ?_
    refine SeqR.z rfl rfl rfl rfl rfl hb1 ?_
    refine SeqR.d1 rfl rfl rfl (yl_pick_f rfl rfl hb1 rfl ?_)
    refine SeqR.d1 rfl rfl rfl (yl_assign rfl rfl ?_)
    refine SeqR.done ?_
    refine tn ?_
    refine CW.ret ?_
    refine rr rfl (.cons rfl .nil) ?_
    have hM3 : (s_l1In p_n p_lo p_hi) = (false) := by simp only [s_l1In, hb1, cond_true, cond_false, loopE_done, loopE_ret]
    rw [hM3]
    exact ⟨rfl, (Ex.refl w)⟩
set_option maxRecDepth 100000 in
set_option maxHeartbeats 2000000 in
theorem c_s_l2Clock {w : World} (p_c : DClock) : Cal Try.prog 102 #[.agg #[.int .i64 (p_c.Off)]] w fun v w' => v = .bool ((s_l2Clock p_c)) ∧ Ex w w' := by
  refine Cal.of (vs := [.agg #[.int .i64 (p_c.Off)]]) Try.func102 rfl Try.ntmps102 rfl ?_
  refine CW.seq ?_
  refine CW.region ?_
  refine SeqR.d1 rfl rfl rfl (yl_box (cs := [.int .i64 (p_c.Off)]) rfl rfl rfl ?_)
  intro b1 w2 hs3 hz4 hB5 hE6
  refine SeqR.d1 rfl rfl rfl (yl_assign rfl rfl ?_)
  refine SeqR.done ?_
  refine tn ?_
  refine CW.seq ?_
  refine CW.region ?_
  refine SeqR.d1 rfl rfl rfl (yl_fieldAddr Try.fd33_0 rfl rfl ?_)
  refine SeqR.d1 rfl rfl rfl (yl_load1 Try.ty3 rfl rfl ((hB5.cell 0).trans rfl) ?_)
  refine SeqR.d1 rfl rfl rfl (yl_call Try.en50 rfl (opvs_cons rfl (opvs_cons rfl (opvs_cons rfl opvs_nil))) (Cal.mono (c_s_l1In p_c.Off (-5) 5) ?_))
  rintro v8 w7 ⟨rfl, hE9⟩
  have hE9z := Ex.size hE9
  refine SeqR.d1 rfl rfl rfl (yl_assign rfl rfl ?_)
  refine SeqR.done ?_
  refine tn ?_
  refine CW.ret ?_
  refine rr rfl (.cons rfl .nil) ?_
  have hM10 : (s_l2Clock p_c) = ((s_l1In p_c.Off (-5) 5)) := by simp only [s_l2Clock, cond_true, cond_false, loopE_done, loopE_ret]
  rw [hM10]
  have q11 := Ex.trans (Ex.refl w) hE6
  have q12 := Ex.trans q11 hE9
  exact ⟨rfl, q12⟩
set_option maxRecDepth 100000 in
set_option maxHeartbeats 2000000 in
theorem c_s_GoodClock {w : World} (p_c : DClock) : Cal Try.prog 66 #[.agg #[.int .i64 (p_c.Off)]] w fun v w' => v = .bool ((s_GoodClock p_c)) ∧ Ex w w' := by
  refine Cal.of (vs := [.agg #[.int .i64 (p_c.Off)]]) Try.func66 rfl Try.ntmps66 rfl ?_
  refine CW.seq ?_
  refine CW.region ?_
  refine SeqR.d1 rfl rfl rfl (yl_box (cs := [.int .i64 (p_c.Off)]) rfl rfl rfl ?_)
  intro b1 w2 hs3 hz4 hB5 hE6
  refine SeqR.d1 rfl rfl rfl (yl_assign rfl rfl ?_)
  refine SeqR.done ?_
  refine tn ?_
  refine CW.seq ?_
  refine CW.region ?_
  refine SeqR.d1 rfl rfl rfl (yl_loadN (cs := [.int .i64 (p_c.Off)]) Try.ty33 rfl rfl (hB5.cells (n := 1) rfl) rfl ?_)
  refine SeqR.d1 rfl rfl rfl (yl_call Try.en102 rfl (opvs_cons rfl opvs_nil) (Cal.mono (c_s_l2Clock p_c) ?_))
  rintro v8 w7 ⟨rfl, hE9⟩
  have hE9z := Ex.size hE9
  refine SeqR.d1 rfl rfl rfl (yl_assign rfl rfl ?_)
  refine SeqR.done ?_
  refine tn ?_
  refine CW.ret ?_
  refine rr rfl (.cons rfl .nil) ?_
  have hM10 : (s_GoodClock p_c) = ((s_l2Clock p_c)) := by simp only [s_GoodClock, cond_true, cond_false, loopE_done, loopE_ret]
  rw [hM10]
  have q11 := Ex.trans (Ex.refl w) hE6
  have q12 := Ex.trans q11 hE9
  exact ⟨rfl, q12⟩
set_option maxRecDepth 100000 in
set_option maxHeartbeats 2000000 in
theorem c_s_l28Clocks {A1 : Option Addr} {c1 : Nat} {w : World} (p_l : List DClock) (h1 : RdS w (Iv 0 w.heap.size) (RF e_Clock) 1 A1 p_l.length c1 p_l) (o2 : (okL okT) p_l) : Cal Try.prog 67 #[.slice A1 p_l.length c1] w fun v w' => v = .bool ((s_l28Clocks p_l)) ∧ Ex w w' := by
  have hol3 := o2.1
  refine Cal.of (vs := [.slice A1 p_l.length c1]) Try.func67 rfl Try.ntmps67 rfl ?_
  refine CW.seq ?_
  refine CW.region ?_
  refine SeqR.d1 rfl rfl rfl (yl_assign rfl rfl ?_)
  refine SeqR.done ?_
  refine tn ?_
  refine CW.seq ?_
  refine CW.seq ?_
  refine CW.region ?_
  refine SeqR.d1 rfl rfl rfl (yl_move rfl rfl ?_)
  refine SeqR.d1 rfl rfl rfl (yl_len Try.un34 rfl rfl ?_)
  refine SeqR.d1 rfl rfl rfl (yl_move rfl rfl ?_)
  refine SeqR.done ?_
  refine tn ?_
  refine CW.block ?_
  refine CW.loop (fun m19 L20 w21 => ∃ (k4 : Nat), m19 = p_l.length - k4 ∧ k4 ≤ p_l.length ∧ lkp L20 0 = some (.slice A1 p_l.length c1) ∧ lkp L20 5 = some (.slice A1 p_l.length c1) ∧ lkp L20 6 = some (.int .i64 ((p_l.length : Int))) ∧ lkp L20 7 = some (.int .i64 ((k4 : Int))) ∧ RdS w21 (Iv 0 w.heap.size) (RF e_Clock) 1 A1 p_l.length c1 p_l ∧ Ex w w21 ∧ loopM (B_s_l28Clocks_0 p_l) (p_l.length - k4) k4 () = loopM (B_s_l28Clocks_0 p_l) (p_l.length - 0) 0 ()) (p_l.length - 0) ?_ ?_
  · exact ⟨0, rfl, (by omega), rfl, rfl, rfl, rfl, h1, (Ex.refl w), rfl⟩
  · rintro m22 L23 w24 ⟨k4, rfl, hk25, hl27, hl28, hl29, hl30, hf31, hf32, hI26⟩
    refine CW.sub (Sub.cons hl27 (Sub.cons hl28 (Sub.cons hl29 (Sub.cons hl30 (Sub.nil _))))) ?_
    have hf32z := Ex.size hf32
    have hbg33 := RdS.big hf31
    rcases Nat.lt_or_ge k4 p_l.length with hlt34 | hlt34
    · skip
      refine CW.seq ?_
      refine CW.region ?_
      refine SeqR.d1 rfl rfl rfl (yl_lss rfl rfl rfl ?_)
      refine SeqR.done ?_
      refine tn ?_
      refine CW.seq ?_
      refine CW.cond_t rfl (lt_t hlt34) ?_
      refine CW.skip ?_
      refine tn ?_
      refine CW.seq ?_
      refine CW.block ?_
      refine CW.seq ?_
      refine CW.region ?_
      obtain ⟨eb35, eo35, ec35, eA35, eS35, ebl35, el35, eR35, eC35⟩ := RdS.atD hf31 d_Clock (i := k4) (by first | omega | assumption)
      obtain rfl := eR35
      have eC35 : Cells w24 eb35 (eo35 + k4 * 1) [.int .i64 ((p_l.getD k4 d_Clock).Off)] := eC35
      refine SeqR.d1 rfl rfl rfl (yl_indexAddrN Try.un34 Try.ty33 rfl rfl rfl eA35 (by first | omega | assumption | (simp only [IntKind.wrap_i64] at *; omega)) ?_)
      refine SeqR.d1 rfl rfl rfl (yl_loadN (cs := [.int .i64 ((p_l.getD k4 d_Clock).Off)]) Try.ty33 rfl rfl eC35 rfl ?_)
      refine SeqR.d1 rfl rfl rfl (yl_alloc Try.ty33 (cs := [.int .i64 (0)]) rfl rfl ?_)
      intro b36 w37 hs38 hz39 hB40 hE41
      refine SeqR.u rfl rfl (yl_store (vs := [.int .i64 ((p_l.getD k4 d_Clock).Off)]) Try.ty33 rfl rfl rfl rfl rfl rfl hB40 (Nat.le_of_ble_eq_true rfl) ?_)
      intro w42 hB43 hO44
      have hB43 : Box w42 b36 33 [.int .i64 ((p_l.getD k4 d_Clock).Off)] := hB43
      have hO44z := hO44.size
      refine SeqR.done ?_
      refine tn ?_
      refine CW.seq ?_
      refine CW.region ?_
      refine SeqR.d1 rfl rfl rfl (yl_loadN (cs := [.int .i64 ((p_l.getD k4 d_Clock).Off)]) Try.ty33 rfl rfl (hB43.cells (n := 1) rfl) rfl ?_)
      refine SeqR.d1 rfl rfl rfl (yl_call Try.en66 rfl (opvs_cons rfl opvs_nil) (Cal.mono (c_s_GoodClock (p_l.getD k4 d_Clock)) ?_))
      rintro v46 w45 ⟨rfl, hE47⟩
      have hE47z := Ex.size hE47
      refine SeqR.d1 rfl rfl rfl (yl_not rfl rfl ?_)
      refine SeqR.done ?_
      refine tn ?_
      refine bcase (s_GoodClock (p_l.getD k4 d_Clock)) (fun hb48 => ?_) (fun hb48 => ?_)
      · skip
        refine CW.cond_f rfl (not_t hb48) ?_
        refine CW.skip ?_
        refine bn ?_
        refine tn ?_
        refine CW.region ?_
        refine SeqR.d1 rfl rfl rfl (yl_inc rfl rfl rfl (by omega) ?_)
        refine SeqR.d1 rfl rfl rfl (yl_move rfl rfl ?_)
        refine SeqR.done ?_
        refine tn ?_
        have hB49 : B_s_l28Clocks_0 p_l k4 () = .cont () := by simp only [B_s_l28Clocks_0, hb48, cond_true, cond_false, loopE_done, loopE_ret]
        have q50 := RdS.ex good_Clock hf31 hE41
        have q51 := RdS.only good_Clock q50 hO44 (by simp only [Iv]; omega)
        have q52 := RdS.ex good_Clock q51 hE47
        have q53 := Ex.trans hf32 hE41
        have q54 := Below.only q53 hO44 (by omega)
        have q55 := Ex.trans q54 hE47
        exact ⟨p_l.length - (k4 + 1), by omega, k4 + 1, rfl, hlt34, rfl, rfl, rfl, rfl, q52, q55, (loopM.cont hlt34 hB49).symm.trans hI26⟩
      · skip
        refine CW.cond_t rfl (not_f hb48) ?_
        refine CW.seq ?_
        refine CW.region ?_
        refine SeqR.d1 rfl rfl rfl (yl_assign rfl rfl ?_)
        refine SeqR.done ?_
        refine tn ?_
        refine CW.ret ?_
        refine br ?_
        refine tr ?_
        refine tr ?_
        have hB57 : B_s_l28Clocks_0 p_l k4 () = .ret false := by simp only [B_s_l28Clocks_0, hb48, cond_true, cond_false, loopE_done, loopE_ret]
        have hL56 : loopM (B_s_l28Clocks_0 p_l) (p_l.length - 0) 0 () = .ret false := hI26.symm.trans (loopM.ret hlt34 hB57)
        refine br ?_
        refine tr ?_
        refine rr rfl (.cons rfl .nil) ?_
        have hM58 : (s_l28Clocks p_l) = (false) := by simp only [s_l28Clocks, hb48, hL56, cond_true, cond_false, loopE_done, loopE_ret]
        rw [hM58]
        have q59 := Ex.trans hf32 hE41
        have q60 := Below.only q59 hO44 (by omega)
        have q61 := Ex.trans q60 hE47
        exact ⟨rfl, q61⟩
    · skip
      refine CW.seq ?_
      refine CW.region ?_
      refine SeqR.d1 rfl rfl rfl (yl_lss rfl rfl rfl ?_)
      refine SeqR.done ?_
      refine tn ?_
      refine CW.seq ?_
      refine CW.cond_f rfl (lt_f hlt34) ?_
      refine CW.exit ?_
      refine tx ?_
      refine tx ?_
      have hL62 : loopM (B_s_l28Clocks_0 p_l) (p_l.length - 0) 0 () = .done () := hI26.symm.trans (loopM.stop hlt34)
      refine bx ?_
      refine tn ?_
      refine CW.seq ?_
      refine CW.region ?_
      refine SeqR.d1 rfl rfl rfl (yl_move rfl rfl ?_)
      refine SeqR.d1 rfl rfl rfl (yl_len Try.un34 rfl rfl ?_)
      refine SeqR.d1 rfl rfl rfl (yl_call Try.en50 rfl (opvs_cons rfl (opvs_cons rfl (opvs_cons rfl opvs_nil))) (Cal.mono (c_s_l1In (p_l.length : Int) 1 3) ?_))
      rintro v64 w63 ⟨rfl, hE65⟩
      have hE65z := Ex.size hE65
      refine SeqR.d1 rfl rfl rfl (yl_assign rfl rfl ?_)
      refine SeqR.done ?_
      refine tn ?_
      refine CW.ret ?_
      refine rr rfl (.cons rfl .nil) ?_
      have hM66 : (s_l28Clocks p_l) = ((s_l1In (p_l.length : Int) 1 3)) := by simp only [s_l28Clocks, hL62, cond_true, cond_false, loopE_done, loopE_ret]
      rw [hM66]
      have q67 := Ex.trans hf32 hE65
      exact ⟨rfl, q67⟩
set_option maxRecDepth 100000 in
set_option maxHeartbeats 2000000 in
theorem c_s_GoodRenew {A1 : Option Addr} {c1 : Nat} {A2 : Option Addr} {c2 : Nat} {w : World} (p_r : DRenew) (h1 : RdS w (Iv 0 w.heap.size) (RF e_Clock) 1 A1 p_r.Clocks.length c1 p_r.Clocks) (h2 : RdS w (Iv 0 w.heap.size) (RF e_VLease) 2 A2 p_r.Leases.length c2 p_r.Leases) (o3 : ok_Renew p_r) : Cal Try.prog 25 #[.agg #[.int .i64 (p_r.Now), .int .i64 (p_r.Master.Off), .slice A1 p_r.Clocks.length c1, .int .i64 (p_r.Ver), .slice A2 p_r.Leases.length c2]] w fun v w' => v = .bool ((s_GoodRenew p_r)) ∧ Ex w w' := by
  have hol4 := o3.1.1
  have hol5 := o3.2.1
  refine Cal.of (vs := [.agg #[.int .i64 (p_r.Now), .int .i64 (p_r.Master.Off), .slice A1 p_r.Clocks.length c1, .int .i64 (p_r.Ver), .slice A2 p_r.Leases.length c2]]) Try.func25 rfl Try.ntmps25 rfl ?_
  refine CW.seq ?_
  refine CW.region ?_
  refine SeqR.d1 rfl rfl rfl (yl_box (cs := [.int .i64 (p_r.Now), .int .i64 (p_r.Master.Off), .slice A1 p_r.Clocks.length c1, .int .i64 (p_r.Ver), .slice A2 p_r.Leases.length c2]) rfl rfl rfl ?_)
  intro b6 w7 hs8 hz9 hB10 hE11
  refine SeqR.d1 rfl rfl rfl (yl_assign rfl rfl ?_)
  refine SeqR.done ?_
  refine tn ?_
  refine CW.seq ?_
  refine CW.seq ?_
  refine CW.region ?_
  refine SeqR.d1 rfl rfl rfl (yl_fieldAddr Try.fd37_0 rfl rfl ?_)
  refine SeqR.d1 rfl rfl rfl (yl_load1 Try.ty3 rfl rfl ((hB10.cell 0).trans rfl) ?_)
  refine SeqR.d1 rfl rfl rfl (yl_call Try.en50 rfl (opvs_cons rfl (opvs_cons rfl (opvs_cons rfl opvs_nil))) (Cal.mono (c_s_l1In p_r.Now 0 1000) ?_))
  rintro v13 w12 ⟨rfl, hE14⟩
  have hE14z := Ex.size hE14
  refine SeqR.d1 rfl rfl rfl (yl_not rfl rfl ?_)
  refine SeqR.d1 rfl rfl rfl (yl_move rfl rfl ?_)
  refine bcase (s_l1In p_r.Now 0 1000) (fun hb15 => ?_) (fun hb15 => ?_)
  · have hb15p := f_l1In hb15
    refine SeqR.y rfl rfl rfl rfl rfl (not_t hb15) (yl_fieldAddr Try.fd37_1 rfl rfl ?_)
    have q16 := Box.ex hB10 hE14
    refine SeqR.y rfl rfl rfl rfl rfl (not_t hb15) (yl_loadN (cs := [.int .i64 (p_r.Master.Off)]) Try.ty33 rfl rfl (q16.cells (n := 1) rfl) rfl ?_)
    refine SeqR.y rfl rfl rfl rfl rfl (not_t hb15) (yl_call Try.en66 rfl (opvs_cons rfl opvs_nil) (Cal.mono (c_s_GoodClock p_r.Master) ?_))
    rintro v18 w17 ⟨rfl, hE19⟩
    have hE19z := Ex.size hE19
    refine SeqR.y rfl rfl rfl rfl rfl (not_t hb15) (yl_not rfl rfl ?_)
    refine SeqR.d1 rfl rfl rfl (yl_pick_f rfl rfl (not_t hb15) rfl ?_)
    refine SeqR.d1 rfl rfl rfl (yl_move rfl rfl ?_)
    refine bcase (s_GoodClock p_r.Master) (fun hb20 => ?_) (fun hb20 => ?_)
    · skip
      refine SeqR.y rfl rfl rfl rfl rfl (not_t hb20) (yl_fieldAddr Try.fd37_2 rfl rfl ?_)
      have q21 := Box.ex q16 hE19
      refine SeqR.y rfl rfl rfl rfl rfl (not_t hb20) (yl_load1 Try.ty34 rfl rfl ((q21.cell 2).trans rfl) ?_)
      have q22 := RdS.ex good_Clock h1 hE11
      have q23 := RdS.ex good_Clock q22 hE14
      have q24 := RdS.ex good_Clock q23 hE19
      refine SeqR.y rfl rfl rfl rfl rfl (not_t hb20) (yl_call Try.en67 rfl (opvs_cons rfl opvs_nil) (Cal.mono (c_s_l28Clocks p_r.Clocks (RdS.up q24 good_Clock) o3.1) ?_))
      rintro v26 w25 ⟨rfl, hE27⟩
      have hE27z := Ex.size hE27
      refine SeqR.y rfl rfl rfl rfl rfl (not_t hb20) (yl_not rfl rfl ?_)
      refine SeqR.d1 rfl rfl rfl (yl_pick_f rfl rfl (not_t hb20) rfl ?_)
      refine SeqR.d1 rfl rfl rfl (yl_move rfl rfl ?_)
      refine bcase (s_l28Clocks p_r.Clocks) (fun hb28 => ?_) (fun hb28 => ?_)
      · skip
        refine SeqR.y rfl rfl rfl rfl rfl (not_t hb28) (yl_fieldAddr Try.fd37_3 rfl rfl ?_)
        have q29 := Box.ex q21 hE27
        refine SeqR.y rfl rfl rfl rfl rfl (not_t hb28) (yl_load1 Try.ty3 rfl rfl ((q29.cell 3).trans rfl) ?_)
        refine SeqR.y rfl rfl rfl rfl rfl (not_t hb28) (yl_call Try.en50 rfl (opvs_cons rfl (opvs_cons rfl (opvs_cons rfl opvs_nil))) (Cal.mono (c_s_l1In p_r.Ver 0 20) ?_))
        rintro v31 w30 ⟨rfl, hE32⟩
        have hE32z := Ex.size hE32
        refine SeqR.y rfl rfl rfl rfl rfl (not_t hb28) (yl_not rfl rfl ?_)
        refine SeqR.d1 rfl rfl rfl (yl_pick_f rfl rfl (not_t hb28) rfl ?_)
        refine SeqR.d1 rfl rfl rfl (yl_move rfl rfl ?_)
        refine bcase (s_l1In p_r.Ver 0 20) (fun hb33 => ?_) (fun hb33 => ?_)
        · have hb33p := f_l1In hb33
          refine SeqR.y rfl rfl rfl rfl rfl (not_t hb33) (yl_fieldAddr Try.fd37_4 rfl rfl ?_)
          have q34 := Box.ex q29 hE32
          refine SeqR.y rfl rfl rfl rfl rfl (not_t hb33) (yl_load1 Try.ty35 rfl rfl ((q34.cell 4).trans rfl) ?_)
          refine SeqR.y rfl rfl rfl rfl rfl (not_t hb33) (yl_len Try.un35 rfl rfl ?_)
          refine SeqR.y rfl rfl rfl rfl rfl (not_t hb33) (yl_fieldAddr Try.fd37_2 rfl rfl ?_)
          refine SeqR.y rfl rfl rfl rfl rfl (not_t hb33) (yl_load1 Try.ty34 rfl rfl ((q34.cell 2).trans rfl) ?_)
          refine SeqR.y rfl rfl rfl rfl rfl (not_t hb33) (yl_len Try.un34 rfl rfl ?_)
          refine SeqR.y rfl rfl rfl rfl rfl (not_t hb33) (yl_neq rfl rfl rfl ?_)
          refine SeqR.d1 rfl rfl rfl (yl_pick_f rfl rfl (not_t hb33) rfl ?_)
          refine SeqR.done ?_
          refine tn ?_
          refine bcase (decide ((p_r.Leases.length : Int) = (p_r.Clocks.length : Int))) (fun hb35 => ?_) (fun hb35 => ?_)
          · have hb35p := dec_t hb35
            refine CW.cond_f rfl (not_t hb35) ?_
            refine CW.skip ?_
            refine tn ?_
            refine CW.seq ?_
            refine CW.seq ?_
            refine CW.region ?_
            refine SeqR.d1 rfl rfl rfl (yl_fieldAddr Try.fd37_4 rfl rfl ?_)
            refine SeqR.d1 rfl rfl rfl (yl_load1 Try.ty35 rfl rfl ((q34.cell 4).trans rfl) ?_)
            refine SeqR.d1 rfl rfl rfl (yl_len Try.un35 rfl rfl ?_)
            refine SeqR.d1 rfl rfl rfl (yl_move rfl rfl ?_)
            refine SeqR.done ?_
            refine tn ?_
            refine CW.block ?_
            have q58 := RdS.ex good_Clock q24 hE27
            have q59 := RdS.ex good_Clock q58 hE32
            have q60 := RdS.ex good_VLease h2 hE11
            have q61 := RdS.ex good_VLease q60 hE14
            have q62 := RdS.ex good_VLease q61 hE19
            have q63 := RdS.ex good_VLease q62 hE27
            have q64 := RdS.ex good_VLease q63 hE32
            have q65 := Ex.trans (Ex.refl w) hE11
            have q66 := Ex.trans q65 hE14
            have q67 := Ex.trans q66 hE19
            have q68 := Ex.trans q67 hE27
            have q69 := Ex.trans q68 hE32
            refine CW.loop (fun m55 L56 w57 => ∃ (k36 : Nat), m55 = p_r.Leases.length - k36 ∧ k36 ≤ p_r.Leases.length ∧ lkp L56 1 = some (.pointer (some ⟨b6, 0, none⟩)) ∧ lkp L56 37 = some (.slice A2 p_r.Leases.length c2) ∧ lkp L56 38 = some (.int .i64 ((p_r.Leases.length : Int))) ∧ lkp L56 39 = some (.int .i64 ((k36 : Int))) ∧ Box w57 b6 37 [.int .i64 (p_r.Now), .int .i64 (p_r.Master.Off), .slice A1 p_r.Clocks.length c1, .int .i64 (p_r.Ver), .slice A2 p_r.Leases.length c2] ∧ RdS w57 (Iv 0 w.heap.size) (RF e_Clock) 1 A1 p_r.Clocks.length c1 p_r.Clocks ∧ RdS w57 (Iv 0 w.heap.size) (RF e_VLease) 2 A2 p_r.Leases.length c2 p_r.Leases ∧ Ex w w57 ∧ loopM (B_s_GoodRenew_0 p_r) (p_r.Leases.length - k36) k36 () = loopM (B_s_GoodRenew_0 p_r) (p_r.Leases.length - 0) 0 ()) (p_r.Leases.length - 0) ?_ ?_
            · exact ⟨0, rfl, (by omega), rfl, rfl, rfl, rfl, q34, q59, q64, q69, rfl⟩
            · rintro m70 L71 w72 ⟨k36, rfl, hk73, hl75, hl76, hl77, hl78, hf79, hf80, hf81, hf82, hI74⟩
              refine CW.sub (Sub.cons hl75 (Sub.cons hl76 (Sub.cons hl77 (Sub.cons hl78 (Sub.nil _))))) ?_
              have hf79z := Box.lt hf79
              have hf82z := Ex.size hf82
              have hbg83 := RdS.big hf81
              rcases Nat.lt_or_ge k36 p_r.Leases.length with hlt84 | hlt84
              · skip
                refine CW.seq ?_
                refine CW.region ?_
                refine SeqR.d1 rfl rfl rfl (yl_lss rfl rfl rfl ?_)
                refine SeqR.done ?_
                refine tn ?_
                refine CW.seq ?_
                refine CW.cond_t rfl (lt_t hlt84) ?_
                refine CW.skip ?_
                refine tn ?_
                refine CW.seq ?_
                refine CW.block ?_
                refine CW.seq ?_
                refine CW.region ?_
                obtain ⟨eb85, eo85, ec85, eA85, eS85, ebl85, el85, eR85, eC85⟩ := RdS.atD hf81 d_VLease (i := k36) (by first | omega | assumption)
                obtain rfl := eR85
                have eC85 : Cells w72 eb85 (eo85 + k36 * 2) [.int .i64 ((p_r.Leases.getD k36 d_VLease).Ver), .int .i64 ((p_r.Leases.getD k36 d_VLease).Until)] := eC85
                refine SeqR.d1 rfl rfl rfl (yl_indexAddrN Try.un35 Try.ty103 rfl rfl rfl eA85 (by first | omega | assumption | (simp only [IntKind.wrap_i64] at *; omega)) ?_)
                refine SeqR.d1 rfl rfl rfl (yl_loadN (cs := [.int .i64 ((p_r.Leases.getD k36 d_VLease).Ver), .int .i64 ((p_r.Leases.getD k36 d_VLease).Until)]) Try.ty103 rfl rfl eC85 rfl ?_)
                refine SeqR.d1 rfl rfl rfl (yl_alloc Try.ty103 (cs := [.int .i64 (0), .int .i64 (0)]) rfl rfl ?_)
                intro b86 w87 hs88 hz89 hB90 hE91
                refine SeqR.u rfl rfl (yl_store (vs := [.int .i64 ((p_r.Leases.getD k36 d_VLease).Ver), .int .i64 ((p_r.Leases.getD k36 d_VLease).Until)]) Try.ty103 rfl rfl rfl rfl rfl rfl hB90 (Nat.le_of_ble_eq_true rfl) ?_)
                intro w92 hB93 hO94
                have hB93 : Box w92 b86 103 [.int .i64 ((p_r.Leases.getD k36 d_VLease).Ver), .int .i64 ((p_r.Leases.getD k36 d_VLease).Until)] := hB93
                have hO94z := hO94.size
                refine SeqR.done ?_
                refine tn ?_
                refine CW.seq ?_
                refine CW.region ?_
                refine SeqR.d1 rfl rfl rfl (yl_fieldAddr Try.fd103_0 rfl rfl ?_)
                refine SeqR.d1 rfl rfl rfl (yl_load1 Try.ty3 rfl rfl ((hB93.cell 0).trans rfl) ?_)
                refine SeqR.d1 rfl rfl rfl (yl_fieldAddr Try.fd37_3 rfl rfl ?_)
                have q95 := Box.ex hf79 hE91
                have q96 := Box.only q95 hO94 (by omega)
                refine SeqR.d1 rfl rfl rfl (yl_load1 Try.ty3 rfl rfl ((q96.cell 3).trans rfl) ?_)
                refine SeqR.d1 rfl rfl rfl (yl_call Try.en50 rfl (opvs_cons rfl (opvs_cons rfl (opvs_cons rfl opvs_nil))) (Cal.mono (c_s_l1In ((p_r.Leases.getD k36 d_VLease).Ver) 0 p_r.Ver) ?_))
                rintro v98 w97 ⟨rfl, hE99⟩
                have hE99z := Ex.size hE99
                refine SeqR.d1 rfl rfl rfl (yl_not rfl rfl ?_)
                refine SeqR.d1 rfl rfl rfl (yl_move rfl rfl ?_)
                refine bcase (s_l1In ((p_r.Leases.getD k36 d_VLease).Ver) 0 p_r.Ver) (fun hb100 => ?_) (fun hb100 => ?_)
                · have hb100p := f_l1In hb100
                  refine SeqR.y rfl rfl rfl rfl rfl (not_t hb100) (yl_fieldAddr Try.fd103_1 rfl rfl ?_)
                  have q101 := Box.ex hB93 hE99
                  refine SeqR.y rfl rfl rfl rfl rfl (not_t hb100) (yl_load1 Try.ty3 rfl rfl ((q101.cell 1).trans rfl) ?_)
                  refine SeqR.y rfl rfl rfl rfl rfl (not_t hb100) (yl_call Try.en50 rfl (opvs_cons rfl (opvs_cons rfl (opvs_cons rfl opvs_nil))) (Cal.mono (c_s_l1In ((p_r.Leases.getD k36 d_VLease).Until) 0 1020) ?_))
                  rintro v103 w102 ⟨rfl, hE104⟩
                  have hE104z := Ex.size hE104
                  refine SeqR.y rfl rfl rfl rfl rfl (not_t hb100) (yl_not rfl rfl ?_)
                  refine SeqR.d1 rfl rfl rfl (yl_pick_f rfl rfl (not_t hb100) rfl ?_)
                  refine SeqR.done ?_
                  refine tn ?_
                  refine bcase (s_l1In ((p_r.Leases.getD k36 d_VLease).Until) 0 1020) (fun hb105 => ?_) (fun hb105 => ?_)
                  · have hb105p := f_l1In hb105
                    refine CW.cond_f rfl (not_t hb105) ?_
                    refine CW.skip ?_
                    refine bn ?_
                    refine tn ?_
                    refine CW.region ?_
                    refine SeqR.d1 rfl rfl rfl (yl_inc rfl rfl rfl (by omega) ?_)
                    refine SeqR.d1 rfl rfl rfl (yl_move rfl rfl ?_)
                    refine SeqR.done ?_
                    refine tn ?_
                    have hB106 : B_s_GoodRenew_0 p_r k36 () = .cont () := by simp only [B_s_GoodRenew_0, hb15, hb20, hb28, hb33, hb35, hb100, hb105, cond_true, cond_false, loopE_done, loopE_ret]
                    have q107 := Box.ex q96 hE99
                    have q108 := Box.ex q107 hE104
                    have q109 := RdS.ex good_Clock hf80 hE91
                    have q110 := RdS.only good_Clock q109 hO94 (by simp only [Iv]; omega)
                    have q111 := RdS.ex good_Clock q110 hE99
                    have q112 := RdS.ex good_Clock q111 hE104
                    have q113 := RdS.ex good_VLease hf81 hE91
                    have q114 := RdS.only good_VLease q113 hO94 (by simp only [Iv]; omega)
                    have q115 := RdS.ex good_VLease q114 hE99
                    have q116 := RdS.ex good_VLease q115 hE104
                    have q117 := Ex.trans hf82 hE91
                    have q118 := Below.only q117 hO94 (by omega)
                    have q119 := Ex.trans q118 hE99
                    have q120 := Ex.trans q119 hE104
                    exact ⟨p_r.Leases.length - (k36 + 1), by omega, k36 + 1, rfl, hlt84, rfl, rfl, rfl, rfl, q108, q112, q116, q120, (loopM.cont hlt84 hB106).symm.trans hI74⟩
                  · skip
                    refine CW.cond_t rfl (not_f hb105) ?_
                    refine CW.seq ?_
                    refine CW.region ?_
                    refine SeqR.d1 rfl rfl rfl (yl_assign rfl rfl ?_)
                    refine SeqR.done ?_
                    refine tn ?_
                    refine CW.ret ?_
                    refine br ?_
                    refine tr ?_
                    refine tr ?_
                    have hB122 : B_s_GoodRenew_0 p_r k36 () = .ret false := by simp only [B_s_GoodRenew_0, hb15, hb20, hb28, hb33, hb35, hb100, hb105, cond_true, cond_false, loopE_done, loopE_ret]
                    have hL121 : loopM (B_s_GoodRenew_0 p_r) (p_r.Leases.length - 0) 0 () = .ret false := hI74.symm.trans (loopM.ret hlt84 hB122)
                    refine br ?_
                    refine tr ?_
                    refine rr rfl (.cons rfl .nil) ?_
                    have hM123 : (s_GoodRenew p_r) = (false) := by simp only [s_GoodRenew, hb15, hb20, hb28, hb33, hb35, hb100, hb105, hL121, cond_true, cond_false, loopE_done, loopE_ret]
                    rw [hM123]
                    have q124 := Ex.trans hf82 hE91
                    have q125 := Below.only q124 hO94 (by omega)
                    have q126 := Ex.trans q125 hE99
                    have q127 := Ex.trans q126 hE104
                    exact ⟨rfl, q127⟩
                · skip
                  refine SeqR.z rfl rfl rfl rfl rfl (not_f hb100) ?_
                  refine SeqR.z rfl rfl rfl rfl rfl (not_f hb100) ?_
                  refine SeqR.z rfl rfl rfl rfl rfl (not_f hb100) ?_
                  refine SeqR.z rfl rfl rfl rfl rfl (not_f hb100) ?_
                  refine SeqR.d1 rfl rfl rfl (yl_pick_t rfl rfl (not_f hb100) rfl ?_)
                  refine SeqR.done ?_
                  refine tn ?_
                  refine CW.cond_t rfl rfl ?_
                  refine CW.seq ?_
                  refine CW.region ?_
                  refine SeqR.d1 rfl rfl rfl (yl_assign rfl rfl ?_)
                  refine SeqR.done ?_
                  refine tn ?_
                  refine CW.ret ?_
                  refine br ?_
                  refine tr ?_
                  refine tr ?_
                  have hB129 : B_s_GoodRenew_0 p_r k36 () = .ret false := by simp only [B_s_GoodRenew_0, hb15, hb20, hb28, hb33, hb35, hb100, cond_true, cond_false, loopE_done, loopE_ret]
                  have hL128 : loopM (B_s_GoodRenew_0 p_r) (p_r.Leases.length - 0) 0 () = .ret false := hI74.symm.trans (loopM.ret hlt84 hB129)
                  refine br ?_
                  refine tr ?_
                  refine rr rfl (.cons rfl .nil) ?_
                  have hM130 : (s_GoodRenew p_r) = (false) := by simp only [s_GoodRenew, hb15, hb20, hb28, hb33, hb35, hb100, hL128, cond_true, cond_false, loopE_done, loopE_ret]
                  rw [hM130]
                  have q131 := Ex.trans hf82 hE91
                  have q132 := Below.only q131 hO94 (by omega)
                  have q133 := Ex.trans q132 hE99
                  exact ⟨rfl, q133⟩
              · skip
                refine CW.seq ?_
                refine CW.region ?_
                refine SeqR.d1 rfl rfl rfl (yl_lss rfl rfl rfl ?_)
                refine SeqR.done ?_
                refine tn ?_
                refine CW.seq ?_
                refine CW.cond_f rfl (lt_f hlt84) ?_
                refine CW.exit ?_
                refine tx ?_
                refine tx ?_
                have hL134 : loopM (B_s_GoodRenew_0 p_r) (p_r.Leases.length - 0) 0 () = .done () := hI74.symm.trans (loopM.stop hlt84)
                refine bx ?_
                refine tn ?_
                refine CW.seq ?_
                refine CW.region ?_
                refine SeqR.d1 rfl rfl rfl (yl_assign rfl rfl ?_)
                refine SeqR.done ?_
                refine tn ?_
                refine CW.ret ?_
                refine rr rfl (.cons rfl .nil) ?_
                have hM135 : (s_GoodRenew p_r) = (true) := by simp only [s_GoodRenew, hb15, hb20, hb28, hb33, hb35, hL134, cond_true, cond_false, loopE_done, loopE_ret]
                rw [hM135]
                exact ⟨rfl, hf82⟩
          · have hb35p := dec_f hb35
            refine CW.cond_t rfl (not_f hb35) ?_
            refine CW.seq ?_
            refine CW.region ?_
            refine SeqR.d1 rfl rfl rfl (yl_assign rfl rfl ?_)
            refine SeqR.done ?_
            refine tn ?_
            refine CW.ret ?_
            refine tr ?_
            refine rr rfl (.cons rfl .nil) ?_
            have hM136 : (s_GoodRenew p_r) = (false) := by simp only [s_GoodRenew, hb15, hb20, hb28, hb33, hb35, cond_true, cond_false, loopE_done, loopE_ret]
            rw [hM136]
            have q137 := Ex.trans (Ex.refl w) hE11
            have q138 := Ex.trans q137 hE14
            have q139 := Ex.trans q138 hE19
            have q140 := Ex.trans q139 hE27
            have q141 := Ex.trans q140 hE32
            exact ⟨rfl, q141⟩
        · skip
          refine SeqR.z rfl rfl rfl rfl rfl (not_f hb33) ?_
          refine SeqR.z rfl rfl rfl rfl rfl (not_f hb33) ?_
          refine SeqR.z rfl rfl rfl rfl rfl (not_f hb33) ?_
          refine SeqR.z rfl rfl rfl rfl rfl (not_f hb33) ?_
          refine SeqR.z rfl rfl rfl rfl rfl (not_f hb33) ?_
          refine SeqR.z rfl rfl rfl rfl rfl (not_f hb33) ?_
          refine SeqR.z rfl rfl rfl rfl rfl (not_f hb33) ?_
          refine SeqR.d1 rfl rfl rfl (yl_pick_t rfl rfl (not_f hb33) rfl ?_)
          refine SeqR.done ?_
          refine tn ?_
          refine CW.cond_t rfl rfl ?_
          refine CW.seq ?_
          refine CW.region ?_
          refine SeqR.d1 rfl rfl rfl (yl_assign rfl rfl ?_)
          refine SeqR.done ?_
          refine tn ?_
          refine CW.ret ?_
          refine tr ?_
          refine rr rfl (.cons rfl .nil) ?_
          have hM142 : (s_GoodRenew p_r) = (false) := by simp only [s_GoodRenew, hb15, hb20, hb28, hb33, cond_true, cond_false, loopE_done, loopE_ret]
          rw [hM142]
          have q143 := Ex.trans (Ex.refl w) hE11
          have q144 := Ex.trans q143 hE14
          have q145 := Ex.trans q144 hE19
          have q146 := Ex.trans q145 hE27
          have q147 := Ex.trans q146 hE32
          exact ⟨rfl, q147⟩
      · skip
        refine SeqR.z rfl rfl rfl rfl rfl (not_f hb28) ?_
        refine SeqR.z rfl rfl rfl rfl rfl (not_f hb28) ?_
        refine SeqR.z rfl rfl rfl rfl rfl (not_f hb28) ?_
        refine SeqR.z rfl rfl rfl rfl rfl (not_f hb28) ?_
        refine SeqR.d1 rfl rfl rfl (yl_pick_t rfl rfl (not_f hb28) rfl ?_)
        refine SeqR.d1 rfl rfl rfl (yl_move rfl rfl ?_)
        refine SeqR.z rfl rfl rfl rfl rfl rfl ?_
        refine SeqR.z rfl rfl rfl rfl rfl rfl ?_
        refine SeqR.z rfl rfl rfl rfl rfl rfl ?_
        refine SeqR.z rfl rfl rfl rfl rfl rfl ?_
        refine SeqR.z rfl rfl rfl rfl rfl rfl ?_
        refine SeqR.z rfl rfl rfl rfl rfl rfl ?_
        refine SeqR.z rfl rfl rfl rfl rfl rfl ?_
        refine SeqR.d1 rfl rfl rfl (yl_pick_t rfl rfl rfl rfl ?_)
        refine SeqR.done ?_
        refine tn ?_
        refine CW.cond_t rfl rfl ?_
        refine CW.seq ?_
        refine CW.region ?_
        refine SeqR.d1 rfl rfl rfl (yl_assign rfl rfl ?_)
        refine SeqR.done ?_
        refine tn ?_
        refine CW.ret ?_
        refine tr ?_
        refine rr rfl (.cons rfl .nil) ?_
        have hM148 : (s_GoodRenew p_r) = (false) := by simp only [s_GoodRenew, hb15, hb20, hb28, cond_true, cond_false, loopE_done, loopE_ret]
        rw [hM148]
        have q149 := Ex.trans (Ex.refl w) hE11
        have q150 := Ex.trans q149 hE14
        have q151 := Ex.trans q150 hE19
        have q152 := Ex.trans q151 hE27
        exact ⟨rfl, q152⟩
    · skip
      refine SeqR.z rfl rfl rfl rfl rfl (not_f hb20) ?_
      refine SeqR.z rfl rfl rfl rfl rfl (not_f hb20) ?_
      refine SeqR.z rfl rfl rfl rfl rfl (not_f hb20) ?_
      refine SeqR.z rfl rfl rfl rfl rfl (not_f hb20) ?_
      refine SeqR.d1 rfl rfl rfl (yl_pick_t rfl rfl (not_f hb20) rfl ?_)
      refine SeqR.d1 rfl rfl rfl (yl_move rfl rfl ?_)
      refine SeqR.z rfl rfl rfl rfl rfl rfl ?_
      refine SeqR.z rfl rfl rfl rfl rfl rfl ?_
      refine SeqR.z rfl rfl rfl rfl rfl rfl ?_
      refine SeqR.z rfl rfl rfl rfl rfl rfl ?_
      refine SeqR.d1 rfl rfl rfl (yl_pick_t rfl rfl rfl rfl ?_)
      refine SeqR.d1 rfl rfl rfl (yl_move rfl rfl ?_)
      refine SeqR.z rfl rfl rfl rfl rfl rfl ?_
      refine SeqR.z rfl rfl rfl rfl rfl rfl ?_
      refine SeqR.z rfl rfl rfl rfl rfl rfl ?_
      refine SeqR.z rfl rfl rfl rfl rfl rfl ?_
      refine SeqR.z rfl rfl rfl rfl rfl rfl ?_
      refine SeqR.z rfl rfl rfl rfl rfl rfl ?_
      refine SeqR.z rfl rfl rfl rfl rfl rfl ?_
      refine SeqR.d1 rfl rfl rfl (yl_pick_t rfl rfl rfl rfl ?_)
      refine SeqR.done ?_
      refine tn ?_
      refine CW.cond_t rfl rfl ?_
      refine CW.seq ?_
      refine CW.region ?_
      refine SeqR.d1 rfl rfl rfl (yl_assign rfl rfl ?_)
      refine SeqR.done ?_
      refine tn ?_
      refine CW.ret ?_
      refine tr ?_
      refine rr rfl (.cons rfl .nil) ?_
      have hM153 : (s_GoodRenew p_r) = (false) := by simp only [s_GoodRenew, hb15, hb20, cond_true, cond_false, loopE_done, loopE_ret]
      rw [hM153]
      have q154 := Ex.trans (Ex.refl w) hE11
      have q155 := Ex.trans q154 hE14
      have q156 := Ex.trans q155 hE19
      exact ⟨rfl, q156⟩
  · skip
    refine SeqR.z rfl rfl rfl rfl rfl (not_f hb15) ?_
    refine SeqR.z rfl rfl rfl rfl rfl (not_f hb15) ?_
    refine SeqR.z rfl rfl rfl rfl rfl (not_f hb15) ?_
    refine SeqR.z rfl rfl rfl rfl rfl (not_f hb15) ?_
    refine SeqR.d1 rfl rfl rfl (yl_pick_t rfl rfl (not_f hb15) rfl ?_)
    refine SeqR.d1 rfl rfl rfl (yl_move rfl rfl ?_)
    refine SeqR.z rfl rfl rfl rfl rfl rfl ?_
    refine SeqR.z rfl rfl rfl rfl rfl rfl ?_
    refine SeqR.z rfl rfl rfl rfl rfl rfl ?_
    refine SeqR.z rfl rfl rfl rfl rfl rfl ?_
    refine SeqR.d1 rfl rfl rfl (yl_pick_t rfl rfl rfl rfl ?_)
    refine SeqR.d1 rfl rfl rfl (yl_move rfl rfl ?_)
    refine SeqR.z rfl rfl rfl rfl rfl rfl ?_
    refine SeqR.z rfl rfl rfl rfl rfl rfl ?_
    refine SeqR.z rfl rfl rfl rfl rfl rfl ?_
    refine SeqR.z rfl rfl rfl rfl rfl rfl ?_
    refine SeqR.d1 rfl rfl rfl (yl_pick_t rfl rfl rfl rfl ?_)
    refine SeqR.d1 rfl rfl rfl (yl_move rfl rfl ?_)
    refine SeqR.z rfl rfl rfl rfl rfl rfl ?_
    refine SeqR.z rfl rfl rfl rfl rfl rfl ?_
    refine SeqR.z rfl rfl rfl rfl rfl rfl ?_
    refine SeqR.z rfl rfl rfl rfl rfl rfl ?_
    refine SeqR.z rfl rfl rfl rfl rfl rfl ?_
    refine SeqR.z rfl rfl rfl rfl rfl rfl ?_
    refine SeqR.z rfl rfl rfl rfl rfl rfl ?_
    refine SeqR.d1 rfl rfl rfl (yl_pick_t rfl rfl rfl rfl ?_)
    refine SeqR.done ?_
    refine tn ?_
    refine CW.cond_t rfl rfl ?_
    refine CW.seq ?_
    refine CW.region ?_
    refine SeqR.d1 rfl rfl rfl (yl_assign rfl rfl ?_)
    refine SeqR.done ?_
    refine tn ?_
    refine CW.ret ?_
    refine tr ?_
    refine rr rfl (.cons rfl .nil) ?_
    have hM157 : (s_GoodRenew p_r) = (false) := by simp only [s_GoodRenew, hb15, cond_true, cond_false, loopE_done, loopE_ret]
    rw [hM157]
    have q158 := Ex.trans (Ex.refl w) hE11
    have q159 := Ex.trans q158 hE14
    exact ⟨rfl, q159⟩
set_option maxRecDepth 100000 in
set_option maxHeartbeats 2000000 in
theorem c_s_l28High {A1 : Option Addr} {c1 : Nat} {A2 : Option Addr} {c2 : Nat} {w : World} (p_r : DRenew) (p_c : DClock) (h1 : RdS w (Iv 0 w.heap.size) (RF e_Clock) 1 A1 p_r.Clocks.length c1 p_r.Clocks) (h2 : RdS w (Iv 0 w.heap.size) (RF e_VLease) 2 A2 p_r.Leases.length c2 p_r.Leases) (o3 : ok_Renew p_r) : Cal Try.prog 106 #[.agg #[.int .i64 (p_r.Now), .int .i64 (p_r.Master.Off), .slice A1 p_r.Clocks.length c1, .int .i64 (p_r.Ver), .slice A2 p_r.Leases.length c2], .agg #[.int .i64 (p_c.Off)]] w fun v w' => v = .int .i64 ((s_l28High p_r p_c)) ∧ Ex w w' := by
  have hol4 := o3.1.1
  have hol5 := o3.2.1
  refine Cal.of (vs := [.agg #[.int .i64 (p_r.Now), .int .i64 (p_r.Master.Off), .slice A1 p_r.Clocks.length c1, .int .i64 (p_r.Ver), .slice A2 p_r.Leases.length c2], .agg #[.int .i64 (p_c.Off)]]) Try.func106 rfl Try.ntmps106 rfl ?_
  refine CW.seq ?_
  refine CW.region ?_
  refine SeqR.d1 rfl rfl rfl (yl_box (cs := [.int .i64 (p_r.Now), .int .i64 (p_r.Master.Off), .slice A1 p_r.Clocks.length c1, .int .i64 (p_r.Ver), .slice A2 p_r.Leases.length c2]) rfl rfl rfl ?_)
  intro b6 w7 hs8 hz9 hB10 hE11
  refine SeqR.d1 rfl rfl rfl (yl_box (cs := [.int .i64 (p_c.Off)]) rfl rfl rfl ?_)
  intro b12 w13 hs14 hz15 hB16 hE17
  refine SeqR.d1 rfl rfl rfl (yl_assign rfl rfl ?_)
  refine SeqR.done ?_
  refine tn ?_
  refine CW.seq ?_
  refine CW.region ?_
  refine SeqR.d1 rfl rfl rfl (yl_fieldAddr Try.fd37_0 rfl rfl ?_)
  have q18 := Box.ex hB10 hE17
  refine SeqR.d1 rfl rfl rfl (yl_load1 Try.ty3 rfl rfl ((q18.cell 0).trans rfl) ?_)
  refine SeqR.d1 rfl rfl rfl (yl_fieldAddr Try.fd33_0 rfl rfl ?_)
  refine SeqR.d1 rfl rfl rfl (yl_load1 Try.ty3 rfl rfl ((hB16.cell 0).trans rfl) ?_)
  refine SeqR.d1 rfl rfl rfl (yl_add rfl rfl rfl ?_)
  refine SeqR.d1 rfl rfl rfl (yl_add rfl rfl rfl ?_)
  refine SeqR.d1 rfl rfl rfl (yl_assign rfl rfl ?_)
  refine SeqR.done ?_
  refine tn ?_
  refine CW.ret ?_
  refine rr rfl (.cons rfl .nil) ?_
  have hM19 : (s_l28High p_r p_c) = (IntKind.wrap .i64 ((IntKind.wrap .i64 (p_r.Now + p_c.Off)) + 5)) := by simp only [s_l28High, cond_true, cond_false, loopE_done, loopE_ret]
  rw [hM19]
  have q20 := Ex.trans (Ex.refl w) hE11
  have q21 := Ex.trans q20 hE17
  exact ⟨rfl, q21⟩
set_option maxRecDepth 100000 in
set_option maxHeartbeats 2000000 in
theorem c_s_l28Usable {A1 : Option Addr} {c1 : Nat} {A2 : Option Addr} {c2 : Nat} {w : World} (p_r : DRenew) (p_server : Int) (h1 : RdS w (Iv 0 w.heap.size) (RF e_Clock) 1 A1 p_r.Clocks.length c1 p_r.Clocks) (h2 : RdS w (Iv 0 w.heap.size) (RF e_VLease) 2 A2 p_r.Leases.length c2 p_r.Leases) (o3 : ok_Renew p_r) (pre0 : (0 ≤ p_server ∧ p_server < (p_r.Clocks.length : Int) ∧ p_server < (p_r.Leases.length : Int))) : Cal Try.prog 77 #[.agg #[.int .i64 (p_r.Now), .int .i64 (p_r.Master.Off), .slice A1 p_r.Clocks.length c1, .int .i64 (p_r.Ver), .slice A2 p_r.Leases.length c2], .int .i64 (p_server)] w fun v w' => v = .bool ((s_l28Usable p_r p_server)) ∧ Ex w w' := by
  have hol4 := o3.1.1
  have hol5 := o3.2.1
  refine Cal.of (vs := [.agg #[.int .i64 (p_r.Now), .int .i64 (p_r.Master.Off), .slice A1 p_r.Clocks.length c1, .int .i64 (p_r.Ver), .slice A2 p_r.Leases.length c2], .int .i64 (p_server)]) Try.func77 rfl Try.ntmps77 rfl ?_
  refine CW.seq ?_
  refine CW.region ?_
  refine SeqR.d1 rfl rfl rfl (yl_box (cs := [.int .i64 (p_r.Now), .int .i64 (p_r.Master.Off), .slice A1 p_r.Clocks.length c1, .int .i64 (p_r.Ver), .slice A2 p_r.Leases.length c2]) rfl rfl rfl ?_)
  intro b6 w7 hs8 hz9 hB10 hE11
  refine SeqR.d1 rfl rfl rfl (yl_assign rfl rfl ?_)
  refine SeqR.done ?_
  refine tn ?_
  refine CW.seq ?_
  have q12 := RdS.ex good_Clock h1 hE11
  obtain ⟨eb13, eo13, ec13, eA13, eS13, ebl13, el13, eR13, eC13⟩ := RdS.atD q12 d_Clock (i := (p_server).toNat) (by first | omega | assumption | (simp only [IntKind.wrap_i64] at *; omega))
  obtain rfl := eR13
  have eC13 : Cells w7 eb13 (eo13 + ((p_server).toNat) * 1) [.int .i64 ((p_r.Clocks.getD ((p_server).toNat) d_Clock).Off)] := eC13
  have q14 := RdS.ex good_VLease h2 hE11
  obtain ⟨eb16, eo16, ec16, eA16, eS16, ebl16, el16, eR16, eC16⟩ := RdS.atD q14 d_VLease (i := (p_server).toNat) (by first | omega | assumption | (simp only [IntKind.wrap_i64] at *; omega))
  obtain rfl := eR16
  have eC16 : Cells w7 eb16 (eo16 + ((p_server).toNat) * 2) [.int .i64 ((p_r.Leases.getD ((p_server).toNat) d_VLease).Ver), .int .i64 ((p_r.Leases.getD ((p_server).toNat) d_VLease).Until)] := eC16
  refine CW.drawsI 15 (vgetI [DetI (.agg #[.int .i64 (p_r.Now), .int .i64 (p_r.Master.Off), .slice A1 p_r.Clocks.length c1, .int .i64 (p_r.Ver), .slice A2 p_r.Leases.length c2]), DetI (.pointer (some ⟨b6, 0 + 2, none⟩)), DetI (.slice A1 p_r.Clocks.length c1), DetI (.int .i64 (p_server)), DetI (.pointer (some ⟨eb13, eo13 + ((p_server).toNat) * 1, none⟩)), DetI (.agg #[.int .i64 ((p_r.Clocks.getD ((p_server).toNat) d_Clock).Off)]), DetI (.int .i64 ((s_l28High p_r (p_r.Clocks.getD ((p_server).toNat) d_Clock)))), DetI (.pointer (some ⟨b6, 0 + 4, none⟩)), DetI (.slice A2 p_r.Leases.length c2), DetI (.int .i64 (p_server)), DetI (.pointer (some ⟨eb16, eo16 + ((p_server).toNat) * 2, none⟩)), DetI (.pointer (some ⟨eb16, eo16 + ((p_server).toNat) * 2 + 1, none⟩)), DetI (.int .i64 ((p_r.Leases.getD ((p_server).toNat) d_VLease).Until)), DetI (.bool (decide ((s_l28High p_r (p_r.Clocks.getD ((p_server).toNat) d_Clock)) < ((p_r.Leases.getD ((p_server).toNat) d_VLease).Until)))), DetI (.bool (decide ((s_l28High p_r (p_r.Clocks.getD ((p_server).toNat) d_Clock)) < ((p_r.Leases.getD ((p_server).toNat) d_VLease).Until))))]) Try.follows rfl rfl rfl rfl rfl rfl (vgetI_stable ⟨StableI.det _, StableI.det _, StableI.det _, StableI.det _, StableI.det _, StableI.det _, StableI.det _, StableI.det _, StableI.det _, StableI.det _, StableI.det _, StableI.det _, StableI.det _, StableI.det _, StableI.det _, trivial⟩) ⟨?_, ?_, ?_, ?_, ?_, ?_, ?_, ?_, ?_, ?_, ?_, ?_, ?_, ?_, ?_, trivial⟩ ?_
  · intro L17 w18 hi19
    have hE20 := hi19.ex
    have hE20z := Ex.size hE20
    have hx21 := hi19.old 2 _ rfl rfl
    have q22 := Box.ex hB10 hE20
    exact OpR.op' rfl (Yl.sameI (yl_loadN (cs := [.int .i64 (p_r.Now), .int .i64 (p_r.Master.Off), .slice A1 p_r.Clocks.length c1, .int .i64 (p_r.Ver), .slice A2 p_r.Leases.length c2]) Try.ty37 rfl hx21 (q22.cells (n := 5) rfl) rfl ⟨fun _ _ => rfl, rfl⟩))
  · intro L23 w24 hi25
    have hE26 := hi25.ex
    have hE26z := Ex.size hE26
    have hx27 := hi25.old 2 _ rfl rfl
    exact OpR.op' rfl (Yl.sameI (yl_fieldAddr Try.fd37_2 rfl hx27 ⟨fun _ _ => rfl, rfl⟩))
  · intro L28 w29 hi30
    have hE31 := hi30.ex
    have hE31z := Ex.size hE31
    obtain ⟨_, _, _, hx32, -, -, -, rfl⟩ := hi30.dep 1 6 rfl rfl
    have q33 := Box.ex hB10 hE31
    exact OpR.op' rfl (Yl.sameI (yl_load1 Try.ty34 rfl hx32 ((q33.cell 2).trans rfl) ⟨fun _ _ => rfl, rfl⟩))
  · intro L34 w35 hi36
    have hE37 := hi36.ex
    have hE37z := Ex.size hE37
    have hx38 := hi36.old 1 _ rfl rfl
    exact OpR.op' rfl (Yl.sameI (yl_move rfl hx38 ⟨fun _ _ => rfl, rfl⟩))
  · intro L39 w40 hi41
    have hE42 := hi41.ex
    have hE42z := Ex.size hE42
    obtain ⟨_, _, _, hx43, -, -, -, rfl⟩ := hi41.dep 2 7 rfl rfl
    obtain ⟨_, _, _, hx44, -, -, -, rfl⟩ := hi41.dep 3 8 rfl rfl
    exact OpR.op' rfl (Yl.sameI (yl_indexAddr Try.un34 Try.ty33 rfl hx43 hx44 eA13 (by first | omega | assumption | (simp only [IntKind.wrap_i64] at *; omega)) (by first | omega | assumption | (simp only [IntKind.wrap_i64] at *; omega)) ⟨fun _ _ => rfl, rfl⟩))
  · intro L45 w46 hi47
    have hE48 := hi47.ex
    have hE48z := Ex.size hE48
    obtain ⟨_, _, _, hx49, -, -, -, rfl⟩ := hi47.dep 4 9 rfl rfl
    have q50 := Cells.ex eC13 hE48
    exact OpR.op' rfl (Yl.sameI (yl_loadN (cs := [.int .i64 ((p_r.Clocks.getD ((p_server).toNat) d_Clock).Off)]) Try.ty33 rfl hx49 q50 rfl ⟨fun _ _ => rfl, rfl⟩))
  · intro L51 w52 hi53
    have hE54 := hi53.ex
    have hE54z := Ex.size hE54
    obtain ⟨_, _, _, hx55, -, -, -, rfl⟩ := hi53.dep 0 5 rfl rfl
    obtain ⟨_, _, _, hx56, -, -, -, rfl⟩ := hi53.dep 5 10 rfl rfl
    have q57 := RdS.ex good_Clock q12 hE54
    have q58 := RdS.ex good_VLease q14 hE54
    refine OpR.op' rfl (yl_call Try.en106 rfl (opvs_cons hx55 (opvs_cons hx56 opvs_nil)) (Cal.mono (c_s_l28High p_r (p_r.Clocks.getD ((p_server).toNat) d_Clock) (RdS.up q57 good_Clock) (RdS.up q58 good_VLease) o3) ?_))
    rintro v60 w59 ⟨rfl, hE61⟩
    exact ⟨rfl, hE61⟩
  · intro L62 w63 hi64
    have hE65 := hi64.ex
    have hE65z := Ex.size hE65
    have hx66 := hi64.old 2 _ rfl rfl
    exact OpR.op' rfl (Yl.sameI (yl_fieldAddr Try.fd37_4 rfl hx66 ⟨fun _ _ => rfl, rfl⟩))
  · intro L67 w68 hi69
    have hE70 := hi69.ex
    have hE70z := Ex.size hE70
    obtain ⟨_, _, _, hx71, -, -, -, rfl⟩ := hi69.dep 7 12 rfl rfl
    have q72 := Box.ex hB10 hE70
    exact OpR.op' rfl (Yl.sameI (yl_load1 Try.ty35 rfl hx71 ((q72.cell 4).trans rfl) ⟨fun _ _ => rfl, rfl⟩))
  · intro L73 w74 hi75
    have hE76 := hi75.ex
    have hE76z := Ex.size hE76
    have hx77 := hi75.old 1 _ rfl rfl
    exact OpR.op' rfl (Yl.sameI (yl_move rfl hx77 ⟨fun _ _ => rfl, rfl⟩))
  · intro L78 w79 hi80
    have hE81 := hi80.ex
    have hE81z := Ex.size hE81
    obtain ⟨_, _, _, hx82, -, -, -, rfl⟩ := hi80.dep 8 13 rfl rfl
    obtain ⟨_, _, _, hx83, -, -, -, rfl⟩ := hi80.dep 9 14 rfl rfl
    exact OpR.op' rfl (Yl.sameI (yl_indexAddr Try.un35 Try.ty103 rfl hx82 hx83 eA16 (by first | omega | assumption | (simp only [IntKind.wrap_i64] at *; omega)) (by first | omega | assumption | (simp only [IntKind.wrap_i64] at *; omega)) ⟨fun _ _ => rfl, rfl⟩))
  · intro L84 w85 hi86
    have hE87 := hi86.ex
    have hE87z := Ex.size hE87
    obtain ⟨_, _, _, hx88, -, -, -, rfl⟩ := hi86.dep 10 15 rfl rfl
    exact OpR.op' rfl (Yl.sameI (yl_fieldAddr Try.fd103_1 rfl hx88 ⟨fun _ _ => rfl, rfl⟩))
  · intro L89 w90 hi91
    have hE92 := hi91.ex
    have hE92z := Ex.size hE92
    obtain ⟨_, _, _, hx93, -, -, -, rfl⟩ := hi91.dep 11 16 rfl rfl
    have q94 := Cells.ex eC16 hE92
    exact OpR.op' rfl (Yl.sameI (yl_load1 Try.ty3 rfl hx93 (q94 1 _ rfl) ⟨fun _ _ => rfl, rfl⟩))
  · intro L95 w96 hi97
    have hE98 := hi97.ex
    have hE98z := Ex.size hE98
    obtain ⟨_, _, _, hx99, -, -, -, rfl⟩ := hi97.dep 6 11 rfl rfl
    obtain ⟨_, _, _, hx100, -, -, -, rfl⟩ := hi97.dep 12 17 rfl rfl
    exact OpR.op' rfl (Yl.sameI (yl_lss rfl hx99 hx100 ⟨fun _ _ => rfl, rfl⟩))
  · intro L101 w102 hi103
    have hE104 := hi103.ex
    have hE104z := Ex.size hE104
    obtain ⟨_, _, _, hx105, -, -, -, rfl⟩ := hi103.dep 13 18 rfl rfl
    exact OpR.op' rfl (Yl.sameI (yl_assign rfl hx105 ⟨fun _ _ => rfl, rfl⟩))
  · intro fl109 fh110 L106 w107 hp108
    have hE111 := hp108.ex
    have hE111z := Ex.size hE111
    obtain ⟨_, hx112, rfl⟩ := hp108.new 14 4 rfl rfl
    refine SeqR.done ?_
    refine tn ?_
    refine CW.sub (Sub.cons (d := 4) hx112 (Sub.nil _)) ?_
    refine CW.ret ?_
    refine rr rfl (.cons rfl .nil) ?_
    have hM113 : (s_l28Usable p_r p_server) = (decide ((s_l28High p_r (p_r.Clocks.getD ((p_server).toNat) d_Clock)) < ((p_r.Leases.getD ((p_server).toNat) d_VLease).Until))) := by simp only [s_l28Usable, cond_true, cond_false, loopE_done, loopE_ret]
    rw [hM113]
    have q114 := Ex.trans (Ex.refl w) hE11
    have q115 := Ex.trans q114 hE111
    exact ⟨rfl, q115⟩
set_option maxRecDepth 100000 in
set_option maxHeartbeats 2000000 in
theorem c_s_AreNear {A1 : Option Addr} {c1 : Nat} {A2 : Option Addr} {c2 : Nat} {w : World} (p_r : DRenew) (h1 : RdS w (Iv 0 w.heap.size) (RF e_Clock) 1 A1 p_r.Clocks.length c1 p_r.Clocks) (h2 : RdS w (Iv 0 w.heap.size) (RF e_VLease) 2 A2 p_r.Leases.length c2 p_r.Leases) (o3 : ok_Renew p_r) : Cal Try.prog 35 #[.agg #[.int .i64 (p_r.Now), .int .i64 (p_r.Master.Off), .slice A1 p_r.Clocks.length c1, .int .i64 (p_r.Ver), .slice A2 p_r.Leases.length c2]] w fun v w' => v = .tuple #[.bool ((s_AreNear p_r).1), .bool ((s_AreNear p_r).2)] ∧ Ex w w' := by
  have hol4 := o3.1.1
  have hol5 := o3.2.1
  refine Cal.of (vs := [.agg #[.int .i64 (p_r.Now), .int .i64 (p_r.Master.Off), .slice A1 p_r.Clocks.length c1, .int .i64 (p_r.Ver), .slice A2 p_r.Leases.length c2]]) Try.func35 rfl Try.ntmps35 rfl ?_
  refine CW.seq ?_
  refine CW.region ?_
  refine SeqR.d1 rfl rfl rfl (yl_box (cs := [.int .i64 (p_r.Now), .int .i64 (p_r.Master.Off), .slice A1 p_r.Clocks.length c1, .int .i64 (p_r.Ver), .slice A2 p_r.Leases.length c2]) rfl rfl rfl ?_)
  intro b6 w7 hs8 hz9 hB10 hE11
  refine SeqR.d1 rfl rfl rfl (yl_assign rfl rfl ?_)
  refine SeqR.d1 rfl rfl rfl (yl_assign rfl rfl ?_)
  refine SeqR.done ?_
  refine tn ?_
  refine CW.seq ?_
  refine CW.seq ?_
  refine CW.region ?_
  refine SeqR.d1 rfl rfl rfl (yl_loadN (cs := [.int .i64 (p_r.Now), .int .i64 (p_r.Master.Off), .slice A1 p_r.Clocks.length c1, .int .i64 (p_r.Ver), .slice A2 p_r.Leases.length c2]) Try.ty37 rfl rfl (hB10.cells (n := 5) rfl) rfl ?_)
  have q12 := RdS.ex good_Clock h1 hE11
  have q13 := RdS.ex good_VLease h2 hE11
  refine SeqR.d1 rfl rfl rfl (yl_call Try.en25 rfl (opvs_cons rfl opvs_nil) (Cal.mono (c_s_GoodRenew p_r (RdS.up q12 good_Clock) (RdS.up q13 good_VLease) o3) ?_))
  rintro v15 w14 ⟨rfl, hE16⟩
  have hE16z := Ex.size hE16
  refine SeqR.d1 rfl rfl rfl (yl_not rfl rfl ?_)
  refine SeqR.done ?_
  refine tn ?_
  refine bcase (s_GoodRenew p_r) (fun hb17 => ?_) (fun hb17 => ?_)
  · have hb17p := f_s_GoodRenew hb17
    refine CW.cond_f rfl (not_t hb17) ?_
    refine CW.skip ?_
    refine tn ?_
    refine CW.seq ?_
    refine CW.seq ?_
    refine CW.region ?_
    refine SeqR.d1 rfl rfl rfl (yl_fieldAddr Try.fd37_4 rfl rfl ?_)
    have q18 := Box.ex hB10 hE16
    refine SeqR.d1 rfl rfl rfl (yl_load1 Try.ty35 rfl rfl ((q18.cell 4).trans rfl) ?_)
    refine SeqR.d1 rfl rfl rfl (yl_len Try.un35 rfl rfl ?_)
    refine SeqR.d1 rfl rfl rfl (yl_move rfl rfl ?_)
    refine SeqR.done ?_
    refine tn ?_
    refine CW.block ?_
    have q23 := RdS.ex good_Clock q12 hE16
    have q24 := RdS.ex good_VLease q13 hE16
    have q25 := Ex.trans (Ex.refl w) hE11
    have q26 := Ex.trans q25 hE16
    refine CW.loop (fun m20 L21 w22 => ∃ (k19 : Nat), m20 = p_r.Leases.length - k19 ∧ k19 ≤ p_r.Leases.length ∧ lkp L21 1 = some (.pointer (some ⟨b6, 0, none⟩)) ∧ lkp L21 11 = some (.int .i64 ((p_r.Leases.length : Int))) ∧ lkp L21 12 = some (.int .i64 ((k19 : Int))) ∧ Box w22 b6 37 [.int .i64 (p_r.Now), .int .i64 (p_r.Master.Off), .slice A1 p_r.Clocks.length c1, .int .i64 (p_r.Ver), .slice A2 p_r.Leases.length c2] ∧ RdS w22 (Iv 0 w.heap.size) (RF e_Clock) 1 A1 p_r.Clocks.length c1 p_r.Clocks ∧ RdS w22 (Iv 0 w.heap.size) (RF e_VLease) 2 A2 p_r.Leases.length c2 p_r.Leases ∧ Ex w w22 ∧ loopM (B_s_AreNear_0 p_r) (p_r.Leases.length - k19) k19 () = loopM (B_s_AreNear_0 p_r) (p_r.Leases.length - 0) 0 ()) (p_r.Leases.length - 0) ?_ ?_
    · exact ⟨0, rfl, (by omega), rfl, rfl, rfl, q18, q23, q24, q26, rfl⟩
    · rintro m27 L28 w29 ⟨k19, rfl, hk30, hl32, hl33, hl34, hf35, hf36, hf37, hf38, hI31⟩
      refine CW.sub (Sub.cons hl32 (Sub.cons hl33 (Sub.cons hl34 (Sub.nil _)))) ?_
      have hf35z := Box.lt hf35
      have hf38z := Ex.size hf38
      have hbg39 := RdS.big hf37
      rcases Nat.lt_or_ge k19 p_r.Leases.length with hlt40 | hlt40
      · skip
        refine CW.seq ?_
        refine CW.region ?_
        refine SeqR.d1 rfl rfl rfl (yl_lss rfl rfl rfl ?_)
        refine SeqR.done ?_
        refine tn ?_
        refine CW.seq ?_
        refine CW.cond_t rfl (lt_t hlt40) ?_
        refine CW.skip ?_
        refine tn ?_
        refine CW.seq ?_
        refine CW.block ?_
        refine CW.seq ?_
        refine CW.region ?_
        refine SeqR.d1 rfl rfl rfl (yl_move rfl rfl ?_)
        refine SeqR.d1 rfl rfl rfl (yl_assign rfl rfl ?_)
        refine SeqR.done ?_
        refine tn ?_
        refine CW.seq ?_
        refine CW.region ?_
        refine SeqR.d1 rfl rfl rfl (yl_fieldAddr Try.fd37_4 rfl rfl ?_)
        refine SeqR.d1 rfl rfl rfl (yl_load1 Try.ty35 rfl rfl ((hf35.cell 4).trans rfl) ?_)
        refine SeqR.d1 rfl rfl rfl (yl_len Try.un35 rfl rfl ?_)
        refine SeqR.d1 rfl rfl rfl (yl_move rfl rfl ?_)
        refine SeqR.done ?_
        refine tn ?_
        refine CW.block ?_
        refine CW.loop (fun m42 L43 w44 => ∃ (k41 : Nat), m42 = p_r.Leases.length - k41 ∧ k41 ≤ p_r.Leases.length ∧ lkp L43 1 = some (.pointer (some ⟨b6, 0, none⟩)) ∧ lkp L43 4 = some (.int .i64 ((k19 : Int))) ∧ lkp L43 11 = some (.int .i64 ((p_r.Leases.length : Int))) ∧ lkp L43 12 = some (.int .i64 ((k19 : Int))) ∧ lkp L43 17 = some (.int .i64 ((p_r.Leases.length : Int))) ∧ lkp L43 18 = some (.int .i64 ((k41 : Int))) ∧ Box w44 b6 37 [.int .i64 (p_r.Now), .int .i64 (p_r.Master.Off), .slice A1 p_r.Clocks.length c1, .int .i64 (p_r.Ver), .slice A2 p_r.Leases.length c2] ∧ RdS w44 (Iv 0 w.heap.size) (RF e_Clock) 1 A1 p_r.Clocks.length c1 p_r.Clocks ∧ RdS w44 (Iv 0 w.heap.size) (RF e_VLease) 2 A2 p_r.Leases.length c2 p_r.Leases ∧ Ex w w44 ∧ loopM (B_s_AreNear_1 p_r k19) (p_r.Leases.length - k41) k41 () = loopM (B_s_AreNear_1 p_r k19) (p_r.Leases.length - 0) 0 ()) (p_r.Leases.length - 0) ?_ ?_
        · exact ⟨0, rfl, (by omega), rfl, rfl, rfl, rfl, rfl, rfl, hf35, hf36, hf37, hf38, rfl⟩
        · rintro m45 L46 w47 ⟨k41, rfl, hk48, hl50, hl51, hl52, hl53, hl54, hl55, hf56, hf57, hf58, hf59, hI49⟩
          refine CW.sub (Sub.cons hl50 (Sub.cons hl51 (Sub.cons hl52 (Sub.cons hl53 (Sub.cons hl54 (Sub.cons hl55 (Sub.nil _))))))) ?_
          have hf56z := Box.lt hf56
          have hf59z := Ex.size hf59
          have hbg60 := RdS.big hf58
          rcases Nat.lt_or_ge k41 p_r.Leases.length with hlt61 | hlt61
          · skip
            refine CW.seq ?_
            refine CW.region ?_
            refine SeqR.d1 rfl rfl rfl (yl_lss rfl rfl rfl ?_)
            refine SeqR.done ?_
            refine tn ?_
            refine CW.seq ?_
            refine CW.cond_t rfl (lt_t hlt61) ?_
            refine CW.skip ?_
            refine tn ?_
            refine CW.seq ?_
            refine CW.block ?_
            refine CW.seq ?_
            refine CW.region ?_
            refine SeqR.d1 rfl rfl rfl (yl_move rfl rfl ?_)
            refine SeqR.d1 rfl rfl rfl (yl_assign rfl rfl ?_)
            refine SeqR.done ?_
            refine tn ?_
            refine CW.seq ?_
            refine bcase (s_l28Usable p_r (k19 : Int)) (fun hb63 => ?_) (fun hb63 => ?_)
            · skip
              refine bcase (s_l28Usable p_r (k41 : Int)) (fun hb66 => ?_) (fun hb66 => ?_)
              · skip
                obtain ⟨eb69, eo69, ec69, eA69, eS69, ebl69, el69, eR69, eC69⟩ := RdS.atD hf58 d_VLease (i := k19) (by first | omega | assumption)
                obtain rfl := eR69
                have eC69 : Cells w47 eb69 (eo69 + k19 * 2) [.int .i64 ((p_r.Leases.getD k19 d_VLease).Ver), .int .i64 ((p_r.Leases.getD k19 d_VLease).Until)] := eC69
                obtain ⟨eb70, eo70, ec70, eA70, eS70, ebl70, el70, eR70, eC70⟩ := RdS.atD hf58 d_VLease (i := k41) (by first | omega | assumption)
                obtain rfl := eR70
                have eC70 : Cells w47 eb70 (eo70 + k41 * 2) [.int .i64 ((p_r.Leases.getD k41 d_VLease).Ver), .int .i64 ((p_r.Leases.getD k41 d_VLease).Until)] := eC70
                refine CW.drawsI 24 (vgetI [DetI (.agg #[.int .i64 (p_r.Now), .int .i64 (p_r.Master.Off), .slice A1 p_r.Clocks.length c1, .int .i64 (p_r.Ver), .slice A2 p_r.Leases.length c2]), DetI (.int .i64 ((k19 : Int))), DetI (.bool ((s_l28Usable p_r (k19 : Int)))), DetI (.bool ((s_l28Usable p_r (k19 : Int)))), DetI (.agg #[.int .i64 (p_r.Now), .int .i64 (p_r.Master.Off), .slice A1 p_r.Clocks.length c1, .int .i64 (p_r.Ver), .slice A2 p_r.Leases.length c2]), DetI (.int .i64 ((k41 : Int))), DetI (.bool ((s_l28Usable p_r (k41 : Int)))), DetI (.bool ((s_l28Usable p_r (k41 : Int)))), DetI (.bool ((s_l28Usable p_r (k41 : Int)))), DetI (.pointer (some ⟨b6, 0 + 4, none⟩)), DetI (.slice A2 p_r.Leases.length c2), DetI (.int .i64 ((k19 : Int))), DetI (.pointer (some ⟨eb69, eo69 + k19 * 2, none⟩)), DetI (.pointer (some ⟨eb69, eo69 + k19 * 2 + 0, none⟩)), DetI (.int .i64 ((p_r.Leases.getD k19 d_VLease).Ver)), DetI (.pointer (some ⟨b6, 0 + 4, none⟩)), DetI (.slice A2 p_r.Leases.length c2), DetI (.int .i64 ((k41 : Int))), DetI (.pointer (some ⟨eb70, eo70 + k41 * 2, none⟩)), DetI (.pointer (some ⟨eb70, eo70 + k41 * 2 + 0, none⟩)), DetI (.int .i64 ((p_r.Leases.getD k41 d_VLease).Ver)), DetI (.int .i64 (IntKind.wrap .i64 (((p_r.Leases.getD k19 d_VLease).Ver) - ((p_r.Leases.getD k41 d_VLease).Ver)))), DetI (.bool (decide (1 < (IntKind.wrap .i64 (((p_r.Leases.getD k19 d_VLease).Ver) - ((p_r.Leases.getD k41 d_VLease).Ver)))))), DetI (.bool (decide (1 < (IntKind.wrap .i64 (((p_r.Leases.getD k19 d_VLease).Ver) - ((p_r.Leases.getD k41 d_VLease).Ver))))))]) Try.follows rfl rfl rfl rfl rfl rfl (vgetI_stable ⟨StableI.det _, StableI.det _, StableI.det _, StableI.det _, StableI.det _, StableI.det _, StableI.det _, StableI.det _, StableI.det _, StableI.det _, StableI.det _, StableI.det _, StableI.det _, StableI.det _, StableI.det _, StableI.det _, StableI.det _, StableI.det _, StableI.det _, StableI.det _, StableI.det _, StableI.det _, StableI.det _, StableI.det _, trivial⟩) ⟨?_, ?_, ?_, ?_, ?_, ?_, ?_, ?_, ?_, ?_, ?_, ?_, ?_, ?_, ?_, ?_, ?_, ?_, ?_, ?_, ?_, ?_, ?_, ?_, trivial⟩ ?_
                · intro L71 w72 hi73
                  have hE74 := hi73.ex
                  have hE74z := Ex.size hE74
                  have hx75 := hi73.old 1 _ rfl rfl
                  have q76 := Box.ex hf56 hE74
                  exact OpR.op' rfl (Yl.sameI (yl_loadN (cs := [.int .i64 (p_r.Now), .int .i64 (p_r.Master.Off), .slice A1 p_r.Clocks.length c1, .int .i64 (p_r.Ver), .slice A2 p_r.Leases.length c2]) Try.ty37 rfl hx75 (q76.cells (n := 5) rfl) rfl ⟨fun _ _ => rfl, rfl⟩))
                · intro L77 w78 hi79
                  have hE80 := hi79.ex
                  have hE80z := Ex.size hE80
                  have hx81 := hi79.old 4 _ rfl rfl
                  exact OpR.op' rfl (Yl.sameI (yl_move rfl hx81 ⟨fun _ _ => rfl, rfl⟩))
                · intro L82 w83 hi84
                  have hE85 := hi84.ex
                  have hE85z := Ex.size hE85
                  obtain ⟨_, _, _, hx86, -, -, -, rfl⟩ := hi84.dep 0 21 rfl rfl
                  obtain ⟨_, _, _, hx87, -, -, -, rfl⟩ := hi84.dep 1 22 rfl rfl
                  have q88 := RdS.ex good_Clock hf57 hE85
                  have q89 := RdS.ex good_VLease hf58 hE85
                  refine OpR.op' rfl (yl_call Try.en77 rfl (opvs_cons hx86 (opvs_cons hx87 opvs_nil)) (Cal.mono (c_s_l28Usable p_r (k19 : Int) (RdS.up q88 good_Clock) (RdS.up q89 good_VLease) o3 (by first | omega | assumption | (simp only [IntKind.wrap_i64] at *; omega))) ?_))
                  rintro v91 w90 ⟨rfl, hE92⟩
                  exact ⟨rfl, hE92⟩
                · intro L93 w94 hi95
                  have hE96 := hi95.ex
                  have hE96z := Ex.size hE96
                  obtain ⟨_, _, _, hx97, -, -, -, rfl⟩ := hi95.dep 2 23 rfl rfl
                  exact OpR.op' rfl (Yl.sameI (yl_move rfl hx97 ⟨fun _ _ => rfl, rfl⟩))
                · intro L98 w99 hi100
                  have hE101 := hi100.ex
                  have hE101z := Ex.size hE101
                  obtain ⟨_, _, _, hx102, -, -, -, rfl⟩ := hi100.dep 3 24 rfl rfl
                  have hx103 := hi100.old 1 _ rfl rfl
                  have q104 := Box.ex hf56 hE101
                  exact OpR.want rfl rfl hx102 hb63 (Yl.sameI (yl_loadN (cs := [.int .i64 (p_r.Now), .int .i64 (p_r.Master.Off), .slice A1 p_r.Clocks.length c1, .int .i64 (p_r.Ver), .slice A2 p_r.Leases.length c2]) Try.ty37 rfl hx103 (q104.cells (n := 5) rfl) rfl ⟨fun _ _ => rfl, rfl⟩))
                · intro L105 w106 hi107
                  have hE108 := hi107.ex
                  have hE108z := Ex.size hE108
                  obtain ⟨_, _, _, hx109, -, -, -, rfl⟩ := hi107.dep 3 24 rfl rfl
                  have hx110 := hi107.old 5 _ rfl rfl
                  exact OpR.want rfl rfl hx109 hb63 (Yl.sameI (yl_move rfl hx110 ⟨fun _ _ => rfl, rfl⟩))
                · intro L111 w112 hi113
                  have hE114 := hi113.ex
                  have hE114z := Ex.size hE114
                  obtain ⟨_, _, _, hx115, -, -, -, rfl⟩ := hi113.dep 3 24 rfl rfl
                  obtain ⟨_, _, _, hx116, -, -, -, rfl⟩ := hi113.dep 4 25 rfl rfl
                  obtain ⟨_, _, _, hx117, -, -, -, rfl⟩ := hi113.dep 5 26 rfl rfl
                  have q118 := RdS.ex good_Clock hf57 hE114
                  have q119 := RdS.ex good_VLease hf58 hE114
                  refine OpR.want rfl rfl hx115 hb63 (yl_call Try.en77 rfl (opvs_cons hx116 (opvs_cons hx117 opvs_nil)) (Cal.mono (c_s_l28Usable p_r (k41 : Int) (RdS.up q118 good_Clock) (RdS.up q119 good_VLease) o3 (by first | omega | assumption | (simp only [IntKind.wrap_i64] at *; omega))) ?_))
                  rintro v121 w120 ⟨rfl, hE122⟩
                  exact ⟨rfl, hE122⟩
                · intro L123 w124 hi125
                  have hE126 := hi125.ex
                  have hE126z := Ex.size hE126
                  obtain ⟨_, _, _, hx127, -, -, -, rfl⟩ := hi125.dep 6 27 rfl rfl
                  obtain ⟨_, _, _, hx128, -, -, -, rfl⟩ := hi125.dep 3 24 rfl rfl
                  exact OpR.op' rfl (Yl.sameI (yl_pick_t rfl hx128 hb63 hx127 ⟨fun _ _ => rfl, rfl⟩))
                · intro L129 w130 hi131
                  have hE132 := hi131.ex
                  have hE132z := Ex.size hE132
                  obtain ⟨_, _, _, hx133, -, -, -, rfl⟩ := hi131.dep 7 28 rfl rfl
                  exact OpR.op' rfl (Yl.sameI (yl_move rfl hx133 ⟨fun _ _ => rfl, rfl⟩))
                · intro L134 w135 hi136
                  have hE137 := hi136.ex
                  have hE137z := Ex.size hE137
                  obtain ⟨_, _, _, hx138, -, -, -, rfl⟩ := hi136.dep 8 29 rfl rfl
                  have hx139 := hi136.old 1 _ rfl rfl
                  exact OpR.want rfl rfl hx138 hb66 (Yl.sameI (yl_fieldAddr Try.fd37_4 rfl hx139 ⟨fun _ _ => rfl, rfl⟩))
                · intro L140 w141 hi142
                  have hE143 := hi142.ex
                  have hE143z := Ex.size hE143
                  obtain ⟨_, _, _, hx144, -, -, -, rfl⟩ := hi142.dep 8 29 rfl rfl
                  obtain ⟨_, _, _, hx145, -, -, -, rfl⟩ := hi142.dep 9 30 rfl rfl
                  have q146 := Box.ex hf56 hE143
                  exact OpR.want rfl rfl hx144 hb66 (Yl.sameI (yl_load1 Try.ty35 rfl hx145 ((q146.cell 4).trans rfl) ⟨fun _ _ => rfl, rfl⟩))
                · intro L147 w148 hi149
                  have hE150 := hi149.ex
                  have hE150z := Ex.size hE150
                  obtain ⟨_, _, _, hx151, -, -, -, rfl⟩ := hi149.dep 8 29 rfl rfl
                  have hx152 := hi149.old 4 _ rfl rfl
                  exact OpR.want rfl rfl hx151 hb66 (Yl.sameI (yl_move rfl hx152 ⟨fun _ _ => rfl, rfl⟩))
                · intro L153 w154 hi155
                  have hE156 := hi155.ex
                  have hE156z := Ex.size hE156
                  obtain ⟨_, _, _, hx157, -, -, -, rfl⟩ := hi155.dep 8 29 rfl rfl
                  obtain ⟨_, _, _, hx158, -, -, -, rfl⟩ := hi155.dep 10 31 rfl rfl
                  obtain ⟨_, _, _, hx159, -, -, -, rfl⟩ := hi155.dep 11 32 rfl rfl
                  exact OpR.want rfl rfl hx157 hb66 (Yl.sameI (yl_indexAddrN Try.un35 Try.ty103 rfl hx158 hx159 eA69 (by first | omega | assumption | (simp only [IntKind.wrap_i64] at *; omega)) ⟨fun _ _ => rfl, rfl⟩))
                · intro L160 w161 hi162
                  have hE163 := hi162.ex
                  have hE163z := Ex.size hE163
                  obtain ⟨_, _, _, hx164, -, -, -, rfl⟩ := hi162.dep 8 29 rfl rfl
                  obtain ⟨_, _, _, hx165, -, -, -, rfl⟩ := hi162.dep 12 33 rfl rfl
                  exact OpR.want rfl rfl hx164 hb66 (Yl.sameI (yl_fieldAddr Try.fd103_0 rfl hx165 ⟨fun _ _ => rfl, rfl⟩))
                · intro L166 w167 hi168
                  have hE169 := hi168.ex
                  have hE169z := Ex.size hE169
                  obtain ⟨_, _, _, hx170, -, -, -, rfl⟩ := hi168.dep 8 29 rfl rfl
                  obtain ⟨_, _, _, hx171, -, -, -, rfl⟩ := hi168.dep 13 34 rfl rfl
                  have q172 := Cells.ex eC69 hE169
                  exact OpR.want rfl rfl hx170 hb66 (Yl.sameI (yl_load1 Try.ty3 rfl hx171 (q172 0 _ rfl) ⟨fun _ _ => rfl, rfl⟩))
                · intro L173 w174 hi175
                  have hE176 := hi175.ex
                  have hE176z := Ex.size hE176
                  obtain ⟨_, _, _, hx177, -, -, -, rfl⟩ := hi175.dep 8 29 rfl rfl
                  have hx178 := hi175.old 1 _ rfl rfl
                  exact OpR.want rfl rfl hx177 hb66 (Yl.sameI (yl_fieldAddr Try.fd37_4 rfl hx178 ⟨fun _ _ => rfl, rfl⟩))
                · intro L179 w180 hi181
                  have hE182 := hi181.ex
                  have hE182z := Ex.size hE182
                  obtain ⟨_, _, _, hx183, -, -, -, rfl⟩ := hi181.dep 8 29 rfl rfl
                  obtain ⟨_, _, _, hx184, -, -, -, rfl⟩ := hi181.dep 15 36 rfl rfl
                  have q185 := Box.ex hf56 hE182
                  exact OpR.want rfl rfl hx183 hb66 (Yl.sameI (yl_load1 Try.ty35 rfl hx184 ((q185.cell 4).trans rfl) ⟨fun _ _ => rfl, rfl⟩))
                · intro L186 w187 hi188
                  have hE189 := hi188.ex
                  have hE189z := Ex.size hE189
                  obtain ⟨_, _, _, hx190, -, -, -, rfl⟩ := hi188.dep 8 29 rfl rfl
                  have hx191 := hi188.old 5 _ rfl rfl
                  exact OpR.want rfl rfl hx190 hb66 (Yl.sameI (yl_move rfl hx191 ⟨fun _ _ => rfl, rfl⟩))
                · intro L192 w193 hi194
                  have hE195 := hi194.ex
                  have hE195z := Ex.size hE195
                  obtain ⟨_, _, _, hx196, -, -, -, rfl⟩ := hi194.dep 8 29 rfl rfl
                  obtain ⟨_, _, _, hx197, -, -, -, rfl⟩ := hi194.dep 16 37 rfl rfl
                  obtain ⟨_, _, _, hx198, -, -, -, rfl⟩ := hi194.dep 17 38 rfl rfl
                  exact OpR.want rfl rfl hx196 hb66 (Yl.sameI (yl_indexAddrN Try.un35 Try.ty103 rfl hx197 hx198 eA70 (by first | omega | assumption | (simp only [IntKind.wrap_i64] at *; omega)) ⟨fun _ _ => rfl, rfl⟩))
                · intro L199 w200 hi201
                  have hE202 := hi201.ex
                  have hE202z := Ex.size hE202
                  obtain ⟨_, _, _, hx203, -, -, -, rfl⟩ := hi201.dep 8 29 rfl rfl
                  obtain ⟨_, _, _, hx204, -, -, -, rfl⟩ := hi201.dep 18 39 rfl rfl
                  exact OpR.want rfl rfl hx203 hb66 (Yl.sameI (yl_fieldAddr Try.fd103_0 rfl hx204 ⟨fun _ _ => rfl, rfl⟩))
                · intro L205 w206 hi207
                  have hE208 := hi207.ex
                  have hE208z := Ex.size hE208
                  obtain ⟨_, _, _, hx209, -, -, -, rfl⟩ := hi207.dep 8 29 rfl rfl
                  obtain ⟨_, _, _, hx210, -, -, -, rfl⟩ := hi207.dep 19 40 rfl rfl
                  have q211 := Cells.ex eC70 hE208
                  exact OpR.want rfl rfl hx209 hb66 (Yl.sameI (yl_load1 Try.ty3 rfl hx210 (q211 0 _ rfl) ⟨fun _ _ => rfl, rfl⟩))
                · intro L212 w213 hi214
                  have hE215 := hi214.ex
                  have hE215z := Ex.size hE215
                  obtain ⟨_, _, _, hx216, -, -, -, rfl⟩ := hi214.dep 8 29 rfl rfl
                  obtain ⟨_, _, _, hx217, -, -, -, rfl⟩ := hi214.dep 14 35 rfl rfl
                  obtain ⟨_, _, _, hx218, -, -, -, rfl⟩ := hi214.dep 20 41 rfl rfl
                  exact OpR.want rfl rfl hx216 hb66 (Yl.sameI (yl_sub rfl hx217 hx218 ⟨fun _ _ => rfl, rfl⟩))
                · intro L219 w220 hi221
                  have hE222 := hi221.ex
                  have hE222z := Ex.size hE222
                  obtain ⟨_, _, _, hx223, -, -, -, rfl⟩ := hi221.dep 8 29 rfl rfl
                  obtain ⟨_, _, _, hx224, -, -, -, rfl⟩ := hi221.dep 21 42 rfl rfl
                  exact OpR.want rfl rfl hx223 hb66 (Yl.sameI (yl_gtr rfl hx224 rfl ⟨fun _ _ => rfl, rfl⟩))
                · intro L225 w226 hi227
                  have hE228 := hi227.ex
                  have hE228z := Ex.size hE228
                  obtain ⟨_, _, _, hx229, -, -, -, rfl⟩ := hi227.dep 22 43 rfl rfl
                  obtain ⟨_, _, _, hx230, -, -, -, rfl⟩ := hi227.dep 8 29 rfl rfl
                  exact OpR.op' rfl (Yl.sameI (yl_pick_t rfl hx230 hb66 hx229 ⟨fun _ _ => rfl, rfl⟩))
                · intro fl234 fh235 L231 w232 hp233
                  have hE236 := hp233.ex
                  have hE236z := Ex.size hE236
                  have hx237 := hp233.old 1 _ rfl rfl
                  have hx238 := hp233.old 4 _ rfl rfl
                  have hx239 := hp233.old 11 _ rfl rfl
                  have hx240 := hp233.old 12 _ rfl rfl
                  have hx241 := hp233.old 17 _ rfl rfl
                  have hx242 := hp233.old 18 _ rfl rfl
                  obtain ⟨_, hx243, rfl⟩ := hp233.new 4 25 rfl rfl
                  obtain ⟨_, hx244, rfl⟩ := hp233.new 5 26 rfl rfl
                  obtain ⟨_, hx245, rfl⟩ := hp233.new 6 27 rfl rfl
                  obtain ⟨_, hx246, rfl⟩ := hp233.new 9 30 rfl rfl
                  obtain ⟨_, hx247, rfl⟩ := hp233.new 10 31 rfl rfl
                  obtain ⟨_, hx248, rfl⟩ := hp233.new 11 32 rfl rfl
                  obtain ⟨_, hx249, rfl⟩ := hp233.new 12 33 rfl rfl
                  obtain ⟨_, hx250, rfl⟩ := hp233.new 13 34 rfl rfl
                  obtain ⟨_, hx251, rfl⟩ := hp233.new 14 35 rfl rfl
                  obtain ⟨_, hx252, rfl⟩ := hp233.new 15 36 rfl rfl
                  obtain ⟨_, hx253, rfl⟩ := hp233.new 16 37 rfl rfl
                  obtain ⟨_, hx254, rfl⟩ := hp233.new 17 38 rfl rfl
                  obtain ⟨_, hx255, rfl⟩ := hp233.new 18 39 rfl rfl
                  obtain ⟨_, hx256, rfl⟩ := hp233.new 19 40 rfl rfl
                  obtain ⟨_, hx257, rfl⟩ := hp233.new 20 41 rfl rfl
                  obtain ⟨_, hx258, rfl⟩ := hp233.new 21 42 rfl rfl
                  obtain ⟨_, hx259, rfl⟩ := hp233.new 22 43 rfl rfl
                  obtain ⟨_, hx260, rfl⟩ := hp233.new 23 44 rfl rfl
                  refine SeqR.done ?_
                  refine tn ?_
                  refine CW.sub (Sub.cons (d := 1) hx237 (Sub.cons (d := 4) hx238 (Sub.cons (d := 11) hx239 (Sub.cons (d := 12) hx240 (Sub.cons (d := 17) hx241 (Sub.cons (d := 18) hx242 (Sub.cons (d := 25) hx243 (Sub.cons (d := 26) hx244 (Sub.cons (d := 27) hx245 (Sub.cons (d := 30) hx246 (Sub.cons (d := 31) hx247 (Sub.cons (d := 32) hx248 (Sub.cons (d := 33) hx249 (Sub.cons (d := 34) hx250 (Sub.cons (d := 35) hx251 (Sub.cons (d := 36) hx252 (Sub.cons (d := 37) hx253 (Sub.cons (d := 38) hx254 (Sub.cons (d := 39) hx255 (Sub.cons (d := 40) hx256 (Sub.cons (d := 41) hx257 (Sub.cons (d := 42) hx258 (Sub.cons (d := 43) hx259 (Sub.cons (d := 44) hx260 (Sub.nil _))))))))))))))))))))))))) ?_
                  refine bcase (decide (1 < (IntKind.wrap .i64 (((p_r.Leases.getD k19 d_VLease).Ver) - ((p_r.Leases.getD k41 d_VLease).Ver))))) (fun hb261 => ?_) (fun hb261 => ?_)
                  · have hb261p := dec_t hb261
                    refine CW.cond_t rfl hb261 ?_
                    refine CW.seq ?_
                    refine CW.region ?_
                    refine SeqR.d1 rfl rfl rfl (yl_assign rfl rfl ?_)
                    refine SeqR.d1 rfl rfl rfl (yl_assign rfl rfl ?_)
                    refine SeqR.done ?_
                    refine tn ?_
                    refine CW.ret ?_
                    refine br ?_
                    refine tr ?_
                    refine tr ?_
                    have hB263 : B_s_AreNear_1 p_r k19 k41 () = .ret (false, true) := by simp only [B_s_AreNear_1, hb17, hb63, hb66, hb261, cond_true, cond_false, loopE_done, loopE_ret]
                    have hL262 : loopM (B_s_AreNear_1 p_r k19) (p_r.Leases.length - 0) 0 () = .ret (false, true) := hI49.symm.trans (loopM.ret hlt61 hB263)
                    refine br ?_
                    refine br ?_
                    refine tr ?_
                    refine tr ?_
                    have hB265 : B_s_AreNear_0 p_r k19 () = .ret (false, true) := by simp only [B_s_AreNear_0, hb17, hb63, hb66, hb261, hL262, cond_true, cond_false, loopE_done, loopE_ret]
                    have hL264 : loopM (B_s_AreNear_0 p_r) (p_r.Leases.length - 0) 0 () = .ret (false, true) := hI31.symm.trans (loopM.ret hlt40 hB265)
                    refine br ?_
                    refine tr ?_
                    refine rr rfl (.cons rfl (.cons rfl .nil)) ?_
                    have hM266 : (s_AreNear p_r) = ((false, true)) := by simp only [s_AreNear, hb17, hb63, hb66, hb261, hL262, hL264, cond_true, cond_false, loopE_done, loopE_ret]
                    rw [hM266]
                    have q267 := Ex.trans hf59 hE236
                    exact ⟨rfl, q267⟩
                  · have hb261p := dec_f hb261
                    refine CW.cond_f rfl hb261 ?_
                    refine CW.skip ?_
                    refine bn ?_
                    refine tn ?_
                    refine CW.region ?_
                    refine SeqR.d1 rfl rfl rfl (yl_inc rfl rfl rfl (by omega) ?_)
                    refine SeqR.d1 rfl rfl rfl (yl_move rfl rfl ?_)
                    refine SeqR.done ?_
                    refine tn ?_
                    have hB268 : B_s_AreNear_1 p_r k19 k41 () = .cont () := by simp only [B_s_AreNear_1, hb17, hb63, hb66, hb261, cond_true, cond_false, loopE_done, loopE_ret]
                    have q269 := Box.ex hf56 hE236
                    have q270 := RdS.ex good_Clock hf57 hE236
                    have q271 := RdS.ex good_VLease hf58 hE236
                    have q272 := Ex.trans hf59 hE236
                    exact ⟨p_r.Leases.length - (k41 + 1), by omega, k41 + 1, rfl, hlt61, rfl, rfl, rfl, rfl, rfl, rfl, q269, q270, q271, q272, (loopM.cont hlt61 hB268).symm.trans hI49⟩
              · skip
                refine CW.drawsI 24 (vgetI [DetI (.agg #[.int .i64 (p_r.Now), .int .i64 (p_r.Master.Off), .slice A1 p_r.Clocks.length c1, .int .i64 (p_r.Ver), .slice A2 p_r.Leases.length c2]), DetI (.int .i64 ((k19 : Int))), DetI (.bool ((s_l28Usable p_r (k19 : Int)))), DetI (.bool ((s_l28Usable p_r (k19 : Int)))), DetI (.agg #[.int .i64 (p_r.Now), .int .i64 (p_r.Master.Off), .slice A1 p_r.Clocks.length c1, .int .i64 (p_r.Ver), .slice A2 p_r.Leases.length c2]), DetI (.int .i64 ((k41 : Int))), DetI (.bool ((s_l28Usable p_r (k41 : Int)))), DetI (.bool ((s_l28Usable p_r (k41 : Int)))), DetI (.bool ((s_l28Usable p_r (k41 : Int)))), DetI (undef), DetI (undef), DetI (undef), DetI (undef), DetI (undef), DetI (undef), DetI (undef), DetI (undef), DetI (undef), DetI (undef), DetI (undef), DetI (undef), DetI (undef), DetI (undef), DetI (.bool (false))]) Try.follows rfl rfl rfl rfl rfl rfl (vgetI_stable ⟨StableI.det _, StableI.det _, StableI.det _, StableI.det _, StableI.det _, StableI.det _, StableI.det _, StableI.det _, StableI.det _, StableI.det _, StableI.det _, StableI.det _, StableI.det _, StableI.det _, StableI.det _, StableI.det _, StableI.det _, StableI.det _, StableI.det _, StableI.det _, StableI.det _, StableI.det _, StableI.det _, StableI.det _, trivial⟩) ⟨?_, ?_, ?_, ?_, ?_, ?_, ?_, ?_, ?_, ?_, ?_, ?_, ?_, ?_, ?_, ?_, ?_, ?_, ?_, ?_, ?_, ?_, ?_, ?_, trivial⟩ ?_
                · intro L275 w276 hi277
                  have hE278 := hi277.ex
                  have hE278z := Ex.size hE278
                  have hx279 := hi277.old 1 _ rfl rfl
                  have q280 := Box.ex hf56 hE278
                  exact OpR.op' rfl (Yl.sameI (yl_loadN (cs := [.int .i64 (p_r.Now), .int .i64 (p_r.Master.Off), .slice A1 p_r.Clocks.length c1, .int .i64 (p_r.Ver), .slice A2 p_r.Leases.length c2]) Try.ty37 rfl hx279 (q280.cells (n := 5) rfl) rfl ⟨fun _ _ => rfl, rfl⟩))
                · intro L281 w282 hi283
                  have hE284 := hi283.ex
                  have hE284z := Ex.size hE284
                  have hx285 := hi283.old 4 _ rfl rfl
                  exact OpR.op' rfl (Yl.sameI (yl_move rfl hx285 ⟨fun _ _ => rfl, rfl⟩))
                · intro L286 w287 hi288
                  have hE289 := hi288.ex
                  have hE289z := Ex.size hE289
                  obtain ⟨_, _, _, hx290, -, -, -, rfl⟩ := hi288.dep 0 21 rfl rfl
                  obtain ⟨_, _, _, hx291, -, -, -, rfl⟩ := hi288.dep 1 22 rfl rfl
                  have q292 := RdS.ex good_Clock hf57 hE289
                  have q293 := RdS.ex good_VLease hf58 hE289
                  refine OpR.op' rfl (yl_call Try.en77 rfl (opvs_cons hx290 (opvs_cons hx291 opvs_nil)) (Cal.mono (c_s_l28Usable p_r (k19 : Int) (RdS.up q292 good_Clock) (RdS.up q293 good_VLease) o3 (by first | omega | assumption | (simp only [IntKind.wrap_i64] at *; omega))) ?_))
                  rintro v295 w294 ⟨rfl, hE296⟩
                  exact ⟨rfl, hE296⟩
                · intro L297 w298 hi299
                  have hE300 := hi299.ex
                  have hE300z := Ex.size hE300
                  obtain ⟨_, _, _, hx301, -, -, -, rfl⟩ := hi299.dep 2 23 rfl rfl
                  exact OpR.op' rfl (Yl.sameI (yl_move rfl hx301 ⟨fun _ _ => rfl, rfl⟩))
                · intro L302 w303 hi304
                  have hE305 := hi304.ex
                  have hE305z := Ex.size hE305
                  obtain ⟨_, _, _, hx306, -, -, -, rfl⟩ := hi304.dep 3 24 rfl rfl
                  have hx307 := hi304.old 1 _ rfl rfl
                  have q308 := Box.ex hf56 hE305
                  exact OpR.want rfl rfl hx306 hb63 (Yl.sameI (yl_loadN (cs := [.int .i64 (p_r.Now), .int .i64 (p_r.Master.Off), .slice A1 p_r.Clocks.length c1, .int .i64 (p_r.Ver), .slice A2 p_r.Leases.length c2]) Try.ty37 rfl hx307 (q308.cells (n := 5) rfl) rfl ⟨fun _ _ => rfl, rfl⟩))
                · intro L309 w310 hi311
                  have hE312 := hi311.ex
                  have hE312z := Ex.size hE312
                  obtain ⟨_, _, _, hx313, -, -, -, rfl⟩ := hi311.dep 3 24 rfl rfl
                  have hx314 := hi311.old 5 _ rfl rfl
                  exact OpR.want rfl rfl hx313 hb63 (Yl.sameI (yl_move rfl hx314 ⟨fun _ _ => rfl, rfl⟩))
                · intro L315 w316 hi317
                  have hE318 := hi317.ex
                  have hE318z := Ex.size hE318
                  obtain ⟨_, _, _, hx319, -, -, -, rfl⟩ := hi317.dep 3 24 rfl rfl
                  obtain ⟨_, _, _, hx320, -, -, -, rfl⟩ := hi317.dep 4 25 rfl rfl
                  obtain ⟨_, _, _, hx321, -, -, -, rfl⟩ := hi317.dep 5 26 rfl rfl
                  have q322 := RdS.ex good_Clock hf57 hE318
                  have q323 := RdS.ex good_VLease hf58 hE318
                  refine OpR.want rfl rfl hx319 hb63 (yl_call Try.en77 rfl (opvs_cons hx320 (opvs_cons hx321 opvs_nil)) (Cal.mono (c_s_l28Usable p_r (k41 : Int) (RdS.up q322 good_Clock) (RdS.up q323 good_VLease) o3 (by first | omega | assumption | (simp only [IntKind.wrap_i64] at *; omega))) ?_))
                  rintro v325 w324 ⟨rfl, hE326⟩
                  exact ⟨rfl, hE326⟩
                · intro L327 w328 hi329
                  have hE330 := hi329.ex
                  have hE330z := Ex.size hE330
                  obtain ⟨_, _, _, hx331, -, -, -, rfl⟩ := hi329.dep 6 27 rfl rfl
                  obtain ⟨_, _, _, hx332, -, -, -, rfl⟩ := hi329.dep 3 24 rfl rfl
                  exact OpR.op' rfl (Yl.sameI (yl_pick_t rfl hx332 hb63 hx331 ⟨fun _ _ => rfl, rfl⟩))
                · intro L333 w334 hi335
                  have hE336 := hi335.ex
                  have hE336z := Ex.size hE336
                  obtain ⟨_, _, _, hx337, -, -, -, rfl⟩ := hi335.dep 7 28 rfl rfl
                  exact OpR.op' rfl (Yl.sameI (yl_move rfl hx337 ⟨fun _ _ => rfl, rfl⟩))
                · intro L338 w339 hi340
                  have hE341 := hi340.ex
                  have hE341z := Ex.size hE341
                  obtain ⟨_, _, _, hx342, -, -, -, rfl⟩ := hi340.dep 8 29 rfl rfl
                  exact OpR.skip rfl rfl hx342 hb66 ⟨rfl, Ex.refl _⟩
                · intro L343 w344 hi345
                  have hE346 := hi345.ex
                  have hE346z := Ex.size hE346
                  obtain ⟨_, _, _, hx347, -, -, -, rfl⟩ := hi345.dep 8 29 rfl rfl
                  exact OpR.skip rfl rfl hx347 hb66 ⟨rfl, Ex.refl _⟩
                · intro L348 w349 hi350
                  have hE351 := hi350.ex
                  have hE351z := Ex.size hE351
                  obtain ⟨_, _, _, hx352, -, -, -, rfl⟩ := hi350.dep 8 29 rfl rfl
                  exact OpR.skip rfl rfl hx352 hb66 ⟨rfl, Ex.refl _⟩
                · intro L353 w354 hi355
                  have hE356 := hi355.ex
                  have hE356z := Ex.size hE356
                  obtain ⟨_, _, _, hx357, -, -, -, rfl⟩ := hi355.dep 8 29 rfl rfl
                  exact OpR.skip rfl rfl hx357 hb66 ⟨rfl, Ex.refl _⟩
                · intro L358 w359 hi360
                  have hE361 := hi360.ex
                  have hE361z := Ex.size hE361
                  obtain ⟨_, _, _, hx362, -, -, -, rfl⟩ := hi360.dep 8 29 rfl rfl
                  exact OpR.skip rfl rfl hx362 hb66 ⟨rfl, Ex.refl _⟩
                · intro L363 w364 hi365
                  have hE366 := hi365.ex
                  have hE366z := Ex.size hE366
                  obtain ⟨_, _, _, hx367, -, -, -, rfl⟩ := hi365.dep 8 29 rfl rfl
                  exact OpR.skip rfl rfl hx367 hb66 ⟨rfl, Ex.refl _⟩
                · intro L368 w369 hi370
                  have hE371 := hi370.ex
                  have hE371z := Ex.size hE371
                  obtain ⟨_, _, _, hx372, -, -, -, rfl⟩ := hi370.dep 8 29 rfl rfl
                  exact OpR.skip rfl rfl hx372 hb66 ⟨rfl, Ex.refl _⟩
                · intro L373 w374 hi375
                  have hE376 := hi375.ex
                  have hE376z := Ex.size hE376
                  obtain ⟨_, _, _, hx377, -, -, -, rfl⟩ := hi375.dep 8 29 rfl rfl
                  exact OpR.skip rfl rfl hx377 hb66 ⟨rfl, Ex.refl _⟩
                · intro L378 w379 hi380
                  have hE381 := hi380.ex
                  have hE381z := Ex.size hE381
                  obtain ⟨_, _, _, hx382, -, -, -, rfl⟩ := hi380.dep 8 29 rfl rfl
                  exact OpR.skip rfl rfl hx382 hb66 ⟨rfl, Ex.refl _⟩
                · intro L383 w384 hi385
                  have hE386 := hi385.ex
                  have hE386z := Ex.size hE386
                  obtain ⟨_, _, _, hx387, -, -, -, rfl⟩ := hi385.dep 8 29 rfl rfl
                  exact OpR.skip rfl rfl hx387 hb66 ⟨rfl, Ex.refl _⟩
                · intro L388 w389 hi390
                  have hE391 := hi390.ex
                  have hE391z := Ex.size hE391
                  obtain ⟨_, _, _, hx392, -, -, -, rfl⟩ := hi390.dep 8 29 rfl rfl
                  exact OpR.skip rfl rfl hx392 hb66 ⟨rfl, Ex.refl _⟩
                · intro L393 w394 hi395
                  have hE396 := hi395.ex
                  have hE396z := Ex.size hE396
                  obtain ⟨_, _, _, hx397, -, -, -, rfl⟩ := hi395.dep 8 29 rfl rfl
                  exact OpR.skip rfl rfl hx397 hb66 ⟨rfl, Ex.refl _⟩
                · intro L398 w399 hi400
                  have hE401 := hi400.ex
                  have hE401z := Ex.size hE401
                  obtain ⟨_, _, _, hx402, -, -, -, rfl⟩ := hi400.dep 8 29 rfl rfl
                  exact OpR.skip rfl rfl hx402 hb66 ⟨rfl, Ex.refl _⟩
                · intro L403 w404 hi405
                  have hE406 := hi405.ex
                  have hE406z := Ex.size hE406
                  obtain ⟨_, _, _, hx407, -, -, -, rfl⟩ := hi405.dep 8 29 rfl rfl
                  exact OpR.skip rfl rfl hx407 hb66 ⟨rfl, Ex.refl _⟩
                · intro L408 w409 hi410
                  have hE411 := hi410.ex
                  have hE411z := Ex.size hE411
                  obtain ⟨_, _, _, hx412, -, -, -, rfl⟩ := hi410.dep 22 43 rfl rfl
                  obtain ⟨_, _, _, hx413, -, -, -, rfl⟩ := hi410.dep 8 29 rfl rfl
                  exact OpR.op' rfl (Yl.sameI (yl_pick_f rfl hx413 hb66 rfl ⟨fun _ _ => rfl, rfl⟩))
                · intro fl417 fh418 L414 w415 hp416
                  have hE419 := hp416.ex
                  have hE419z := Ex.size hE419
                  have hx420 := hp416.old 1 _ rfl rfl
                  have hx421 := hp416.old 4 _ rfl rfl
                  have hx422 := hp416.old 11 _ rfl rfl
                  have hx423 := hp416.old 12 _ rfl rfl
                  have hx424 := hp416.old 17 _ rfl rfl
                  have hx425 := hp416.old 18 _ rfl rfl
                  obtain ⟨_, hx426, rfl⟩ := hp416.new 4 25 rfl rfl
                  obtain ⟨_, hx427, rfl⟩ := hp416.new 5 26 rfl rfl
                  obtain ⟨_, hx428, rfl⟩ := hp416.new 6 27 rfl rfl
                  obtain ⟨_, hx429, rfl⟩ := hp416.new 9 30 rfl rfl
                  obtain ⟨_, hx430, rfl⟩ := hp416.new 10 31 rfl rfl
                  obtain ⟨_, hx431, rfl⟩ := hp416.new 11 32 rfl rfl
                  obtain ⟨_, hx432, rfl⟩ := hp416.new 12 33 rfl rfl
                  obtain ⟨_, hx433, rfl⟩ := hp416.new 13 34 rfl rfl
                  obtain ⟨_, hx434, rfl⟩ := hp416.new 14 35 rfl rfl
                  obtain ⟨_, hx435, rfl⟩ := hp416.new 15 36 rfl rfl
                  obtain ⟨_, hx436, rfl⟩ := hp416.new 16 37 rfl rfl
                  obtain ⟨_, hx437, rfl⟩ := hp416.new 17 38 rfl rfl
                  obtain ⟨_, hx438, rfl⟩ := hp416.new 18 39 rfl rfl
                  obtain ⟨_, hx439, rfl⟩ := hp416.new 19 40 rfl rfl
                  obtain ⟨_, hx440, rfl⟩ := hp416.new 20 41 rfl rfl
                  obtain ⟨_, hx441, rfl⟩ := hp416.new 21 42 rfl rfl
                  obtain ⟨_, hx442, rfl⟩ := hp416.new 22 43 rfl rfl
                  obtain ⟨_, hx443, rfl⟩ := hp416.new 23 44 rfl rfl
                  refine SeqR.done ?_
                  refine tn ?_
                  refine CW.sub (Sub.cons (d := 1) hx420 (Sub.cons (d := 4) hx421 (Sub.cons (d := 11) hx422 (Sub.cons (d := 12) hx423 (Sub.cons (d := 17) hx424 (Sub.cons (d := 18) hx425 (Sub.cons (d := 25) hx426 (Sub.cons (d := 26) hx427 (Sub.cons (d := 27) hx428 (Sub.cons (d := 30) hx429 (Sub.cons (d := 31) hx430 (Sub.cons (d := 32) hx431 (Sub.cons (d := 33) hx432 (Sub.cons (d := 34) hx433 (Sub.cons (d := 35) hx434 (Sub.cons (d := 36) hx435 (Sub.cons (d := 37) hx436 (Sub.cons (d := 38) hx437 (Sub.cons (d := 39) hx438 (Sub.cons (d := 40) hx439 (Sub.cons (d := 41) hx440 (Sub.cons (d := 42) hx441 (Sub.cons (d := 43) hx442 (Sub.cons (d := 44) hx443 (Sub.nil _))))))))))))))))))))))))) ?_
                  refine CW.cond_f rfl rfl ?_
                  refine CW.skip ?_
                  refine bn ?_
                  refine tn ?_
                  refine CW.region ?_
                  refine SeqR.d1 rfl rfl rfl (yl_inc rfl rfl rfl (by omega) ?_)
                  refine SeqR.d1 rfl rfl rfl (yl_move rfl rfl ?_)
                  refine SeqR.done ?_
                  refine tn ?_
                  have hB444 : B_s_AreNear_1 p_r k19 k41 () = .cont () := by simp only [B_s_AreNear_1, hb17, hb63, hb66, cond_true, cond_false, loopE_done, loopE_ret]
                  have q445 := Box.ex hf56 hE419
                  have q446 := RdS.ex good_Clock hf57 hE419
                  have q447 := RdS.ex good_VLease hf58 hE419
                  have q448 := Ex.trans hf59 hE419
                  exact ⟨p_r.Leases.length - (k41 + 1), by omega, k41 + 1, rfl, hlt61, rfl, rfl, rfl, rfl, rfl, rfl, q445, q446, q447, q448, (loopM.cont hlt61 hB444).symm.trans hI49⟩
            · skip
              refine CW.drawsI 24 (vgetI [DetI (.agg #[.int .i64 (p_r.Now), .int .i64 (p_r.Master.Off), .slice A1 p_r.Clocks.length c1, .int .i64 (p_r.Ver), .slice A2 p_r.Leases.length c2]), DetI (.int .i64 ((k19 : Int))), DetI (.bool ((s_l28Usable p_r (k19 : Int)))), DetI (.bool ((s_l28Usable p_r (k19 : Int)))), DetI (undef), DetI (undef), DetI (undef), DetI (.bool (false)), DetI (.bool (false)), DetI (undef), DetI (undef), DetI (undef), DetI (undef), DetI (undef), DetI (undef), DetI (undef), DetI (undef), DetI (undef), DetI (undef), DetI (undef), DetI (undef), DetI (undef), DetI (undef), DetI (.bool (false))]) Try.follows rfl rfl rfl rfl rfl rfl (vgetI_stable ⟨StableI.det _, StableI.det _, StableI.det _, StableI.det _, StableI.det _, StableI.det _, StableI.det _, StableI.det _, StableI.det _, StableI.det _, StableI.det _, StableI.det _, StableI.det _, StableI.det _, StableI.det _, StableI.det _, StableI.det _, StableI.det _, StableI.det _, StableI.det _, StableI.det _, StableI.det _, StableI.det _, StableI.det _, trivial⟩) ⟨?_, ?_, ?_, ?_, ?_, ?_, ?_, ?_, ?_, ?_, ?_, ?_, ?_, ?_, ?_, ?_, ?_, ?_, ?_, ?_, ?_, ?_, ?_, ?_, trivial⟩ ?_
              · intro L450 w451 hi452
                have hE453 := hi452.ex
                have hE453z := Ex.size hE453
                have hx454 := hi452.old 1 _ rfl rfl
                have q455 := Box.ex hf56 hE453
                exact OpR.op' rfl (Yl.sameI (yl_loadN (cs := [.int .i64 (p_r.Now), .int .i64 (p_r.Master.Off), .slice A1 p_r.Clocks.length c1, .int .i64 (p_r.Ver), .slice A2 p_r.Leases.length c2]) Try.ty37 rfl hx454 (q455.cells (n := 5) rfl) rfl ⟨fun _ _ => rfl, rfl⟩))
              · intro L456 w457 hi458
                have hE459 := hi458.ex
                have hE459z := Ex.size hE459
                have hx460 := hi458.old 4 _ rfl rfl
                exact OpR.op' rfl (Yl.sameI (yl_move rfl hx460 ⟨fun _ _ => rfl, rfl⟩))
              · intro L461 w462 hi463
                have hE464 := hi463.ex
                have hE464z := Ex.size hE464
                obtain ⟨_, _, _, hx465, -, -, -, rfl⟩ := hi463.dep 0 21 rfl rfl
                obtain ⟨_, _, _, hx466, -, -, -, rfl⟩ := hi463.dep 1 22 rfl rfl
                have q467 := RdS.ex good_Clock hf57 hE464
                have q468 := RdS.ex good_VLease hf58 hE464
                refine OpR.op' rfl (yl_call Try.en77 rfl (opvs_cons hx465 (opvs_cons hx466 opvs_nil)) (Cal.mono (c_s_l28Usable p_r (k19 : Int) (RdS.up q467 good_Clock) (RdS.up q468 good_VLease) o3 (by first | omega | assumption | (simp only [IntKind.wrap_i64] at *; omega))) ?_))
                rintro v470 w469 ⟨rfl, hE471⟩
                exact ⟨rfl, hE471⟩
              · intro L472 w473 hi474
                have hE475 := hi474.ex
                have hE475z := Ex.size hE475
                obtain ⟨_, _, _, hx476, -, -, -, rfl⟩ := hi474.dep 2 23 rfl rfl
                exact OpR.op' rfl (Yl.sameI (yl_move rfl hx476 ⟨fun _ _ => rfl, rfl⟩))
              · intro L477 w478 hi479
                have hE480 := hi479.ex
                have hE480z := Ex.size hE480
                obtain ⟨_, _, _, hx481, -, -, -, rfl⟩ := hi479.dep 3 24 rfl rfl
                exact OpR.skip rfl rfl hx481 hb63 ⟨rfl, Ex.refl _⟩
              · intro L482 w483 hi484
                have hE485 := hi484.ex
                have hE485z := Ex.size hE485
                obtain ⟨_, _, _, hx486, -, -, -, rfl⟩ := hi484.dep 3 24 rfl rfl
                exact OpR.skip rfl rfl hx486 hb63 ⟨rfl, Ex.refl _⟩
              · intro L487 w488 hi489
                have hE490 := hi489.ex
                have hE490z := Ex.size hE490
                obtain ⟨_, _, _, hx491, -, -, -, rfl⟩ := hi489.dep 3 24 rfl rfl
                exact OpR.skip rfl rfl hx491 hb63 ⟨rfl, Ex.refl _⟩
              · intro L492 w493 hi494
                have hE495 := hi494.ex
                have hE495z := Ex.size hE495
                obtain ⟨_, _, _, hx496, -, -, -, rfl⟩ := hi494.dep 6 27 rfl rfl
                obtain ⟨_, _, _, hx497, -, -, -, rfl⟩ := hi494.dep 3 24 rfl rfl
                exact OpR.op' rfl (Yl.sameI (yl_pick_f rfl hx497 hb63 rfl ⟨fun _ _ => rfl, rfl⟩))
              · intro L498 w499 hi500
                have hE501 := hi500.ex
                have hE501z := Ex.size hE501
                obtain ⟨_, _, _, hx502, -, -, -, rfl⟩ := hi500.dep 7 28 rfl rfl
                exact OpR.op' rfl (Yl.sameI (yl_move rfl hx502 ⟨fun _ _ => rfl, rfl⟩))
              · intro L503 w504 hi505
                have hE506 := hi505.ex
                have hE506z := Ex.size hE506
                obtain ⟨_, _, _, hx507, -, -, -, rfl⟩ := hi505.dep 8 29 rfl rfl
                exact OpR.skip rfl rfl hx507 rfl ⟨rfl, Ex.refl _⟩
              · intro L508 w509 hi510
                have hE511 := hi510.ex
                have hE511z := Ex.size hE511
                obtain ⟨_, _, _, hx512, -, -, -, rfl⟩ := hi510.dep 8 29 rfl rfl
                exact OpR.skip rfl rfl hx512 rfl ⟨rfl, Ex.refl _⟩
              · intro L513 w514 hi515
                have hE516 := hi515.ex
                have hE516z := Ex.size hE516
                obtain ⟨_, _, _, hx517, -, -, -, rfl⟩ := hi515.dep 8 29 rfl rfl
                exact OpR.skip rfl rfl hx517 rfl ⟨rfl, Ex.refl _⟩
              · intro L518 w519 hi520
                have hE521 := hi520.ex
                have hE521z := Ex.size hE521
                obtain ⟨_, _, _, hx522, -, -, -, rfl⟩ := hi520.dep 8 29 rfl rfl
                exact OpR.skip rfl rfl hx522 rfl ⟨rfl, Ex.refl _⟩
              · intro L523 w524 hi525
                have hE526 := hi525.ex
                have hE526z := Ex.size hE526
                obtain ⟨_, _, _, hx527, -, -, -, rfl⟩ := hi525.dep 8 29 rfl rfl
                exact OpR.skip rfl rfl hx527 rfl ⟨rfl, Ex.refl _⟩
              · intro L528 w529 hi530
                have hE531 := hi530.ex
                have hE531z := Ex.size hE531
                obtain ⟨_, _, _, hx532, -, -, -, rfl⟩ := hi530.dep 8 29 rfl rfl
                exact OpR.skip rfl rfl hx532 rfl ⟨rfl, Ex.refl _⟩
              · intro L533 w534 hi535
                have hE536 := hi535.ex
                have hE536z := Ex.size hE536
                obtain ⟨_, _, _, hx537, -, -, -, rfl⟩ := hi535.dep 8 29 rfl rfl
                exact OpR.skip rfl rfl hx537 rfl ⟨rfl, Ex.refl _⟩
              · intro L538 w539 hi540
                have hE541 := hi540.ex
                have hE541z := Ex.size hE541
                obtain ⟨_, _, _, hx542, -, -, -, rfl⟩ := hi540.dep 8 29 rfl rfl
                exact OpR.skip rfl rfl hx542 rfl ⟨rfl, Ex.refl _⟩
              · intro L543 w544 hi545
                have hE546 := hi545.ex
                have hE546z := Ex.size hE546
                obtain ⟨_, _, _, hx547, -, -, -, rfl⟩ := hi545.dep 8 29 rfl rfl
                exact OpR.skip rfl rfl hx547 rfl ⟨rfl, Ex.refl _⟩
              · intro L548 w549 hi550
                have hE551 := hi550.ex
                have hE551z := Ex.size hE551
                obtain ⟨_, _, _, hx552, -, -, -, rfl⟩ := hi550.dep 8 29 rfl rfl
                exact OpR.skip rfl rfl hx552 rfl ⟨rfl, Ex.refl _⟩
              · intro L553 w554 hi555
                have hE556 := hi555.ex
                have hE556z := Ex.size hE556
                obtain ⟨_, _, _, hx557, -, -, -, rfl⟩ := hi555.dep 8 29 rfl rfl
                exact OpR.skip rfl rfl hx557 rfl ⟨rfl, Ex.refl _⟩
              · intro L558 w559 hi560
                have hE561 := hi560.ex
                have hE561z := Ex.size hE561
                obtain ⟨_, _, _, hx562, -, -, -, rfl⟩ := hi560.dep 8 29 rfl rfl
                exact OpR.skip rfl rfl hx562 rfl ⟨rfl, Ex.refl _⟩
              · intro L563 w564 hi565
                have hE566 := hi565.ex
                have hE566z := Ex.size hE566
                obtain ⟨_, _, _, hx567, -, -, -, rfl⟩ := hi565.dep 8 29 rfl rfl
                exact OpR.skip rfl rfl hx567 rfl ⟨rfl, Ex.refl _⟩
              · intro L568 w569 hi570
                have hE571 := hi570.ex
                have hE571z := Ex.size hE571
                obtain ⟨_, _, _, hx572, -, -, -, rfl⟩ := hi570.dep 8 29 rfl rfl
                exact OpR.skip rfl rfl hx572 rfl ⟨rfl, Ex.refl _⟩
              · intro L573 w574 hi575
                have hE576 := hi575.ex
                have hE576z := Ex.size hE576
                obtain ⟨_, _, _, hx577, -, -, -, rfl⟩ := hi575.dep 22 43 rfl rfl
                obtain ⟨_, _, _, hx578, -, -, -, rfl⟩ := hi575.dep 8 29 rfl rfl
                exact OpR.op' rfl (Yl.sameI (yl_pick_f rfl hx578 rfl rfl ⟨fun _ _ => rfl, rfl⟩))
              · intro fl582 fh583 L579 w580 hp581
                have hE584 := hp581.ex
                have hE584z := Ex.size hE584
                have hx585 := hp581.old 1 _ rfl rfl
                have hx586 := hp581.old 4 _ rfl rfl
                have hx587 := hp581.old 11 _ rfl rfl
                have hx588 := hp581.old 12 _ rfl rfl
                have hx589 := hp581.old 17 _ rfl rfl
                have hx590 := hp581.old 18 _ rfl rfl
                obtain ⟨_, hx591, rfl⟩ := hp581.new 4 25 rfl rfl
                obtain ⟨_, hx592, rfl⟩ := hp581.new 5 26 rfl rfl
                obtain ⟨_, hx593, rfl⟩ := hp581.new 6 27 rfl rfl
                obtain ⟨_, hx594, rfl⟩ := hp581.new 9 30 rfl rfl
                obtain ⟨_, hx595, rfl⟩ := hp581.new 10 31 rfl rfl
                obtain ⟨_, hx596, rfl⟩ := hp581.new 11 32 rfl rfl
                obtain ⟨_, hx597, rfl⟩ := hp581.new 12 33 rfl rfl
                obtain ⟨_, hx598, rfl⟩ := hp581.new 13 34 rfl rfl
                obtain ⟨_, hx599, rfl⟩ := hp581.new 14 35 rfl rfl
                obtain ⟨_, hx600, rfl⟩ := hp581.new 15 36 rfl rfl
                obtain ⟨_, hx601, rfl⟩ := hp581.new 16 37 rfl rfl
                obtain ⟨_, hx602, rfl⟩ := hp581.new 17 38 rfl rfl
                obtain ⟨_, hx603, rfl⟩ := hp581.new 18 39 rfl rfl
                obtain ⟨_, hx604, rfl⟩ := hp581.new 19 40 rfl rfl
                obtain ⟨_, hx605, rfl⟩ := hp581.new 20 41 rfl rfl
                obtain ⟨_, hx606, rfl⟩ := hp581.new 21 42 rfl rfl
                obtain ⟨_, hx607, rfl⟩ := hp581.new 22 43 rfl rfl
                obtain ⟨_, hx608, rfl⟩ := hp581.new 23 44 rfl rfl
                refine SeqR.done ?_
                refine tn ?_
                refine CW.sub (Sub.cons (d := 1) hx585 (Sub.cons (d := 4) hx586 (Sub.cons (d := 11) hx587 (Sub.cons (d := 12) hx588 (Sub.cons (d := 17) hx589 (Sub.cons (d := 18) hx590 (Sub.cons (d := 25) hx591 (Sub.cons (d := 26) hx592 (Sub.cons (d := 27) hx593 (Sub.cons (d := 30) hx594 (Sub.cons (d := 31) hx595 (Sub.cons (d := 32) hx596 (Sub.cons (d := 33) hx597 (Sub.cons (d := 34) hx598 (Sub.cons (d := 35) hx599 (Sub.cons (d := 36) hx600 (Sub.cons (d := 37) hx601 (Sub.cons (d := 38) hx602 (Sub.cons (d := 39) hx603 (Sub.cons (d := 40) hx604 (Sub.cons (d := 41) hx605 (Sub.cons (d := 42) hx606 (Sub.cons (d := 43) hx607 (Sub.cons (d := 44) hx608 (Sub.nil _))))))))))))))))))))))))) ?_
                refine CW.cond_f rfl rfl ?_
                refine CW.skip ?_
                refine bn ?_
                refine tn ?_
                refine CW.region ?_
                refine SeqR.d1 rfl rfl rfl (yl_inc rfl rfl rfl (by omega) ?_)
                refine SeqR.d1 rfl rfl rfl (yl_move rfl rfl ?_)
                refine SeqR.done ?_
                refine tn ?_
                have hB609 : B_s_AreNear_1 p_r k19 k41 () = .cont () := by simp only [B_s_AreNear_1, hb17, hb63, cond_true, cond_false, loopE_done, loopE_ret]
                have q610 := Box.ex hf56 hE584
                have q611 := RdS.ex good_Clock hf57 hE584
                have q612 := RdS.ex good_VLease hf58 hE584
                have q613 := Ex.trans hf59 hE584
                exact ⟨p_r.Leases.length - (k41 + 1), by omega, k41 + 1, rfl, hlt61, rfl, rfl, rfl, rfl, rfl, rfl, q610, q611, q612, q613, (loopM.cont hlt61 hB609).symm.trans hI49⟩
          · skip
            refine CW.seq ?_
            refine CW.region ?_
            refine SeqR.d1 rfl rfl rfl (yl_lss rfl rfl rfl ?_)
            refine SeqR.done ?_
            refine tn ?_
            refine CW.seq ?_
            refine CW.cond_f rfl (lt_f hlt61) ?_
            refine CW.exit ?_
            refine tx ?_
            refine tx ?_
            have hL614 : loopM (B_s_AreNear_1 p_r k19) (p_r.Leases.length - 0) 0 () = .done () := hI49.symm.trans (loopM.stop hlt61)
            refine bx ?_
            refine bn ?_
            refine tn ?_
            refine CW.region ?_
            refine SeqR.d1 rfl rfl rfl (yl_inc rfl rfl rfl (by omega) ?_)
            refine SeqR.d1 rfl rfl rfl (yl_move rfl rfl ?_)
            refine SeqR.done ?_
            refine tn ?_
            have hB615 : B_s_AreNear_0 p_r k19 () = .cont () := by simp only [B_s_AreNear_0, hb17, hL614, cond_true, cond_false, loopE_done, loopE_ret]
            exact ⟨p_r.Leases.length - (k19 + 1), by omega, k19 + 1, rfl, hlt40, rfl, rfl, rfl, hf56, hf57, hf58, hf59, (loopM.cont hlt40 hB615).symm.trans hI31⟩
      · skip
        refine CW.seq ?_
        refine CW.region ?_
        refine SeqR.d1 rfl rfl rfl (yl_lss rfl rfl rfl ?_)
        refine SeqR.done ?_
        refine tn ?_
        refine CW.seq ?_
        refine CW.cond_f rfl (lt_f hlt40) ?_
        refine CW.exit ?_
        refine tx ?_
        refine tx ?_
        have hL616 : loopM (B_s_AreNear_0 p_r) (p_r.Leases.length - 0) 0 () = .done () := hI31.symm.trans (loopM.stop hlt40)
        refine bx ?_
        refine tn ?_
        refine CW.seq ?_
        refine CW.region ?_
        refine SeqR.d1 rfl rfl rfl (yl_assign rfl rfl ?_)
        refine SeqR.d1 rfl rfl rfl (yl_assign rfl rfl ?_)
        refine SeqR.done ?_
        refine tn ?_
        refine CW.ret ?_
        refine rr rfl (.cons rfl (.cons rfl .nil)) ?_
        have hM617 : (s_AreNear p_r) = ((true, true)) := by simp only [s_AreNear, hb17, hL616, cond_true, cond_false, loopE_done, loopE_ret]
        rw [hM617]
        exact ⟨rfl, hf38⟩
  · skip
    refine CW.cond_t rfl (not_f hb17) ?_
    refine CW.seq ?_
    refine CW.region ?_
    refine SeqR.d1 rfl rfl rfl (yl_assign rfl rfl ?_)
    refine SeqR.d1 rfl rfl rfl (yl_assign rfl rfl ?_)
    refine SeqR.done ?_
    refine tn ?_
    refine CW.ret ?_
    refine tr ?_
    refine rr rfl (.cons rfl (.cons rfl .nil)) ?_
    have hM618 : (s_AreNear p_r) = ((false, false)) := by simp only [s_AreNear, hb17, cond_true, cond_false, loopE_done, loopE_ret]
    rw [hM618]
    have q619 := Ex.trans (Ex.refl w) hE11
    have q620 := Ex.trans q619 hE16
    exact ⟨rfl, q620⟩
set_option maxRecDepth 100000 in
set_option maxHeartbeats 2000000 in
theorem c_i_within {w : World} (p_n : Int) (p_low : Int) (p_high : Int) : Cal Try.prog 56 #[.int .i64 (p_n), .int .i64 (p_low), .int .i64 (p_high)] w fun v w' => v = .bool ((i_within p_n p_low p_high)) ∧ Ex w w' := by
  refine Cal.of (vs := [.int .i64 (p_n), .int .i64 (p_low), .int .i64 (p_high)]) Try.func56 rfl Try.ntmps56 rfl ?_
  refine CW.seq ?_
  refine CW.region ?_
  refine SeqR.d1 rfl rfl rfl (yl_assign rfl rfl ?_)
  refine SeqR.done ?_
  refine tn ?_
  refine CW.seq ?_
  refine CW.region ?_
  refine SeqR.d1 rfl rfl rfl (yl_move rfl rfl ?_)
  refine SeqR.d1 rfl rfl rfl (yl_move rfl rfl ?_)
  refine SeqR.d1 rfl rfl rfl (yl_geq rfl rfl rfl ?_)
  refine SeqR.d1 rfl rfl rfl (yl_move rfl rfl ?_)
  refine bcase (decide (p_low ≤ p_n)) (fun hb1 => ?_) (fun hb1 => ?_)
  · have hb1p := dec_t hb1
    refine SeqR.y rfl rfl rfl rfl rfl hb1 (yl_move rfl rfl ?_)
    refine SeqR.y rfl rfl rfl rfl rfl hb1 (yl_move rfl rfl ?_)
    refine SeqR.y rfl rfl rfl rfl rfl hb1 (yl_leq rfl rfl rfl ?_)
    refine SeqR.d1 rfl rfl rfl (yl_pick_t rfl rfl hb1 rfl ?_)
    refine SeqR.d1 rfl rfl rfl (yl_assign rfl rfl ?_)
    refine SeqR.done ?_
    refine tn ?_
    refine CW.ret ?_
    refine rr rfl (.cons rfl .nil) ?_
    have hM2 : (i_within p_n p_low p_high) = (decide (p_n ≤ p_high)) := by simp only [i_within, hb1, cond_true, cond_false, loopE_done, loopE_ret]
    rw [hM2]
    exact ⟨rfl, (Ex.refl w)⟩
  · have hb1p := dec_f hb1
    refine SeqR.z rfl rfl rfl rfl rfl hb1 ?_
    refine SeqR.z rfl rfl rfl rfl rfl hb1 ?_
    refine SeqR.z rfl rfl rfl rfl rfl hb1 ?_
    refine SeqR.d1 rfl rfl rfl (yl_pick_f rfl rfl hb1 rfl ?_)
    refine SeqR.d1 rfl rfl rfl (yl_assign rfl rfl ?_)
    refine SeqR.done ?_
    refine tn ?_
    refine CW.ret ?_
    refine rr rfl (.cons rfl .nil) ?_
    have hM3 : (i_within p_n p_low p_high) = (false) := by simp only [i_within, hb1, cond_true, cond_false, loopE_done, loopE_ret]
    rw [hM3]
    exact ⟨rfl, (Ex.refl w)⟩
set_option maxRecDepth 100000 in
set_option maxHeartbeats 2000000 in
theorem c_i_GoodClock {w : World} (p_c : DClock) : Cal Try.prog 71 #[.agg #[.int .i64 (p_c.Off)]] w fun v w' => v = .bool ((i_GoodClock p_c)) ∧ Ex w w' := by
  refine Cal.of (vs := [.agg #[.int .i64 (p_c.Off)]]) Try.func71 rfl Try.ntmps71 rfl ?_
  refine CW.seq ?_
  refine CW.region ?_
  refine SeqR.d1 rfl rfl rfl (yl_box (cs := [.int .i64 (p_c.Off)]) rfl rfl rfl ?_)
  intro b1 w2 hs3 hz4 hB5 hE6
  refine SeqR.d1 rfl rfl rfl (yl_assign rfl rfl ?_)
  refine SeqR.done ?_
  refine tn ?_
  refine CW.seq ?_
  refine CW.region ?_
  refine SeqR.d1 rfl rfl rfl (yl_fieldAddr Try.fd33_0 rfl rfl ?_)
  refine SeqR.d1 rfl rfl rfl (yl_load1 Try.ty3 rfl rfl ((hB5.cell 0).trans rfl) ?_)
  refine SeqR.d1 rfl rfl rfl (yl_call Try.en56 rfl (opvs_cons rfl (opvs_cons rfl (opvs_cons rfl opvs_nil))) (Cal.mono (c_i_within p_c.Off (-5) 5) ?_))
  rintro v8 w7 ⟨rfl, hE9⟩
  have hE9z := Ex.size hE9
  refine SeqR.d1 rfl rfl rfl (yl_assign rfl rfl ?_)
  refine SeqR.done ?_
  refine tn ?_
  refine CW.ret ?_
  refine rr rfl (.cons rfl .nil) ?_
  have hM10 : (i_GoodClock p_c) = ((i_within p_c.Off (-5) 5)) := by simp only [i_GoodClock, cond_true, cond_false, loopE_done, loopE_ret]
  rw [hM10]
  have q11 := Ex.trans (Ex.refl w) hE6
  have q12 := Ex.trans q11 hE9
  exact ⟨rfl, q12⟩
set_option maxRecDepth 100000 in
set_option maxHeartbeats 2000000 in
theorem c_g_slices_IndexFunc_Clock {A1 : Option Addr} {c1 : Nat} {g3 : Nat} {cp4 : List Value} {w : World} (p_s : List DClock) (p_f : DClock → Bool) (h1 : RdS w (Iv 0 w.heap.size) (RF e_Clock) 1 A1 p_s.length c1 p_s) (hen5 : Enters Try.prog g3) (hfn6 : ∀ (w1 : World) (y0 : DClock), Ex w w1 → Cal Try.prog g3 (([.agg #[.int .i64 (y0.Off)]] : List Value) ++ cp4).toArray w1 fun v w2 => v = .bool (p_f y0) ∧ Ex w1 w2) (o2 : (okL okT) p_s) : Cal Try.prog 104 #[.slice A1 p_s.length c1, .func (.func g3) #[] cp4.toArray] w fun v w' => v = .int .i64 ((g_slices_IndexFunc_Clock p_s p_f)) ∧ Ex w w' := by
  have hol7 := o2.1
  refine Cal.of (vs := [.slice A1 p_s.length c1, .func (.func g3) #[] cp4.toArray]) Try.func104 rfl Try.ntmps104 rfl ?_
  refine CW.seq ?_
  refine CW.region ?_
  refine SeqR.d1 rfl rfl rfl (yl_assign rfl rfl ?_)
  refine SeqR.done ?_
  refine tn ?_
  refine CW.seq ?_
  refine CW.seq ?_
  refine CW.region ?_
  refine SeqR.d1 rfl rfl rfl (yl_move rfl rfl ?_)
  refine SeqR.d1 rfl rfl rfl (yl_len Try.un34 rfl rfl ?_)
  refine SeqR.d1 rfl rfl rfl (yl_move rfl rfl ?_)
  refine SeqR.done ?_
  refine tn ?_
  refine CW.block ?_
  refine CW.loop (fun m9 L10 w11 => ∃ (k8 : Nat), m9 = p_s.length - k8 ∧ k8 ≤ p_s.length ∧ lkp L10 0 = some (.slice A1 p_s.length c1) ∧ lkp L10 1 = some (.func (.func g3) #[] cp4.toArray) ∧ lkp L10 7 = some (.int .i64 ((p_s.length : Int))) ∧ lkp L10 8 = some (.int .i64 ((k8 : Int))) ∧ RdS w11 (Iv 0 w.heap.size) (RF e_Clock) 1 A1 p_s.length c1 p_s ∧ Ex w w11 ∧ loopM (B_g_slices_IndexFunc_Clock_0 p_s p_f) (p_s.length - k8) k8 () = loopM (B_g_slices_IndexFunc_Clock_0 p_s p_f) (p_s.length - 0) 0 ()) (p_s.length - 0) ?_ ?_
  · exact ⟨0, rfl, (by omega), rfl, rfl, rfl, rfl, h1, (Ex.refl w), rfl⟩
  · rintro m12 L13 w14 ⟨k8, rfl, hk15, hl17, hl18, hl19, hl20, hf21, hf22, hI16⟩
    refine CW.sub (Sub.cons hl17 (Sub.cons hl18 (Sub.cons hl19 (Sub.cons hl20 (Sub.nil _))))) ?_
    have hf22z := Ex.size hf22
    have hbg23 := RdS.big hf21
    rcases Nat.lt_or_ge k8 p_s.length with hlt24 | hlt24
    · skip
      refine CW.seq ?_
      refine CW.region ?_
      refine SeqR.d1 rfl rfl rfl (yl_lss rfl rfl rfl ?_)
      refine SeqR.done ?_
      refine tn ?_
      refine CW.seq ?_
      refine CW.cond_t rfl (lt_t hlt24) ?_
      refine CW.skip ?_
      refine tn ?_
      refine CW.seq ?_
      refine CW.block ?_
      refine CW.seq ?_
      refine CW.region ?_
      refine SeqR.d1 rfl rfl rfl (yl_move rfl rfl ?_)
      refine SeqR.d1 rfl rfl rfl (yl_assign rfl rfl ?_)
      refine SeqR.done ?_
      refine tn ?_
      refine CW.seq ?_
      refine CW.region ?_
      refine SeqR.d1 rfl rfl rfl (yl_move rfl rfl ?_)
      refine SeqR.d1 rfl rfl rfl (yl_move rfl rfl ?_)
      refine SeqR.d1 rfl rfl rfl (yl_move rfl rfl ?_)
      obtain ⟨eb25, eo25, ec25, eA25, eS25, ebl25, el25, eR25, eC25⟩ := RdS.atD hf21 d_Clock (i := k8) (by first | omega | assumption)
      obtain rfl := eR25
      have eC25 : Cells w14 eb25 (eo25 + k8 * 1) [.int .i64 ((p_s.getD k8 d_Clock).Off)] := eC25
      refine SeqR.d1 rfl rfl rfl (yl_indexAddrN Try.un34 Try.ty33 rfl rfl rfl eA25 (by first | omega | assumption | (simp only [IntKind.wrap_i64] at *; omega)) ?_)
      refine SeqR.d1 rfl rfl rfl (yl_loadN (cs := [.int .i64 ((p_s.getD k8 d_Clock).Off)]) Try.ty33 rfl rfl eC25 rfl ?_)
      refine SeqR.d1 rfl rfl rfl (yl_callv hen5 rfl rfl (opvs_cons rfl opvs_nil) (Cal.mono (hfn6 w14 (p_s.getD k8 d_Clock) hf22) ?_))
      rintro v27 w26 ⟨rfl, hE28⟩
      have hE28z := Ex.size hE28
      refine SeqR.done ?_
      refine tn ?_
      refine bcase (p_f (p_s.getD k8 d_Clock)) (fun hb29 => ?_) (fun hb29 => ?_)
      · skip
        refine CW.cond_t rfl hb29 ?_
        refine CW.seq ?_
        refine CW.region ?_
        refine SeqR.d1 rfl rfl rfl (yl_move rfl rfl ?_)
        refine SeqR.d1 rfl rfl rfl (yl_assign rfl rfl ?_)
        refine SeqR.done ?_
        refine tn ?_
        refine CW.ret ?_
        refine br ?_
        refine tr ?_
        refine tr ?_
        have hB31 : B_g_slices_IndexFunc_Clock_0 p_s p_f k8 () = .ret (k8 : Int) := by simp only [B_g_slices_IndexFunc_Clock_0, hb29, cond_true, cond_false, loopE_done, loopE_ret]
        have hL30 : loopM (B_g_slices_IndexFunc_Clock_0 p_s p_f) (p_s.length - 0) 0 () = .ret (k8 : Int) := hI16.symm.trans (loopM.ret hlt24 hB31)
        refine br ?_
        refine tr ?_
        refine rr rfl (.cons rfl .nil) ?_
        have hM32 : (g_slices_IndexFunc_Clock p_s p_f) = ((k8 : Int)) := by simp only [g_slices_IndexFunc_Clock, hb29, hL30, cond_true, cond_false, loopE_done, loopE_ret]
        rw [hM32]
        have q33 := Ex.trans hf22 hE28
        exact ⟨rfl, q33⟩
      · skip
        refine CW.cond_f rfl hb29 ?_
        refine CW.skip ?_
        refine bn ?_
        refine tn ?_
        refine CW.region ?_
        refine SeqR.d1 rfl rfl rfl (yl_inc rfl rfl rfl (by omega) ?_)
        refine SeqR.d1 rfl rfl rfl (yl_move rfl rfl ?_)
        refine SeqR.done ?_
        refine tn ?_
        have hB34 : B_g_slices_IndexFunc_Clock_0 p_s p_f k8 () = .cont () := by simp only [B_g_slices_IndexFunc_Clock_0, hb29, cond_true, cond_false, loopE_done, loopE_ret]
        have q35 := RdS.ex good_Clock hf21 hE28
        have q36 := Ex.trans hf22 hE28
        exact ⟨p_s.length - (k8 + 1), by omega, k8 + 1, rfl, hlt24, rfl, rfl, rfl, rfl, q35, q36, (loopM.cont hlt24 hB34).symm.trans hI16⟩
    · skip
      refine CW.seq ?_
      refine CW.region ?_
      refine SeqR.d1 rfl rfl rfl (yl_lss rfl rfl rfl ?_)
      refine SeqR.done ?_
      refine tn ?_
      refine CW.seq ?_
      refine CW.cond_f rfl (lt_f hlt24) ?_
      refine CW.exit ?_
      refine tx ?_
      refine tx ?_
      have hL37 : loopM (B_g_slices_IndexFunc_Clock_0 p_s p_f) (p_s.length - 0) 0 () = .done () := hI16.symm.trans (loopM.stop hlt24)
      refine bx ?_
      refine tn ?_
      refine CW.seq ?_
      refine CW.region ?_
      refine SeqR.d1 rfl rfl rfl (yl_assign rfl rfl ?_)
      refine SeqR.done ?_
      refine tn ?_
      refine CW.ret ?_
      refine rr rfl (.cons rfl .nil) ?_
      have hM38 : (g_slices_IndexFunc_Clock p_s p_f) = (-1) := by simp only [g_slices_IndexFunc_Clock, hL37, cond_true, cond_false, loopE_done, loopE_ret]
      rw [hM38]
      exact ⟨rfl, hf22⟩
set_option maxRecDepth 100000 in
set_option maxHeartbeats 2000000 in
theorem c_g_slices_ContainsFunc_Clock {A1 : Option Addr} {c1 : Nat} {g3 : Nat} {cp4 : List Value} {w : World} (p_s : List DClock) (p_f : DClock → Bool) (h1 : RdS w (Iv 0 w.heap.size) (RF e_Clock) 1 A1 p_s.length c1 p_s) (hen5 : Enters Try.prog g3) (hfn6 : ∀ (w1 : World) (y0 : DClock), Ex w w1 → Cal Try.prog g3 (([.agg #[.int .i64 (y0.Off)]] : List Value) ++ cp4).toArray w1 fun v w2 => v = .bool (p_f y0) ∧ Ex w1 w2) (o2 : (okL okT) p_s) : Cal Try.prog 72 #[.slice A1 p_s.length c1, .func (.func g3) #[] cp4.toArray] w fun v w' => v = .bool ((g_slices_ContainsFunc_Clock p_s p_f)) ∧ Ex w w' := by
  have hol7 := o2.1
  refine Cal.of (vs := [.slice A1 p_s.length c1, .func (.func g3) #[] cp4.toArray]) Try.func72 rfl Try.ntmps72 rfl ?_
  refine CW.seq ?_
  refine CW.region ?_
  refine SeqR.d1 rfl rfl rfl (yl_assign rfl rfl ?_)
  refine SeqR.done ?_
  refine tn ?_
  refine CW.seq ?_
  refine CW.region ?_
  refine SeqR.d1 rfl rfl rfl (yl_move rfl rfl ?_)
  refine SeqR.d1 rfl rfl rfl (yl_move rfl rfl ?_)
  refine SeqR.d1 rfl rfl rfl (yl_call Try.en104 rfl (opvs_cons rfl (opvs_cons rfl opvs_nil)) (Cal.mono (c_g_slices_IndexFunc_Clock p_s p_f (RdS.up h1 good_Clock) hen5 (fun w1 y0 => fun hE => hfn6 w1 y0 (Ex.trans (Ex.refl w) hE)) o2) ?_))
  rintro v9 w8 ⟨rfl, hE10⟩
  have hE10z := Ex.size hE10
  refine SeqR.d1 rfl rfl rfl (yl_geq rfl rfl rfl ?_)
  refine SeqR.d1 rfl rfl rfl (yl_assign rfl rfl ?_)
  refine SeqR.done ?_
  refine tn ?_
  refine CW.ret ?_
  refine rr rfl (.cons rfl .nil) ?_
  have hM11 : (g_slices_ContainsFunc_Clock p_s p_f) = (decide (0 ≤ (g_slices_IndexFunc_Clock p_s p_f))) := by simp only [g_slices_ContainsFunc_Clock, cond_true, cond_false, loopE_done, loopE_ret]
  rw [hM11]
  have q12 := Ex.trans (Ex.refl w) hE10
  exact ⟨rfl, q12⟩
set_option maxRecDepth 100000 in
set_option maxHeartbeats 2000000 in
theorem c_i_GoodRenew_c1 {w : World} (p_c : DClock) : Cal Try.prog 73 #[.agg #[.int .i64 (p_c.Off)]] w fun v w' => v = .bool ((i_GoodRenew_c1 p_c)) ∧ Ex w w' := by
  refine Cal.of (vs := [.agg #[.int .i64 (p_c.Off)]]) Try.func73 rfl Try.ntmps73 rfl ?_
  refine CW.seq ?_
  refine CW.region ?_
  refine SeqR.d1 rfl rfl rfl (yl_box (cs := [.int .i64 (p_c.Off)]) rfl rfl rfl ?_)
  intro b1 w2 hs3 hz4 hB5 hE6
  refine SeqR.d1 rfl rfl rfl (yl_assign rfl rfl ?_)
  refine SeqR.done ?_
  refine tn ?_
  refine CW.seq ?_
  refine CW.region ?_
  refine SeqR.d1 rfl rfl rfl (yl_loadN (cs := [.int .i64 (p_c.Off)]) Try.ty33 rfl rfl (hB5.cells (n := 1) rfl) rfl ?_)
  refine SeqR.d1 rfl rfl rfl (yl_call Try.en71 rfl (opvs_cons rfl opvs_nil) (Cal.mono (c_i_GoodClock p_c) ?_))
  rintro v8 w7 ⟨rfl, hE9⟩
  have hE9z := Ex.size hE9
  refine SeqR.d1 rfl rfl rfl (yl_not rfl rfl ?_)
  refine SeqR.d1 rfl rfl rfl (yl_assign rfl rfl ?_)
  refine SeqR.done ?_
  refine tn ?_
  refine CW.ret ?_
  refine rr rfl (.cons rfl .nil) ?_
  have hM10 : (i_GoodRenew_c1 p_c) = (!(i_GoodClock p_c)) := by simp only [i_GoodRenew_c1, cond_true, cond_false, loopE_done, loopE_ret]
  rw [hM10]
  have q11 := Ex.trans (Ex.refl w) hE6
  have q12 := Ex.trans q11 hE9
  exact ⟨rfl, q12⟩
set_option maxRecDepth 100000 in
set_option maxHeartbeats 2000000 in
theorem c_g_slices_IndexFunc_VLease {A1 : Option Addr} {c1 : Nat} {g3 : Nat} {cp4 : List Value} {w : World} (p_s : List DVLease) (p_f : DVLease → Bool) (h1 : RdS w (Iv 0 w.heap.size) (RF e_VLease) 2 A1 p_s.length c1 p_s) (hen5 : Enters Try.prog g3) (hfn6 : ∀ (w1 : World) (y0 : DVLease), Ex w w1 → Cal Try.prog g3 (([.agg #[.int .i64 (y0.Ver), .int .i64 (y0.Until)]] : List Value) ++ cp4).toArray w1 fun v w2 => v = .bool (p_f y0) ∧ Ex w1 w2) (o2 : (okL okT) p_s) : Cal Try.prog 105 #[.slice A1 p_s.length c1, .func (.func g3) #[] cp4.toArray] w fun v w' => v = .int .i64 ((g_slices_IndexFunc_VLease p_s p_f)) ∧ Ex w w' := by
  have hol7 := o2.1
  refine Cal.of (vs := [.slice A1 p_s.length c1, .func (.func g3) #[] cp4.toArray]) Try.func105 rfl Try.ntmps105 rfl ?_
  refine CW.seq ?_
  refine CW.region ?_
  refine SeqR.d1 rfl rfl rfl (yl_assign rfl rfl ?_)
  refine SeqR.done ?_
  refine tn ?_
  refine CW.seq ?_
  refine CW.seq ?_
  refine CW.region ?_
  refine SeqR.d1 rfl rfl rfl (yl_move rfl rfl ?_)
  refine SeqR.d1 rfl rfl rfl (yl_len Try.un35 rfl rfl ?_)
  refine SeqR.d1 rfl rfl rfl (yl_move rfl rfl ?_)
  refine SeqR.done ?_
  refine tn ?_
  refine CW.block ?_
  refine CW.loop (fun m9 L10 w11 => ∃ (k8 : Nat), m9 = p_s.length - k8 ∧ k8 ≤ p_s.length ∧ lkp L10 0 = some (.slice A1 p_s.length c1) ∧ lkp L10 1 = some (.func (.func g3) #[] cp4.toArray) ∧ lkp L10 7 = some (.int .i64 ((p_s.length : Int))) ∧ lkp L10 8 = some (.int .i64 ((k8 : Int))) ∧ RdS w11 (Iv 0 w.heap.size) (RF e_VLease) 2 A1 p_s.length c1 p_s ∧ Ex w w11 ∧ loopM (B_g_slices_IndexFunc_VLease_0 p_s p_f) (p_s.length - k8) k8 () = loopM (B_g_slices_IndexFunc_VLease_0 p_s p_f) (p_s.length - 0) 0 ()) (p_s.length - 0) ?_ ?_
  · exact ⟨0, rfl, (by omega), rfl, rfl, rfl, rfl, h1, (Ex.refl w), rfl⟩
  · rintro m12 L13 w14 ⟨k8, rfl, hk15, hl17, hl18, hl19, hl20, hf21, hf22, hI16⟩
    refine CW.sub (Sub.cons hl17 (Sub.cons hl18 (Sub.cons hl19 (Sub.cons hl20 (Sub.nil _))))) ?_
    have hf22z := Ex.size hf22
    have hbg23 := RdS.big hf21
    rcases Nat.lt_or_ge k8 p_s.length with hlt24 | hlt24
    · skip
      refine CW.seq ?_
      refine CW.region ?_
      refine SeqR.d1 rfl rfl rfl (yl_lss rfl rfl rfl ?_)
      refine SeqR.done ?_
      refine tn ?_
      refine CW.seq ?_
      refine CW.cond_t rfl (lt_t hlt24) ?_
      refine CW.skip ?_
      refine tn ?_
      refine CW.seq ?_
      refine CW.block ?_
      refine CW.seq ?_
      refine CW.region ?_
      refine SeqR.d1 rfl rfl rfl (yl_move rfl rfl ?_)
      refine SeqR.d1 rfl rfl rfl (yl_assign rfl rfl ?_)
      refine SeqR.done ?_
      refine tn ?_
      refine CW.seq ?_
      refine CW.region ?_
      refine SeqR.d1 rfl rfl rfl (yl_move rfl rfl ?_)
      refine SeqR.d1 rfl rfl rfl (yl_move rfl rfl ?_)
      refine SeqR.d1 rfl rfl rfl (yl_move rfl rfl ?_)
      obtain ⟨eb25, eo25, ec25, eA25, eS25, ebl25, el25, eR25, eC25⟩ := RdS.atD hf21 d_VLease (i := k8) (by first | omega | assumption)
      obtain rfl := eR25
      have eC25 : Cells w14 eb25 (eo25 + k8 * 2) [.int .i64 ((p_s.getD k8 d_VLease).Ver), .int .i64 ((p_s.getD k8 d_VLease).Until)] := eC25
      refine SeqR.d1 rfl rfl rfl (yl_indexAddrN Try.un35 Try.ty103 rfl rfl rfl eA25 (by first | omega | assumption | (simp only [IntKind.wrap_i64] at *; omega)) ?_)
      refine SeqR.d1 rfl rfl rfl (yl_loadN (cs := [.int .i64 ((p_s.getD k8 d_VLease).Ver), .int .i64 ((p_s.getD k8 d_VLease).Until)]) Try.ty103 rfl rfl eC25 rfl ?_)
      refine SeqR.d1 rfl rfl rfl (yl_callv hen5 rfl rfl (opvs_cons rfl opvs_nil) (Cal.mono (hfn6 w14 (p_s.getD k8 d_VLease) hf22) ?_))
      rintro v27 w26 ⟨rfl, hE28⟩
      have hE28z := Ex.size hE28
      refine SeqR.done ?_
      refine tn ?_
      refine bcase (p_f (p_s.getD k8 d_VLease)) (fun hb29 => ?_) (fun hb29 => ?_)
      · skip
        refine CW.cond_t rfl hb29 ?_
        refine CW.seq ?_
        refine CW.region ?_
        refine SeqR.d1 rfl rfl rfl (yl_move rfl rfl ?_)
        refine SeqR.d1 rfl rfl rfl (yl_assign rfl rfl ?_)
        refine SeqR.done ?_
        refine tn ?_
        refine CW.ret ?_
        refine br ?_
        refine tr ?_
        refine tr ?_
        have hB31 : B_g_slices_IndexFunc_VLease_0 p_s p_f k8 () = .ret (k8 : Int) := by simp only [B_g_slices_IndexFunc_VLease_0, hb29, cond_true, cond_false, loopE_done, loopE_ret]
        have hL30 : loopM (B_g_slices_IndexFunc_VLease_0 p_s p_f) (p_s.length - 0) 0 () = .ret (k8 : Int) := hI16.symm.trans (loopM.ret hlt24 hB31)
        refine br ?_
        refine tr ?_
        refine rr rfl (.cons rfl .nil) ?_
        have hM32 : (g_slices_IndexFunc_VLease p_s p_f) = ((k8 : Int)) := by simp only [g_slices_IndexFunc_VLease, hb29, hL30, cond_true, cond_false, loopE_done, loopE_ret]
        rw [hM32]
        have q33 := Ex.trans hf22 hE28
        exact ⟨rfl, q33⟩
      · skip
        refine CW.cond_f rfl hb29 ?_
        refine CW.skip ?_
        refine bn ?_
        refine tn ?_
        refine CW.region ?_
        refine SeqR.d1 rfl rfl rfl (yl_inc rfl rfl rfl (by omega) ?_)
        refine SeqR.d1 rfl rfl rfl (yl_move rfl rfl ?_)
        refine SeqR.done ?_
        refine tn ?_
        have hB34 : B_g_slices_IndexFunc_VLease_0 p_s p_f k8 () = .cont () := by simp only [B_g_slices_IndexFunc_VLease_0, hb29, cond_true, cond_false, loopE_done, loopE_ret]
        have q35 := RdS.ex good_VLease hf21 hE28
        have q36 := Ex.trans hf22 hE28
        exact ⟨p_s.length - (k8 + 1), by omega, k8 + 1, rfl, hlt24, rfl, rfl, rfl, rfl, q35, q36, (loopM.cont hlt24 hB34).symm.trans hI16⟩
    · skip
      refine CW.seq ?_
      refine CW.region ?_
      refine SeqR.d1 rfl rfl rfl (yl_lss rfl rfl rfl ?_)
      refine SeqR.done ?_
      refine tn ?_
      refine CW.seq ?_
      refine CW.cond_f rfl (lt_f hlt24) ?_
      refine CW.exit ?_
      refine tx ?_
      refine tx ?_
      have hL37 : loopM (B_g_slices_IndexFunc_VLease_0 p_s p_f) (p_s.length - 0) 0 () = .done () := hI16.symm.trans (loopM.stop hlt24)
      refine bx ?_
      refine tn ?_
      refine CW.seq ?_
      refine CW.region ?_
      refine SeqR.d1 rfl rfl rfl (yl_assign rfl rfl ?_)
      refine SeqR.done ?_
      refine tn ?_
      refine CW.ret ?_
      refine rr rfl (.cons rfl .nil) ?_
      have hM38 : (g_slices_IndexFunc_VLease p_s p_f) = (-1) := by simp only [g_slices_IndexFunc_VLease, hL37, cond_true, cond_false, loopE_done, loopE_ret]
      rw [hM38]
      exact ⟨rfl, hf22⟩
set_option maxRecDepth 100000 in
set_option maxHeartbeats 2000000 in
theorem c_g_slices_ContainsFunc_VLease {A1 : Option Addr} {c1 : Nat} {g3 : Nat} {cp4 : List Value} {w : World} (p_s : List DVLease) (p_f : DVLease → Bool) (h1 : RdS w (Iv 0 w.heap.size) (RF e_VLease) 2 A1 p_s.length c1 p_s) (hen5 : Enters Try.prog g3) (hfn6 : ∀ (w1 : World) (y0 : DVLease), Ex w w1 → Cal Try.prog g3 (([.agg #[.int .i64 (y0.Ver), .int .i64 (y0.Until)]] : List Value) ++ cp4).toArray w1 fun v w2 => v = .bool (p_f y0) ∧ Ex w1 w2) (o2 : (okL okT) p_s) : Cal Try.prog 74 #[.slice A1 p_s.length c1, .func (.func g3) #[] cp4.toArray] w fun v w' => v = .bool ((g_slices_ContainsFunc_VLease p_s p_f)) ∧ Ex w w' := by
  have hol7 := o2.1
  refine Cal.of (vs := [.slice A1 p_s.length c1, .func (.func g3) #[] cp4.toArray]) Try.func74 rfl Try.ntmps74 rfl ?_
  refine CW.seq ?_
  refine CW.region ?_
  refine SeqR.d1 rfl rfl rfl (yl_assign rfl rfl ?_)
  refine SeqR.done ?_
  refine tn ?_
  refine CW.seq ?_
  refine CW.region ?_
  refine SeqR.d1 rfl rfl rfl (yl_move rfl rfl ?_)
  refine SeqR.d1 rfl rfl rfl (yl_move rfl rfl ?_)
  refine SeqR.d1 rfl rfl rfl (yl_call Try.en105 rfl (opvs_cons rfl (opvs_cons rfl opvs_nil)) (Cal.mono (c_g_slices_IndexFunc_VLease p_s p_f (RdS.up h1 good_VLease) hen5 (fun w1 y0 => fun hE => hfn6 w1 y0 (Ex.trans (Ex.refl w) hE)) o2) ?_))
  rintro v9 w8 ⟨rfl, hE10⟩
  have hE10z := Ex.size hE10
  refine SeqR.d1 rfl rfl rfl (yl_geq rfl rfl rfl ?_)
  refine SeqR.d1 rfl rfl rfl (yl_assign rfl rfl ?_)
  refine SeqR.done ?_
  refine tn ?_
  refine CW.ret ?_
  refine rr rfl (.cons rfl .nil) ?_
  have hM11 : (g_slices_ContainsFunc_VLease p_s p_f) = (decide (0 ≤ (g_slices_IndexFunc_VLease p_s p_f))) := by simp only [g_slices_ContainsFunc_VLease, cond_true, cond_false, loopE_done, loopE_ret]
  rw [hM11]
  have q12 := Ex.trans (Ex.refl w) hE10
  exact ⟨rfl, q12⟩
set_option maxRecDepth 100000 in
set_option maxHeartbeats 2000000 in
theorem c_i_GoodRenew_c2 {A1 : Option Addr} {c1 : Nat} {A2 : Option Addr} {c2 : Nat} {b3 : Nat} {w : World} (p_l : DVLease) (p_cap0 : DRenew) (h1 : RdS w (Iv 0 w.heap.size) (RF e_Clock) 1 A1 p_cap0.Clocks.length c1 p_cap0.Clocks) (h2 : RdS w (Iv 0 w.heap.size) (RF e_VLease) 2 A2 p_cap0.Leases.length c2 p_cap0.Leases) (h4 : Box w b3 37 [.int .i64 (p_cap0.Now), .int .i64 (p_cap0.Master.Off), .slice A1 p_cap0.Clocks.length c1, .int .i64 (p_cap0.Ver), .slice A2 p_cap0.Leases.length c2]) (o5 : ok_Renew p_cap0) : Cal Try.prog 75 #[.agg #[.int .i64 (p_l.Ver), .int .i64 (p_l.Until)], .pointer (some ⟨b3, 0, none⟩)] w fun v w' => v = .bool ((i_GoodRenew_c2 p_l p_cap0)) ∧ Ex w w' := by
  have hol6 := o5.1.1
  have hol7 := o5.2.1
  refine Cal.of (vs := [.agg #[.int .i64 (p_l.Ver), .int .i64 (p_l.Until)], .pointer (some ⟨b3, 0, none⟩)]) Try.func75 rfl Try.ntmps75 rfl ?_
  refine CW.seq ?_
  refine CW.region ?_
  refine SeqR.d1 rfl rfl rfl (yl_box (cs := [.int .i64 (p_l.Ver), .int .i64 (p_l.Until)]) rfl rfl rfl ?_)
  intro b8 w9 hs10 hz11 hB12 hE13
  refine SeqR.d1 rfl rfl rfl (yl_assign rfl rfl ?_)
  refine SeqR.done ?_
  refine tn ?_
  refine CW.seq ?_
  refine CW.region ?_
  refine SeqR.d1 rfl rfl rfl (yl_fieldAddr Try.fd103_0 rfl rfl ?_)
  refine SeqR.d1 rfl rfl rfl (yl_load1 Try.ty3 rfl rfl ((hB12.cell 0).trans rfl) ?_)
  refine SeqR.d1 rfl rfl rfl (yl_fieldAddr Try.fd37_3 rfl rfl ?_)
  have q14 := Box.ex h4 hE13
  refine SeqR.d1 rfl rfl rfl (yl_load1 Try.ty3 rfl rfl ((q14.cell 3).trans rfl) ?_)
  refine SeqR.d1 rfl rfl rfl (yl_call Try.en56 rfl (opvs_cons rfl (opvs_cons rfl (opvs_cons rfl opvs_nil))) (Cal.mono (c_i_within p_l.Ver 0 p_cap0.Ver) ?_))
  rintro v16 w15 ⟨rfl, hE17⟩
  have hE17z := Ex.size hE17
  refine SeqR.d1 rfl rfl rfl (yl_not rfl rfl ?_)
  refine SeqR.d1 rfl rfl rfl (yl_move rfl rfl ?_)
  refine bcase (i_within p_l.Ver 0 p_cap0.Ver) (fun hb18 => ?_) (fun hb18 => ?_)
  · have hb18p := f_within hb18
    refine SeqR.y rfl rfl rfl rfl rfl (not_t hb18) (yl_fieldAddr Try.fd103_1 rfl rfl ?_)
    have q19 := Box.ex hB12 hE17
    refine SeqR.y rfl rfl rfl rfl rfl (not_t hb18) (yl_load1 Try.ty3 rfl rfl ((q19.cell 1).trans rfl) ?_)
    refine SeqR.y rfl rfl rfl rfl rfl (not_t hb18) (yl_call Try.en56 rfl (opvs_cons rfl (opvs_cons rfl (opvs_cons rfl opvs_nil))) (Cal.mono (c_i_within p_l.Until 0 1020) ?_))
    rintro v21 w20 ⟨rfl, hE22⟩
    have hE22z := Ex.size hE22
    refine SeqR.y rfl rfl rfl rfl rfl (not_t hb18) (yl_not rfl rfl ?_)
    refine SeqR.d1 rfl rfl rfl (yl_pick_f rfl rfl (not_t hb18) rfl ?_)
    refine SeqR.d1 rfl rfl rfl (yl_assign rfl rfl ?_)
    refine SeqR.done ?_
    refine tn ?_
    refine CW.ret ?_
    refine rr rfl (.cons rfl .nil) ?_
    have hM23 : (i_GoodRenew_c2 p_l p_cap0) = (!(i_within p_l.Until 0 1020)) := by simp only [i_GoodRenew_c2, hb18, cond_true, cond_false, loopE_done, loopE_ret]
    rw [hM23]
    have q24 := Ex.trans (Ex.refl w) hE13
    have q25 := Ex.trans q24 hE17
    have q26 := Ex.trans q25 hE22
    exact ⟨rfl, q26⟩
  · skip
    refine SeqR.z rfl rfl rfl rfl rfl (not_f hb18) ?_
    refine SeqR.z rfl rfl rfl rfl rfl (not_f hb18) ?_
    refine SeqR.z rfl rfl rfl rfl rfl (not_f hb18) ?_
    refine SeqR.z rfl rfl rfl rfl rfl (not_f hb18) ?_
    refine SeqR.d1 rfl rfl rfl (yl_pick_t rfl rfl (not_f hb18) rfl ?_)
    refine SeqR.d1 rfl rfl rfl (yl_assign rfl rfl ?_)
    refine SeqR.done ?_
    refine tn ?_
    refine CW.ret ?_
    refine rr rfl (.cons rfl .nil) ?_
    have hM27 : (i_GoodRenew_c2 p_l p_cap0) = (true) := by simp only [i_GoodRenew_c2, hb18, cond_true, cond_false, loopE_done, loopE_ret]
    rw [hM27]
    have q28 := Ex.trans (Ex.refl w) hE13
    have q29 := Ex.trans q28 hE17
    exact ⟨rfl, q29⟩
set_option maxRecDepth 100000 in
set_option maxHeartbeats 2000000 in
theorem c_i_GoodRenew {A1 : Option Addr} {c1 : Nat} {A2 : Option Addr} {c2 : Nat} {w : World} (p_r : DRenew) (h1 : RdS w (Iv 0 w.heap.size) (RF e_Clock) 1 A1 p_r.Clocks.length c1 p_r.Clocks) (h2 : RdS w (Iv 0 w.heap.size) (RF e_VLease) 2 A2 p_r.Leases.length c2 p_r.Leases) (o3 : ok_Renew p_r) : Cal Try.prog 27 #[.agg #[.int .i64 (p_r.Now), .int .i64 (p_r.Master.Off), .slice A1 p_r.Clocks.length c1, .int .i64 (p_r.Ver), .slice A2 p_r.Leases.length c2]] w fun v w' => v = .bool ((i_GoodRenew p_r)) ∧ Ex w w' := by
  have hol4 := o3.1.1
  have hol5 := o3.2.1
  refine Cal.of (vs := [.agg #[.int .i64 (p_r.Now), .int .i64 (p_r.Master.Off), .slice A1 p_r.Clocks.length c1, .int .i64 (p_r.Ver), .slice A2 p_r.Leases.length c2]]) Try.func27 rfl Try.ntmps27 rfl ?_
  refine CW.seq ?_
  refine CW.region ?_
  refine SeqR.d1 rfl rfl rfl (yl_box (cs := [.int .i64 (p_r.Now), .int .i64 (p_r.Master.Off), .slice A1 p_r.Clocks.length c1, .int .i64 (p_r.Ver), .slice A2 p_r.Leases.length c2]) rfl rfl rfl ?_)
  intro b6 w7 hs8 hz9 hB10 hE11
  refine SeqR.d1 rfl rfl rfl (yl_assign rfl rfl ?_)
  refine SeqR.done ?_
  refine tn ?_
  refine CW.seq ?_
  refine CW.region ?_
  refine SeqR.d1 rfl rfl rfl (yl_fieldAddr Try.fd37_0 rfl rfl ?_)
  refine SeqR.d1 rfl rfl rfl (yl_load1 Try.ty3 rfl rfl ((hB10.cell 0).trans rfl) ?_)
  refine SeqR.d1 rfl rfl rfl (yl_call Try.en56 rfl (opvs_cons rfl (opvs_cons rfl (opvs_cons rfl opvs_nil))) (Cal.mono (c_i_within p_r.Now 0 1000) ?_))
  rintro v13 w12 ⟨rfl, hE14⟩
  have hE14z := Ex.size hE14
  refine SeqR.d1 rfl rfl rfl (yl_move rfl rfl ?_)
  refine bcase (i_within p_r.Now 0 1000) (fun hb15 => ?_) (fun hb15 => ?_)
  · have hb15p := f_within hb15
    refine SeqR.y rfl rfl rfl rfl rfl hb15 (yl_fieldAddr Try.fd37_1 rfl rfl ?_)
    have q16 := Box.ex hB10 hE14
    refine SeqR.y rfl rfl rfl rfl rfl hb15 (yl_loadN (cs := [.int .i64 (p_r.Master.Off)]) Try.ty33 rfl rfl (q16.cells (n := 1) rfl) rfl ?_)
    refine SeqR.y rfl rfl rfl rfl rfl hb15 (yl_call Try.en71 rfl (opvs_cons rfl opvs_nil) (Cal.mono (c_i_GoodClock p_r.Master) ?_))
    rintro v18 w17 ⟨rfl, hE19⟩
    have hE19z := Ex.size hE19
    refine SeqR.d1 rfl rfl rfl (yl_pick_t rfl rfl hb15 rfl ?_)
    refine SeqR.d1 rfl rfl rfl (yl_move rfl rfl ?_)
    refine bcase (i_GoodClock p_r.Master) (fun hb20 => ?_) (fun hb20 => ?_)
    · skip
      refine SeqR.y rfl rfl rfl rfl rfl hb20 (yl_fieldAddr Try.fd37_2 rfl rfl ?_)
      have q21 := Box.ex q16 hE19
      refine SeqR.y rfl rfl rfl rfl rfl hb20 (yl_load1 Try.ty34 rfl rfl ((q21.cell 2).trans rfl) ?_)
      refine SeqR.y rfl rfl rfl rfl rfl hb20 (yl_len Try.un34 rfl rfl ?_)
      refine SeqR.y rfl rfl rfl rfl rfl hb20 (yl_call Try.en56 rfl (opvs_cons rfl (opvs_cons rfl (opvs_cons rfl opvs_nil))) (Cal.mono (c_i_within (p_r.Clocks.length : Int) 1 3) ?_))
      rintro v23 w22 ⟨rfl, hE24⟩
      have hE24z := Ex.size hE24
      refine SeqR.d1 rfl rfl rfl (yl_pick_t rfl rfl hb20 rfl ?_)
      refine SeqR.d1 rfl rfl rfl (yl_move rfl rfl ?_)
      refine bcase (i_within (p_r.Clocks.length : Int) 1 3) (fun hb25 => ?_) (fun hb25 => ?_)
      · have hb25p := f_within hb25
        refine SeqR.y rfl rfl rfl rfl rfl hb25 (yl_fieldAddr Try.fd37_3 rfl rfl ?_)
        have q26 := Box.ex q21 hE24
        refine SeqR.y rfl rfl rfl rfl rfl hb25 (yl_load1 Try.ty3 rfl rfl ((q26.cell 3).trans rfl) ?_)
        refine SeqR.y rfl rfl rfl rfl rfl hb25 (yl_call Try.en56 rfl (opvs_cons rfl (opvs_cons rfl (opvs_cons rfl opvs_nil))) (Cal.mono (c_i_within p_r.Ver 0 20) ?_))
        rintro v28 w27 ⟨rfl, hE29⟩
        have hE29z := Ex.size hE29
        refine SeqR.d1 rfl rfl rfl (yl_pick_t rfl rfl hb25 rfl ?_)
        refine SeqR.d1 rfl rfl rfl (yl_move rfl rfl ?_)
        refine bcase (i_within p_r.Ver 0 20) (fun hb30 => ?_) (fun hb30 => ?_)
        · have hb30p := f_within hb30
          refine SeqR.y rfl rfl rfl rfl rfl hb30 (yl_fieldAddr Try.fd37_4 rfl rfl ?_)
          have q31 := Box.ex q26 hE29
          refine SeqR.y rfl rfl rfl rfl rfl hb30 (yl_load1 Try.ty35 rfl rfl ((q31.cell 4).trans rfl) ?_)
          refine SeqR.y rfl rfl rfl rfl rfl hb30 (yl_len Try.un35 rfl rfl ?_)
          refine SeqR.y rfl rfl rfl rfl rfl hb30 (yl_fieldAddr Try.fd37_2 rfl rfl ?_)
          refine SeqR.y rfl rfl rfl rfl rfl hb30 (yl_load1 Try.ty34 rfl rfl ((q31.cell 2).trans rfl) ?_)
          refine SeqR.y rfl rfl rfl rfl rfl hb30 (yl_len Try.un34 rfl rfl ?_)
          refine SeqR.y rfl rfl rfl rfl rfl hb30 (yl_eql rfl rfl rfl ?_)
          refine SeqR.d1 rfl rfl rfl (yl_pick_t rfl rfl hb30 rfl ?_)
          refine SeqR.d1 rfl rfl rfl (yl_move rfl rfl ?_)
          refine bcase (decide ((p_r.Leases.length : Int) = (p_r.Clocks.length : Int))) (fun hb32 => ?_) (fun hb32 => ?_)
          · have hb32p := dec_t hb32
            refine SeqR.y rfl rfl rfl rfl rfl hb32 (yl_fieldAddr Try.fd37_2 rfl rfl ?_)
            refine SeqR.y rfl rfl rfl rfl rfl hb32 (yl_load1 Try.ty34 rfl rfl ((q31.cell 2).trans rfl) ?_)
            have q33 := RdS.ex good_Clock h1 hE11
            have q34 := RdS.ex good_Clock q33 hE14
            have q35 := RdS.ex good_Clock q34 hE19
            have q36 := RdS.ex good_Clock q35 hE24
            have q37 := RdS.ex good_Clock q36 hE29
            refine SeqR.y rfl rfl rfl rfl rfl hb32 (yl_call Try.en72 rfl (opvs_cons rfl (opvs_cons rfl opvs_nil)) (Cal.mono (c_g_slices_ContainsFunc_Clock p_r.Clocks (fun y0 => i_GoodRenew_c1 y0) (RdS.up q37 good_Clock) Try.en73 (fun _ y0 => fun hE  => c_i_GoodRenew_c1 y0) o3.1) ?_))
            rintro v39 w38 ⟨rfl, hE40⟩
            have hE40z := Ex.size hE40
            refine SeqR.y rfl rfl rfl rfl rfl hb32 (yl_not rfl rfl ?_)
            refine SeqR.d1 rfl rfl rfl (yl_pick_t rfl rfl hb32 rfl ?_)
            refine SeqR.d1 rfl rfl rfl (yl_move rfl rfl ?_)
            refine bcase (g_slices_ContainsFunc_Clock p_r.Clocks (fun y0 => i_GoodRenew_c1 y0)) (fun hb41 => ?_) (fun hb41 => ?_)
            · skip
              refine SeqR.z rfl rfl rfl rfl rfl (not_t hb41) ?_
              refine SeqR.z rfl rfl rfl rfl rfl (not_t hb41) ?_
              refine SeqR.z rfl rfl rfl rfl rfl (not_t hb41) ?_
              refine SeqR.z rfl rfl rfl rfl rfl (not_t hb41) ?_
              refine SeqR.z rfl rfl rfl rfl rfl (not_t hb41) ?_
              refine SeqR.d1 rfl rfl rfl (yl_pick_f rfl rfl (not_t hb41) rfl ?_)
              refine SeqR.d1 rfl rfl rfl (yl_assign rfl rfl ?_)
              refine SeqR.done ?_
              refine tn ?_
              refine CW.ret ?_
              refine rr rfl (.cons rfl .nil) ?_
              have hM42 : (i_GoodRenew p_r) = (false) := by simp only [i_GoodRenew, hb15, hb20, hb25, hb30, hb32, hb41, cond_true, cond_false, loopE_done, loopE_ret]
              rw [hM42]
              have q43 := Ex.trans (Ex.refl w) hE11
              have q44 := Ex.trans q43 hE14
              have q45 := Ex.trans q44 hE19
              have q46 := Ex.trans q45 hE24
              have q47 := Ex.trans q46 hE29
              have q48 := Ex.trans q47 hE40
              exact ⟨rfl, q48⟩
            · skip
              refine SeqR.y rfl rfl rfl rfl rfl (not_f hb41) (yl_fieldAddr Try.fd37_4 rfl rfl ?_)
              have q49 := Box.ex q31 hE40
              refine SeqR.y rfl rfl rfl rfl rfl (not_f hb41) (yl_load1 Try.ty35 rfl rfl ((q49.cell 4).trans rfl) ?_)
              refine SeqR.y rfl rfl rfl rfl rfl (not_f hb41) (yl_makeFunc rfl (opvs_cons rfl opvs_nil) ?_)
              have q50 := RdS.ex good_VLease h2 hE11
              have q51 := RdS.ex good_VLease q50 hE14
              have q52 := RdS.ex good_VLease q51 hE19
              have q53 := RdS.ex good_VLease q52 hE24
              have q54 := RdS.ex good_VLease q53 hE29
              have q55 := RdS.ex good_VLease q54 hE40
              have q56 := RdS.ex good_Clock q37 hE40
              refine SeqR.y rfl rfl rfl rfl rfl (not_f hb41) (yl_call Try.en74 rfl (opvs_cons rfl (opvs_cons rfl opvs_nil)) (Cal.mono (c_g_slices_ContainsFunc_VLease p_r.Leases (fun y0 => i_GoodRenew_c2 y0 p_r) (RdS.up q55 good_VLease) Try.en75 (fun _ y0 => fun hE  => c_i_GoodRenew_c2 y0 p_r (RdS.up (RdS.ex good_Clock q56 hE) good_Clock) (RdS.up (RdS.ex good_VLease q55 hE) good_VLease) (Box.ex q49 hE) o3) o3.2) ?_))
              rintro v58 w57 ⟨rfl, hE59⟩
              have hE59z := Ex.size hE59
              refine SeqR.y rfl rfl rfl rfl rfl (not_f hb41) (yl_not rfl rfl ?_)
              refine SeqR.d1 rfl rfl rfl (yl_pick_t rfl rfl (not_f hb41) rfl ?_)
              refine SeqR.d1 rfl rfl rfl (yl_assign rfl rfl ?_)
              refine SeqR.done ?_
              refine tn ?_
              refine CW.ret ?_
              refine rr rfl (.cons rfl .nil) ?_
              have hM60 : (i_GoodRenew p_r) = (!(g_slices_ContainsFunc_VLease p_r.Leases (fun y0 => i_GoodRenew_c2 y0 p_r))) := by simp only [i_GoodRenew, hb15, hb20, hb25, hb30, hb32, hb41, cond_true, cond_false, loopE_done, loopE_ret]
              rw [hM60]
              have q61 := Ex.trans (Ex.refl w) hE11
              have q62 := Ex.trans q61 hE14
              have q63 := Ex.trans q62 hE19
              have q64 := Ex.trans q63 hE24
              have q65 := Ex.trans q64 hE29
              have q66 := Ex.trans q65 hE40
              have q67 := Ex.trans q66 hE59
              exact ⟨rfl, q67⟩
          · have hb32p := dec_f hb32
            refine SeqR.z rfl rfl rfl rfl rfl hb32 ?_
            refine SeqR.z rfl rfl rfl rfl rfl hb32 ?_
            refine SeqR.z rfl rfl rfl rfl rfl hb32 ?_
            refine SeqR.z rfl rfl rfl rfl rfl hb32 ?_
            refine SeqR.d1 rfl rfl rfl (yl_pick_f rfl rfl hb32 rfl ?_)
            refine SeqR.d1 rfl rfl rfl (yl_move rfl rfl ?_)
            refine SeqR.z rfl rfl rfl rfl rfl rfl ?_
            refine SeqR.z rfl rfl rfl rfl rfl rfl ?_
            refine SeqR.z rfl rfl rfl rfl rfl rfl ?_
            refine SeqR.z rfl rfl rfl rfl rfl rfl ?_
            refine SeqR.z rfl rfl rfl rfl rfl rfl ?_
            refine SeqR.d1 rfl rfl rfl (yl_pick_f rfl rfl rfl rfl ?_)
            refine SeqR.d1 rfl rfl rfl (yl_assign rfl rfl ?_)
            refine SeqR.done ?_
            refine tn ?_
            refine CW.ret ?_
            refine rr rfl (.cons rfl .nil) ?_
            have hM68 : (i_GoodRenew p_r) = (false) := by simp only [i_GoodRenew, hb15, hb20, hb25, hb30, hb32, cond_true, cond_false, loopE_done, loopE_ret]
            rw [hM68]
            have q69 := Ex.trans (Ex.refl w) hE11
            have q70 := Ex.trans q69 hE14
            have q71 := Ex.trans q70 hE19
            have q72 := Ex.trans q71 hE24
            have q73 := Ex.trans q72 hE29
            exact ⟨rfl, q73⟩
        · skip
          refine SeqR.z rfl rfl rfl rfl rfl hb30 ?_
          refine SeqR.z rfl rfl rfl rfl rfl hb30 ?_
          refine SeqR.z rfl rfl rfl rfl rfl hb30 ?_
          refine SeqR.z rfl rfl rfl rfl rfl hb30 ?_
          refine SeqR.z rfl rfl rfl rfl rfl hb30 ?_
          refine SeqR.z rfl rfl rfl rfl rfl hb30 ?_
          refine SeqR.z rfl rfl rfl rfl rfl hb30 ?_
          refine SeqR.d1 rfl rfl rfl (yl_pick_f rfl rfl hb30 rfl ?_)
          refine SeqR.d1 rfl rfl rfl (yl_move rfl rfl ?_)
          refine SeqR.z rfl rfl rfl rfl rfl rfl ?_
          refine SeqR.z rfl rfl rfl rfl rfl rfl ?_
          refine SeqR.z rfl rfl rfl rfl rfl rfl ?_
          refine SeqR.z rfl rfl rfl rfl rfl rfl ?_
          refine SeqR.d1 rfl rfl rfl (yl_pick_f rfl rfl rfl rfl ?_)
          refine SeqR.d1 rfl rfl rfl (yl_move rfl rfl ?_)
          refine SeqR.z rfl rfl rfl rfl rfl rfl ?_
          refine SeqR.z rfl rfl rfl rfl rfl rfl ?_
          refine SeqR.z rfl rfl rfl rfl rfl rfl ?_
          refine SeqR.z rfl rfl rfl rfl rfl rfl ?_
          refine SeqR.z rfl rfl rfl rfl rfl rfl ?_
          refine SeqR.d1 rfl rfl rfl (yl_pick_f rfl rfl rfl rfl ?_)
          refine SeqR.d1 rfl rfl rfl (yl_assign rfl rfl ?_)
          refine SeqR.done ?_
          refine tn ?_
          refine CW.ret ?_
          refine rr rfl (.cons rfl .nil) ?_
          have hM74 : (i_GoodRenew p_r) = (false) := by simp only [i_GoodRenew, hb15, hb20, hb25, hb30, cond_true, cond_false, loopE_done, loopE_ret]
          rw [hM74]
          have q75 := Ex.trans (Ex.refl w) hE11
          have q76 := Ex.trans q75 hE14
          have q77 := Ex.trans q76 hE19
          have q78 := Ex.trans q77 hE24
          have q79 := Ex.trans q78 hE29
          exact ⟨rfl, q79⟩
      · skip
        refine SeqR.z rfl rfl rfl rfl rfl hb25 ?_
        refine SeqR.z rfl rfl rfl rfl rfl hb25 ?_
        refine SeqR.z rfl rfl rfl rfl rfl hb25 ?_
        refine SeqR.d1 rfl rfl rfl (yl_pick_f rfl rfl hb25 rfl ?_)
        refine SeqR.d1 rfl rfl rfl (yl_move rfl rfl ?_)
        refine SeqR.z rfl rfl rfl rfl rfl rfl ?_
        refine SeqR.z rfl rfl rfl rfl rfl rfl ?_
        refine SeqR.z rfl rfl rfl rfl rfl rfl ?_
        refine SeqR.z rfl rfl rfl rfl rfl rfl ?_
        refine SeqR.z rfl rfl rfl rfl rfl rfl ?_
        refine SeqR.z rfl rfl rfl rfl rfl rfl ?_
        refine SeqR.z rfl rfl rfl rfl rfl rfl ?_
        refine SeqR.d1 rfl rfl rfl (yl_pick_f rfl rfl rfl rfl ?_)
        refine SeqR.d1 rfl rfl rfl (yl_move rfl rfl ?_)
        refine SeqR.z rfl rfl rfl rfl rfl rfl ?_
        refine SeqR.z rfl rfl rfl rfl rfl rfl ?_
        refine SeqR.z rfl rfl rfl rfl rfl rfl ?_
        refine SeqR.z rfl rfl rfl rfl rfl rfl ?_
        refine SeqR.d1 rfl rfl rfl (yl_pick_f rfl rfl rfl rfl ?_)
        refine SeqR.d1 rfl rfl rfl (yl_move rfl rfl ?_)
        refine SeqR.z rfl rfl rfl rfl rfl rfl ?_
        refine SeqR.z rfl rfl rfl rfl rfl rfl ?_
        refine SeqR.z rfl rfl rfl rfl rfl rfl ?_
        refine SeqR.z rfl rfl rfl rfl rfl rfl ?_
        refine SeqR.z rfl rfl rfl rfl rfl rfl ?_
        refine SeqR.d1 rfl rfl rfl (yl_pick_f rfl rfl rfl rfl ?_)
        refine SeqR.d1 rfl rfl rfl (yl_assign rfl rfl ?_)
        refine SeqR.done ?_
        refine tn ?_
        refine CW.ret ?_
        refine rr rfl (.cons rfl .nil) ?_
        have hM80 : (i_GoodRenew p_r) = (false) := by simp only [i_GoodRenew, hb15, hb20, hb25, cond_true, cond_false, loopE_done, loopE_ret]
        rw [hM80]
        have q81 := Ex.trans (Ex.refl w) hE11
        have q82 := Ex.trans q81 hE14
        have q83 := Ex.trans q82 hE19
        have q84 := Ex.trans q83 hE24
        exact ⟨rfl, q84⟩
    · skip
      refine SeqR.z rfl rfl rfl rfl rfl hb20 ?_
      refine SeqR.z rfl rfl rfl rfl rfl hb20 ?_
      refine SeqR.z rfl rfl rfl rfl rfl hb20 ?_
      refine SeqR.z rfl rfl rfl rfl rfl hb20 ?_
      refine SeqR.d1 rfl rfl rfl (yl_pick_f rfl rfl hb20 rfl ?_)
      refine SeqR.d1 rfl rfl rfl (yl_move rfl rfl ?_)
      refine SeqR.z rfl rfl rfl rfl rfl rfl ?_
      refine SeqR.z rfl rfl rfl rfl rfl rfl ?_
      refine SeqR.z rfl rfl rfl rfl rfl rfl ?_
      refine SeqR.d1 rfl rfl rfl (yl_pick_f rfl rfl rfl rfl ?_)
      refine SeqR.d1 rfl rfl rfl (yl_move rfl rfl ?_)
      refine SeqR.z rfl rfl rfl rfl rfl rfl ?_
      refine SeqR.z rfl rfl rfl rfl rfl rfl ?_
      refine SeqR.z rfl rfl rfl rfl rfl rfl ?_
      refine SeqR.z rfl rfl rfl rfl rfl rfl ?_
      refine SeqR.z rfl rfl rfl rfl rfl rfl ?_
      refine SeqR.z rfl rfl rfl rfl rfl rfl ?_
      refine SeqR.z rfl rfl rfl rfl rfl rfl ?_
      refine SeqR.d1 rfl rfl rfl (yl_pick_f rfl rfl rfl rfl ?_)
      refine SeqR.d1 rfl rfl rfl (yl_move rfl rfl ?_)
      refine SeqR.z rfl rfl rfl rfl rfl rfl ?_
      refine SeqR.z rfl rfl rfl rfl rfl rfl ?_
      refine SeqR.z rfl rfl rfl rfl rfl rfl ?_
      refine SeqR.z rfl rfl rfl rfl rfl rfl ?_
      refine SeqR.d1 rfl rfl rfl (yl_pick_f rfl rfl rfl rfl ?_)
      refine SeqR.d1 rfl rfl rfl (yl_move rfl rfl ?_)
      refine SeqR.z rfl rfl rfl rfl rfl rfl ?_
      refine SeqR.z rfl rfl rfl rfl rfl rfl ?_
      refine SeqR.z rfl rfl rfl rfl rfl rfl ?_
      refine SeqR.z rfl rfl rfl rfl rfl rfl ?_
      refine SeqR.z rfl rfl rfl rfl rfl rfl ?_
      refine SeqR.d1 rfl rfl rfl (yl_pick_f rfl rfl rfl rfl ?_)
      refine SeqR.d1 rfl rfl rfl (yl_assign rfl rfl ?_)
      refine SeqR.done ?_
      refine tn ?_
      refine CW.ret ?_
      refine rr rfl (.cons rfl .nil) ?_
      have hM85 : (i_GoodRenew p_r) = (false) := by simp only [i_GoodRenew, hb15, hb20, cond_true, cond_false, loopE_done, loopE_ret]
      rw [hM85]
      have q86 := Ex.trans (Ex.refl w) hE11
      have q87 := Ex.trans q86 hE14
      have q88 := Ex.trans q87 hE19
      exact ⟨rfl, q88⟩
  · skip
    refine SeqR.z rfl rfl rfl rfl rfl hb15 ?_
    refine SeqR.z rfl rfl rfl rfl rfl hb15 ?_
    refine SeqR.z rfl rfl rfl rfl rfl hb15 ?_
    refine SeqR.d1 rfl rfl rfl (yl_pick_f rfl rfl hb15 rfl ?_)
    refine SeqR.d1 rfl rfl rfl (yl_move rfl rfl ?_)
    refine SeqR.z rfl rfl rfl rfl rfl rfl ?_
    refine SeqR.z rfl rfl rfl rfl rfl rfl ?_
    refine SeqR.z rfl rfl rfl rfl rfl rfl ?_
    refine SeqR.z rfl rfl rfl rfl rfl rfl ?_
    refine SeqR.d1 rfl rfl rfl (yl_pick_f rfl rfl rfl rfl ?_)
    refine SeqR.d1 rfl rfl rfl (yl_move rfl rfl ?_)
    refine SeqR.z rfl rfl rfl rfl rfl rfl ?_
    refine SeqR.z rfl rfl rfl rfl rfl rfl ?_
    refine SeqR.z rfl rfl rfl rfl rfl rfl ?_
    refine SeqR.d1 rfl rfl rfl (yl_pick_f rfl rfl rfl rfl ?_)
    refine SeqR.d1 rfl rfl rfl (yl_move rfl rfl ?_)
    refine SeqR.z rfl rfl rfl rfl rfl rfl ?_
    refine SeqR.z rfl rfl rfl rfl rfl rfl ?_
    refine SeqR.z rfl rfl rfl rfl rfl rfl ?_
    refine SeqR.z rfl rfl rfl rfl rfl rfl ?_
    refine SeqR.z rfl rfl rfl rfl rfl rfl ?_
    refine SeqR.z rfl rfl rfl rfl rfl rfl ?_
    refine SeqR.z rfl rfl rfl rfl rfl rfl ?_
    refine SeqR.d1 rfl rfl rfl (yl_pick_f rfl rfl rfl rfl ?_)
    refine SeqR.d1 rfl rfl rfl (yl_move rfl rfl ?_)
    refine SeqR.z rfl rfl rfl rfl rfl rfl ?_
    refine SeqR.z rfl rfl rfl rfl rfl rfl ?_
    refine SeqR.z rfl rfl rfl rfl rfl rfl ?_
    refine SeqR.z rfl rfl rfl rfl rfl rfl ?_
    refine SeqR.d1 rfl rfl rfl (yl_pick_f rfl rfl rfl rfl ?_)
    refine SeqR.d1 rfl rfl rfl (yl_move rfl rfl ?_)
    refine SeqR.z rfl rfl rfl rfl rfl rfl ?_
    refine SeqR.z rfl rfl rfl rfl rfl rfl ?_
    refine SeqR.z rfl rfl rfl rfl rfl rfl ?_
    refine SeqR.z rfl rfl rfl rfl rfl rfl ?_
    refine SeqR.z rfl rfl rfl rfl rfl rfl ?_
    refine SeqR.d1 rfl rfl rfl (yl_pick_f rfl rfl rfl rfl ?_)
    refine SeqR.d1 rfl rfl rfl (yl_assign rfl rfl ?_)
    refine SeqR.done ?_
    refine tn ?_
    refine CW.ret ?_
    refine rr rfl (.cons rfl .nil) ?_
    have hM89 : (i_GoodRenew p_r) = (false) := by simp only [i_GoodRenew, hb15, cond_true, cond_false, loopE_done, loopE_ret]
    rw [hM89]
    have q90 := Ex.trans (Ex.refl w) hE11
    have q91 := Ex.trans q90 hE14
    exact ⟨rfl, q91⟩
set_option maxRecDepth 100000 in
set_option maxHeartbeats 2000000 in
theorem c_i_Clock_span {w : World} (p_c : DClock) (p_now : Int) : Cal Try.prog 107 #[.agg #[.int .i64 (p_c.Off)], .int .i64 (p_now)] w fun v w' => v = .agg #[.int .i64 ((i_Clock_span p_c p_now).Low), .int .i64 ((i_Clock_span p_c p_now).High)] ∧ Ex w w' := by
  refine Cal.of (vs := [.agg #[.int .i64 (p_c.Off)], .int .i64 (p_now)]) Try.func107 rfl Try.ntmps107 rfl ?_
  refine CW.seq ?_
  refine CW.region ?_
  refine SeqR.d1 rfl rfl rfl (yl_box (cs := [.int .i64 (p_c.Off)]) rfl rfl rfl ?_)
  intro b1 w2 hs3 hz4 hB5 hE6
  refine SeqR.d1 rfl rfl rfl (yl_alloc Try.ty134 (cs := [.int .i64 (0), .int .i64 (0)]) rfl rfl ?_)
  intro b7 w8 hs9 hz10 hB11 hE12
  refine SeqR.done ?_
  refine tn ?_
  refine CW.seq ?_
  refine CW.region ?_
  refine SeqR.d1 rfl rfl rfl (yl_move rfl rfl ?_)
  refine SeqR.d1 rfl rfl rfl (yl_fieldAddr Try.fd33_0 rfl rfl ?_)
  have q13 := Box.ex hB5 hE12
  refine SeqR.d1 rfl rfl rfl (yl_load1 Try.ty3 rfl rfl ((q13.cell 0).trans rfl) ?_)
  refine SeqR.d1 rfl rfl rfl (yl_add rfl rfl rfl ?_)
  refine SeqR.d1 rfl rfl rfl (yl_sub rfl rfl rfl ?_)
  refine SeqR.d1 rfl rfl rfl (yl_move rfl rfl ?_)
  refine SeqR.d1 rfl rfl rfl (yl_fieldAddr Try.fd33_0 rfl rfl ?_)
  refine SeqR.d1 rfl rfl rfl (yl_load1 Try.ty3 rfl rfl ((q13.cell 0).trans rfl) ?_)
  refine SeqR.d1 rfl rfl rfl (yl_add rfl rfl rfl ?_)
  refine SeqR.d1 rfl rfl rfl (yl_add rfl rfl rfl ?_)
  refine SeqR.d1 rfl rfl rfl (yl_build (cs := [.int .i64 (IntKind.wrap .i64 ((IntKind.wrap .i64 (p_now + p_c.Off)) - 5)), .int .i64 (IntKind.wrap .i64 ((IntKind.wrap .i64 (p_now + p_c.Off)) + 5))]) rfl (opvs_cons rfl (opvs_cons rfl opvs_nil)) (by kernel_rfl) ?_)
  refine SeqR.u rfl rfl (yl_store (vs := [.int .i64 (IntKind.wrap .i64 ((IntKind.wrap .i64 (p_now + p_c.Off)) - 5)), .int .i64 (IntKind.wrap .i64 ((IntKind.wrap .i64 (p_now + p_c.Off)) + 5))]) Try.ty134 rfl rfl rfl rfl rfl rfl hB11 (Nat.le_of_ble_eq_true rfl) ?_)
  intro w14 hB15 hO16
  have hB15 : Box w14 b7 134 [.int .i64 (IntKind.wrap .i64 ((IntKind.wrap .i64 (p_now + p_c.Off)) - 5)), .int .i64 (IntKind.wrap .i64 ((IntKind.wrap .i64 (p_now + p_c.Off)) + 5))] := hB15
  have hO16z := hO16.size
  refine SeqR.done ?_
  refine tn ?_
  refine CW.ret ?_
  refine rr rfl (.cons ⟨_, rfl, run_loadN Try.ty134 (cs := [.int .i64 (IntKind.wrap .i64 ((IntKind.wrap .i64 (p_now + p_c.Off)) - 5)), .int .i64 (IntKind.wrap .i64 ((IntKind.wrap .i64 (p_now + p_c.Off)) + 5))]) rfl (hB15.cells (n := 2) rfl)⟩ .nil) ?_
  have hM17 : (i_Clock_span p_c p_now) = ((⟨IntKind.wrap .i64 ((IntKind.wrap .i64 (p_now + p_c.Off)) - 5), IntKind.wrap .i64 ((IntKind.wrap .i64 (p_now + p_c.Off)) + 5)⟩ : DSpan)) := by simp only [i_Clock_span, cond_true, cond_false, loopE_done, loopE_ret]
  rw [hM17]
  have q18 := Ex.trans (Ex.refl w) hE6
  have q19 := Ex.trans q18 hE12
  have q20 := Below.only q19 hO16 (by omega)
  exact ⟨rfl, q20⟩
set_option maxRecDepth 100000 in
set_option maxHeartbeats 2000000 in
theorem c_i_Renew_usable {A1 : Option Addr} {c1 : Nat} {A2 : Option Addr} {c2 : Nat} {w : World} (p_r : DRenew) (p_server : Int) (h1 : RdS w (Iv 0 w.heap.size) (RF e_Clock) 1 A1 p_r.Clocks.length c1 p_r.Clocks) (h2 : RdS w (Iv 0 w.heap.size) (RF e_VLease) 2 A2 p_r.Leases.length c2 p_r.Leases) (o3 : ok_Renew p_r) (pre0 : (0 ≤ p_server ∧ p_server < (p_r.Clocks.length : Int) ∧ p_server < (p_r.Leases.length : Int))) : Cal Try.prog 78 #[.agg #[.int .i64 (p_r.Now), .int .i64 (p_r.Master.Off), .slice A1 p_r.Clocks.length c1, .int .i64 (p_r.Ver), .slice A2 p_r.Leases.length c2], .int .i64 (p_server)] w fun v w' => v = .bool ((i_Renew_usable p_r p_server)) ∧ Ex w w' := by
  have hol4 := o3.1.1
  have hol5 := o3.2.1
  refine Cal.of (vs := [.agg #[.int .i64 (p_r.Now), .int .i64 (p_r.Master.Off), .slice A1 p_r.Clocks.length c1, .int .i64 (p_r.Ver), .slice A2 p_r.Leases.length c2], .int .i64 (p_server)]) Try.func78 rfl Try.ntmps78 rfl ?_
  refine CW.seq ?_
  refine CW.region ?_
  refine SeqR.d1 rfl rfl rfl (yl_box (cs := [.int .i64 (p_r.Now), .int .i64 (p_r.Master.Off), .slice A1 p_r.Clocks.length c1, .int .i64 (p_r.Ver), .slice A2 p_r.Leases.length c2]) rfl rfl rfl ?_)
  intro b6 w7 hs8 hz9 hB10 hE11
  refine SeqR.d1 rfl rfl rfl (yl_assign rfl rfl ?_)
  refine SeqR.done ?_
  refine tn ?_
  refine CW.seq ?_
  have q12 := RdS.ex good_Clock h1 hE11
  obtain ⟨eb13, eo13, ec13, eA13, eS13, ebl13, el13, eR13, eC13⟩ := RdS.atD q12 d_Clock (i := (p_server).toNat) (by first | omega | assumption | (simp only [IntKind.wrap_i64] at *; omega))
  obtain rfl := eR13
  have eC13 : Cells w7 eb13 (eo13 + ((p_server).toNat) * 1) [.int .i64 ((p_r.Clocks.getD ((p_server).toNat) d_Clock).Off)] := eC13
  have q15 := RdS.ex good_VLease h2 hE11
  obtain ⟨eb16, eo16, ec16, eA16, eS16, ebl16, el16, eR16, eC16⟩ := RdS.atD q15 d_VLease (i := (p_server).toNat) (by first | omega | assumption | (simp only [IntKind.wrap_i64] at *; omega))
  obtain rfl := eR16
  have eC16 : Cells w7 eb16 (eo16 + ((p_server).toNat) * 2) [.int .i64 ((p_r.Leases.getD ((p_server).toNat) d_VLease).Ver), .int .i64 ((p_r.Leases.getD ((p_server).toNat) d_VLease).Until)] := eC16
  refine CW.drawsI 17 (vgetI [DetI (.pointer (some ⟨b6, 0 + 2, none⟩)), DetI (.slice A1 p_r.Clocks.length c1), DetI (.int .i64 (p_server)), DetI (.pointer (some ⟨eb13, eo13 + ((p_server).toNat) * 1, none⟩)), DetI (.agg #[.int .i64 ((p_r.Clocks.getD ((p_server).toNat) d_Clock).Off)]), DetI (.pointer (some ⟨b6, 0 + 0, none⟩)), DetI (.int .i64 (p_r.Now)), DetI (.agg #[.int .i64 ((i_Clock_span (p_r.Clocks.getD ((p_server).toNat) d_Clock) p_r.Now).Low), .int .i64 ((i_Clock_span (p_r.Clocks.getD ((p_server).toNat) d_Clock) p_r.Now).High)]), DetI (.int .i64 ((i_Clock_span (p_r.Clocks.getD ((p_server).toNat) d_Clock) p_r.Now).High)), DetI (.pointer (some ⟨b6, 0 + 4, none⟩)), DetI (.slice A2 p_r.Leases.length c2), DetI (.int .i64 (p_server)), DetI (.pointer (some ⟨eb16, eo16 + ((p_server).toNat) * 2, none⟩)), DetI (.pointer (some ⟨eb16, eo16 + ((p_server).toNat) * 2 + 1, none⟩)), DetI (.int .i64 ((p_r.Leases.getD ((p_server).toNat) d_VLease).Until)), DetI (.bool (decide (((i_Clock_span (p_r.Clocks.getD ((p_server).toNat) d_Clock) p_r.Now).High) < ((p_r.Leases.getD ((p_server).toNat) d_VLease).Until)))), DetI (.bool (decide (((i_Clock_span (p_r.Clocks.getD ((p_server).toNat) d_Clock) p_r.Now).High) < ((p_r.Leases.getD ((p_server).toNat) d_VLease).Until))))]) Try.follows rfl rfl rfl rfl rfl rfl (vgetI_stable ⟨StableI.det _, StableI.det _, StableI.det _, StableI.det _, StableI.det _, StableI.det _, StableI.det _, StableI.det _, StableI.det _, StableI.det _, StableI.det _, StableI.det _, StableI.det _, StableI.det _, StableI.det _, StableI.det _, StableI.det _, trivial⟩) ⟨?_, ?_, ?_, ?_, ?_, ?_, ?_, ?_, ?_, ?_, ?_, ?_, ?_, ?_, ?_, ?_, ?_, trivial⟩ ?_
  · intro L17 w18 hi19
    have hE20 := hi19.ex
    have hE20z := Ex.size hE20
    have hx21 := hi19.old 2 _ rfl rfl
    exact OpR.op' rfl (Yl.sameI (yl_fieldAddr Try.fd37_2 rfl hx21 ⟨fun _ _ => rfl, rfl⟩))
  · intro L22 w23 hi24
    have hE25 := hi24.ex
    have hE25z := Ex.size hE25
    obtain ⟨_, _, _, hx26, -, -, -, rfl⟩ := hi24.dep 0 5 rfl rfl
    have q27 := Box.ex hB10 hE25
    exact OpR.op' rfl (Yl.sameI (yl_load1 Try.ty34 rfl hx26 ((q27.cell 2).trans rfl) ⟨fun _ _ => rfl, rfl⟩))
  · intro L28 w29 hi30
    have hE31 := hi30.ex
    have hE31z := Ex.size hE31
    have hx32 := hi30.old 1 _ rfl rfl
    exact OpR.op' rfl (Yl.sameI (yl_move rfl hx32 ⟨fun _ _ => rfl, rfl⟩))
  · intro L33 w34 hi35
    have hE36 := hi35.ex
    have hE36z := Ex.size hE36
    obtain ⟨_, _, _, hx37, -, -, -, rfl⟩ := hi35.dep 1 6 rfl rfl
    obtain ⟨_, _, _, hx38, -, -, -, rfl⟩ := hi35.dep 2 7 rfl rfl
    exact OpR.op' rfl (Yl.sameI (yl_indexAddr Try.un34 Try.ty33 rfl hx37 hx38 eA13 (by first | omega | assumption | (simp only [IntKind.wrap_i64] at *; omega)) (by first | omega | assumption | (simp only [IntKind.wrap_i64] at *; omega)) ⟨fun _ _ => rfl, rfl⟩))
  · intro L39 w40 hi41
    have hE42 := hi41.ex
    have hE42z := Ex.size hE42
    obtain ⟨_, _, _, hx43, -, -, -, rfl⟩ := hi41.dep 3 8 rfl rfl
    have q44 := Cells.ex eC13 hE42
    exact OpR.op' rfl (Yl.sameI (yl_loadN (cs := [.int .i64 ((p_r.Clocks.getD ((p_server).toNat) d_Clock).Off)]) Try.ty33 rfl hx43 q44 rfl ⟨fun _ _ => rfl, rfl⟩))
  · intro L45 w46 hi47
    have hE48 := hi47.ex
    have hE48z := Ex.size hE48
    have hx49 := hi47.old 2 _ rfl rfl
    exact OpR.op' rfl (Yl.sameI (yl_fieldAddr Try.fd37_0 rfl hx49 ⟨fun _ _ => rfl, rfl⟩))
  · intro L50 w51 hi52
    have hE53 := hi52.ex
    have hE53z := Ex.size hE53
    obtain ⟨_, _, _, hx54, -, -, -, rfl⟩ := hi52.dep 5 10 rfl rfl
    have q55 := Box.ex hB10 hE53
    exact OpR.op' rfl (Yl.sameI (yl_load1 Try.ty3 rfl hx54 ((q55.cell 0).trans rfl) ⟨fun _ _ => rfl, rfl⟩))
  · intro L56 w57 hi58
    have hE59 := hi58.ex
    have hE59z := Ex.size hE59
    obtain ⟨_, _, _, hx60, -, -, -, rfl⟩ := hi58.dep 4 9 rfl rfl
    obtain ⟨_, _, _, hx61, -, -, -, rfl⟩ := hi58.dep 6 11 rfl rfl
    refine OpR.op' rfl (yl_call Try.en107 rfl (opvs_cons hx60 (opvs_cons hx61 opvs_nil)) (Cal.mono (c_i_Clock_span (p_r.Clocks.getD ((p_server).toNat) d_Clock) p_r.Now) ?_))
    rintro v63 w62 ⟨rfl, hE64⟩
    exact ⟨rfl, hE64⟩
  · intro L65 w66 hi67
    have hE68 := hi67.ex
    have hE68z := Ex.size hE68
    obtain ⟨_, _, _, hx69, -, -, -, rfl⟩ := hi67.dep 7 12 rfl rfl
    exact OpR.op' rfl (Yl.sameI (yl_field1 Try.fd134_1 rfl hx69 rfl ⟨fun _ _ => rfl, rfl⟩))
  · intro L70 w71 hi72
    have hE73 := hi72.ex
    have hE73z := Ex.size hE73
    have hx74 := hi72.old 2 _ rfl rfl
    exact OpR.op' rfl (Yl.sameI (yl_fieldAddr Try.fd37_4 rfl hx74 ⟨fun _ _ => rfl, rfl⟩))
  · intro L75 w76 hi77
    have hE78 := hi77.ex
    have hE78z := Ex.size hE78
    obtain ⟨_, _, _, hx79, -, -, -, rfl⟩ := hi77.dep 9 14 rfl rfl
    have q80 := Box.ex hB10 hE78
    exact OpR.op' rfl (Yl.sameI (yl_load1 Try.ty35 rfl hx79 ((q80.cell 4).trans rfl) ⟨fun _ _ => rfl, rfl⟩))
  · intro L81 w82 hi83
    have hE84 := hi83.ex
    have hE84z := Ex.size hE84
    have hx85 := hi83.old 1 _ rfl rfl
    exact OpR.op' rfl (Yl.sameI (yl_move rfl hx85 ⟨fun _ _ => rfl, rfl⟩))
  · intro L86 w87 hi88
    have hE89 := hi88.ex
    have hE89z := Ex.size hE89
    obtain ⟨_, _, _, hx90, -, -, -, rfl⟩ := hi88.dep 10 15 rfl rfl
    obtain ⟨_, _, _, hx91, -, -, -, rfl⟩ := hi88.dep 11 16 rfl rfl
    exact OpR.op' rfl (Yl.sameI (yl_indexAddr Try.un35 Try.ty103 rfl hx90 hx91 eA16 (by first | omega | assumption | (simp only [IntKind.wrap_i64] at *; omega)) (by first | omega | assumption | (simp only [IntKind.wrap_i64] at *; omega)) ⟨fun _ _ => rfl, rfl⟩))
  · intro L92 w93 hi94
    have hE95 := hi94.ex
    have hE95z := Ex.size hE95
    obtain ⟨_, _, _, hx96, -, -, -, rfl⟩ := hi94.dep 12 17 rfl rfl
    exact OpR.op' rfl (Yl.sameI (yl_fieldAddr Try.fd103_1 rfl hx96 ⟨fun _ _ => rfl, rfl⟩))
  · intro L97 w98 hi99
    have hE100 := hi99.ex
    have hE100z := Ex.size hE100
    obtain ⟨_, _, _, hx101, -, -, -, rfl⟩ := hi99.dep 13 18 rfl rfl
    have q102 := Cells.ex eC16 hE100
    exact OpR.op' rfl (Yl.sameI (yl_load1 Try.ty3 rfl hx101 (q102 1 _ rfl) ⟨fun _ _ => rfl, rfl⟩))
  · intro L103 w104 hi105
    have hE106 := hi105.ex
    have hE106z := Ex.size hE106
    obtain ⟨_, _, _, hx107, -, -, -, rfl⟩ := hi105.dep 8 13 rfl rfl
    obtain ⟨_, _, _, hx108, -, -, -, rfl⟩ := hi105.dep 14 19 rfl rfl
    exact OpR.op' rfl (Yl.sameI (yl_lss rfl hx107 hx108 ⟨fun _ _ => rfl, rfl⟩))
  · intro L109 w110 hi111
    have hE112 := hi111.ex
    have hE112z := Ex.size hE112
    obtain ⟨_, _, _, hx113, -, -, -, rfl⟩ := hi111.dep 15 20 rfl rfl
    exact OpR.op' rfl (Yl.sameI (yl_assign rfl hx113 ⟨fun _ _ => rfl, rfl⟩))
  · intro fl117 fh118 L114 w115 hp116
    have hE119 := hp116.ex
    have hE119z := Ex.size hE119
    obtain ⟨_, hx120, rfl⟩ := hp116.new 16 4 rfl rfl
    refine SeqR.done ?_
    refine tn ?_
    refine CW.sub (Sub.cons (d := 4) hx120 (Sub.nil _)) ?_
    refine CW.ret ?_
    refine rr rfl (.cons rfl .nil) ?_
    have hM121 : (i_Renew_usable p_r p_server) = (decide (((i_Clock_span (p_r.Clocks.getD ((p_server).toNat) d_Clock) p_r.Now).High) < ((p_r.Leases.getD ((p_server).toNat) d_VLease).Until))) := by simp only [i_Renew_usable, cond_true, cond_false, loopE_done, loopE_ret]
    rw [hM121]
    have q122 := Ex.trans (Ex.refl w) hE11
    have q123 := Ex.trans q122 hE119
    exact ⟨rfl, q123⟩
set_option maxRecDepth 100000 in
set_option maxHeartbeats 2000000 in
theorem c_g_slices_Max_int {A1 : Option Addr} {c1 : Nat} {w : World} (p_x : List Int) (h1 : RdS w (Iv 0 w.heap.size) (RF e_Int) 1 A1 p_x.length c1 p_x) (o2 : (okL okT) p_x) (pre0 : 0 < p_x.length) : Cal Try.prog 81 #[.slice A1 p_x.length c1] w fun v w' => v = .int .i64 ((g_slices_Max_int p_x)) ∧ Ex w w' := by
  have hol3 := o2.1
  refine Cal.of (vs := [.slice A1 p_x.length c1]) Try.func81 rfl Try.ntmps81 rfl ?_
  refine CW.seq ?_
  refine CW.region ?_
  refine SeqR.d1 rfl rfl rfl (yl_assign rfl rfl ?_)
  refine SeqR.done ?_
  refine tn ?_
  refine CW.seq ?_
  refine CW.seq ?_
  refine CW.region ?_
  refine SeqR.d1 rfl rfl rfl (yl_move rfl rfl ?_)
  refine SeqR.d1 rfl rfl rfl (yl_len Try.un112 rfl rfl ?_)
  refine SeqR.d1 rfl rfl rfl (yl_lss rfl rfl rfl ?_)
  refine SeqR.done ?_
  refine tn ?_
  refine CW.cond_f rfl (decide_eq_false (by omega)) ?_
  refine CW.skip ?_
  refine tn ?_
  refine CW.seq ?_
  refine CW.region ?_
  refine SeqR.d1 rfl rfl rfl (yl_move rfl rfl ?_)
  obtain ⟨eb4, eo4, ec4, eA4, eS4, ebl4, el4, eR4, eC4⟩ := RdS.atD h1 d_Int (i := 0) (by first | omega | assumption)
  obtain rfl := eR4
  have eC4 : Cells w eb4 (eo4 + 0 * 1) [.int .i64 ((p_x.getD 0 d_Int))] := eC4
  refine SeqR.d1 rfl rfl rfl (yl_indexAddrN Try.un112 Try.ty3 rfl rfl rfl eA4 (by first | omega | assumption | (simp only [IntKind.wrap_i64] at *; omega)) ?_)
  refine SeqR.d1 rfl rfl rfl (yl_load1 Try.ty3 rfl rfl (eC4 0 _ rfl) ?_)
  refine SeqR.d1 rfl rfl rfl (yl_assign rfl rfl ?_)
  refine SeqR.done ?_
  refine tn ?_
  refine CW.seq ?_
  refine CW.seq ?_
  refine CW.region ?_
  refine SeqR.d1 rfl rfl rfl (yl_assign rfl rfl ?_)
  refine SeqR.done ?_
  refine tn ?_
  refine CW.block ?_
  refine CW.loop (fun m7 L8 w9 => ∃ (k5 : Nat) (x6 : Int), m7 = p_x.length - k5 ∧ k5 ≤ p_x.length ∧ lkp L8 0 = some (.slice A1 p_x.length c1) ∧ lkp L8 3 = some (.int .i64 (x6)) ∧ lkp L8 4 = some (.int .i64 ((k5 : Int))) ∧ RdS w9 (Iv 0 w.heap.size) (RF e_Int) 1 A1 p_x.length c1 p_x ∧ Ex w w9 ∧ loopM (B_g_slices_Max_int_0 p_x) (p_x.length - k5) k5 (x6) = loopM (B_g_slices_Max_int_0 p_x) (p_x.length - 1) 1 ((p_x.getD 0 d_Int))) (p_x.length - 1) ?_ ?_
  · exact ⟨1, (p_x.getD 0 d_Int), rfl, (by omega), rfl, rfl, rfl, h1, (Ex.refl w), rfl⟩
  · rintro m10 L11 w12 ⟨k5, x6, rfl, hk13, hl15, hl16, hl17, hf18, hf19, hI14⟩
    refine CW.sub (Sub.cons hl15 (Sub.cons hl16 (Sub.cons hl17 (Sub.nil _)))) ?_
    have hf19z := Ex.size hf19
    have hbg20 := RdS.big hf18
    rcases Nat.lt_or_ge k5 p_x.length with hlt21 | hlt21
    · skip
      refine CW.seq ?_
      refine CW.seq ?_
      refine CW.region ?_
      refine SeqR.d1 rfl rfl rfl (yl_move rfl rfl ?_)
      refine SeqR.d1 rfl rfl rfl (yl_move rfl rfl ?_)
      refine SeqR.d1 rfl rfl rfl (yl_len Try.un112 rfl rfl ?_)
      refine SeqR.d1 rfl rfl rfl (yl_lss rfl rfl rfl ?_)
      refine SeqR.done ?_
      refine tn ?_
      refine CW.cond_t rfl (lt_t hlt21) ?_
      refine CW.skip ?_
      refine tn ?_
      refine CW.seq ?_
      refine CW.block ?_
      refine CW.region ?_
      refine SeqR.d1 rfl rfl rfl (yl_move rfl rfl ?_)
      refine SeqR.d1 rfl rfl rfl (yl_move rfl rfl ?_)
      refine SeqR.d1 rfl rfl rfl (yl_move rfl rfl ?_)
      obtain ⟨eb22, eo22, ec22, eA22, eS22, ebl22, el22, eR22, eC22⟩ := RdS.atD hf18 d_Int (i := k5) (by first | omega | assumption)
      obtain rfl := eR22
      have eC22 : Cells w12 eb22 (eo22 + k5 * 1) [.int .i64 ((p_x.getD k5 d_Int))] := eC22
      refine SeqR.d1 rfl rfl rfl (yl_indexAddrN Try.un112 Try.ty3 rfl rfl rfl eA22 (by first | omega | assumption | (simp only [IntKind.wrap_i64] at *; omega)) ?_)
      refine SeqR.d1 rfl rfl rfl (yl_load1 Try.ty3 rfl rfl (eC22 0 _ rfl) ?_)
      refine SeqR.d1 rfl rfl rfl (yl_max rfl rfl rfl ?_)
      refine SeqR.d1 rfl rfl rfl (yl_assign rfl rfl ?_)
      refine SeqR.done ?_
      refine bn ?_
      refine tn ?_
      refine CW.region ?_
      refine SeqR.d1 rfl rfl rfl (yl_move rfl rfl ?_)
      refine SeqR.d1 rfl rfl rfl (yl_inc rfl rfl rfl (by omega) ?_)
      refine SeqR.d1 rfl rfl rfl (yl_assign rfl rfl ?_)
      refine SeqR.done ?_
      refine tn ?_
      have hB23 : B_g_slices_Max_int_0 p_x k5 (x6) = .cont (max x6 (p_x.getD k5 d_Int)) := by simp only [B_g_slices_Max_int_0, cond_true, cond_false, loopE_done, loopE_ret]
      exact ⟨p_x.length - (k5 + 1), by omega, k5 + 1, max x6 (p_x.getD k5 d_Int), rfl, hlt21, rfl, rfl, rfl, hf18, hf19, (loopM.cont hlt21 hB23).symm.trans hI14⟩
    · skip
      refine CW.seq ?_
      refine CW.seq ?_
      refine CW.region ?_
      refine SeqR.d1 rfl rfl rfl (yl_move rfl rfl ?_)
      refine SeqR.d1 rfl rfl rfl (yl_move rfl rfl ?_)
      refine SeqR.d1 rfl rfl rfl (yl_len Try.un112 rfl rfl ?_)
      refine SeqR.d1 rfl rfl rfl (yl_lss rfl rfl rfl ?_)
      refine SeqR.done ?_
      refine tn ?_
      refine CW.cond_f rfl (lt_f hlt21) ?_
      refine CW.exit ?_
      refine tx ?_
      refine tx ?_
      have hL24 : loopM (B_g_slices_Max_int_0 p_x) (p_x.length - 1) 1 ((p_x.getD 0 d_Int)) = .done (x6) := hI14.symm.trans (loopM.stop hlt21)
      refine bx ?_
      refine tn ?_
      refine CW.seq ?_
      refine CW.region ?_
      refine SeqR.d1 rfl rfl rfl (yl_move rfl rfl ?_)
      refine SeqR.d1 rfl rfl rfl (yl_assign rfl rfl ?_)
      refine SeqR.done ?_
      refine tn ?_
      refine CW.ret ?_
      refine rr rfl (.cons rfl .nil) ?_
      have hM25 : (g_slices_Max_int p_x) = (x6) := by simp only [g_slices_Max_int, hL24, cond_true, cond_false, loopE_done, loopE_ret]
      rw [hM25]
      exact ⟨rfl, hf19⟩
set_option maxRecDepth 100000 in
set_option maxHeartbeats 2000000 in
theorem c_g_slices_Min_int {A1 : Option Addr} {c1 : Nat} {w : World} (p_x : List Int) (h1 : RdS w (Iv 0 w.heap.size) (RF e_Int) 1 A1 p_x.length c1 p_x) (o2 : (okL okT) p_x) (pre0 : 0 < p_x.length) : Cal Try.prog 82 #[.slice A1 p_x.length c1] w fun v w' => v = .int .i64 ((g_slices_Min_int p_x)) ∧ Ex w w' := by
  have hol3 := o2.1
  refine Cal.of (vs := [.slice A1 p_x.length c1]) Try.func82 rfl Try.ntmps82 rfl ?_
  refine CW.seq ?_
  refine CW.region ?_
  refine SeqR.d1 rfl rfl rfl (yl_assign rfl rfl ?_)
  refine SeqR.done ?_
  refine tn ?_
  refine CW.seq ?_
  refine CW.seq ?_
  refine CW.region ?_
  refine SeqR.d1 rfl rfl rfl (yl_move rfl rfl ?_)
  refine SeqR.d1 rfl rfl rfl (yl_len Try.un112 rfl rfl ?_)
  refine SeqR.d1 rfl rfl rfl (yl_lss rfl rfl rfl ?_)
  refine SeqR.done ?_
  refine tn ?_
  refine CW.cond_f rfl (decide_eq_false (by omega)) ?_
  refine CW.skip ?_
  refine tn ?_
  refine CW.seq ?_
  refine CW.region ?_
  refine SeqR.d1 rfl rfl rfl (yl_move rfl rfl ?_)
  obtain ⟨eb4, eo4, ec4, eA4, eS4, ebl4, el4, eR4, eC4⟩ := RdS.atD h1 d_Int (i := 0) (by first | omega | assumption)
  obtain rfl := eR4
  have eC4 : Cells w eb4 (eo4 + 0 * 1) [.int .i64 ((p_x.getD 0 d_Int))] := eC4
  refine SeqR.d1 rfl rfl rfl (yl_indexAddrN Try.un112 Try.ty3 rfl rfl rfl eA4 (by first | omega | assumption | (simp only [IntKind.wrap_i64] at *; omega)) ?_)
  refine SeqR.d1 rfl rfl rfl (yl_load1 Try.ty3 rfl rfl (eC4 0 _ rfl) ?_)
  refine SeqR.d1 rfl rfl rfl (yl_assign rfl rfl ?_)
  refine SeqR.done ?_
  refine tn ?_
  refine CW.seq ?_
  refine CW.seq ?_
  refine CW.region ?_
  refine SeqR.d1 rfl rfl rfl (yl_assign rfl rfl ?_)
  refine SeqR.done ?_
  refine tn ?_
  refine CW.block ?_
  refine CW.loop (fun m7 L8 w9 => ∃ (k5 : Nat) (x6 : Int), m7 = p_x.length - k5 ∧ k5 ≤ p_x.length ∧ lkp L8 0 = some (.slice A1 p_x.length c1) ∧ lkp L8 3 = some (.int .i64 (x6)) ∧ lkp L8 4 = some (.int .i64 ((k5 : Int))) ∧ RdS w9 (Iv 0 w.heap.size) (RF e_Int) 1 A1 p_x.length c1 p_x ∧ Ex w w9 ∧ loopM (B_g_slices_Min_int_0 p_x) (p_x.length - k5) k5 (x6) = loopM (B_g_slices_Min_int_0 p_x) (p_x.length - 1) 1 ((p_x.getD 0 d_Int))) (p_x.length - 1) ?_ ?_
  · exact ⟨1, (p_x.getD 0 d_Int), rfl, (by omega), rfl, rfl, rfl, h1, (Ex.refl w), rfl⟩
  · rintro m10 L11 w12 ⟨k5, x6, rfl, hk13, hl15, hl16, hl17, hf18, hf19, hI14⟩
    refine CW.sub (Sub.cons hl15 (Sub.cons hl16 (Sub.cons hl17 (Sub.nil _)))) ?_
    have hf19z := Ex.size hf19
    have hbg20 := RdS.big hf18
    rcases Nat.lt_or_ge k5 p_x.length with hlt21 | hlt21
    · skip
      refine CW.seq ?_
      refine CW.seq ?_
      refine CW.region ?_
      refine SeqR.d1 rfl rfl rfl (yl_move rfl rfl ?_)
      refine SeqR.d1 rfl rfl rfl (yl_move rfl rfl ?_)
      refine SeqR.d1 rfl rfl rfl (yl_len Try.un112 rfl rfl ?_)
      refine SeqR.d1 rfl rfl rfl (yl_lss rfl rfl rfl ?_)
      refine SeqR.done ?_
      refine tn ?_
      refine CW.cond_t rfl (lt_t hlt21) ?_
      refine CW.skip ?_
      refine tn ?_
      refine CW.seq ?_
      refine CW.block ?_
      refine CW.region ?_
      refine SeqR.d1 rfl rfl rfl (yl_move rfl rfl ?_)
      refine SeqR.d1 rfl rfl rfl (yl_move rfl rfl ?_)
      refine SeqR.d1 rfl rfl rfl (yl_move rfl rfl ?_)
      obtain ⟨eb22, eo22, ec22, eA22, eS22, ebl22, el22, eR22, eC22⟩ := RdS.atD hf18 d_Int (i := k5) (by first | omega | assumption)
      obtain rfl := eR22
      have eC22 : Cells w12 eb22 (eo22 + k5 * 1) [.int .i64 ((p_x.getD k5 d_Int))] := eC22
      refine SeqR.d1 rfl rfl rfl (yl_indexAddrN Try.un112 Try.ty3 rfl rfl rfl eA22 (by first | omega | assumption | (simp only [IntKind.wrap_i64] at *; omega)) ?_)
      refine SeqR.d1 rfl rfl rfl (yl_load1 Try.ty3 rfl rfl (eC22 0 _ rfl) ?_)
      refine SeqR.d1 rfl rfl rfl (yl_min rfl rfl rfl ?_)
      refine SeqR.d1 rfl rfl rfl (yl_assign rfl rfl ?_)
      refine SeqR.done ?_
      refine bn ?_
      refine tn ?_
      refine CW.region ?_
      refine SeqR.d1 rfl rfl rfl (yl_move rfl rfl ?_)
      refine SeqR.d1 rfl rfl rfl (yl_inc rfl rfl rfl (by omega) ?_)
      refine SeqR.d1 rfl rfl rfl (yl_assign rfl rfl ?_)
      refine SeqR.done ?_
      refine tn ?_
      have hB23 : B_g_slices_Min_int_0 p_x k5 (x6) = .cont (min x6 (p_x.getD k5 d_Int)) := by simp only [B_g_slices_Min_int_0, cond_true, cond_false, loopE_done, loopE_ret]
      exact ⟨p_x.length - (k5 + 1), by omega, k5 + 1, min x6 (p_x.getD k5 d_Int), rfl, hlt21, rfl, rfl, rfl, hf18, hf19, (loopM.cont hlt21 hB23).symm.trans hI14⟩
    · skip
      refine CW.seq ?_
      refine CW.seq ?_
      refine CW.region ?_
      refine SeqR.d1 rfl rfl rfl (yl_move rfl rfl ?_)
      refine SeqR.d1 rfl rfl rfl (yl_move rfl rfl ?_)
      refine SeqR.d1 rfl rfl rfl (yl_len Try.un112 rfl rfl ?_)
      refine SeqR.d1 rfl rfl rfl (yl_lss rfl rfl rfl ?_)
      refine SeqR.done ?_
      refine tn ?_
      refine CW.cond_f rfl (lt_f hlt21) ?_
      refine CW.exit ?_
      refine tx ?_
      refine tx ?_
      have hL24 : loopM (B_g_slices_Min_int_0 p_x) (p_x.length - 1) 1 ((p_x.getD 0 d_Int)) = .done (x6) := hI14.symm.trans (loopM.stop hlt21)
      refine bx ?_
      refine tn ?_
      refine CW.seq ?_
      refine CW.region ?_
      refine SeqR.d1 rfl rfl rfl (yl_move rfl rfl ?_)
      refine SeqR.d1 rfl rfl rfl (yl_assign rfl rfl ?_)
      refine SeqR.done ?_
      refine tn ?_
      refine CW.ret ?_
      refine rr rfl (.cons rfl .nil) ?_
      have hM25 : (g_slices_Min_int p_x) = (x6) := by simp only [g_slices_Min_int, hL24, cond_true, cond_false, loopE_done, loopE_ret]
      rw [hM25]
      exact ⟨rfl, hf19⟩
set_option maxRecDepth 100000 in
set_option maxHeartbeats 2000000 in
theorem c_i_AreNear {A1 : Option Addr} {c1 : Nat} {A2 : Option Addr} {c2 : Nat} {w : World} (p_r : DRenew) (h1 : RdS w (Iv 0 w.heap.size) (RF e_Clock) 1 A1 p_r.Clocks.length c1 p_r.Clocks) (h2 : RdS w (Iv 0 w.heap.size) (RF e_VLease) 2 A2 p_r.Leases.length c2 p_r.Leases) (o3 : ok_Renew p_r) : Cal Try.prog 36 #[.agg #[.int .i64 (p_r.Now), .int .i64 (p_r.Master.Off), .slice A1 p_r.Clocks.length c1, .int .i64 (p_r.Ver), .slice A2 p_r.Leases.length c2]] w fun v w' => v = .tuple #[.bool ((i_AreNear p_r).1), .bool ((i_AreNear p_r).2)] ∧ Ex w w' := by
  have hol4 := o3.1.1
  have hol5 := o3.2.1
  refine Cal.of (vs := [.agg #[.int .i64 (p_r.Now), .int .i64 (p_r.Master.Off), .slice A1 p_r.Clocks.length c1, .int .i64 (p_r.Ver), .slice A2 p_r.Leases.length c2]]) Try.func36 rfl Try.ntmps36 rfl ?_
  refine CW.seq ?_
  refine CW.region ?_
  refine SeqR.d1 rfl rfl rfl (yl_box (cs := [.int .i64 (p_r.Now), .int .i64 (p_r.Master.Off), .slice A1 p_r.Clocks.length c1, .int .i64 (p_r.Ver), .slice A2 p_r.Leases.length c2]) rfl rfl rfl ?_)
  intro b6 w7 hs8 hz9 hB10 hE11
  refine SeqR.d1 rfl rfl rfl (yl_assign rfl rfl ?_)
  refine SeqR.d1 rfl rfl rfl (yl_assign rfl rfl ?_)
  refine SeqR.done ?_
  refine tn ?_
  refine CW.seq ?_
  refine CW.seq ?_
  refine CW.region ?_
  refine SeqR.d1 rfl rfl rfl (yl_loadN (cs := [.int .i64 (p_r.Now), .int .i64 (p_r.Master.Off), .slice A1 p_r.Clocks.length c1, .int .i64 (p_r.Ver), .slice A2 p_r.Leases.length c2]) Try.ty37 rfl rfl (hB10.cells (n := 5) rfl) rfl ?_)
  have q12 := RdS.ex good_Clock h1 hE11
  have q13 := RdS.ex good_VLease h2 hE11
  refine SeqR.d1 rfl rfl rfl (yl_call Try.en27 rfl (opvs_cons rfl opvs_nil) (Cal.mono (c_i_GoodRenew p_r (RdS.up q12 good_Clock) (RdS.up q13 good_VLease) o3) ?_))
  rintro v15 w14 ⟨rfl, hE16⟩
  have hE16z := Ex.size hE16
  refine SeqR.d1 rfl rfl rfl (yl_not rfl rfl ?_)
  refine SeqR.done ?_
  refine tn ?_
  refine bcase (i_GoodRenew p_r) (fun hb17 => ?_) (fun hb17 => ?_)
  · have hb17p := f_i_GoodRenew hb17
    refine CW.cond_f rfl (not_t hb17) ?_
    refine CW.skip ?_
    refine tn ?_
    refine CW.seq ?_
    refine CW.region ?_
    refine SeqR.d1 rfl rfl rfl (yl_buildSlice (cs := []) Try.un112 Try.ty3 (by decide) rfl opvs_nil (by kernel_rfl) ?_)
    intro b18 w19 hs20 hz21 hB22 hE23
    have hO24 : OwnL w19 b18 (b18 + 1) 3 1 (RF e_Int) (some ⟨b18, 0, none⟩) 0 0 ([] : List Int) := OwnL.of_box (S := fun _ => False) hB22 (Nat.le_refl _) (Nat.lt_succ_self _) EncL.nil (Nat.le_of_ble_eq_true rfl) (fun h => h) (fun _ h => False.elim h)
    refine SeqR.d1 rfl rfl rfl (yl_assign rfl rfl ?_)
    refine SeqR.done ?_
    refine tn ?_
    refine CW.seq ?_
    refine CW.seq ?_
    refine CW.region ?_
    refine SeqR.d1 rfl rfl rfl (yl_fieldAddr Try.fd37_4 rfl rfl ?_)
    have q25 := Box.ex hB10 hE16
    have q26 := Box.ex q25 hE23
    refine SeqR.d1 rfl rfl rfl (yl_load1 Try.ty35 rfl rfl ((q26.cell 4).trans rfl) ?_)
    refine SeqR.d1 rfl rfl rfl (yl_len Try.un35 rfl rfl ?_)
    refine SeqR.d1 rfl rfl rfl (yl_move rfl rfl ?_)
    refine SeqR.done ?_
    refine tn ?_
    refine CW.block ?_
    have q63 := RdS.ex good_Clock q12 hE16
    have q64 := RdS.ex good_Clock q63 hE23
    have q65 := RdS.ex good_VLease q13 hE16
    have q66 := RdS.ex good_VLease q65 hE23
    have q67 := Ex.trans (Ex.refl w) hE11
    have q68 := Ex.trans q67 hE16
    have q69 := Ex.trans q68 hE23
    refine CW.loop (fun m60 L61 w62 => ∃ (k27 : Nat) (x56 : List Int) (A57 : Option Addr) (c58 : Nat) (u59 : Nat), m60 = p_r.Leases.length - k27 ∧ k27 ≤ p_r.Leases.length ∧ lkp L61 1 = some (.pointer (some ⟨b6, 0, none⟩)) ∧ lkp L61 4 = some (.slice A57 x56.length c58) ∧ lkp L61 12 = some (.slice A2 p_r.Leases.length c2) ∧ lkp L61 13 = some (.int .i64 ((p_r.Leases.length : Int))) ∧ lkp L61 14 = some (.int .i64 ((k27 : Int))) ∧ Box w62 b6 37 [.int .i64 (p_r.Now), .int .i64 (p_r.Master.Off), .slice A1 p_r.Clocks.length c1, .int .i64 (p_r.Ver), .slice A2 p_r.Leases.length c2] ∧ RdS w62 (Iv 0 w.heap.size) (RF e_Clock) 1 A1 p_r.Clocks.length c1 p_r.Clocks ∧ RdS w62 (Iv 0 w.heap.size) (RF e_VLease) 2 A2 p_r.Leases.length c2 p_r.Leases ∧ OwnL w62 b18 u59 3 1 (RF e_Int) A57 x56.length c58 x56 ∧ Ex w w62 ∧ (b18 ≤ u59 ∧ u59 ≤ w62.heap.size) ∧ x56.length ≤ 0 + 1 * (k27 - 0) ∧ loopM (B_i_AreNear_0 p_r) (p_r.Leases.length - k27) k27 (x56) = loopM (B_i_AreNear_0 p_r) (p_r.Leases.length - 0) 0 (([] : List Int))) (p_r.Leases.length - 0) ?_ ?_
    · exact ⟨0, ([] : List Int), (some ⟨b18, 0, none⟩), 0, (b18 + 1), rfl, (by omega), rfl, rfl, rfl, rfl, rfl, q26, q64, q66, hO24, q69, (by omega), (by first | (simp; done) | (first | omega | (simp only [List.length_append, List.length_cons, List.length_nil, List.length_set]; omega))), rfl⟩
    · rintro m70 L71 w72 ⟨k27, x56, A57, c58, u59, rfl, hk73, hl75, hl76, hl77, hl78, hl79, hf80, hf81, hf82, hf83, hf84, hu85, hln86, hI74⟩
      refine CW.sub (Sub.cons hl75 (Sub.cons hl76 (Sub.cons hl77 (Sub.cons hl78 (Sub.cons hl79 (Sub.nil _)))))) ?_
      have hf80z := Box.lt hf80
      have hf84z := Ex.size hf84
      have hbg87 := RdS.big hf82
      rcases Nat.lt_or_ge k27 p_r.Leases.length with hlt88 | hlt88
      · skip
        refine CW.seq ?_
        refine CW.region ?_
        refine SeqR.d1 rfl rfl rfl (yl_lss rfl rfl rfl ?_)
        refine SeqR.done ?_
        refine tn ?_
        refine CW.seq ?_
        refine CW.cond_t rfl (lt_t hlt88) ?_
        refine CW.skip ?_
        refine tn ?_
        refine CW.seq ?_
        refine CW.block ?_
        refine CW.seq ?_
        refine CW.region ?_
        refine SeqR.d1 rfl rfl rfl (yl_move rfl rfl ?_)
        obtain ⟨eb89, eo89, ec89, eA89, eS89, ebl89, el89, eR89, eC89⟩ := RdS.atD hf82 d_VLease (i := k27) (by first | omega | assumption)
        obtain rfl := eR89
        have eC89 : Cells w72 eb89 (eo89 + k27 * 2) [.int .i64 ((p_r.Leases.getD k27 d_VLease).Ver), .int .i64 ((p_r.Leases.getD k27 d_VLease).Until)] := eC89
        refine SeqR.d1 rfl rfl rfl (yl_indexAddrN Try.un35 Try.ty103 rfl rfl rfl eA89 (by first | omega | assumption | (simp only [IntKind.wrap_i64] at *; omega)) ?_)
        refine SeqR.d1 rfl rfl rfl (yl_loadN (cs := [.int .i64 ((p_r.Leases.getD k27 d_VLease).Ver), .int .i64 ((p_r.Leases.getD k27 d_VLease).Until)]) Try.ty103 rfl rfl eC89 rfl ?_)
        refine SeqR.d1 rfl rfl rfl (yl_alloc Try.ty103 (cs := [.int .i64 (0), .int .i64 (0)]) rfl rfl ?_)
        intro b90 w91 hs92 hz93 hB94 hE95
        refine SeqR.d1 rfl rfl rfl (yl_assign rfl rfl ?_)
        refine SeqR.u rfl rfl (yl_store (vs := [.int .i64 ((p_r.Leases.getD k27 d_VLease).Ver), .int .i64 ((p_r.Leases.getD k27 d_VLease).Until)]) Try.ty103 rfl rfl rfl rfl rfl rfl hB94 (Nat.le_of_ble_eq_true rfl) ?_)
        intro w96 hB97 hO98
        have hB97 : Box w96 b90 103 [.int .i64 ((p_r.Leases.getD k27 d_VLease).Ver), .int .i64 ((p_r.Leases.getD k27 d_VLease).Until)] := hB97
        have hO98z := hO98.size
        refine SeqR.done ?_
        refine tn ?_
        refine CW.seq ?_
        refine CW.region ?_
        have q99 := Box.ex hf80 hE95
        have q100 := Box.only q99 hO98 (by omega)
        refine SeqR.d1 rfl rfl rfl (yl_loadN (cs := [.int .i64 (p_r.Now), .int .i64 (p_r.Master.Off), .slice A1 p_r.Clocks.length c1, .int .i64 (p_r.Ver), .slice A2 p_r.Leases.length c2]) Try.ty37 rfl rfl (q100.cells (n := 5) rfl) rfl ?_)
        refine SeqR.d1 rfl rfl rfl (yl_move rfl rfl ?_)
        have q101 := RdS.ex good_Clock hf81 hE95
        have q102 := RdS.only good_Clock q101 hO98 (by simp only [Iv]; omega)
        have q103 := RdS.ex good_VLease hf82 hE95
        have q104 := RdS.only good_VLease q103 hO98 (by simp only [Iv]; omega)
        refine SeqR.d1 rfl rfl rfl (yl_call Try.en78 rfl (opvs_cons rfl (opvs_cons rfl opvs_nil)) (Cal.mono (c_i_Renew_usable p_r (k27 : Int) (RdS.up q102 good_Clock) (RdS.up q104 good_VLease) o3 (by first | omega | assumption | (simp only [IntKind.wrap_i64] at *; omega))) ?_))
        rintro v106 w105 ⟨rfl, hE107⟩
        have hE107z := Ex.size hE107
        refine SeqR.done ?_
        refine tn ?_
        refine bcase (i_Renew_usable p_r (k27 : Int)) (fun hb108 => ?_) (fun hb108 => ?_)
        · skip
          refine CW.cond_t rfl hb108 ?_
          refine CW.region ?_
          refine SeqR.d1 rfl rfl rfl (yl_move rfl rfl ?_)
          refine SeqR.d1 rfl rfl rfl (yl_fieldAddr Try.fd103_0 rfl rfl ?_)
          have q109 := Box.ex hB97 hE107
          refine SeqR.d1 rfl rfl rfl (yl_load1 Try.ty3 rfl rfl ((q109.cell 0).trans rfl) ?_)
          refine SeqR.d1 rfl rfl rfl (yl_buildSlice (cs := [.int .i64 ((p_r.Leases.getD k27 d_VLease).Ver)]) Try.un112 Try.ty3 (by decide) rfl (opvs_cons rfl opvs_nil) (by kernel_rfl) ?_)
          intro b110 w111 hs112 hz113 hB114 hE115
          have hO116 : OwnL w111 b110 (b110 + 1) 3 1 (RF e_Int) (some ⟨b110, 0, none⟩) 1 1 ([(p_r.Leases.getD k27 d_VLease).Ver] : List Int) := OwnL.of_box (S := fun _ => False) hB114 (Nat.le_refl _) (Nat.lt_succ_self _) (EncL.cons (c := [.int .i64 ((p_r.Leases.getD k27 d_VLease).Ver)]) rfl rfl EncL.nil) (Nat.le_of_ble_eq_true rfl) (fun h => h) (fun _ h => False.elim h)
          have q117 := OwnL.ex good_Int hf83 hE95
          have q118 := OwnL.only good_Int q117 hO98 (by omega)
          have q119 := OwnL.ex good_Int q118 hE107
          have q120 := OwnL.ex good_Int q119 hE115
          have hrg121 := OwnL.rng q120
          refine SeqR.d1 rfl rfl rfl (yl_appendL (S := (fun _ => False)) (lo := b18) (hi := u59) (xs := x56) (ys := ([(p_r.Leases.getD k27 d_VLease).Ver] : List Int)) good_Int Try.un112 Try.ty3 rfl (Nat.le_of_ble_eq_true rfl) rfl rfl rfl q120 (EncL.cons (c := [.int .i64 ((p_r.Leases.getD k27 d_VLease).Ver)]) rfl rfl EncL.nil) (Or.inr ⟨_, _, rfl, rfl, hB114.cells (o := 0) (n := 1) rfl⟩) rfl (by first | omega | (simp only [List.length_append, List.length_cons, List.length_nil, List.length_take, List.length_drop, List.length_set, List.length_replicate]; omega)) (by first | omega | (simp only [List.length_append, List.length_cons, List.length_nil, List.length_take, List.length_drop, List.length_set, List.length_replicate]; omega)) (by omega) (fun _ _ h => h) (fun _ h => False.elim h) ?_)
          intro A122 c123 w124 hO125 hG126 hA127
          have hG126z := hG126.size
          refine SeqR.d1 rfl rfl rfl (yl_assign rfl rfl ?_)
          refine SeqR.done ?_
          refine bn ?_
          refine tn ?_
          refine CW.region ?_
          refine SeqR.d1 rfl rfl rfl (yl_inc rfl rfl rfl (by omega) ?_)
          refine SeqR.d1 rfl rfl rfl (yl_move rfl rfl ?_)
          refine SeqR.done ?_
          refine tn ?_
          have hB128 : B_i_AreNear_0 p_r k27 (x56) = .cont ((x56 ++ ([(p_r.Leases.getD k27 d_VLease).Ver] : List Int))) := by simp only [B_i_AreNear_0, hb17, hb108, cond_true, cond_false, loopE_done, loopE_ret]
          have q129 := Box.ex q100 hE107
          have q130 := Box.ex q129 hE115
          have q131 := Box.grown q130 hG126 (fun k hk => by have := hrg121 k hk; omega)
          have q132 := RdS.ex good_Clock q102 hE107
          have q133 := RdS.ex good_Clock q132 hE115
          have q134 := RdS.grown good_Clock q133 hG126 (fun k hk => by have := hrg121 k hk; simp only [Iv]; omega)
          have q135 := RdS.ex good_VLease q104 hE107
          have q136 := RdS.ex good_VLease q135 hE115
          have q137 := RdS.grown good_VLease q136 hG126 (fun k hk => by have := hrg121 k hk; simp only [Iv]; omega)
          have q138 := Ex.trans hf84 hE95
          have q139 := Below.only q138 hO98 (by omega)
          have q140 := Ex.trans q139 hE107
          have q141 := Ex.trans q140 hE115
          have q142 := Below.grown q141 hG126 (by omega) (fun k hk => by have := hrg121 k hk; omega)
          exact ⟨p_r.Leases.length - (k27 + 1), by omega, k27 + 1, (x56 ++ ([(p_r.Leases.getD k27 d_VLease).Ver] : List Int)), A122, c123, w124.heap.size, rfl, hlt88, rfl, rfl, rfl, rfl, rfl, q131, q134, q137, hO125, q142, (by omega), (by first | omega | (simp only [List.length_append, List.length_cons, List.length_nil, List.length_set]; omega)), (loopM.cont hlt88 hB128).symm.trans hI74⟩
        · skip
          refine CW.cond_f rfl hb108 ?_
          refine CW.skip ?_
          refine bn ?_
          refine tn ?_
          refine CW.region ?_
          refine SeqR.d1 rfl rfl rfl (yl_inc rfl rfl rfl (by omega) ?_)
          refine SeqR.d1 rfl rfl rfl (yl_move rfl rfl ?_)
          refine SeqR.done ?_
          refine tn ?_
          have hB143 : B_i_AreNear_0 p_r k27 (x56) = .cont (x56) := by simp only [B_i_AreNear_0, hb17, hb108, cond_true, cond_false, loopE_done, loopE_ret]
          have q144 := Box.ex q100 hE107
          have q145 := RdS.ex good_Clock q102 hE107
          have q146 := RdS.ex good_VLease q104 hE107
          have q147 := OwnL.ex good_Int hf83 hE95
          have q148 := OwnL.only good_Int q147 hO98 (by omega)
          have q149 := OwnL.ex good_Int q148 hE107
          have q150 := Ex.trans hf84 hE95
          have q151 := Below.only q150 hO98 (by omega)
          have q152 := Ex.trans q151 hE107
          exact ⟨p_r.Leases.length - (k27 + 1), by omega, k27 + 1, x56, A57, c58, u59, rfl, hlt88, rfl, rfl, rfl, rfl, rfl, q144, q145, q146, q149, q152, (by omega), (by first | omega | (simp only [List.length_append, List.length_cons, List.length_nil, List.length_set]; omega)), (loopM.cont hlt88 hB143).symm.trans hI74⟩
      · skip
        refine CW.seq ?_
        refine CW.region ?_
        refine SeqR.d1 rfl rfl rfl (yl_lss rfl rfl rfl ?_)
        refine SeqR.done ?_
        refine tn ?_
        refine CW.seq ?_
        refine CW.cond_f rfl (lt_f hlt88) ?_
        refine CW.exit ?_
        refine tx ?_
        refine tx ?_
        have hL153 : loopM (B_i_AreNear_0 p_r) (p_r.Leases.length - 0) 0 (([] : List Int)) = .done (x56) := hI74.symm.trans (loopM.stop hlt88)
        refine bx ?_
        refine tn ?_
        refine CW.seq ?_
        refine CW.region ?_
        refine SeqR.d1 rfl rfl rfl (yl_move rfl rfl ?_)
        refine SeqR.d1 rfl rfl rfl (yl_len Try.un112 rfl rfl ?_)
        refine SeqR.d1 rfl rfl rfl (yl_eql rfl rfl rfl ?_)
        refine SeqR.d1 rfl rfl rfl (yl_move rfl rfl ?_)
        refine bcase (decide ((x56.length : Int) = 0)) (fun hb154 => ?_) (fun hb154 => ?_)
        · have hb154p := dec_t hb154
          refine SeqR.z rfl rfl rfl rfl rfl hb154 ?_
          refine SeqR.z rfl rfl rfl rfl rfl hb154 ?_
          refine SeqR.z rfl rfl rfl rfl rfl hb154 ?_
          refine SeqR.z rfl rfl rfl rfl rfl hb154 ?_
          refine SeqR.z rfl rfl rfl rfl rfl hb154 ?_
          refine SeqR.z rfl rfl rfl rfl rfl hb154 ?_
          refine SeqR.d1 rfl rfl rfl (yl_pick_t rfl rfl hb154 rfl ?_)
          refine SeqR.d1 rfl rfl rfl (yl_assign rfl rfl ?_)
          refine SeqR.d1 rfl rfl rfl (yl_assign rfl rfl ?_)
          refine SeqR.done ?_
          refine tn ?_
          refine CW.ret ?_
          refine rr rfl (.cons rfl (.cons rfl .nil)) ?_
          have hM155 : (i_AreNear p_r) = ((true, true)) := by simp only [i_AreNear, hb17, hb154, hL153, cond_true, cond_false, loopE_done, loopE_ret]
          rw [hM155]
          exact ⟨rfl, hf84⟩
        · have hb154p := dec_f hb154
          refine SeqR.y rfl rfl rfl rfl rfl hb154 (yl_move rfl rfl ?_)
          have q156 := OwnL.rd good_Int hf83
          refine SeqR.y rfl rfl rfl rfl rfl hb154 (yl_call Try.en81 rfl (opvs_cons rfl opvs_nil) (Cal.mono (c_g_slices_Max_int x56 (RdS.up q156 good_Int) (okL.mk (xs := x56) (by first | omega | (simp only [List.length_append, List.length_cons, List.length_nil, List.length_take, List.length_drop, List.length_replicate, List.length_set]; omega)) fun _ _ => trivial) (by first | omega | assumption | (simp only [IntKind.wrap_i64] at *; omega))) ?_))
          rintro v158 w157 ⟨rfl, hE159⟩
          have hE159z := Ex.size hE159
          refine SeqR.y rfl rfl rfl rfl rfl hb154 (yl_move rfl rfl ?_)
          have q161 := OwnL.ex good_Int hf83 hE159
          have q160 := OwnL.rd good_Int q161
          refine SeqR.y rfl rfl rfl rfl rfl hb154 (yl_call Try.en82 rfl (opvs_cons rfl opvs_nil) (Cal.mono (c_g_slices_Min_int x56 (RdS.up q160 good_Int) (okL.mk (xs := x56) (by first | omega | (simp only [List.length_append, List.length_cons, List.length_nil, List.length_take, List.length_drop, List.length_replicate, List.length_set]; omega)) fun _ _ => trivial) (by first | omega | assumption | (simp only [IntKind.wrap_i64] at *; omega))) ?_))
          rintro v163 w162 ⟨rfl, hE164⟩
          have hE164z := Ex.size hE164
          refine SeqR.y rfl rfl rfl rfl rfl hb154 (yl_sub rfl rfl rfl ?_)
          refine SeqR.y rfl rfl rfl rfl rfl hb154 (yl_leq rfl rfl rfl ?_)
          refine SeqR.d1 rfl rfl rfl (yl_pick_f rfl rfl hb154 rfl ?_)
          refine SeqR.d1 rfl rfl rfl (yl_assign rfl rfl ?_)
          refine SeqR.d1 rfl rfl rfl (yl_assign rfl rfl ?_)
          refine SeqR.done ?_
          refine tn ?_
          refine CW.ret ?_
          refine rr rfl (.cons rfl (.cons rfl .nil)) ?_
          have hM165 : (i_AreNear p_r) = ((decide ((IntKind.wrap .i64 ((g_slices_Max_int x56) - (g_slices_Min_int x56))) ≤ 1), true)) := by simp only [i_AreNear, hb17, hb154, hL153, cond_true, cond_false, loopE_done, loopE_ret]
          rw [hM165]
          have q166 := Ex.trans hf84 hE159
          have q167 := Ex.trans q166 hE164
          exact ⟨rfl, q167⟩
  · skip
    refine CW.cond_t rfl (not_f hb17) ?_
    refine CW.seq ?_
    refine CW.region ?_
    refine SeqR.d1 rfl rfl rfl (yl_assign rfl rfl ?_)
    refine SeqR.d1 rfl rfl rfl (yl_assign rfl rfl ?_)
    refine SeqR.done ?_
    refine tn ?_
    refine CW.ret ?_
    refine tr ?_
    refine rr rfl (.cons rfl (.cons rfl .nil)) ?_
    have hM168 : (i_AreNear p_r) = ((false, false)) := by simp only [i_AreNear, hb17, cond_true, cond_false, loopE_done, loopE_ret]
    rw [hM168]
    have q169 := Ex.trans (Ex.refl w) hE11
    have q170 := Ex.trans q169 hE16
    exact ⟨rfl, q170⟩
end Go.Proofs.Ytnfjabkdlkejkaa
