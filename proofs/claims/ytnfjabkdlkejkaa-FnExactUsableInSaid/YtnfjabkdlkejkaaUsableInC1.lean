/- Usable In: what each call returns, part 1. -/
import Derived.Test.YtnfjabkdlkejkaaUsableInL
import Derived.Test.YtnfjabkdlkejkaaUsableInF
set_option linter.unusedVariables false
set_option linter.unusedSimpArgs false
namespace Go.Proofs.Ytnfjabkdlkejkaa
open Go.RowKit Go.X
set_option maxRecDepth 100000 in
set_option maxHeartbeats 2000000 in
theorem c_l_eqClock {w : World} (p_a : DClock) (p_b : DClock) : Cal Try.prog 57 #[.agg #[.int .i64 (p_a.Off)], .agg #[.int .i64 (p_b.Off)]] w fun v w' => v = .bool ((l_eqClock p_a p_b)) ∧ Ex w w' := by
  refine Cal.of (vs := [.agg #[.int .i64 (p_a.Off)], .agg #[.int .i64 (p_b.Off)]]) Try.func57 rfl Try.ntmps57 rfl ?_
  refine CW.seq ?_
  refine CW.region ?_
  refine SeqR.d1 rfl rfl rfl (yl_box (cs := [.int .i64 (p_a.Off)]) rfl rfl rfl ?_)
  intro b1 w2 hs3 hz4 hB5 hE6
  refine SeqR.d1 rfl rfl rfl (yl_box (cs := [.int .i64 (p_b.Off)]) rfl rfl rfl ?_)
  intro b7 w8 hs9 hz10 hB11 hE12
  refine SeqR.d1 rfl rfl rfl (yl_assign rfl rfl ?_)
  refine SeqR.done ?_
  refine tn ?_
  refine CW.seq ?_
  refine CW.seq ?_
  refine CW.region ?_
  refine SeqR.d1 rfl rfl rfl (yl_fieldAddr Try.fd33_0 rfl rfl ?_)
  have q13 := Box.ex hB5 hE12
  refine SeqR.d1 rfl rfl rfl (yl_load1 Try.ty3 rfl rfl ((q13.cell 0).trans rfl) ?_)
  refine SeqR.d1 rfl rfl rfl (yl_fieldAddr Try.fd33_0 rfl rfl ?_)
  refine SeqR.d1 rfl rfl rfl (yl_load1 Try.ty3 rfl rfl ((hB11.cell 0).trans rfl) ?_)
  refine SeqR.d1 rfl rfl rfl (yl_neq rfl rfl rfl ?_)
  refine SeqR.done ?_
  refine tn ?_
  refine bcase (decide (p_a.Off = p_b.Off)) (fun hb14 => ?_) (fun hb14 => ?_)
  · have hb14p := dec_t hb14
    refine CW.cond_f rfl (not_t hb14) ?_
    refine CW.skip ?_
    refine tn ?_
    refine CW.seq ?_
    refine CW.region ?_
    refine SeqR.d1 rfl rfl rfl (yl_assign rfl rfl ?_)
    refine SeqR.done ?_
    refine tn ?_
    refine CW.ret ?_
    refine rr rfl (.cons rfl .nil) ?_
    have hM15 : (l_eqClock p_a p_b) = (true) := by simp only [l_eqClock, hb14, cond_true, cond_false, loopE_done, loopE_ret]
    rw [hM15]
    have q16 := Ex.trans (Ex.refl w) hE6
    have q17 := Ex.trans q16 hE12
    exact ⟨rfl, q17⟩
  · have hb14p := dec_f hb14
    refine CW.cond_t rfl (not_f hb14) ?_
    refine CW.seq ?_
    refine CW.region ?_
    refine SeqR.d1 rfl rfl rfl (yl_assign rfl rfl ?_)
    refine SeqR.done ?_
    refine tn ?_
    refine CW.ret ?_
    refine tr ?_
    refine rr rfl (.cons rfl .nil) ?_
    have hM18 : (l_eqClock p_a p_b) = (false) := by simp only [l_eqClock, hb14, cond_true, cond_false, loopE_done, loopE_ret]
    rw [hM18]
    have q19 := Ex.trans (Ex.refl w) hE6
    have q20 := Ex.trans q19 hE12
    exact ⟨rfl, q20⟩
set_option maxRecDepth 100000 in
set_option maxHeartbeats 2000000 in
theorem c_l_eqClockS {A1 : Option Addr} {c1 : Nat} {A2 : Option Addr} {c2 : Nat} {w : World} (p_a : List DClock) (p_b : List DClock) (h1 : RdS w (Iv 0 w.heap.size) (RF e_Clock) 1 A1 p_a.length c1 p_a) (h2 : RdS w (Iv 0 w.heap.size) (RF e_Clock) 1 A2 p_b.length c2 p_b) : Cal Try.prog 58 #[.slice A1 p_a.length c1, .slice A2 p_b.length c2] w fun v w' => v = .bool ((l_eqClockS p_a p_b)) ∧ Ex w w' := by
  refine Cal.of (vs := [.slice A1 p_a.length c1, .slice A2 p_b.length c2]) Try.func58 rfl Try.ntmps58 rfl ?_
  refine CW.seq ?_
  refine CW.region ?_
  refine SeqR.d1 rfl rfl rfl (yl_assign rfl rfl ?_)
  refine SeqR.done ?_
  refine tn ?_
  refine CW.seq ?_
  refine CW.seq ?_
  refine CW.region ?_
  refine SeqR.d1 rfl rfl rfl (yl_move rfl rfl ?_)
  refine SeqR.d1 rfl rfl rfl (yl_len Try.un34 rfl rfl ?_)
  refine SeqR.d1 rfl rfl rfl (yl_move rfl rfl ?_)
  refine SeqR.d1 rfl rfl rfl (yl_len Try.un34 rfl rfl ?_)
  refine SeqR.d1 rfl rfl rfl (yl_neq rfl rfl rfl ?_)
  refine SeqR.done ?_
  refine tn ?_
  refine bcase (decide ((p_a.length : Int) = (p_b.length : Int))) (fun hb3 => ?_) (fun hb3 => ?_)
  · have hb3p := dec_t hb3
    refine CW.cond_f rfl (not_t hb3) ?_
    refine CW.skip ?_
    refine tn ?_
    refine CW.seq ?_
    refine CW.seq ?_
    refine CW.region ?_
    refine SeqR.d1 rfl rfl rfl (yl_assign rfl rfl ?_)
    refine SeqR.done ?_
    refine tn ?_
    refine CW.block ?_
    refine CW.loop (fun m5 L6 w7 => ∃ (k4 : Nat), m5 = p_a.length - k4 ∧ k4 ≤ p_a.length ∧ lkp L6 0 = some (.slice A1 p_a.length c1) ∧ lkp L6 1 = some (.slice A2 p_b.length c2) ∧ lkp L6 5 = some (.int .i64 ((k4 : Int))) ∧ RdS w7 (Iv 0 w.heap.size) (RF e_Clock) 1 A1 p_a.length c1 p_a ∧ RdS w7 (Iv 0 w.heap.size) (RF e_Clock) 1 A2 p_b.length c2 p_b ∧ Ex w w7 ∧ loopM (B_l_eqClockS_0 p_a p_b) (p_a.length - k4) k4 () = loopM (B_l_eqClockS_0 p_a p_b) (p_a.length - 0) 0 ()) (p_a.length - 0) ?_ ?_
    · exact ⟨0, rfl, Nat.zero_le _, rfl, rfl, rfl, h1, h2, (Ex.refl w), rfl⟩
    · rintro m8 L9 w10 ⟨k4, rfl, hk11, hl13, hl14, hl15, hf16, hf17, hf18, hI12⟩
      refine CW.sub (Sub.cons hl13 (Sub.cons hl14 (Sub.cons hl15 (Sub.nil _)))) ?_
      have hf18z := Ex.size hf18
      have hbg19 := RdS.big hf16
      rcases Nat.lt_or_ge k4 p_a.length with hlt20 | hlt20
      · skip
        refine CW.seq ?_
        refine CW.seq ?_
        refine CW.region ?_
        refine SeqR.d1 rfl rfl rfl (yl_move rfl rfl ?_)
        refine SeqR.d1 rfl rfl rfl (yl_move rfl rfl ?_)
        refine SeqR.d1 rfl rfl rfl (yl_len Try.un34 rfl rfl ?_)
        refine SeqR.d1 rfl rfl rfl (yl_lss rfl rfl rfl ?_)
        refine SeqR.done ?_
        refine tn ?_
        refine CW.cond_t rfl (lt_t hlt20) ?_
        refine CW.skip ?_
        refine tn ?_
        refine CW.seq ?_
        refine CW.block ?_
        refine CW.seq ?_
        obtain ⟨eb21, eo21, ec21, eA21, eS21, ebl21, el21, eR21, eC21⟩ := RdS.atD hf16 d_Clock (i := k4) (by first | omega | assumption)
        obtain rfl := eR21
        have eC21 : Cells w10 eb21 (eo21 + k4 * 1) [.int .i64 ((p_a.getD k4 d_Clock).Off)] := eC21
        obtain ⟨eb22, eo22, ec22, eA22, eS22, ebl22, el22, eR22, eC22⟩ := RdS.atD hf17 d_Clock (i := k4) (by first | omega | assumption)
        obtain rfl := eR22
        have eC22 : Cells w10 eb22 (eo22 + k4 * 1) [.int .i64 ((p_b.getD k4 d_Clock).Off)] := eC22
        refine CW.draws (vget [Det (.slice A1 p_a.length c1), Det (.int .i64 ((k4 : Int))), Det (.pointer (some ⟨eb21, eo21 + k4 * 1, none⟩)), Det (.agg #[.int .i64 ((p_a.getD k4 d_Clock).Off)]), Det (.slice A2 p_b.length c2), Det (.int .i64 ((k4 : Int))), Det (.pointer (some ⟨eb22, eo22 + k4 * 1, none⟩)), Det (.agg #[.int .i64 ((p_b.getD k4 d_Clock).Off)]), Det (.bool ((l_eqClock (p_a.getD k4 d_Clock) (p_b.getD k4 d_Clock)))), Det (.bool (!(l_eqClock (p_a.getD k4 d_Clock) (p_b.getD k4 d_Clock))))]) Try.follows rfl rfl rfl rfl (vget_stable ⟨Stable.det _, Stable.det _, Stable.det _, Stable.det _, Stable.det _, Stable.det _, Stable.det _, Stable.det _, Stable.det _, Stable.det _, trivial⟩) ⟨?_, ?_, ?_, ?_, ?_, ?_, ?_, ?_, ?_, ?_, trivial⟩ ?_
        · intro L24 w25 hi26
          have hE27 := hi26.ex
          have hE27z := Ex.size hE27
          have hx28 := hi26.old 0 _ rfl rfl
          exact OpR.op' rfl (Yl.same (yl_move rfl hx28 ⟨rfl, rfl⟩))
        · intro L29 w30 hi31
          have hE32 := hi31.ex
          have hE32z := Ex.size hE32
          have hx33 := hi31.old 5 _ rfl rfl
          exact OpR.op' rfl (Yl.same (yl_move rfl hx33 ⟨rfl, rfl⟩))
        · intro L34 w35 hi36
          have hE37 := hi36.ex
          have hE37z := Ex.size hE37
          obtain ⟨_, hx38, rfl⟩ := hi36.dep 0 17 rfl rfl
          obtain ⟨_, hx39, rfl⟩ := hi36.dep 1 18 rfl rfl
          exact OpR.op' rfl (Yl.same (yl_indexAddrN Try.un34 Try.ty33 rfl hx38 hx39 eA21 (by first | omega | assumption | (simp only [IntKind.wrap_i64] at *; omega)) ⟨rfl, rfl⟩))
        · intro L40 w41 hi42
          have hE43 := hi42.ex
          have hE43z := Ex.size hE43
          obtain ⟨_, hx44, rfl⟩ := hi42.dep 2 19 rfl rfl
          have q45 := Cells.ex eC21 hE43
          exact OpR.op' rfl (Yl.same (yl_loadN (cs := [.int .i64 ((p_a.getD k4 d_Clock).Off)]) Try.ty33 rfl hx44 q45 rfl ⟨rfl, rfl⟩))
        · intro L46 w47 hi48
          have hE49 := hi48.ex
          have hE49z := Ex.size hE49
          have hx50 := hi48.old 1 _ rfl rfl
          exact OpR.op' rfl (Yl.same (yl_move rfl hx50 ⟨rfl, rfl⟩))
        · intro L51 w52 hi53
          have hE54 := hi53.ex
          have hE54z := Ex.size hE54
          have hx55 := hi53.old 5 _ rfl rfl
          exact OpR.op' rfl (Yl.same (yl_move rfl hx55 ⟨rfl, rfl⟩))
        · intro L56 w57 hi58
          have hE59 := hi58.ex
          have hE59z := Ex.size hE59
          obtain ⟨_, hx60, rfl⟩ := hi58.dep 4 21 rfl rfl
          obtain ⟨_, hx61, rfl⟩ := hi58.dep 5 22 rfl rfl
          exact OpR.op' rfl (Yl.same (yl_indexAddrN Try.un34 Try.ty33 rfl hx60 hx61 eA22 (by first | omega | assumption | (simp only [IntKind.wrap_i64] at *; omega)) ⟨rfl, rfl⟩))
        · intro L62 w63 hi64
          have hE65 := hi64.ex
          have hE65z := Ex.size hE65
          obtain ⟨_, hx66, rfl⟩ := hi64.dep 6 23 rfl rfl
          have q67 := Cells.ex eC22 hE65
          exact OpR.op' rfl (Yl.same (yl_loadN (cs := [.int .i64 ((p_b.getD k4 d_Clock).Off)]) Try.ty33 rfl hx66 q67 rfl ⟨rfl, rfl⟩))
        · intro L68 w69 hi70
          have hE71 := hi70.ex
          have hE71z := Ex.size hE71
          obtain ⟨_, hx72, rfl⟩ := hi70.dep 3 20 rfl rfl
          obtain ⟨_, hx73, rfl⟩ := hi70.dep 7 24 rfl rfl
          refine OpR.op' rfl (yl_call Try.en57 rfl (opvs_cons hx72 (opvs_cons hx73 opvs_nil)) (Cal.mono (c_l_eqClock (p_a.getD k4 d_Clock) (p_b.getD k4 d_Clock)) ?_))
          rintro v75 w74 ⟨rfl, hE76⟩
          exact ⟨rfl, hE76⟩
        · intro L77 w78 hi79
          have hE80 := hi79.ex
          have hE80z := Ex.size hE80
          obtain ⟨_, hx81, rfl⟩ := hi79.dep 8 25 rfl rfl
          exact OpR.op' rfl (Yl.same (yl_not rfl hx81 ⟨rfl, rfl⟩))
        · intro L82 w83 hp84
          have hE85 := hp84.ex
          have hE85z := Ex.size hE85
          have hx86 := hp84.old 0 _ rfl rfl
          have hx87 := hp84.old 1 _ rfl rfl
          have hx88 := hp84.old 5 _ rfl rfl
          obtain ⟨_, hx89, rfl⟩ := hp84.new 9 26 rfl
          refine tn ?_
          refine CW.sub (Sub.cons hx86 (Sub.cons hx87 (Sub.cons hx88 (Sub.cons hx89 (Sub.nil _))))) ?_
          refine bcase (l_eqClock (p_a.getD k4 d_Clock) (p_b.getD k4 d_Clock)) (fun hb90 => ?_) (fun hb90 => ?_)
          · skip
            refine CW.cond_f rfl (not_t hb90) ?_
            refine CW.skip ?_
            refine bn ?_
            refine tn ?_
            refine CW.region ?_
            refine SeqR.d1 rfl rfl rfl (yl_move rfl rfl ?_)
            refine SeqR.d1 rfl rfl rfl (yl_inc rfl rfl rfl (by omega) ?_)
            refine SeqR.d1 rfl rfl rfl (yl_assign rfl rfl ?_)
            refine SeqR.done ?_
            refine tn ?_
            have hB91 : B_l_eqClockS_0 p_a p_b k4 () = .cont () := by simp only [B_l_eqClockS_0, hb3, hb90, cond_true, cond_false, loopE_done, loopE_ret]
            have q92 := RdS.ex good_Clock hf16 hE85
            have q93 := RdS.ex good_Clock hf17 hE85
            have q94 := Ex.trans hf18 hE85
            exact ⟨p_a.length - (k4 + 1), by omega, k4 + 1, rfl, hlt20, rfl, rfl, rfl, q92, q93, q94, (loopM.cont hlt20 hB91).symm.trans hI12⟩
          · skip
            refine CW.cond_t rfl (not_f hb90) ?_
            refine CW.seq ?_
            refine CW.region ?_
            refine SeqR.d1 rfl rfl rfl (yl_assign rfl rfl ?_)
            refine SeqR.done ?_
            refine tn ?_
            refine CW.ret ?_
            refine br ?_
            refine tr ?_
            refine tr ?_
            have hB96 : B_l_eqClockS_0 p_a p_b k4 () = .ret false := by simp only [B_l_eqClockS_0, hb3, hb90, cond_true, cond_false, loopE_done, loopE_ret]
            have hL95 : loopM (B_l_eqClockS_0 p_a p_b) (p_a.length - 0) 0 () = .ret false := hI12.symm.trans (loopM.ret hlt20 hB96)
            refine br ?_
            refine tr ?_
            refine rr rfl (.cons rfl .nil) ?_
            have hM97 : (l_eqClockS p_a p_b) = (false) := by simp only [l_eqClockS, hb3, hb90, hL95, cond_true, cond_false, loopE_done, loopE_ret]
            rw [hM97]
            have q98 := Ex.trans hf18 hE85
            exact ⟨rfl, q98⟩
      · skip
        refine CW.seq ?_
        refine CW.seq ?_
        refine CW.region ?_
        refine SeqR.d1 rfl rfl rfl (yl_move rfl rfl ?_)
        refine SeqR.d1 rfl rfl rfl (yl_move rfl rfl ?_)
        refine SeqR.d1 rfl rfl rfl (yl_len Try.un34 rfl rfl ?_)
        refine SeqR.d1 rfl rfl rfl (yl_lss rfl rfl rfl ?_)
        refine SeqR.done ?_
        refine tn ?_
        refine CW.cond_f rfl (lt_f hlt20) ?_
        refine CW.exit ?_
        refine tx ?_
        refine tx ?_
        have hL99 : loopM (B_l_eqClockS_0 p_a p_b) (p_a.length - 0) 0 () = .done () := hI12.symm.trans (loopM.stop hlt20)
        refine bx ?_
        refine tn ?_
        refine CW.seq ?_
        refine CW.region ?_
        refine SeqR.d1 rfl rfl rfl (yl_assign rfl rfl ?_)
        refine SeqR.done ?_
        refine tn ?_
        refine CW.ret ?_
        refine rr rfl (.cons rfl .nil) ?_
        have hM100 : (l_eqClockS p_a p_b) = (true) := by simp only [l_eqClockS, hb3, hL99, cond_true, cond_false, loopE_done, loopE_ret]
        rw [hM100]
        exact ⟨rfl, hf18⟩
  · have hb3p := dec_f hb3
    refine CW.cond_t rfl (not_f hb3) ?_
    refine CW.seq ?_
    refine CW.region ?_
    refine SeqR.d1 rfl rfl rfl (yl_assign rfl rfl ?_)
    refine SeqR.done ?_
    refine tn ?_
    refine CW.ret ?_
    refine tr ?_
    refine rr rfl (.cons rfl .nil) ?_
    have hM101 : (l_eqClockS p_a p_b) = (false) := by simp only [l_eqClockS, hb3, cond_true, cond_false, loopE_done, loopE_ret]
    rw [hM101]
    exact ⟨rfl, (Ex.refl w)⟩
set_option maxRecDepth 100000 in
set_option maxHeartbeats 2000000 in
theorem c_l_eqVLease {w : World} (p_a : DVLease) (p_b : DVLease) : Cal Try.prog 101 #[.agg #[.int .i64 (p_a.Ver), .int .i64 (p_a.Until)], .agg #[.int .i64 (p_b.Ver), .int .i64 (p_b.Until)]] w fun v w' => v = .bool ((l_eqVLease p_a p_b)) ∧ Ex w w' := by
  refine Cal.of (vs := [.agg #[.int .i64 (p_a.Ver), .int .i64 (p_a.Until)], .agg #[.int .i64 (p_b.Ver), .int .i64 (p_b.Until)]]) Try.func101 rfl Try.ntmps101 rfl ?_
  refine CW.seq ?_
  refine CW.region ?_
  refine SeqR.d1 rfl rfl rfl (yl_box (cs := [.int .i64 (p_a.Ver), .int .i64 (p_a.Until)]) rfl rfl rfl ?_)
  intro b1 w2 hs3 hz4 hB5 hE6
  refine SeqR.d1 rfl rfl rfl (yl_box (cs := [.int .i64 (p_b.Ver), .int .i64 (p_b.Until)]) rfl rfl rfl ?_)
  intro b7 w8 hs9 hz10 hB11 hE12
  refine SeqR.d1 rfl rfl rfl (yl_assign rfl rfl ?_)
  refine SeqR.done ?_
  refine tn ?_
  refine CW.seq ?_
  refine CW.seq ?_
  refine CW.region ?_
  refine SeqR.d1 rfl rfl rfl (yl_fieldAddr Try.fd103_0 rfl rfl ?_)
  have q13 := Box.ex hB5 hE12
  refine SeqR.d1 rfl rfl rfl (yl_load1 Try.ty3 rfl rfl ((q13.cell 0).trans rfl) ?_)
  refine SeqR.d1 rfl rfl rfl (yl_fieldAddr Try.fd103_0 rfl rfl ?_)
  refine SeqR.d1 rfl rfl rfl (yl_load1 Try.ty3 rfl rfl ((hB11.cell 0).trans rfl) ?_)
  refine SeqR.d1 rfl rfl rfl (yl_neq rfl rfl rfl ?_)
  refine SeqR.done ?_
  refine tn ?_
  refine bcase (decide (p_a.Ver = p_b.Ver)) (fun hb14 => ?_) (fun hb14 => ?_)
  · have hb14p := dec_t hb14
    refine CW.cond_f rfl (not_t hb14) ?_
    refine CW.skip ?_
    refine tn ?_
    refine CW.seq ?_
    refine CW.seq ?_
    refine CW.region ?_
    refine SeqR.d1 rfl rfl rfl (yl_fieldAddr Try.fd103_1 rfl rfl ?_)
    refine SeqR.d1 rfl rfl rfl (yl_load1 Try.ty3 rfl rfl ((q13.cell 1).trans rfl) ?_)
    refine SeqR.d1 rfl rfl rfl (yl_fieldAddr Try.fd103_1 rfl rfl ?_)
    refine SeqR.d1 rfl rfl rfl (yl_load1 Try.ty3 rfl rfl ((hB11.cell 1).trans rfl) ?_)
    refine SeqR.d1 rfl rfl rfl (yl_neq rfl rfl rfl ?_)
    refine SeqR.done ?_
    refine tn ?_
    refine bcase (decide (p_a.Until = p_b.Until)) (fun hb15 => ?_) (fun hb15 => ?_)
    · have hb15p := dec_t hb15
      refine CW.cond_f rfl (not_t hb15) ?_
      refine CW.skip ?_
      refine tn ?_
      refine CW.seq ?_
      refine CW.region ?_
      refine SeqR.d1 rfl rfl rfl (yl_assign rfl rfl ?_)
      refine SeqR.done ?_
      refine tn ?_
      refine CW.ret ?_
      refine rr rfl (.cons rfl .nil) ?_
      have hM16 : (l_eqVLease p_a p_b) = (true) := by simp only [l_eqVLease, hb14, hb15, cond_true, cond_false, loopE_done, loopE_ret]
      rw [hM16]
      have q17 := Ex.trans (Ex.refl w) hE6
      have q18 := Ex.trans q17 hE12
      exact ⟨rfl, q18⟩
    · have hb15p := dec_f hb15
      refine CW.cond_t rfl (not_f hb15) ?_
      refine CW.seq ?_
      refine CW.region ?_
      refine SeqR.d1 rfl rfl rfl (yl_assign rfl rfl ?_)
      refine SeqR.done ?_
      refine tn ?_
      refine CW.ret ?_
      refine tr ?_
      refine rr rfl (.cons rfl .nil) ?_
      have hM19 : (l_eqVLease p_a p_b) = (false) := by simp only [l_eqVLease, hb14, hb15, cond_true, cond_false, loopE_done, loopE_ret]
      rw [hM19]
      have q20 := Ex.trans (Ex.refl w) hE6
      have q21 := Ex.trans q20 hE12
      exact ⟨rfl, q21⟩
  · have hb14p := dec_f hb14
    refine CW.cond_t rfl (not_f hb14) ?_
    refine CW.seq ?_
    refine CW.region ?_
    refine SeqR.d1 rfl rfl rfl (yl_assign rfl rfl ?_)
    refine SeqR.done ?_
    refine tn ?_
    refine CW.ret ?_
    refine tr ?_
    refine rr rfl (.cons rfl .nil) ?_
    have hM22 : (l_eqVLease p_a p_b) = (false) := by simp only [l_eqVLease, hb14, cond_true, cond_false, loopE_done, loopE_ret]
    rw [hM22]
    have q23 := Ex.trans (Ex.refl w) hE6
    have q24 := Ex.trans q23 hE12
    exact ⟨rfl, q24⟩
set_option maxRecDepth 100000 in
set_option maxHeartbeats 2000000 in
theorem c_l_eqVLeaseS {A1 : Option Addr} {c1 : Nat} {A2 : Option Addr} {c2 : Nat} {w : World} (p_a : List DVLease) (p_b : List DVLease) (h1 : RdS w (Iv 0 w.heap.size) (RF e_VLease) 2 A1 p_a.length c1 p_a) (h2 : RdS w (Iv 0 w.heap.size) (RF e_VLease) 2 A2 p_b.length c2 p_b) : Cal Try.prog 59 #[.slice A1 p_a.length c1, .slice A2 p_b.length c2] w fun v w' => v = .bool ((l_eqVLeaseS p_a p_b)) ∧ Ex w w' := by
  refine Cal.of (vs := [.slice A1 p_a.length c1, .slice A2 p_b.length c2]) Try.func59 rfl Try.ntmps59 rfl ?_
  refine CW.seq ?_
  refine CW.region ?_
  refine SeqR.d1 rfl rfl rfl (yl_assign rfl rfl ?_)
  refine SeqR.done ?_
  refine tn ?_
  refine CW.seq ?_
  refine CW.seq ?_
  refine CW.region ?_
  refine SeqR.d1 rfl rfl rfl (yl_move rfl rfl ?_)
  refine SeqR.d1 rfl rfl rfl (yl_len Try.un35 rfl rfl ?_)
  refine SeqR.d1 rfl rfl rfl (yl_move rfl rfl ?_)
  refine SeqR.d1 rfl rfl rfl (yl_len Try.un35 rfl rfl ?_)
  refine SeqR.d1 rfl rfl rfl (yl_neq rfl rfl rfl ?_)
  refine SeqR.done ?_
  refine tn ?_
  refine bcase (decide ((p_a.length : Int) = (p_b.length : Int))) (fun hb3 => ?_) (fun hb3 => ?_)
  · have hb3p := dec_t hb3
    refine CW.cond_f rfl (not_t hb3) ?_
    refine CW.skip ?_
    refine tn ?_
    refine CW.seq ?_
    refine CW.seq ?_
    refine CW.region ?_
    refine SeqR.d1 rfl rfl rfl (yl_assign rfl rfl ?_)
    refine SeqR.done ?_
    refine tn ?_
    refine CW.block ?_
    refine CW.loop (fun m5 L6 w7 => ∃ (k4 : Nat), m5 = p_a.length - k4 ∧ k4 ≤ p_a.length ∧ lkp L6 0 = some (.slice A1 p_a.length c1) ∧ lkp L6 1 = some (.slice A2 p_b.length c2) ∧ lkp L6 5 = some (.int .i64 ((k4 : Int))) ∧ RdS w7 (Iv 0 w.heap.size) (RF e_VLease) 2 A1 p_a.length c1 p_a ∧ RdS w7 (Iv 0 w.heap.size) (RF e_VLease) 2 A2 p_b.length c2 p_b ∧ Ex w w7 ∧ loopM (B_l_eqVLeaseS_0 p_a p_b) (p_a.length - k4) k4 () = loopM (B_l_eqVLeaseS_0 p_a p_b) (p_a.length - 0) 0 ()) (p_a.length - 0) ?_ ?_
    · exact ⟨0, rfl, Nat.zero_le _, rfl, rfl, rfl, h1, h2, (Ex.refl w), rfl⟩
    · rintro m8 L9 w10 ⟨k4, rfl, hk11, hl13, hl14, hl15, hf16, hf17, hf18, hI12⟩
      refine CW.sub (Sub.cons hl13 (Sub.cons hl14 (Sub.cons hl15 (Sub.nil _)))) ?_
      have hf18z := Ex.size hf18
      have hbg19 := RdS.big hf16
      rcases Nat.lt_or_ge k4 p_a.length with hlt20 | hlt20
      · skip
        refine CW.seq ?_
        refine CW.seq ?_
        refine CW.region ?_
        refine SeqR.d1 rfl rfl rfl (yl_move rfl rfl ?_)
        refine SeqR.d1 rfl rfl rfl (yl_move rfl rfl ?_)
        refine SeqR.d1 rfl rfl rfl (yl_len Try.un35 rfl rfl ?_)
        refine SeqR.d1 rfl rfl rfl (yl_lss rfl rfl rfl ?_)
        refine SeqR.done ?_
        refine tn ?_
        refine CW.cond_t rfl (lt_t hlt20) ?_
        refine CW.skip ?_
        refine tn ?_
        refine CW.seq ?_
        refine CW.block ?_
        refine CW.seq ?_
        obtain ⟨eb21, eo21, ec21, eA21, eS21, ebl21, el21, eR21, eC21⟩ := RdS.atD hf16 d_VLease (i := k4) (by first | omega | assumption)
        obtain rfl := eR21
        have eC21 : Cells w10 eb21 (eo21 + k4 * 2) [.int .i64 ((p_a.getD k4 d_VLease).Ver), .int .i64 ((p_a.getD k4 d_VLease).Until)] := eC21
        obtain ⟨eb22, eo22, ec22, eA22, eS22, ebl22, el22, eR22, eC22⟩ := RdS.atD hf17 d_VLease (i := k4) (by first | omega | assumption)
        obtain rfl := eR22
        have eC22 : Cells w10 eb22 (eo22 + k4 * 2) [.int .i64 ((p_b.getD k4 d_VLease).Ver), .int .i64 ((p_b.getD k4 d_VLease).Until)] := eC22
        refine CW.draws (vget [Det (.slice A1 p_a.length c1), Det (.int .i64 ((k4 : Int))), Det (.pointer (some ⟨eb21, eo21 + k4 * 2, none⟩)), Det (.agg #[.int .i64 ((p_a.getD k4 d_VLease).Ver), .int .i64 ((p_a.getD k4 d_VLease).Until)]), Det (.slice A2 p_b.length c2), Det (.int .i64 ((k4 : Int))), Det (.pointer (some ⟨eb22, eo22 + k4 * 2, none⟩)), Det (.agg #[.int .i64 ((p_b.getD k4 d_VLease).Ver), .int .i64 ((p_b.getD k4 d_VLease).Until)]), Det (.bool ((l_eqVLease (p_a.getD k4 d_VLease) (p_b.getD k4 d_VLease)))), Det (.bool (!(l_eqVLease (p_a.getD k4 d_VLease) (p_b.getD k4 d_VLease))))]) Try.follows rfl rfl rfl rfl (vget_stable ⟨Stable.det _, Stable.det _, Stable.det _, Stable.det _, Stable.det _, Stable.det _, Stable.det _, Stable.det _, Stable.det _, Stable.det _, trivial⟩) ⟨?_, ?_, ?_, ?_, ?_, ?_, ?_, ?_, ?_, ?_, trivial⟩ ?_
        · intro L24 w25 hi26
          have hE27 := hi26.ex
          have hE27z := Ex.size hE27
          have hx28 := hi26.old 0 _ rfl rfl
          exact OpR.op' rfl (Yl.same (yl_move rfl hx28 ⟨rfl, rfl⟩))
        · intro L29 w30 hi31
          have hE32 := hi31.ex
          have hE32z := Ex.size hE32
          have hx33 := hi31.old 5 _ rfl rfl
          exact OpR.op' rfl (Yl.same (yl_move rfl hx33 ⟨rfl, rfl⟩))
        · intro L34 w35 hi36
          have hE37 := hi36.ex
          have hE37z := Ex.size hE37
          obtain ⟨_, hx38, rfl⟩ := hi36.dep 0 17 rfl rfl
          obtain ⟨_, hx39, rfl⟩ := hi36.dep 1 18 rfl rfl
          exact OpR.op' rfl (Yl.same (yl_indexAddrN Try.un35 Try.ty103 rfl hx38 hx39 eA21 (by first | omega | assumption | (simp only [IntKind.wrap_i64] at *; omega)) ⟨rfl, rfl⟩))
        · intro L40 w41 hi42
          have hE43 := hi42.ex
          have hE43z := Ex.size hE43
          obtain ⟨_, hx44, rfl⟩ := hi42.dep 2 19 rfl rfl
          have q45 := Cells.ex eC21 hE43
          exact OpR.op' rfl (Yl.same (yl_loadN (cs := [.int .i64 ((p_a.getD k4 d_VLease).Ver), .int .i64 ((p_a.getD k4 d_VLease).Until)]) Try.ty103 rfl hx44 q45 rfl ⟨rfl, rfl⟩))
        · intro L46 w47 hi48
          have hE49 := hi48.ex
          have hE49z := Ex.size hE49
          have hx50 := hi48.old 1 _ rfl rfl
          exact OpR.op' rfl (Yl.same (yl_move rfl hx50 ⟨rfl, rfl⟩))
        · intro L51 w52 hi53
          have hE54 := hi53.ex
          have hE54z := Ex.size hE54
          have hx55 := hi53.old 5 _ rfl rfl
          exact OpR.op' rfl (Yl.same (yl_move rfl hx55 ⟨rfl, rfl⟩))
        · intro L56 w57 hi58
          have hE59 := hi58.ex
          have hE59z := Ex.size hE59
          obtain ⟨_, hx60, rfl⟩ := hi58.dep 4 21 rfl rfl
          obtain ⟨_, hx61, rfl⟩ := hi58.dep 5 22 rfl rfl
          exact OpR.op' rfl (Yl.same (yl_indexAddrN Try.un35 Try.ty103 rfl hx60 hx61 eA22 (by first | omega | assumption | (simp only [IntKind.wrap_i64] at *; omega)) ⟨rfl, rfl⟩))
        · intro L62 w63 hi64
          have hE65 := hi64.ex
          have hE65z := Ex.size hE65
          obtain ⟨_, hx66, rfl⟩ := hi64.dep 6 23 rfl rfl
          have q67 := Cells.ex eC22 hE65
          exact OpR.op' rfl (Yl.same (yl_loadN (cs := [.int .i64 ((p_b.getD k4 d_VLease).Ver), .int .i64 ((p_b.getD k4 d_VLease).Until)]) Try.ty103 rfl hx66 q67 rfl ⟨rfl, rfl⟩))
        · intro L68 w69 hi70
          have hE71 := hi70.ex
          have hE71z := Ex.size hE71
          obtain ⟨_, hx72, rfl⟩ := hi70.dep 3 20 rfl rfl
          obtain ⟨_, hx73, rfl⟩ := hi70.dep 7 24 rfl rfl
          refine OpR.op' rfl (yl_call Try.en101 rfl (opvs_cons hx72 (opvs_cons hx73 opvs_nil)) (Cal.mono (c_l_eqVLease (p_a.getD k4 d_VLease) (p_b.getD k4 d_VLease)) ?_))
          rintro v75 w74 ⟨rfl, hE76⟩
          exact ⟨rfl, hE76⟩
        · intro L77 w78 hi79
          have hE80 := hi79.ex
          have hE80z := Ex.size hE80
          obtain ⟨_, hx81, rfl⟩ := hi79.dep 8 25 rfl rfl
          exact OpR.op' rfl (Yl.same (yl_not rfl hx81 ⟨rfl, rfl⟩))
        · intro L82 w83 hp84
          have hE85 := hp84.ex
          have hE85z := Ex.size hE85
          have hx86 := hp84.old 0 _ rfl rfl
          have hx87 := hp84.old 1 _ rfl rfl
          have hx88 := hp84.old 5 _ rfl rfl
          obtain ⟨_, hx89, rfl⟩ := hp84.new 9 26 rfl
          refine tn ?_
          refine CW.sub (Sub.cons hx86 (Sub.cons hx87 (Sub.cons hx88 (Sub.cons hx89 (Sub.nil _))))) ?_
          refine bcase (l_eqVLease (p_a.getD k4 d_VLease) (p_b.getD k4 d_VLease)) (fun hb90 => ?_) (fun hb90 => ?_)
          · skip
            refine CW.cond_f rfl (not_t hb90) ?_
            refine CW.skip ?_
            refine bn ?_
            refine tn ?_
            refine CW.region ?_
            refine SeqR.d1 rfl rfl rfl (yl_move rfl rfl ?_)
            refine SeqR.d1 rfl rfl rfl (yl_inc rfl rfl rfl (by omega) ?_)
            refine SeqR.d1 rfl rfl rfl (yl_assign rfl rfl ?_)
            refine SeqR.done ?_
            refine tn ?_
            have hB91 : B_l_eqVLeaseS_0 p_a p_b k4 () = .cont () := by simp only [B_l_eqVLeaseS_0, hb3, hb90, cond_true, cond_false, loopE_done, loopE_ret]
            have q92 := RdS.ex good_VLease hf16 hE85
            have q93 := RdS.ex good_VLease hf17 hE85
            have q94 := Ex.trans hf18 hE85
            exact ⟨p_a.length - (k4 + 1), by omega, k4 + 1, rfl, hlt20, rfl, rfl, rfl, q92, q93, q94, (loopM.cont hlt20 hB91).symm.trans hI12⟩
          · skip
            refine CW.cond_t rfl (not_f hb90) ?_
            refine CW.seq ?_
            refine CW.region ?_
            refine SeqR.d1 rfl rfl rfl (yl_assign rfl rfl ?_)
            refine SeqR.done ?_
            refine tn ?_
            refine CW.ret ?_
            refine br ?_
            refine tr ?_
            refine tr ?_
            have hB96 : B_l_eqVLeaseS_0 p_a p_b k4 () = .ret false := by simp only [B_l_eqVLeaseS_0, hb3, hb90, cond_true, cond_false, loopE_done, loopE_ret]
            have hL95 : loopM (B_l_eqVLeaseS_0 p_a p_b) (p_a.length - 0) 0 () = .ret false := hI12.symm.trans (loopM.ret hlt20 hB96)
            refine br ?_
            refine tr ?_
            refine rr rfl (.cons rfl .nil) ?_
            have hM97 : (l_eqVLeaseS p_a p_b) = (false) := by simp only [l_eqVLeaseS, hb3, hb90, hL95, cond_true, cond_false, loopE_done, loopE_ret]
            rw [hM97]
            have q98 := Ex.trans hf18 hE85
            exact ⟨rfl, q98⟩
      · skip
        refine CW.seq ?_
        refine CW.seq ?_
        refine CW.region ?_
        refine SeqR.d1 rfl rfl rfl (yl_move rfl rfl ?_)
        refine SeqR.d1 rfl rfl rfl (yl_move rfl rfl ?_)
        refine SeqR.d1 rfl rfl rfl (yl_len Try.un35 rfl rfl ?_)
        refine SeqR.d1 rfl rfl rfl (yl_lss rfl rfl rfl ?_)
        refine SeqR.done ?_
        refine tn ?_
        refine CW.cond_f rfl (lt_f hlt20) ?_
        refine CW.exit ?_
        refine tx ?_
        refine tx ?_
        have hL99 : loopM (B_l_eqVLeaseS_0 p_a p_b) (p_a.length - 0) 0 () = .done () := hI12.symm.trans (loopM.stop hlt20)
        refine bx ?_
        refine tn ?_
        refine CW.seq ?_
        refine CW.region ?_
        refine SeqR.d1 rfl rfl rfl (yl_assign rfl rfl ?_)
        refine SeqR.done ?_
        refine tn ?_
        refine CW.ret ?_
        refine rr rfl (.cons rfl .nil) ?_
        have hM100 : (l_eqVLeaseS p_a p_b) = (true) := by simp only [l_eqVLeaseS, hb3, hL99, cond_true, cond_false, loopE_done, loopE_ret]
        rw [hM100]
        exact ⟨rfl, hf18⟩
  · have hb3p := dec_f hb3
    refine CW.cond_t rfl (not_f hb3) ?_
    refine CW.seq ?_
    refine CW.region ?_
    refine SeqR.d1 rfl rfl rfl (yl_assign rfl rfl ?_)
    refine SeqR.done ?_
    refine tn ?_
    refine CW.ret ?_
    refine tr ?_
    refine rr rfl (.cons rfl .nil) ?_
    have hM101 : (l_eqVLeaseS p_a p_b) = (false) := by simp only [l_eqVLeaseS, hb3, cond_true, cond_false, loopE_done, loopE_ret]
    rw [hM101]
    exact ⟨rfl, (Ex.refl w)⟩
set_option maxRecDepth 100000 in
set_option maxHeartbeats 2000000 in
theorem c_l_eqRenew {A1 : Option Addr} {c1 : Nat} {A2 : Option Addr} {c2 : Nat} {A3 : Option Addr} {c3 : Nat} {A4 : Option Addr} {c4 : Nat} {w : World} (p_a : DRenew) (p_b : DRenew) (h1 : RdS w (Iv 0 w.heap.size) (RF e_Clock) 1 A1 p_a.Clocks.length c1 p_a.Clocks) (h2 : RdS w (Iv 0 w.heap.size) (RF e_VLease) 2 A2 p_a.Leases.length c2 p_a.Leases) (h3 : RdS w (Iv 0 w.heap.size) (RF e_Clock) 1 A3 p_b.Clocks.length c3 p_b.Clocks) (h4 : RdS w (Iv 0 w.heap.size) (RF e_VLease) 2 A4 p_b.Leases.length c4 p_b.Leases) : Cal Try.prog 21 #[.agg #[.int .i64 (p_a.Now), .int .i64 (p_a.Master.Off), .slice A1 p_a.Clocks.length c1, .int .i64 (p_a.Ver), .slice A2 p_a.Leases.length c2], .agg #[.int .i64 (p_b.Now), .int .i64 (p_b.Master.Off), .slice A3 p_b.Clocks.length c3, .int .i64 (p_b.Ver), .slice A4 p_b.Leases.length c4]] w fun v w' => v = .bool ((l_eqRenew p_a p_b)) ∧ Ex w w' := by
  refine Cal.of (vs := [.agg #[.int .i64 (p_a.Now), .int .i64 (p_a.Master.Off), .slice A1 p_a.Clocks.length c1, .int .i64 (p_a.Ver), .slice A2 p_a.Leases.length c2], .agg #[.int .i64 (p_b.Now), .int .i64 (p_b.Master.Off), .slice A3 p_b.Clocks.length c3, .int .i64 (p_b.Ver), .slice A4 p_b.Leases.length c4]]) Try.func21 rfl Try.ntmps21 rfl ?_
  refine CW.seq ?_
  refine CW.region ?_
  refine SeqR.d1 rfl rfl rfl (yl_box (cs := [.int .i64 (p_a.Now), .int .i64 (p_a.Master.Off), .slice A1 p_a.Clocks.length c1, .int .i64 (p_a.Ver), .slice A2 p_a.Leases.length c2]) rfl rfl rfl ?_)
  intro b5 w6 hs7 hz8 hB9 hE10
  refine SeqR.d1 rfl rfl rfl (yl_box (cs := [.int .i64 (p_b.Now), .int .i64 (p_b.Master.Off), .slice A3 p_b.Clocks.length c3, .int .i64 (p_b.Ver), .slice A4 p_b.Leases.length c4]) rfl rfl rfl ?_)
  intro b11 w12 hs13 hz14 hB15 hE16
  refine SeqR.d1 rfl rfl rfl (yl_assign rfl rfl ?_)
  refine SeqR.done ?_
  refine tn ?_
  refine CW.seq ?_
  refine CW.seq ?_
  refine CW.region ?_
  refine SeqR.d1 rfl rfl rfl (yl_fieldAddr Try.fd37_0 rfl rfl ?_)
  have q17 := Box.ex hB9 hE16
  refine SeqR.d1 rfl rfl rfl (yl_load1 Try.ty3 rfl rfl ((q17.cell 0).trans rfl) ?_)
  refine SeqR.d1 rfl rfl rfl (yl_fieldAddr Try.fd37_0 rfl rfl ?_)
  refine SeqR.d1 rfl rfl rfl (yl_load1 Try.ty3 rfl rfl ((hB15.cell 0).trans rfl) ?_)
  refine SeqR.d1 rfl rfl rfl (yl_neq rfl rfl rfl ?_)
  refine SeqR.done ?_
  refine tn ?_
  refine bcase (decide (p_a.Now = p_b.Now)) (fun hb18 => ?_) (fun hb18 => ?_)
  · have hb18p := dec_t hb18
    refine CW.cond_f rfl (not_t hb18) ?_
    refine CW.skip ?_
    refine tn ?_
    refine CW.seq ?_
    refine CW.seq ?_
    refine CW.region ?_
    refine SeqR.d1 rfl rfl rfl (yl_fieldAddr Try.fd37_1 rfl rfl ?_)
    refine SeqR.d1 rfl rfl rfl (yl_loadN (cs := [.int .i64 (p_a.Master.Off)]) Try.ty33 rfl rfl (q17.cells (n := 1) rfl) rfl ?_)
    refine SeqR.d1 rfl rfl rfl (yl_fieldAddr Try.fd37_1 rfl rfl ?_)
    refine SeqR.d1 rfl rfl rfl (yl_loadN (cs := [.int .i64 (p_b.Master.Off)]) Try.ty33 rfl rfl (hB15.cells (n := 1) rfl) rfl ?_)
    refine SeqR.d1 rfl rfl rfl (yl_call Try.en57 rfl (opvs_cons rfl (opvs_cons rfl opvs_nil)) (Cal.mono (c_l_eqClock p_a.Master p_b.Master) ?_))
    rintro v20 w19 ⟨rfl, hE21⟩
    have hE21z := Ex.size hE21
    refine SeqR.d1 rfl rfl rfl (yl_not rfl rfl ?_)
    refine SeqR.done ?_
    refine tn ?_
    refine bcase (l_eqClock p_a.Master p_b.Master) (fun hb22 => ?_) (fun hb22 => ?_)
    · skip
      refine CW.cond_f rfl (not_t hb22) ?_
      refine CW.skip ?_
      refine tn ?_
      refine CW.seq ?_
      refine CW.seq ?_
      refine CW.region ?_
      refine SeqR.d1 rfl rfl rfl (yl_fieldAddr Try.fd37_2 rfl rfl ?_)
      have q23 := Box.ex q17 hE21
      refine SeqR.d1 rfl rfl rfl (yl_load1 Try.ty34 rfl rfl ((q23.cell 2).trans rfl) ?_)
      refine SeqR.d1 rfl rfl rfl (yl_fieldAddr Try.fd37_2 rfl rfl ?_)
      have q24 := Box.ex hB15 hE21
      refine SeqR.d1 rfl rfl rfl (yl_load1 Try.ty34 rfl rfl ((q24.cell 2).trans rfl) ?_)
      have q25 := RdS.ex good_Clock h1 hE10
      have q26 := RdS.ex good_Clock q25 hE16
      have q27 := RdS.ex good_Clock q26 hE21
      have q28 := RdS.ex good_Clock h3 hE10
      have q29 := RdS.ex good_Clock q28 hE16
      have q30 := RdS.ex good_Clock q29 hE21
      refine SeqR.d1 rfl rfl rfl (yl_call Try.en58 rfl (opvs_cons rfl (opvs_cons rfl opvs_nil)) (Cal.mono (c_l_eqClockS p_a.Clocks p_b.Clocks (RdS.up q27 good_Clock) (RdS.up q30 good_Clock)) ?_))
      rintro v32 w31 ⟨rfl, hE33⟩
      have hE33z := Ex.size hE33
      refine SeqR.d1 rfl rfl rfl (yl_not rfl rfl ?_)
      refine SeqR.done ?_
      refine tn ?_
      refine bcase (l_eqClockS p_a.Clocks p_b.Clocks) (fun hb34 => ?_) (fun hb34 => ?_)
      · skip
        refine CW.cond_f rfl (not_t hb34) ?_
        refine CW.skip ?_
        refine tn ?_
        refine CW.seq ?_
        refine CW.seq ?_
        refine CW.region ?_
        refine SeqR.d1 rfl rfl rfl (yl_fieldAddr Try.fd37_3 rfl rfl ?_)
        have q35 := Box.ex q23 hE33
        refine SeqR.d1 rfl rfl rfl (yl_load1 Try.ty3 rfl rfl ((q35.cell 3).trans rfl) ?_)
        refine SeqR.d1 rfl rfl rfl (yl_fieldAddr Try.fd37_3 rfl rfl ?_)
        have q36 := Box.ex q24 hE33
        refine SeqR.d1 rfl rfl rfl (yl_load1 Try.ty3 rfl rfl ((q36.cell 3).trans rfl) ?_)
        refine SeqR.d1 rfl rfl rfl (yl_neq rfl rfl rfl ?_)
        refine SeqR.done ?_
        refine tn ?_
        refine bcase (decide (p_a.Ver = p_b.Ver)) (fun hb37 => ?_) (fun hb37 => ?_)
        · have hb37p := dec_t hb37
          refine CW.cond_f rfl (not_t hb37) ?_
          refine CW.skip ?_
          refine tn ?_
          refine CW.seq ?_
          refine CW.seq ?_
          refine CW.region ?_
          refine SeqR.d1 rfl rfl rfl (yl_fieldAddr Try.fd37_4 rfl rfl ?_)
          refine SeqR.d1 rfl rfl rfl (yl_load1 Try.ty35 rfl rfl ((q35.cell 4).trans rfl) ?_)
          refine SeqR.d1 rfl rfl rfl (yl_fieldAddr Try.fd37_4 rfl rfl ?_)
          refine SeqR.d1 rfl rfl rfl (yl_load1 Try.ty35 rfl rfl ((q36.cell 4).trans rfl) ?_)
          have q38 := RdS.ex good_VLease h2 hE10
          have q39 := RdS.ex good_VLease q38 hE16
          have q40 := RdS.ex good_VLease q39 hE21
          have q41 := RdS.ex good_VLease q40 hE33
          have q42 := RdS.ex good_VLease h4 hE10
          have q43 := RdS.ex good_VLease q42 hE16
          have q44 := RdS.ex good_VLease q43 hE21
          have q45 := RdS.ex good_VLease q44 hE33
          refine SeqR.d1 rfl rfl rfl (yl_call Try.en59 rfl (opvs_cons rfl (opvs_cons rfl opvs_nil)) (Cal.mono (c_l_eqVLeaseS p_a.Leases p_b.Leases (RdS.up q41 good_VLease) (RdS.up q45 good_VLease)) ?_))
          rintro v47 w46 ⟨rfl, hE48⟩
          have hE48z := Ex.size hE48
          refine SeqR.d1 rfl rfl rfl (yl_not rfl rfl ?_)
          refine SeqR.done ?_
          refine tn ?_
          refine bcase (l_eqVLeaseS p_a.Leases p_b.Leases) (fun hb49 => ?_) (fun hb49 => ?_)
          · skip
            refine CW.cond_f rfl (not_t hb49) ?_
            refine CW.skip ?_
            refine tn ?_
            refine CW.seq ?_
            refine CW.region ?_
            refine SeqR.d1 rfl rfl rfl (yl_assign rfl rfl ?_)
            refine SeqR.done ?_
            refine tn ?_
            refine CW.ret ?_
            refine rr rfl (.cons rfl .nil) ?_
            have hM50 : (l_eqRenew p_a p_b) = (true) := by simp only [l_eqRenew, hb18, hb22, hb34, hb37, hb49, cond_true, cond_false, loopE_done, loopE_ret]
            rw [hM50]
            have q51 := Ex.trans (Ex.refl w) hE10
            have q52 := Ex.trans q51 hE16
            have q53 := Ex.trans q52 hE21
            have q54 := Ex.trans q53 hE33
            have q55 := Ex.trans q54 hE48
            exact ⟨rfl, q55⟩
          · skip
            refine CW.cond_t rfl (not_f hb49) ?_
            refine CW.seq ?_
            refine CW.region ?_
            refine SeqR.d1 rfl rfl rfl (yl_assign rfl rfl ?_)
            refine SeqR.done ?_
            refine tn ?_
            refine CW.ret ?_
            refine tr ?_
            refine rr rfl (.cons rfl .nil) ?_
            have hM56 : (l_eqRenew p_a p_b) = (false) := by simp only [l_eqRenew, hb18, hb22, hb34, hb37, hb49, cond_true, cond_false, loopE_done, loopE_ret]
            rw [hM56]
            have q57 := Ex.trans (Ex.refl w) hE10
            have q58 := Ex.trans q57 hE16
            have q59 := Ex.trans q58 hE21
            have q60 := Ex.trans q59 hE33
            have q61 := Ex.trans q60 hE48
            exact ⟨rfl, q61⟩
        · have hb37p := dec_f hb37
          refine CW.cond_t rfl (not_f hb37) ?_
          refine CW.seq ?_
          refine CW.region ?_
          refine SeqR.d1 rfl rfl rfl (yl_assign rfl rfl ?_)
          refine SeqR.done ?_
          refine tn ?_
          refine CW.ret ?_
          refine tr ?_
          refine rr rfl (.cons rfl .nil) ?_
          have hM62 : (l_eqRenew p_a p_b) = (false) := by simp only [l_eqRenew, hb18, hb22, hb34, hb37, cond_true, cond_false, loopE_done, loopE_ret]
          rw [hM62]
          have q63 := Ex.trans (Ex.refl w) hE10
          have q64 := Ex.trans q63 hE16
          have q65 := Ex.trans q64 hE21
          have q66 := Ex.trans q65 hE33
          exact ⟨rfl, q66⟩
      · skip
        refine CW.cond_t rfl (not_f hb34) ?_
        refine CW.seq ?_
        refine CW.region ?_
        refine SeqR.d1 rfl rfl rfl (yl_assign rfl rfl ?_)
        refine SeqR.done ?_
        refine tn ?_
        refine CW.ret ?_
        refine tr ?_
        refine rr rfl (.cons rfl .nil) ?_
        have hM67 : (l_eqRenew p_a p_b) = (false) := by simp only [l_eqRenew, hb18, hb22, hb34, cond_true, cond_false, loopE_done, loopE_ret]
        rw [hM67]
        have q68 := Ex.trans (Ex.refl w) hE10
        have q69 := Ex.trans q68 hE16
        have q70 := Ex.trans q69 hE21
        have q71 := Ex.trans q70 hE33
        exact ⟨rfl, q71⟩
    · skip
      refine CW.cond_t rfl (not_f hb22) ?_
      refine CW.seq ?_
      refine CW.region ?_
      refine SeqR.d1 rfl rfl rfl (yl_assign rfl rfl ?_)
      refine SeqR.done ?_
      refine tn ?_
      refine CW.ret ?_
      refine tr ?_
      refine rr rfl (.cons rfl .nil) ?_
      have hM72 : (l_eqRenew p_a p_b) = (false) := by simp only [l_eqRenew, hb18, hb22, cond_true, cond_false, loopE_done, loopE_ret]
      rw [hM72]
      have q73 := Ex.trans (Ex.refl w) hE10
      have q74 := Ex.trans q73 hE16
      have q75 := Ex.trans q74 hE21
      exact ⟨rfl, q75⟩
  · have hb18p := dec_f hb18
    refine CW.cond_t rfl (not_f hb18) ?_
    refine CW.seq ?_
    refine CW.region ?_
    refine SeqR.d1 rfl rfl rfl (yl_assign rfl rfl ?_)
    refine SeqR.done ?_
    refine tn ?_
    refine CW.ret ?_
    refine tr ?_
    refine rr rfl (.cons rfl .nil) ?_
    have hM76 : (l_eqRenew p_a p_b) = (false) := by simp only [l_eqRenew, hb18, cond_true, cond_false, loopE_done, loopE_ret]
    rw [hM76]
    have q77 := Ex.trans (Ex.refl w) hE10
    have q78 := Ex.trans q77 hE16
    exact ⟨rfl, q78⟩
set_option maxRecDepth 100000 in
set_option maxHeartbeats 2000000 in
theorem c_l_szClockS {A1 : Option Addr} {c1 : Nat} {w : World} (p_a : List DClock) (p_left : Int) (h1 : RdS w (Iv 0 w.heap.size) (RF e_Clock) 1 A1 p_a.length c1 p_a) : Cal Try.prog 64 #[.slice A1 p_a.length c1, .int .i64 (p_left)] w fun v w' => v = .int .i64 ((l_szClockS p_a p_left)) ∧ Ex w w' := by
  refine Cal.of (vs := [.slice A1 p_a.length c1, .int .i64 (p_left)]) Try.func64 rfl Try.ntmps64 rfl ?_
  refine CW.seq ?_
  refine CW.region ?_
  refine SeqR.d1 rfl rfl rfl (yl_assign rfl rfl ?_)
  refine SeqR.done ?_
  refine tn ?_
  refine CW.seq ?_
  refine CW.region ?_
  refine SeqR.d1 rfl rfl rfl (yl_move rfl rfl ?_)
  refine SeqR.d1 rfl rfl rfl (yl_move rfl rfl ?_)
  refine SeqR.d1 rfl rfl rfl (yl_len Try.un43 rfl rfl ?_)
  refine SeqR.d1 rfl rfl rfl (yl_sub rfl rfl rfl ?_)
  refine SeqR.d1 rfl rfl rfl (yl_assign rfl rfl ?_)
  refine SeqR.done ?_
  refine tn ?_
  refine CW.seq ?_
  refine CW.seq ?_
  refine CW.region ?_
  refine SeqR.d1 rfl rfl rfl (yl_move rfl rfl ?_)
  refine SeqR.d1 rfl rfl rfl (yl_lss rfl rfl rfl ?_)
  refine SeqR.done ?_
  refine tn ?_
  refine bcase (decide ((IntKind.wrap .i64 (p_left - (p_a.length : Int))) < 0)) (fun hb2 => ?_) (fun hb2 => ?_)
  · have hb2p := dec_t hb2
    refine CW.cond_t rfl hb2 ?_
    refine CW.seq ?_
    refine CW.region ?_
    refine SeqR.d1 rfl rfl rfl (yl_assign rfl rfl ?_)
    refine SeqR.done ?_
    refine tn ?_
    refine CW.ret ?_
    refine tr ?_
    refine rr rfl (.cons rfl .nil) ?_
    have hM3 : (l_szClockS p_a p_left) = (-1) := by simp only [l_szClockS, hb2, cond_true, cond_false, loopE_done, loopE_ret]
    rw [hM3]
    exact ⟨rfl, (Ex.refl w)⟩
  · have hb2p := dec_f hb2
    refine CW.cond_f rfl hb2 ?_
    refine CW.skip ?_
    refine tn ?_
    refine CW.seq ?_
    refine CW.region ?_
    refine SeqR.d1 rfl rfl rfl (yl_move rfl rfl ?_)
    refine SeqR.d1 rfl rfl rfl (yl_assign rfl rfl ?_)
    refine SeqR.done ?_
    refine tn ?_
    refine CW.ret ?_
    refine rr rfl (.cons rfl .nil) ?_
    have hM4 : (l_szClockS p_a p_left) = (IntKind.wrap .i64 (p_left - (p_a.length : Int))) := by simp only [l_szClockS, hb2, cond_true, cond_false, loopE_done, loopE_ret]
    rw [hM4]
    exact ⟨rfl, (Ex.refl w)⟩
set_option maxRecDepth 100000 in
set_option maxHeartbeats 2000000 in
theorem c_l_szVLeaseS {A1 : Option Addr} {c1 : Nat} {w : World} (p_a : List DVLease) (p_left : Int) (h1 : RdS w (Iv 0 w.heap.size) (RF e_VLease) 2 A1 p_a.length c1 p_a) : Cal Try.prog 65 #[.slice A1 p_a.length c1, .int .i64 (p_left)] w fun v w' => v = .int .i64 ((l_szVLeaseS p_a p_left)) ∧ Ex w w' := by
  refine Cal.of (vs := [.slice A1 p_a.length c1, .int .i64 (p_left)]) Try.func65 rfl Try.ntmps65 rfl ?_
  refine CW.seq ?_
  refine CW.region ?_
  refine SeqR.d1 rfl rfl rfl (yl_assign rfl rfl ?_)
  refine SeqR.done ?_
  refine tn ?_
  refine CW.seq ?_
  refine CW.region ?_
  refine SeqR.d1 rfl rfl rfl (yl_move rfl rfl ?_)
  refine SeqR.d1 rfl rfl rfl (yl_move rfl rfl ?_)
  refine SeqR.d1 rfl rfl rfl (yl_len Try.un44 rfl rfl ?_)
  refine SeqR.d1 rfl rfl rfl (yl_sub rfl rfl rfl ?_)
  refine SeqR.d1 rfl rfl rfl (yl_assign rfl rfl ?_)
  refine SeqR.done ?_
  refine tn ?_
  refine CW.seq ?_
  refine CW.seq ?_
  refine CW.region ?_
  refine SeqR.d1 rfl rfl rfl (yl_move rfl rfl ?_)
  refine SeqR.d1 rfl rfl rfl (yl_lss rfl rfl rfl ?_)
  refine SeqR.done ?_
  refine tn ?_
  refine bcase (decide ((IntKind.wrap .i64 (p_left - (p_a.length : Int))) < 0)) (fun hb2 => ?_) (fun hb2 => ?_)
  · have hb2p := dec_t hb2
    refine CW.cond_t rfl hb2 ?_
    refine CW.seq ?_
    refine CW.region ?_
    refine SeqR.d1 rfl rfl rfl (yl_assign rfl rfl ?_)
    refine SeqR.done ?_
    refine tn ?_
    refine CW.ret ?_
    refine tr ?_
    refine rr rfl (.cons rfl .nil) ?_
    have hM3 : (l_szVLeaseS p_a p_left) = (-1) := by simp only [l_szVLeaseS, hb2, cond_true, cond_false, loopE_done, loopE_ret]
    rw [hM3]
    exact ⟨rfl, (Ex.refl w)⟩
  · have hb2p := dec_f hb2
    refine CW.cond_f rfl hb2 ?_
    refine CW.skip ?_
    refine tn ?_
    refine CW.seq ?_
    refine CW.region ?_
    refine SeqR.d1 rfl rfl rfl (yl_move rfl rfl ?_)
    refine SeqR.d1 rfl rfl rfl (yl_assign rfl rfl ?_)
    refine SeqR.done ?_
    refine tn ?_
    refine CW.ret ?_
    refine rr rfl (.cons rfl .nil) ?_
    have hM4 : (l_szVLeaseS p_a p_left) = (IntKind.wrap .i64 (p_left - (p_a.length : Int))) := by simp only [l_szVLeaseS, hb2, cond_true, cond_false, loopE_done, loopE_ret]
    rw [hM4]
    exact ⟨rfl, (Ex.refl w)⟩
set_option maxRecDepth 100000 in
set_option maxHeartbeats 2000000 in
theorem c_l_szRenew {A1 : Option Addr} {c1 : Nat} {A2 : Option Addr} {c2 : Nat} {w : World} (p_a : DRenew) (p_left : Int) (h1 : RdS w (Iv 0 w.heap.size) (RF e_Clock) 1 A1 p_a.Clocks.length c1 p_a.Clocks) (h2 : RdS w (Iv 0 w.heap.size) (RF e_VLease) 2 A2 p_a.Leases.length c2 p_a.Leases) : Cal Try.prog 24 #[.agg #[.int .i64 (p_a.Now), .int .i64 (p_a.Master.Off), .slice A1 p_a.Clocks.length c1, .int .i64 (p_a.Ver), .slice A2 p_a.Leases.length c2], .int .i64 (p_left)] w fun v w' => v = .int .i64 ((l_szRenew p_a p_left)) ∧ Ex w w' := by
  refine Cal.of (vs := [.agg #[.int .i64 (p_a.Now), .int .i64 (p_a.Master.Off), .slice A1 p_a.Clocks.length c1, .int .i64 (p_a.Ver), .slice A2 p_a.Leases.length c2], .int .i64 (p_left)]) Try.func24 rfl Try.ntmps24 rfl ?_
  refine CW.seq ?_
  refine CW.region ?_
  refine SeqR.d1 rfl rfl rfl (yl_box (cs := [.int .i64 (p_a.Now), .int .i64 (p_a.Master.Off), .slice A1 p_a.Clocks.length c1, .int .i64 (p_a.Ver), .slice A2 p_a.Leases.length c2]) rfl rfl rfl ?_)
  intro b3 w4 hs5 hz6 hB7 hE8
  refine SeqR.d1 rfl rfl rfl (yl_assign rfl rfl ?_)
  refine SeqR.done ?_
  refine tn ?_
  refine CW.seq ?_
  refine CW.region ?_
  refine SeqR.d1 rfl rfl rfl (yl_fieldAddr Try.fd46_2 rfl rfl ?_)
  refine SeqR.d1 rfl rfl rfl (yl_load1 Try.ty43 rfl rfl ((hB7.cell 2).trans rfl) ?_)
  refine SeqR.d1 rfl rfl rfl (yl_move rfl rfl ?_)
  have q9 := RdS.ex good_Clock h1 hE8
  refine SeqR.d1 rfl rfl rfl (yl_call Try.en64 rfl (opvs_cons rfl (opvs_cons rfl opvs_nil)) (Cal.mono (c_l_szClockS p_a.Clocks p_left (RdS.up q9 good_Clock)) ?_))
  rintro v11 w10 ⟨rfl, hE12⟩
  have hE12z := Ex.size hE12
  refine SeqR.d1 rfl rfl rfl (yl_assign rfl rfl ?_)
  refine SeqR.done ?_
  refine tn ?_
  refine CW.seq ?_
  refine CW.seq ?_
  refine CW.region ?_
  refine SeqR.d1 rfl rfl rfl (yl_move rfl rfl ?_)
  refine SeqR.d1 rfl rfl rfl (yl_lss rfl rfl rfl ?_)
  refine SeqR.done ?_
  refine tn ?_
  refine bcase (decide ((l_szClockS p_a.Clocks p_left) < 0)) (fun hb13 => ?_) (fun hb13 => ?_)
  · have hb13p := dec_t hb13
    refine CW.cond_t rfl hb13 ?_
    refine CW.seq ?_
    refine CW.region ?_
    refine SeqR.d1 rfl rfl rfl (yl_assign rfl rfl ?_)
    refine SeqR.done ?_
    refine tn ?_
    refine CW.ret ?_
    refine tr ?_
    refine rr rfl (.cons rfl .nil) ?_
    have hM14 : (l_szRenew p_a p_left) = (-1) := by simp only [l_szRenew, hb13, cond_true, cond_false, loopE_done, loopE_ret]
    rw [hM14]
    have q15 := Ex.trans (Ex.refl w) hE8
    have q16 := Ex.trans q15 hE12
    exact ⟨rfl, q16⟩
  · have hb13p := dec_f hb13
    refine CW.cond_f rfl hb13 ?_
    refine CW.skip ?_
    refine tn ?_
    refine CW.seq ?_
    refine CW.region ?_
    refine SeqR.d1 rfl rfl rfl (yl_fieldAddr Try.fd46_4 rfl rfl ?_)
    have q17 := Box.ex hB7 hE12
    refine SeqR.d1 rfl rfl rfl (yl_load1 Try.ty44 rfl rfl ((q17.cell 4).trans rfl) ?_)
    refine SeqR.d1 rfl rfl rfl (yl_move rfl rfl ?_)
    have q18 := RdS.ex good_VLease h2 hE8
    have q19 := RdS.ex good_VLease q18 hE12
    refine SeqR.d1 rfl rfl rfl (yl_call Try.en65 rfl (opvs_cons rfl (opvs_cons rfl opvs_nil)) (Cal.mono (c_l_szVLeaseS p_a.Leases (l_szClockS p_a.Clocks p_left) (RdS.up q19 good_VLease)) ?_))
    rintro v21 w20 ⟨rfl, hE22⟩
    have hE22z := Ex.size hE22
    refine SeqR.d1 rfl rfl rfl (yl_assign rfl rfl ?_)
    refine SeqR.done ?_
    refine tn ?_
    refine CW.seq ?_
    refine CW.seq ?_
    refine CW.region ?_
    refine SeqR.d1 rfl rfl rfl (yl_move rfl rfl ?_)
    refine SeqR.d1 rfl rfl rfl (yl_lss rfl rfl rfl ?_)
    refine SeqR.done ?_
    refine tn ?_
    refine bcase (decide ((l_szVLeaseS p_a.Leases (l_szClockS p_a.Clocks p_left)) < 0)) (fun hb23 => ?_) (fun hb23 => ?_)
    · have hb23p := dec_t hb23
      refine CW.cond_t rfl hb23 ?_
      refine CW.seq ?_
      refine CW.region ?_
      refine SeqR.d1 rfl rfl rfl (yl_assign rfl rfl ?_)
      refine SeqR.done ?_
      refine tn ?_
      refine CW.ret ?_
      refine tr ?_
      refine rr rfl (.cons rfl .nil) ?_
      have hM24 : (l_szRenew p_a p_left) = (-1) := by simp only [l_szRenew, hb13, hb23, cond_true, cond_false, loopE_done, loopE_ret]
      rw [hM24]
      have q25 := Ex.trans (Ex.refl w) hE8
      have q26 := Ex.trans q25 hE12
      have q27 := Ex.trans q26 hE22
      exact ⟨rfl, q27⟩
    · have hb23p := dec_f hb23
      refine CW.cond_f rfl hb23 ?_
      refine CW.skip ?_
      refine tn ?_
      refine CW.seq ?_
      refine CW.region ?_
      refine SeqR.d1 rfl rfl rfl (yl_move rfl rfl ?_)
      refine SeqR.d1 rfl rfl rfl (yl_assign rfl rfl ?_)
      refine SeqR.done ?_
      refine tn ?_
      refine CW.ret ?_
      refine rr rfl (.cons rfl .nil) ?_
      have hM28 : (l_szRenew p_a p_left) = ((l_szVLeaseS p_a.Leases (l_szClockS p_a.Clocks p_left))) := by simp only [l_szRenew, hb13, hb23, cond_true, cond_false, loopE_done, loopE_ret]
      rw [hM28]
      have q29 := Ex.trans (Ex.refl w) hE8
      have q30 := Ex.trans q29 hE12
      have q31 := Ex.trans q30 hE22
      exact ⟨rfl, q31⟩
set_option maxRecDepth 100000 in
set_option maxHeartbeats 2000000 in
theorem c_l_toClock {w : World} (p_a : DClock) : Cal Try.prog 68 #[.agg #[.int .i64 (p_a.Off)]] w fun v w' => v = .agg #[.int .i64 (p_a.Off)] ∧ Ex w w' := by
  refine Cal.of (vs := [.agg #[.int .i64 (p_a.Off)]]) Try.func68 rfl Try.ntmps68 rfl ?_
  refine CW.seq ?_
  refine CW.region ?_
  refine SeqR.d1 rfl rfl rfl (yl_box (cs := [.int .i64 (p_a.Off)]) rfl rfl rfl ?_)
  intro b1 w2 hs3 hz4 hB5 hE6
  refine SeqR.d1 rfl rfl rfl (yl_alloc Try.ty33 (cs := [.int .i64 (0)]) rfl rfl ?_)
  intro b7 w8 hs9 hz10 hB11 hE12
  refine SeqR.done ?_
  refine tn ?_
  refine CW.seq ?_
  refine CW.region ?_
  refine SeqR.d1 rfl rfl rfl (yl_alloc Try.ty33 (cs := [.int .i64 (0)]) rfl rfl ?_)
  intro b13 w14 hs15 hz16 hB17 hE18
  refine SeqR.done ?_
  refine tn ?_
  refine CW.seq ?_
  refine CW.region ?_
  refine SeqR.d1 rfl rfl rfl (yl_fieldAddr Try.fd42_0 rfl rfl ?_)
  have q19 := Box.ex hB5 hE12
  have q20 := Box.ex q19 hE18
  refine SeqR.d1 rfl rfl rfl (yl_load1 Try.ty3 rfl rfl ((q20.cell 0).trans rfl) ?_)
  refine SeqR.d1 rfl rfl rfl (yl_fieldAddr Try.fd33_0 rfl rfl ?_)
  refine SeqR.u rfl rfl (yl_store (vs := [.int .i64 (p_a.Off)]) Try.ty3 rfl rfl rfl rfl rfl rfl hB17 (Nat.le_of_ble_eq_true rfl) ?_)
  intro w21 hB22 hO23
  have hB22 : Box w21 b13 33 [.int .i64 (p_a.Off)] := hB22
  have hO23z := hO23.size
  refine SeqR.done ?_
  refine tn ?_
  refine CW.seq ?_
  refine CW.region ?_
  refine SeqR.d1 rfl rfl rfl (yl_loadN (cs := [.int .i64 (p_a.Off)]) Try.ty33 rfl rfl (hB22.cells (n := 1) rfl) rfl ?_)
  have q24 := Box.ex hB11 hE18
  have q25 := Box.only q24 hO23 (by omega)
  refine SeqR.u rfl rfl (yl_store (vs := [.int .i64 (p_a.Off)]) Try.ty33 rfl rfl rfl rfl rfl rfl q25 (Nat.le_of_ble_eq_true rfl) ?_)
  intro w26 hB27 hO28
  have hB27 : Box w26 b7 33 [.int .i64 (p_a.Off)] := hB27
  have hO28z := hO28.size
  refine SeqR.done ?_
  refine tn ?_
  refine CW.ret ?_
  refine rr rfl (.cons ⟨_, rfl, run_loadN Try.ty33 (cs := [.int .i64 (p_a.Off)]) rfl (hB27.cells (n := 1) rfl)⟩ .nil) ?_
  have hM29 : p_a = (p_a) := (to_Clock _).symm.trans <| by simp only [l_toClock, cond_true, cond_false, loopE_done, loopE_ret]
  rw [hM29]
  have q30 := Ex.trans (Ex.refl w) hE6
  have q31 := Ex.trans q30 hE12
  have q32 := Ex.trans q31 hE18
  have q33 := Below.only q32 hO23 (by omega)
  have q34 := Below.only q33 hO28 (by omega)
  exact ⟨rfl, q34⟩
set_option maxRecDepth 100000 in
set_option maxHeartbeats 2000000 in
theorem c_l_toClockS {A1 : Option Addr} {c1 : Nat} {w : World} (p_a : List DClock) (h1 : RdS w (Iv 0 w.heap.size) (RF e_Clock) 1 A1 p_a.length c1 p_a) (o2 : (okL okT) p_a) : Cal Try.prog 69 #[.slice A1 p_a.length c1] w fun v w' => ∃ A_1 c_1, v = .slice A_1 p_a.length c_1 ∧ RdS w' (Iv w.heap.size w'.heap.size) (RF e_Clock) 1 A_1 p_a.length c_1 p_a ∧ Ex w w' := by
  have hol3 := o2.1
  refine Cal.of (vs := [.slice A1 p_a.length c1]) Try.func69 rfl Try.ntmps69 rfl ?_
  refine CW.seq ?_
  refine CW.region ?_
  refine SeqR.d1 rfl rfl rfl (yl_assign rfl rfl ?_)
  refine SeqR.done ?_
  refine tn ?_
  refine CW.seq ?_
  refine CW.region ?_
  refine SeqR.d1 rfl rfl rfl (yl_move rfl rfl ?_)
  refine SeqR.d1 rfl rfl rfl (yl_len Try.un43 rfl rfl ?_)
  refine SeqR.d1 rfl rfl rfl (yl_make (zs := [.int .i64 (0)]) (n := p_a.length) Try.un34 Try.ty33 rfl rfl (Nat.le_of_ble_eq_true rfl) rfl rfl rfl (by omega) (by omega) ?_)
  intro b4 w5 hs6 hz7 hB8 hE9
  have hO10 : OwnL w5 b4 (b4 + 1) 33 1 (RF e_Clock) (some ⟨b4, 0, none⟩) p_a.length p_a.length (List.replicate p_a.length d_Clock) := by have := OwnL.of_boxF (lo := b4) (hi := b4 + 1) (xs := (List.replicate p_a.length d_Clock)) hB8 (Nat.le_refl _) (Nat.lt_succ_self _) (EncL.zerosF (enc := e_Clock) (d := d_Clock) rfl p_a.length) (by rw [List.length_replicate]; omega); rwa [List.length_replicate] at this
  refine SeqR.d1 rfl rfl rfl (yl_assign rfl rfl ?_)
  refine SeqR.done ?_
  refine tn ?_
  refine CW.seq ?_
  refine CW.seq ?_
  refine CW.region ?_
  refine SeqR.d1 rfl rfl rfl (yl_assign rfl rfl ?_)
  refine SeqR.done ?_
  refine tn ?_
  refine CW.block ?_
  have q26 := RdS.ex good_Clock h1 hE9
  have q27 := Ex.trans (Ex.refl w) hE9
  refine CW.loop (fun m23 L24 w25 => ∃ (k11 : Nat) (x22 : List DClock), m23 = p_a.length - k11 ∧ k11 ≤ p_a.length ∧ lkp L24 0 = some (.slice A1 p_a.length c1) ∧ lkp L24 3 = some (.slice (some ⟨b4, 0, none⟩) p_a.length p_a.length) ∧ lkp L24 4 = some (.int .i64 ((k11 : Int))) ∧ RdS w25 (Iv 0 w.heap.size) (RF e_Clock) 1 A1 p_a.length c1 p_a ∧ OwnL w25 b4 (b4 + 1) 33 1 (RF e_Clock) (some ⟨b4, 0, none⟩) p_a.length p_a.length x22 ∧ Ex w w25 ∧ loopM (B_l_toClockS_0 p_a) (p_a.length - k11) k11 (x22) = loopM (B_l_toClockS_0 p_a) (p_a.length - 0) 0 ((List.replicate p_a.length d_Clock))) (p_a.length - 0) ?_ ?_
  · exact ⟨0, (List.replicate p_a.length d_Clock), rfl, Nat.zero_le _, rfl, rfl, rfl, q26, hO10, q27, rfl⟩
  · rintro m28 L29 w30 ⟨k11, x22, rfl, hk31, hl33, hl34, hl35, hf36, hf37, hf38, hI32⟩
    refine CW.sub (Sub.cons hl33 (Sub.cons hl34 (Sub.cons hl35 (Sub.nil _)))) ?_
    have hf38z := Ex.size hf38
    have hbg39 := RdS.big hf36
    rcases Nat.lt_or_ge k11 p_a.length with hlt40 | hlt40
    · skip
      refine CW.seq ?_
      refine CW.seq ?_
      refine CW.region ?_
      refine SeqR.d1 rfl rfl rfl (yl_move rfl rfl ?_)
      refine SeqR.d1 rfl rfl rfl (yl_move rfl rfl ?_)
      refine SeqR.d1 rfl rfl rfl (yl_len Try.un43 rfl rfl ?_)
      refine SeqR.d1 rfl rfl rfl (yl_lss rfl rfl rfl ?_)
      refine SeqR.done ?_
      refine tn ?_
      refine CW.cond_t rfl (lt_t hlt40) ?_
      refine CW.skip ?_
      refine tn ?_
      refine CW.seq ?_
      refine CW.block ?_
      refine CW.region ?_
      refine SeqR.d1 rfl rfl rfl (yl_move rfl rfl ?_)
      refine SeqR.d1 rfl rfl rfl (yl_move rfl rfl ?_)
      refine SeqR.d1 rfl rfl rfl (yl_move rfl rfl ?_)
      refine SeqR.d1 rfl rfl rfl (yl_move rfl rfl ?_)
      obtain ⟨eb41, eo41, ec41, eA41, eS41, ebl41, el41, eR41, eC41⟩ := RdS.atD hf36 d_Clock (i := k11) (by first | omega | assumption)
      obtain rfl := eR41
      have eC41 : Cells w30 eb41 (eo41 + k11 * 1) [.int .i64 ((p_a.getD k11 d_Clock).Off)] := eC41
      refine SeqR.d1 rfl rfl rfl (yl_indexAddrN Try.un43 Try.ty42 rfl rfl rfl eA41 (by first | omega | assumption | (simp only [IntKind.wrap_i64] at *; omega)) ?_)
      refine SeqR.d1 rfl rfl rfl (yl_loadN (cs := [.int .i64 ((p_a.getD k11 d_Clock).Off)]) Try.ty42 rfl rfl eC41 rfl ?_)
      refine SeqR.d1 rfl rfl rfl (yl_call Try.en68 rfl (opvs_cons rfl opvs_nil) (Cal.mono (c_l_toClock (p_a.getD k11 d_Clock)) ?_))
      rintro v43 w42 ⟨rfl, hE44⟩
      have hE44z := Ex.size hE44
      have q46 := OwnL.ex good_Clock hf37 hE44
      have q45 := OwnL.rd good_Clock q46
      obtain ⟨eb47, eo47, ec47, eA47, eS47, ebl47, el47, eR47, eC47⟩ := RdS.atD q45 d_Clock (i := k11) (by first | omega | assumption)
      obtain rfl := eR47
      have eC47 : Cells w42 eb47 (eo47 + k11 * 1) [.int .i64 ((x22.getD k11 d_Clock).Off)] := eC47
      refine SeqR.d1 rfl rfl rfl (yl_indexAddrN Try.un34 Try.ty33 rfl rfl rfl eA47 (by first | omega | assumption | (simp only [IntKind.wrap_i64] at *; omega)) ?_)
      have hrg48 := OwnL.rng q46 eb47 (by rw [eA47]; rfl)
      refine SeqR.u rfl rfl (yl_storeF (off := eo47) (i := k11) (d := 0) (dx := d_Clock) (x' := (p_a.getD k11 d_Clock)) (vs := [.int .i64 ((p_a.getD k11 d_Clock).Off)]) Try.ty33 rfl q46 eA47 rfl rfl rfl rfl rfl (by first | omega | assumption | (simp only [IntKind.wrap_i64] at *; omega)) (Nat.le_of_ble_eq_true rfl) rfl rfl ?_)
      intro w49 hB50 hO51
      have hO51z := hO51.size
      refine SeqR.done ?_
      refine bn ?_
      refine tn ?_
      refine CW.region ?_
      refine SeqR.d1 rfl rfl rfl (yl_move rfl rfl ?_)
      refine SeqR.d1 rfl rfl rfl (yl_inc rfl rfl rfl (by omega) ?_)
      refine SeqR.d1 rfl rfl rfl (yl_assign rfl rfl ?_)
      refine SeqR.done ?_
      refine tn ?_
      have hB52 : B_l_toClockS_0 p_a k11 (x22) = .cont ((x22.set k11 (p_a.getD k11 d_Clock))) := by simp only [B_l_toClockS_0, cond_true, cond_false, loopE_done, loopE_ret]
      have q53 := RdS.ex good_Clock hf36 hE44
      have q54 := RdS.only good_Clock q53 hO51 (by simp only [Iv]; omega)
      have q55 := Ex.trans hf38 hE44
      have q56 := Below.only q55 hO51 (by omega)
      exact ⟨p_a.length - (k11 + 1), by omega, k11 + 1, (x22.set k11 (p_a.getD k11 d_Clock)), rfl, hlt40, rfl, rfl, rfl, q54, hB50, q56, (loopM.cont hlt40 hB52).symm.trans hI32⟩
    · skip
      refine CW.seq ?_
      refine CW.seq ?_
      refine CW.region ?_
      refine SeqR.d1 rfl rfl rfl (yl_move rfl rfl ?_)
      refine SeqR.d1 rfl rfl rfl (yl_move rfl rfl ?_)
      refine SeqR.d1 rfl rfl rfl (yl_len Try.un43 rfl rfl ?_)
      refine SeqR.d1 rfl rfl rfl (yl_lss rfl rfl rfl ?_)
      refine SeqR.done ?_
      refine tn ?_
      refine CW.cond_f rfl (lt_f hlt40) ?_
      refine CW.exit ?_
      refine tx ?_
      refine tx ?_
      have hL57 : loopM (B_l_toClockS_0 p_a) (p_a.length - 0) 0 ((List.replicate p_a.length d_Clock)) = .done (x22) := hI32.symm.trans (loopM.stop hlt40)
      refine bx ?_
      refine tn ?_
      refine CW.seq ?_
      refine CW.region ?_
      refine SeqR.d1 rfl rfl rfl (yl_move rfl rfl ?_)
      refine SeqR.d1 rfl rfl rfl (yl_assign rfl rfl ?_)
      refine SeqR.done ?_
      refine tn ?_
      refine CW.ret ?_
      refine rr rfl (.cons rfl .nil) ?_
      have hM58 : p_a = (x22) := (to_ClockS _).symm.trans <| by simp only [l_toClockS, hL57, cond_true, cond_false, loopE_done, loopE_ret]
      have q59 := OwnL.rd good_Clock hf37
      subst hM58
      exact ⟨(some ⟨b4, 0, none⟩), p_a.length, rfl, (RdS.wide good_Clock q59 (fun _ hh hl => ⟨by have := hh.1; omega, hl⟩)), hf38⟩
set_option maxRecDepth 100000 in
set_option maxHeartbeats 2000000 in
theorem c_l_toVLease {w : World} (p_a : DVLease) : Cal Try.prog 103 #[.agg #[.int .i64 (p_a.Ver), .int .i64 (p_a.Until)]] w fun v w' => v = .agg #[.int .i64 (p_a.Ver), .int .i64 (p_a.Until)] ∧ Ex w w' := by
  refine Cal.of (vs := [.agg #[.int .i64 (p_a.Ver), .int .i64 (p_a.Until)]]) Try.func103 rfl Try.ntmps103 rfl ?_
  refine CW.seq ?_
  refine CW.region ?_
  refine SeqR.d1 rfl rfl rfl (yl_box (cs := [.int .i64 (p_a.Ver), .int .i64 (p_a.Until)]) rfl rfl rfl ?_)
  intro b1 w2 hs3 hz4 hB5 hE6
  refine SeqR.d1 rfl rfl rfl (yl_alloc Try.ty103 (cs := [.int .i64 (0), .int .i64 (0)]) rfl rfl ?_)
  intro b7 w8 hs9 hz10 hB11 hE12
  refine SeqR.done ?_
  refine tn ?_
  refine CW.seq ?_
  refine CW.region ?_
  refine SeqR.d1 rfl rfl rfl (yl_alloc Try.ty103 (cs := [.int .i64 (0), .int .i64 (0)]) rfl rfl ?_)
  intro b13 w14 hs15 hz16 hB17 hE18
  refine SeqR.done ?_
  refine tn ?_
  refine CW.seq ?_
  refine CW.region ?_
  refine SeqR.d1 rfl rfl rfl (yl_fieldAddr Try.fd129_0 rfl rfl ?_)
  have q19 := Box.ex hB5 hE12
  have q20 := Box.ex q19 hE18
  refine SeqR.d1 rfl rfl rfl (yl_load1 Try.ty3 rfl rfl ((q20.cell 0).trans rfl) ?_)
  refine SeqR.d1 rfl rfl rfl (yl_fieldAddr Try.fd103_0 rfl rfl ?_)
  refine SeqR.u rfl rfl (yl_store (vs := [.int .i64 (p_a.Ver)]) Try.ty3 rfl rfl rfl rfl rfl rfl hB17 (Nat.le_of_ble_eq_true rfl) ?_)
  intro w21 hB22 hO23
  have hB22 : Box w21 b13 103 [.int .i64 (p_a.Ver), .int .i64 (0)] := hB22
  have hO23z := hO23.size
  refine SeqR.done ?_
  refine tn ?_
  refine CW.seq ?_
  refine CW.region ?_
  refine SeqR.d1 rfl rfl rfl (yl_fieldAddr Try.fd129_1 rfl rfl ?_)
  have q24 := Box.only q20 hO23 (by omega)
  refine SeqR.d1 rfl rfl rfl (yl_load1 Try.ty3 rfl rfl ((q24.cell 1).trans rfl) ?_)
  refine SeqR.d1 rfl rfl rfl (yl_fieldAddr Try.fd103_1 rfl rfl ?_)
  refine SeqR.u rfl rfl (yl_store (vs := [.int .i64 (p_a.Until)]) Try.ty3 rfl rfl rfl rfl rfl rfl hB22 (Nat.le_of_ble_eq_true rfl) ?_)
  intro w25 hB26 hO27
  have hB26 : Box w25 b13 103 [.int .i64 (p_a.Ver), .int .i64 (p_a.Until)] := hB26
  have hO27z := hO27.size
  refine SeqR.done ?_
  refine tn ?_
  refine CW.seq ?_
  refine CW.region ?_
  refine SeqR.d1 rfl rfl rfl (yl_loadN (cs := [.int .i64 (p_a.Ver), .int .i64 (p_a.Until)]) Try.ty103 rfl rfl (hB26.cells (n := 2) rfl) rfl ?_)
  have q28 := Box.ex hB11 hE18
  have q29 := Box.only q28 hO23 (by omega)
  have q30 := Box.only q29 hO27 (by omega)
  refine SeqR.u rfl rfl (yl_store (vs := [.int .i64 (p_a.Ver), .int .i64 (p_a.Until)]) Try.ty103 rfl rfl rfl rfl rfl rfl q30 (Nat.le_of_ble_eq_true rfl) ?_)
  intro w31 hB32 hO33
  have hB32 : Box w31 b7 103 [.int .i64 (p_a.Ver), .int .i64 (p_a.Until)] := hB32
  have hO33z := hO33.size
  refine SeqR.done ?_
  refine tn ?_
  refine CW.ret ?_
  refine rr rfl (.cons ⟨_, rfl, run_loadN Try.ty103 (cs := [.int .i64 (p_a.Ver), .int .i64 (p_a.Until)]) rfl (hB32.cells (n := 2) rfl)⟩ .nil) ?_
  have hM34 : p_a = (p_a) := (to_VLease _).symm.trans <| by simp only [l_toVLease, cond_true, cond_false, loopE_done, loopE_ret]
  rw [hM34]
  have q35 := Ex.trans (Ex.refl w) hE6
  have q36 := Ex.trans q35 hE12
  have q37 := Ex.trans q36 hE18
  have q38 := Below.only q37 hO23 (by omega)
  have q39 := Below.only q38 hO27 (by omega)
  have q40 := Below.only q39 hO33 (by omega)
  exact ⟨rfl, q40⟩
set_option maxRecDepth 100000 in
set_option maxHeartbeats 2000000 in
theorem c_l_toVLeaseS {A1 : Option Addr} {c1 : Nat} {w : World} (p_a : List DVLease) (h1 : RdS w (Iv 0 w.heap.size) (RF e_VLease) 2 A1 p_a.length c1 p_a) (o2 : (okL okT) p_a) : Cal Try.prog 70 #[.slice A1 p_a.length c1] w fun v w' => ∃ A_1 c_1, v = .slice A_1 p_a.length c_1 ∧ RdS w' (Iv w.heap.size w'.heap.size) (RF e_VLease) 2 A_1 p_a.length c_1 p_a ∧ Ex w w' := by
  have hol3 := o2.1
  refine Cal.of (vs := [.slice A1 p_a.length c1]) Try.func70 rfl Try.ntmps70 rfl ?_
  refine CW.seq ?_
  refine CW.region ?_
  refine SeqR.d1 rfl rfl rfl (yl_assign rfl rfl ?_)
  refine SeqR.done ?_
  refine tn ?_
  refine CW.seq ?_
  refine CW.region ?_
  refine SeqR.d1 rfl rfl rfl (yl_move rfl rfl ?_)
  refine SeqR.d1 rfl rfl rfl (yl_len Try.un44 rfl rfl ?_)
  refine SeqR.d1 rfl rfl rfl (yl_make (zs := [.int .i64 (0), .int .i64 (0)]) (n := p_a.length) Try.un35 Try.ty103 rfl rfl (Nat.le_of_ble_eq_true rfl) rfl rfl rfl (by omega) (by omega) ?_)
  intro b4 w5 hs6 hz7 hB8 hE9
  have hO10 : OwnL w5 b4 (b4 + 1) 103 2 (RF e_VLease) (some ⟨b4, 0, none⟩) p_a.length p_a.length (List.replicate p_a.length d_VLease) := by have := OwnL.of_boxF (lo := b4) (hi := b4 + 1) (xs := (List.replicate p_a.length d_VLease)) hB8 (Nat.le_refl _) (Nat.lt_succ_self _) (EncL.zerosF (enc := e_VLease) (d := d_VLease) rfl p_a.length) (by rw [List.length_replicate]; omega); rwa [List.length_replicate] at this
  refine SeqR.d1 rfl rfl rfl (yl_assign rfl rfl ?_)
  refine SeqR.done ?_
  refine tn ?_
  refine CW.seq ?_
  refine CW.seq ?_
  refine CW.region ?_
  refine SeqR.d1 rfl rfl rfl (yl_assign rfl rfl ?_)
  refine SeqR.done ?_
  refine tn ?_
  refine CW.block ?_
  have q26 := RdS.ex good_VLease h1 hE9
  have q27 := Ex.trans (Ex.refl w) hE9
  refine CW.loop (fun m23 L24 w25 => ∃ (k11 : Nat) (x22 : List DVLease), m23 = p_a.length - k11 ∧ k11 ≤ p_a.length ∧ lkp L24 0 = some (.slice A1 p_a.length c1) ∧ lkp L24 3 = some (.slice (some ⟨b4, 0, none⟩) p_a.length p_a.length) ∧ lkp L24 4 = some (.int .i64 ((k11 : Int))) ∧ RdS w25 (Iv 0 w.heap.size) (RF e_VLease) 2 A1 p_a.length c1 p_a ∧ OwnL w25 b4 (b4 + 1) 103 2 (RF e_VLease) (some ⟨b4, 0, none⟩) p_a.length p_a.length x22 ∧ Ex w w25 ∧ loopM (B_l_toVLeaseS_0 p_a) (p_a.length - k11) k11 (x22) = loopM (B_l_toVLeaseS_0 p_a) (p_a.length - 0) 0 ((List.replicate p_a.length d_VLease))) (p_a.length - 0) ?_ ?_
  · exact ⟨0, (List.replicate p_a.length d_VLease), rfl, Nat.zero_le _, rfl, rfl, rfl, q26, hO10, q27, rfl⟩
  · rintro m28 L29 w30 ⟨k11, x22, rfl, hk31, hl33, hl34, hl35, hf36, hf37, hf38, hI32⟩
    refine CW.sub (Sub.cons hl33 (Sub.cons hl34 (Sub.cons hl35 (Sub.nil _)))) ?_
    have hf38z := Ex.size hf38
    have hbg39 := RdS.big hf36
    rcases Nat.lt_or_ge k11 p_a.length with hlt40 | hlt40
    · skip
      refine CW.seq ?_
      refine CW.seq ?_
      refine CW.region ?_
      refine SeqR.d1 rfl rfl rfl (yl_move rfl rfl ?_)
      refine SeqR.d1 rfl rfl rfl (yl_move rfl rfl ?_)
      refine SeqR.d1 rfl rfl rfl (yl_len Try.un44 rfl rfl ?_)
      refine SeqR.d1 rfl rfl rfl (yl_lss rfl rfl rfl ?_)
      refine SeqR.done ?_
      refine tn ?_
      refine CW.cond_t rfl (lt_t hlt40) ?_
      refine CW.skip ?_
      refine tn ?_
      refine CW.seq ?_
      refine CW.block ?_
      refine CW.region ?_
      refine SeqR.d1 rfl rfl rfl (yl_move rfl rfl ?_)
      refine SeqR.d1 rfl rfl rfl (yl_move rfl rfl ?_)
      refine SeqR.d1 rfl rfl rfl (yl_move rfl rfl ?_)
      refine SeqR.d1 rfl rfl rfl (yl_move rfl rfl ?_)
      obtain ⟨eb41, eo41, ec41, eA41, eS41, ebl41, el41, eR41, eC41⟩ := RdS.atD hf36 d_VLease (i := k11) (by first | omega | assumption)
      obtain rfl := eR41
      have eC41 : Cells w30 eb41 (eo41 + k11 * 2) [.int .i64 ((p_a.getD k11 d_VLease).Ver), .int .i64 ((p_a.getD k11 d_VLease).Until)] := eC41
      refine SeqR.d1 rfl rfl rfl (yl_indexAddrN Try.un44 Try.ty129 rfl rfl rfl eA41 (by first | omega | assumption | (simp only [IntKind.wrap_i64] at *; omega)) ?_)
      refine SeqR.d1 rfl rfl rfl (yl_loadN (cs := [.int .i64 ((p_a.getD k11 d_VLease).Ver), .int .i64 ((p_a.getD k11 d_VLease).Until)]) Try.ty129 rfl rfl eC41 rfl ?_)
      refine SeqR.d1 rfl rfl rfl (yl_call Try.en103 rfl (opvs_cons rfl opvs_nil) (Cal.mono (c_l_toVLease (p_a.getD k11 d_VLease)) ?_))
      rintro v43 w42 ⟨rfl, hE44⟩
      have hE44z := Ex.size hE44
      have q46 := OwnL.ex good_VLease hf37 hE44
      have q45 := OwnL.rd good_VLease q46
      obtain ⟨eb47, eo47, ec47, eA47, eS47, ebl47, el47, eR47, eC47⟩ := RdS.atD q45 d_VLease (i := k11) (by first | omega | assumption)
      obtain rfl := eR47
      have eC47 : Cells w42 eb47 (eo47 + k11 * 2) [.int .i64 ((x22.getD k11 d_VLease).Ver), .int .i64 ((x22.getD k11 d_VLease).Until)] := eC47
      refine SeqR.d1 rfl rfl rfl (yl_indexAddrN Try.un35 Try.ty103 rfl rfl rfl eA47 (by first | omega | assumption | (simp only [IntKind.wrap_i64] at *; omega)) ?_)
      have hrg48 := OwnL.rng q46 eb47 (by rw [eA47]; rfl)
      refine SeqR.u rfl rfl (yl_storeF (off := eo47) (i := k11) (d := 0) (dx := d_VLease) (x' := (p_a.getD k11 d_VLease)) (vs := [.int .i64 ((p_a.getD k11 d_VLease).Ver), .int .i64 ((p_a.getD k11 d_VLease).Until)]) Try.ty103 rfl q46 eA47 rfl rfl rfl rfl rfl (by first | omega | assumption | (simp only [IntKind.wrap_i64] at *; omega)) (Nat.le_of_ble_eq_true rfl) rfl rfl ?_)
      intro w49 hB50 hO51
      have hO51z := hO51.size
      refine SeqR.done ?_
      refine bn ?_
      refine tn ?_
      refine CW.region ?_
      refine SeqR.d1 rfl rfl rfl (yl_move rfl rfl ?_)
      refine SeqR.d1 rfl rfl rfl (yl_inc rfl rfl rfl (by omega) ?_)
      refine SeqR.d1 rfl rfl rfl (yl_assign rfl rfl ?_)
      refine SeqR.done ?_
      refine tn ?_
      have hB52 : B_l_toVLeaseS_0 p_a k11 (x22) = .cont ((x22.set k11 (p_a.getD k11 d_VLease))) := by simp only [B_l_toVLeaseS_0, cond_true, cond_false, loopE_done, loopE_ret]
      have q53 := RdS.ex good_VLease hf36 hE44
      have q54 := RdS.only good_VLease q53 hO51 (by simp only [Iv]; omega)
      have q55 := Ex.trans hf38 hE44
      have q56 := Below.only q55 hO51 (by omega)
      exact ⟨p_a.length - (k11 + 1), by omega, k11 + 1, (x22.set k11 (p_a.getD k11 d_VLease)), rfl, hlt40, rfl, rfl, rfl, q54, hB50, q56, (loopM.cont hlt40 hB52).symm.trans hI32⟩
    · skip
      refine CW.seq ?_
      refine CW.seq ?_
      refine CW.region ?_
      refine SeqR.d1 rfl rfl rfl (yl_move rfl rfl ?_)
      refine SeqR.d1 rfl rfl rfl (yl_move rfl rfl ?_)
      refine SeqR.d1 rfl rfl rfl (yl_len Try.un44 rfl rfl ?_)
      refine SeqR.d1 rfl rfl rfl (yl_lss rfl rfl rfl ?_)
      refine SeqR.done ?_
      refine tn ?_
      refine CW.cond_f rfl (lt_f hlt40) ?_
      refine CW.exit ?_
      refine tx ?_
      refine tx ?_
      have hL57 : loopM (B_l_toVLeaseS_0 p_a) (p_a.length - 0) 0 ((List.replicate p_a.length d_VLease)) = .done (x22) := hI32.symm.trans (loopM.stop hlt40)
      refine bx ?_
      refine tn ?_
      refine CW.seq ?_
      refine CW.region ?_
      refine SeqR.d1 rfl rfl rfl (yl_move rfl rfl ?_)
      refine SeqR.d1 rfl rfl rfl (yl_assign rfl rfl ?_)
      refine SeqR.done ?_
      refine tn ?_
      refine CW.ret ?_
      refine rr rfl (.cons rfl .nil) ?_
      have hM58 : p_a = (x22) := (to_VLeaseS _).symm.trans <| by simp only [l_toVLeaseS, hL57, cond_true, cond_false, loopE_done, loopE_ret]
      have q59 := OwnL.rd good_VLease hf37
      subst hM58
      exact ⟨(some ⟨b4, 0, none⟩), p_a.length, rfl, (RdS.wide good_VLease q59 (fun _ hh hl => ⟨by have := hh.1; omega, hl⟩)), hf38⟩
set_option maxRecDepth 100000 in
set_option maxHeartbeats 2000000 in
theorem c_l_toRenew {A1 : Option Addr} {c1 : Nat} {A2 : Option Addr} {c2 : Nat} {w : World} (p_a : DRenew) (h1 : RdS w (Iv 0 w.heap.size) (RF e_Clock) 1 A1 p_a.Clocks.length c1 p_a.Clocks) (h2 : RdS w (Iv 0 w.heap.size) (RF e_VLease) 2 A2 p_a.Leases.length c2 p_a.Leases) (o3 : ok_Renew p_a) : Cal Try.prog 26 #[.agg #[.int .i64 (p_a.Now), .int .i64 (p_a.Master.Off), .slice A1 p_a.Clocks.length c1, .int .i64 (p_a.Ver), .slice A2 p_a.Leases.length c2]] w fun v w' => ∃ A_1 c_1 A_2 c_2, v = .agg #[.int .i64 (p_a.Now), .int .i64 (p_a.Master.Off), .slice A_1 p_a.Clocks.length c_1, .int .i64 (p_a.Ver), .slice A_2 p_a.Leases.length c_2] ∧ RdS w' (Iv w.heap.size w'.heap.size) (RF e_Clock) 1 A_1 p_a.Clocks.length c_1 p_a.Clocks ∧ RdS w' (Iv w.heap.size w'.heap.size) (RF e_VLease) 2 A_2 p_a.Leases.length c_2 p_a.Leases ∧ Ex w w' := by
  have hol4 := o3.1.1
  have hol5 := o3.2.1
  refine Cal.of (vs := [.agg #[.int .i64 (p_a.Now), .int .i64 (p_a.Master.Off), .slice A1 p_a.Clocks.length c1, .int .i64 (p_a.Ver), .slice A2 p_a.Leases.length c2]]) Try.func26 rfl Try.ntmps26 rfl ?_
  refine CW.seq ?_
  refine CW.region ?_
  refine SeqR.d1 rfl rfl rfl (yl_box (cs := [.int .i64 (p_a.Now), .int .i64 (p_a.Master.Off), .slice A1 p_a.Clocks.length c1, .int .i64 (p_a.Ver), .slice A2 p_a.Leases.length c2]) rfl rfl rfl ?_)
  intro b6 w7 hs8 hz9 hB10 hE11
  refine SeqR.d1 rfl rfl rfl (yl_alloc Try.ty37 (cs := [.int .i64 (0), .int .i64 (0), .slice none 0 0, .int .i64 (0), .slice none 0 0]) rfl rfl ?_)
  intro b12 w13 hs14 hz15 hB16 hE17
  refine SeqR.done ?_
  refine tn ?_
  refine CW.seq ?_
  refine CW.region ?_
  refine SeqR.d1 rfl rfl rfl (yl_alloc Try.ty37 (cs := [.int .i64 (0), .int .i64 (0), .slice none 0 0, .int .i64 (0), .slice none 0 0]) rfl rfl ?_)
  intro b18 w19 hs20 hz21 hB22 hE23
  refine SeqR.done ?_
  refine tn ?_
  refine CW.seq ?_
  refine CW.region ?_
  refine SeqR.d1 rfl rfl rfl (yl_fieldAddr Try.fd46_0 rfl rfl ?_)
  have q24 := Box.ex hB10 hE17
  have q25 := Box.ex q24 hE23
  refine SeqR.d1 rfl rfl rfl (yl_load1 Try.ty3 rfl rfl ((q25.cell 0).trans rfl) ?_)
  refine SeqR.d1 rfl rfl rfl (yl_fieldAddr Try.fd37_0 rfl rfl ?_)
  refine SeqR.u rfl rfl (yl_store (vs := [.int .i64 (p_a.Now)]) Try.ty3 rfl rfl rfl rfl rfl rfl hB22 (Nat.le_of_ble_eq_true rfl) ?_)
  intro w26 hB27 hO28
  have hB27 : Box w26 b18 37 [.int .i64 (p_a.Now), .int .i64 (0), .slice none 0 0, .int .i64 (0), .slice none 0 0] := hB27
  have hO28z := hO28.size
  refine SeqR.done ?_
  refine tn ?_
  refine CW.seq ?_
  refine CW.region ?_
  refine SeqR.d1 rfl rfl rfl (yl_fieldAddr Try.fd46_1 rfl rfl ?_)
  have q29 := Box.only q25 hO28 (by omega)
  refine SeqR.d1 rfl rfl rfl (yl_loadN (cs := [.int .i64 (p_a.Master.Off)]) Try.ty42 rfl rfl (q29.cells (n := 1) rfl) rfl ?_)
  refine SeqR.d1 rfl rfl rfl (yl_call Try.en68 rfl (opvs_cons rfl opvs_nil) (Cal.mono (c_l_toClock p_a.Master) ?_))
  rintro v31 w30 ⟨rfl, hE32⟩
  have hE32z := Ex.size hE32
  refine SeqR.d1 rfl rfl rfl (yl_fieldAddr Try.fd37_1 rfl rfl ?_)
  have q33 := Box.ex hB27 hE32
  refine SeqR.u rfl rfl (yl_store (vs := [.int .i64 (p_a.Master.Off)]) Try.ty33 rfl rfl rfl rfl rfl rfl q33 (Nat.le_of_ble_eq_true rfl) ?_)
  intro w34 hB35 hO36
  have hB35 : Box w34 b18 37 [.int .i64 (p_a.Now), .int .i64 (p_a.Master.Off), .slice none 0 0, .int .i64 (0), .slice none 0 0] := hB35
  have hO36z := hO36.size
  refine SeqR.done ?_
  refine tn ?_
  refine CW.seq ?_
  refine CW.region ?_
  refine SeqR.d1 rfl rfl rfl (yl_fieldAddr Try.fd46_2 rfl rfl ?_)
  have q37 := Box.ex q29 hE32
  have q38 := Box.only q37 hO36 (by omega)
  refine SeqR.d1 rfl rfl rfl (yl_load1 Try.ty43 rfl rfl ((q38.cell 2).trans rfl) ?_)
  have q39 := RdS.ex good_Clock h1 hE11
  have q40 := RdS.ex good_Clock q39 hE17
  have q41 := RdS.ex good_Clock q40 hE23
  have q42 := RdS.only good_Clock q41 hO28 (by simp only [Iv]; omega)
  have q43 := RdS.ex good_Clock q42 hE32
  have q44 := RdS.only good_Clock q43 hO36 (by simp only [Iv]; omega)
  refine SeqR.d1 rfl rfl rfl (yl_call Try.en69 rfl (opvs_cons rfl opvs_nil) (Cal.mono (c_l_toClockS p_a.Clocks (RdS.up q44 good_Clock) o3.1) ?_))
  rintro v47 w45 ⟨A46, c46, rfl, h46, hE48⟩
  have hE48z := Ex.size hE48
  refine SeqR.d1 rfl rfl rfl (yl_fieldAddr Try.fd37_2 rfl rfl ?_)
  have q49 := Box.ex hB35 hE48
  refine SeqR.u rfl rfl (yl_store (vs := [.slice A46 p_a.Clocks.length c46]) Try.ty34 rfl rfl rfl rfl rfl rfl q49 (Nat.le_of_ble_eq_true rfl) ?_)
  intro w50 hB51 hO52
  have hB51 : Box w50 b18 37 [.int .i64 (p_a.Now), .int .i64 (p_a.Master.Off), .slice A46 p_a.Clocks.length c46, .int .i64 (0), .slice none 0 0] := hB51
  have hO52z := hO52.size
  refine SeqR.done ?_
  refine tn ?_
  refine CW.seq ?_
  refine CW.region ?_
  refine SeqR.d1 rfl rfl rfl (yl_fieldAddr Try.fd46_3 rfl rfl ?_)
  have q53 := Box.ex q38 hE48
  have q54 := Box.only q53 hO52 (by omega)
  refine SeqR.d1 rfl rfl rfl (yl_load1 Try.ty3 rfl rfl ((q54.cell 3).trans rfl) ?_)
  refine SeqR.d1 rfl rfl rfl (yl_fieldAddr Try.fd37_3 rfl rfl ?_)
  refine SeqR.u rfl rfl (yl_store (vs := [.int .i64 (p_a.Ver)]) Try.ty3 rfl rfl rfl rfl rfl rfl hB51 (Nat.le_of_ble_eq_true rfl) ?_)
  intro w55 hB56 hO57
  have hB56 : Box w55 b18 37 [.int .i64 (p_a.Now), .int .i64 (p_a.Master.Off), .slice A46 p_a.Clocks.length c46, .int .i64 (p_a.Ver), .slice none 0 0] := hB56
  have hO57z := hO57.size
  refine SeqR.done ?_
  refine tn ?_
  refine CW.seq ?_
  refine CW.region ?_
  refine SeqR.d1 rfl rfl rfl (yl_fieldAddr Try.fd46_4 rfl rfl ?_)
  have q58 := Box.only q54 hO57 (by omega)
  refine SeqR.d1 rfl rfl rfl (yl_load1 Try.ty44 rfl rfl ((q58.cell 4).trans rfl) ?_)
  have q59 := RdS.ex good_VLease h2 hE11
  have q60 := RdS.ex good_VLease q59 hE17
  have q61 := RdS.ex good_VLease q60 hE23
  have q62 := RdS.only good_VLease q61 hO28 (by simp only [Iv]; omega)
  have q63 := RdS.ex good_VLease q62 hE32
  have q64 := RdS.only good_VLease q63 hO36 (by simp only [Iv]; omega)
  have q65 := RdS.ex good_VLease q64 hE48
  have q66 := RdS.only good_VLease q65 hO52 (by simp only [Iv]; omega)
  have q67 := RdS.only good_VLease q66 hO57 (by simp only [Iv]; omega)
  refine SeqR.d1 rfl rfl rfl (yl_call Try.en70 rfl (opvs_cons rfl opvs_nil) (Cal.mono (c_l_toVLeaseS p_a.Leases (RdS.up q67 good_VLease) o3.2) ?_))
  rintro v70 w68 ⟨A69, c69, rfl, h69, hE71⟩
  have hE71z := Ex.size hE71
  refine SeqR.d1 rfl rfl rfl (yl_fieldAddr Try.fd37_4 rfl rfl ?_)
  have q72 := Box.ex hB56 hE71
  refine SeqR.u rfl rfl (yl_store (vs := [.slice A69 p_a.Leases.length c69]) Try.ty35 rfl rfl rfl rfl rfl rfl q72 (Nat.le_of_ble_eq_true rfl) ?_)
  intro w73 hB74 hO75
  have hB74 : Box w73 b18 37 [.int .i64 (p_a.Now), .int .i64 (p_a.Master.Off), .slice A46 p_a.Clocks.length c46, .int .i64 (p_a.Ver), .slice A69 p_a.Leases.length c69] := hB74
  have hO75z := hO75.size
  refine SeqR.done ?_
  refine tn ?_
  refine CW.seq ?_
  refine CW.region ?_
  refine SeqR.d1 rfl rfl rfl (yl_loadN (cs := [.int .i64 (p_a.Now), .int .i64 (p_a.Master.Off), .slice A46 p_a.Clocks.length c46, .int .i64 (p_a.Ver), .slice A69 p_a.Leases.length c69]) Try.ty37 rfl rfl (hB74.cells (n := 5) rfl) rfl ?_)
  have q76 := Box.ex hB16 hE23
  have q77 := Box.only q76 hO28 (by omega)
  have q78 := Box.ex q77 hE32
  have q79 := Box.only q78 hO36 (by omega)
  have q80 := Box.ex q79 hE48
  have q81 := Box.only q80 hO52 (by omega)
  have q82 := Box.only q81 hO57 (by omega)
  have q83 := Box.ex q82 hE71
  have q84 := Box.only q83 hO75 (by omega)
  refine SeqR.u rfl rfl (yl_store (vs := [.int .i64 (p_a.Now), .int .i64 (p_a.Master.Off), .slice A46 p_a.Clocks.length c46, .int .i64 (p_a.Ver), .slice A69 p_a.Leases.length c69]) Try.ty37 rfl rfl rfl rfl rfl rfl q84 (Nat.le_of_ble_eq_true rfl) ?_)
  intro w85 hB86 hO87
  have hB86 : Box w85 b12 37 [.int .i64 (p_a.Now), .int .i64 (p_a.Master.Off), .slice A46 p_a.Clocks.length c46, .int .i64 (p_a.Ver), .slice A69 p_a.Leases.length c69] := hB86
  have hO87z := hO87.size
  refine SeqR.done ?_
  refine tn ?_
  refine CW.ret ?_
  refine rr rfl (.cons ⟨_, rfl, run_loadN Try.ty37 (cs := [.int .i64 (p_a.Now), .int .i64 (p_a.Master.Off), .slice A46 p_a.Clocks.length c46, .int .i64 (p_a.Ver), .slice A69 p_a.Leases.length c69]) rfl (hB86.cells (n := 5) rfl)⟩ .nil) ?_
  have hM88 : p_a = (p_a) := (to_Renew _).symm.trans <| by simp only [l_toRenew, cond_true, cond_false, loopE_done, loopE_ret]
  have q89 := RdS.only good_Clock h46 hO52 (by simp only [Iv]; omega)
  have q90 := RdS.only good_Clock q89 hO57 (by simp only [Iv]; omega)
  have q91 := RdS.ex good_Clock q90 hE71
  have q92 := RdS.only good_Clock q91 hO75 (by simp only [Iv]; omega)
  have q93 := RdS.only good_Clock q92 hO87 (by simp only [Iv]; omega)
  have q94 := RdS.only good_VLease h69 hO75 (by simp only [Iv]; omega)
  have q95 := RdS.only good_VLease q94 hO87 (by simp only [Iv]; omega)
  rw [hM88]
  have q96 := Ex.trans (Ex.refl w) hE11
  have q97 := Ex.trans q96 hE17
  have q98 := Ex.trans q97 hE23
  have q99 := Below.only q98 hO28 (by omega)
  have q100 := Ex.trans q99 hE32
  have q101 := Below.only q100 hO36 (by omega)
  have q102 := Ex.trans q101 hE48
  have q103 := Below.only q102 hO52 (by omega)
  have q104 := Below.only q103 hO57 (by omega)
  have q105 := Ex.trans q104 hE71
  have q106 := Below.only q105 hO75 (by omega)
  have q107 := Below.only q106 hO87 (by omega)
  exact ⟨A46, c46, A69, c69, rfl, (RdS.wide good_Clock q93 (fun _ hh hl => ⟨by have := hh.1; omega, hl⟩)), (RdS.wide good_VLease q95 (fun _ hh hl => ⟨by have := hh.1; omega, hl⟩)), q107⟩
set_option maxRecDepth 100000 in
set_option maxHeartbeats 2000000 in
theorem c_s_l1In {w : World} (p_n : Int) (p_lo : Int) (p_hi : Int) : Cal Try.prog 50 #[.int .i64 (p_n), .int .i64 (p_lo), .int .i64 (p_hi)] w fun v w' => v = .bool ((s_l1In p_n p_lo p_hi)) ∧ Ex w w' := by
  refine Cal.of (vs := [.int .i64 (p_n), .int .i64 (p_lo), .int .i64 (p_hi)]) Try.func50 rfl Try.ntmps50 rfl ?_
  refine CW.seq ?_
  refine CW.region ?_
  refine SeqR.d1 rfl rfl rfl (yl_assign rfl rfl ?_)
  refine SeqR.done ?_
  refine tn ?_
  refine CW.seq ?_
  refine CW.region ?_
  refine SeqR.d1 rfl rfl rfl (yl_move rfl rfl ?_)
  refine SeqR.d1 rfl rfl rfl (yl_move rfl rfl ?_)
  refine SeqR.d1 rfl rfl rfl (yl_geq rfl rfl rfl ?_)
  refine SeqR.d1 rfl rfl rfl (yl_move rfl rfl ?_)
  refine bcase (decide (p_lo ≤ p_n)) (fun hb1 => ?_) (fun hb1 => ?_)
  · have hb1p := dec_t hb1
    refine SeqR.y rfl rfl rfl rfl rfl hb1 (yl_move rfl rfl ?_)
    refine SeqR.y rfl rfl rfl rfl rfl hb1 (yl_move rfl rfl ?_)
    refine SeqR.y rfl rfl rfl rfl rfl hb1 (yl_leq rfl rfl rfl ?_)
    refine SeqR.d1 rfl rfl rfl (yl_pick_t rfl rfl hb1 rfl ?_)
    refine SeqR.d1 rfl rfl rfl (yl_assign rfl rfl ?_)
    refine SeqR.done ?_
    refine tn ?_
    refine CW.ret ?_
    refine rr rfl (.cons rfl .nil) ?_
    have hM2 : (s_l1In p_n p_lo p_hi) = (decide (p_n ≤ p_hi)) := by simp only [s_l1In, hb1, cond_true, cond_false, loopE_done, loopE_ret]
    rw [hM2]
    exact ⟨rfl, (Ex.refl w)⟩
  · have hb1p := dec_f hb1
    refine SeqR.z rfl rfl rfl rfl rfl hb1 ?_
    refine SeqR.z rfl rfl rfl rfl rfl hb1 ?_
    refine SeqR.z rfl rfl rfl rfl rfl hb1 ?_
    refine SeqR.d1 rfl rfl rfl (yl_pick_f rfl rfl hb1 rfl ?_)
    refine SeqR.d1 rfl rfl rfl (yl_assign rfl rfl ?_)
    refine SeqR.done ?_
    refine tn ?_
    refine CW.ret ?_
    refine rr rfl (.cons rfl .nil) ?_
    have hM3 : (s_l1In p_n p_lo p_hi) = (false) := by simp only [s_l1In, hb1, cond_true, cond_false, loopE_done, loopE_ret]
    rw [hM3]
    exact ⟨rfl, (Ex.refl w)⟩
set_option maxRecDepth 100000 in
set_option maxHeartbeats 2000000 in
theorem c_s_l2Clock {w : World} (p_c : DClock) : Cal Try.prog 102 #[.agg #[.int .i64 (p_c.Off)]] w fun v w' => v = .bool ((s_l2Clock p_c)) ∧ Ex w w' := by
  refine Cal.of (vs := [.agg #[.int .i64 (p_c.Off)]]) Try.func102 rfl Try.ntmps102 rfl ?_
  refine CW.seq ?_
  refine CW.region ?_
  refine SeqR.d1 rfl rfl rfl (yl_box (cs := [.int .i64 (p_c.Off)]) rfl rfl rfl ?_)
  intro b1 w2 hs3 hz4 hB5 hE6
  refine SeqR.d1 rfl rfl rfl (yl_assign rfl rfl ?_)
  refine SeqR.done ?_
  refine tn ?_
  refine CW.seq ?_
  refine CW.region ?_
  refine SeqR.d1 rfl rfl rfl (yl_fieldAddr Try.fd33_0 rfl rfl ?_)
  refine SeqR.d1 rfl rfl rfl (yl_load1 Try.ty3 rfl rfl ((hB5.cell 0).trans rfl) ?_)
  refine SeqR.d1 rfl rfl rfl (yl_call Try.en50 rfl (opvs_cons rfl (opvs_cons rfl (opvs_cons rfl opvs_nil))) (Cal.mono (c_s_l1In p_c.Off (-5) 5) ?_))
  rintro v8 w7 ⟨rfl, hE9⟩
  have hE9z := Ex.size hE9
  refine SeqR.d1 rfl rfl rfl (yl_assign rfl rfl ?_)
  refine SeqR.done ?_
  refine tn ?_
  refine CW.ret ?_
  refine rr rfl (.cons rfl .nil) ?_
  have hM10 : (s_l2Clock p_c) = ((s_l1In p_c.Off (-5) 5)) := by simp only [s_l2Clock, cond_true, cond_false, loopE_done, loopE_ret]
  rw [hM10]
  have q11 := Ex.trans (Ex.refl w) hE6
  have q12 := Ex.trans q11 hE9
  exact ⟨rfl, q12⟩
set_option maxRecDepth 100000 in
set_option maxHeartbeats 2000000 in
theorem c_s_GoodClock {w : World} (p_c : DClock) : Cal Try.prog 66 #[.agg #[.int .i64 (p_c.Off)]] w fun v w' => v = .bool ((s_GoodClock p_c)) ∧ Ex w w' := by
  refine Cal.of (vs := [.agg #[.int .i64 (p_c.Off)]]) Try.func66 rfl Try.ntmps66 rfl ?_
  refine CW.seq ?_
  refine CW.region ?_
  refine SeqR.d1 rfl rfl rfl (yl_box (cs := [.int .i64 (p_c.Off)]) rfl rfl rfl ?_)
  intro b1 w2 hs3 hz4 hB5 hE6
  refine SeqR.d1 rfl rfl rfl (yl_assign rfl rfl ?_)
  refine SeqR.done ?_
  refine tn ?_
  refine CW.seq ?_
  refine CW.region ?_
  refine SeqR.d1 rfl rfl rfl (yl_loadN (cs := [.int .i64 (p_c.Off)]) Try.ty33 rfl rfl (hB5.cells (n := 1) rfl) rfl ?_)
  refine SeqR.d1 rfl rfl rfl (yl_call Try.en102 rfl (opvs_cons rfl opvs_nil) (Cal.mono (c_s_l2Clock p_c) ?_))
  rintro v8 w7 ⟨rfl, hE9⟩
  have hE9z := Ex.size hE9
  refine SeqR.d1 rfl rfl rfl (yl_assign rfl rfl ?_)
  refine SeqR.done ?_
  refine tn ?_
  refine CW.ret ?_
  refine rr rfl (.cons rfl .nil) ?_
  have hM10 : (s_GoodClock p_c) = ((s_l2Clock p_c)) := by simp only [s_GoodClock, cond_true, cond_false, loopE_done, loopE_ret]
  rw [hM10]
  have q11 := Ex.trans (Ex.refl w) hE6
  have q12 := Ex.trans q11 hE9
  exact ⟨rfl, q12⟩
set_option maxRecDepth 100000 in
set_option maxHeartbeats 2000000 in
theorem c_s_l28Clocks {A1 : Option Addr} {c1 : Nat} {w : World} (p_l : List DClock) (h1 : RdS w (Iv 0 w.heap.size) (RF e_Clock) 1 A1 p_l.length c1 p_l) (o2 : (okL okT) p_l) : Cal Try.prog 67 #[.slice A1 p_l.length c1] w fun v w' => v = .bool ((s_l28Clocks p_l)) ∧ Ex w w' := by
  have hol3 := o2.1
  refine Cal.of (vs := [.slice A1 p_l.length c1]) Try.func67 rfl Try.ntmps67 rfl ?_
  refine CW.seq ?_
  refine CW.region ?_
  refine SeqR.d1 rfl rfl rfl (yl_assign rfl rfl ?_)
  refine SeqR.done ?_
  refine tn ?_
  refine CW.seq ?_
  refine CW.seq ?_
  refine CW.region ?_
  refine SeqR.d1 rfl rfl rfl (yl_move rfl rfl ?_)
  refine SeqR.d1 rfl rfl rfl (yl_len Try.un34 rfl rfl ?_)
  refine SeqR.d1 rfl rfl rfl (yl_move rfl rfl ?_)
  refine SeqR.done ?_
  refine tn ?_
  refine CW.block ?_
  refine CW.loop (fun m19 L20 w21 => ∃ (k4 : Nat), m19 = p_l.length - k4 ∧ k4 ≤ p_l.length ∧ lkp L20 0 = some (.slice A1 p_l.length c1) ∧ lkp L20 5 = some (.slice A1 p_l.length c1) ∧ lkp L20 6 = some (.int .i64 ((p_l.length : Int))) ∧ lkp L20 7 = some (.int .i64 ((k4 : Int))) ∧ RdS w21 (Iv 0 w.heap.size) (RF e_Clock) 1 A1 p_l.length c1 p_l ∧ Ex w w21 ∧ loopM (B_s_l28Clocks_0 p_l) (p_l.length - k4) k4 () = loopM (B_s_l28Clocks_0 p_l) (p_l.length - 0) 0 ()) (p_l.length - 0) ?_ ?_
  · exact ⟨0, rfl, Nat.zero_le _, rfl, rfl, rfl, rfl, h1, (Ex.refl w), rfl⟩
  · rintro m22 L23 w24 ⟨k4, rfl, hk25, hl27, hl28, hl29, hl30, hf31, hf32, hI26⟩
    refine CW.sub (Sub.cons hl27 (Sub.cons hl28 (Sub.cons hl29 (Sub.cons hl30 (Sub.nil _))))) ?_
    have hf32z := Ex.size hf32
    have hbg33 := RdS.big hf31
    rcases Nat.lt_or_ge k4 p_l.length with hlt34 | hlt34
    · skip
      refine CW.seq ?_
      refine CW.region ?_
      refine SeqR.d1 rfl rfl rfl (yl_lss rfl rfl rfl ?_)
      refine SeqR.done ?_
      refine tn ?_
      refine CW.seq ?_
      refine CW.cond_t rfl (lt_t hlt34) ?_
      refine CW.skip ?_
      refine tn ?_
      refine CW.seq ?_
      refine CW.block ?_
      refine CW.seq ?_
      refine CW.region ?_
      obtain ⟨eb35, eo35, ec35, eA35, eS35, ebl35, el35, eR35, eC35⟩ := RdS.atD hf31 d_Clock (i := k4) (by first | omega | assumption)
      obtain rfl := eR35
      have eC35 : Cells w24 eb35 (eo35 + k4 * 1) [.int .i64 ((p_l.getD k4 d_Clock).Off)] := eC35
      refine SeqR.d1 rfl rfl rfl (yl_indexAddrN Try.un34 Try.ty33 rfl rfl rfl eA35 (by first | omega | assumption | (simp only [IntKind.wrap_i64] at *; omega)) ?_)
      refine SeqR.d1 rfl rfl rfl (yl_loadN (cs := [.int .i64 ((p_l.getD k4 d_Clock).Off)]) Try.ty33 rfl rfl eC35 rfl ?_)
      refine SeqR.d1 rfl rfl rfl (yl_alloc Try.ty33 (cs := [.int .i64 (0)]) rfl rfl ?_)
      intro b36 w37 hs38 hz39 hB40 hE41
      refine SeqR.u rfl rfl (yl_store (vs := [.int .i64 ((p_l.getD k4 d_Clock).Off)]) Try.ty33 rfl rfl rfl rfl rfl rfl hB40 (Nat.le_of_ble_eq_true rfl) ?_)
      intro w42 hB43 hO44
      have hB43 : Box w42 b36 33 [.int .i64 ((p_l.getD k4 d_Clock).Off)] := hB43
      have hO44z := hO44.size
      refine SeqR.done ?_
      refine tn ?_
      refine CW.seq ?_
      refine CW.region ?_
      refine SeqR.d1 rfl rfl rfl (yl_loadN (cs := [.int .i64 ((p_l.getD k4 d_Clock).Off)]) Try.ty33 rfl rfl (hB43.cells (n := 1) rfl) rfl ?_)
      refine SeqR.d1 rfl rfl rfl (yl_call Try.en66 rfl (opvs_cons rfl opvs_nil) (Cal.mono (c_s_GoodClock (p_l.getD k4 d_Clock)) ?_))
      rintro v46 w45 ⟨rfl, hE47⟩
      have hE47z := Ex.size hE47
      refine SeqR.d1 rfl rfl rfl (yl_not rfl rfl ?_)
      refine SeqR.done ?_
      refine tn ?_
      refine bcase (s_GoodClock (p_l.getD k4 d_Clock)) (fun hb48 => ?_) (fun hb48 => ?_)
      · skip
        refine CW.cond_f rfl (not_t hb48) ?_
        refine CW.skip ?_
        refine bn ?_
        refine tn ?_
        refine CW.region ?_
        refine SeqR.d1 rfl rfl rfl (yl_inc rfl rfl rfl (by omega) ?_)
        refine SeqR.d1 rfl rfl rfl (yl_move rfl rfl ?_)
        refine SeqR.done ?_
        refine tn ?_
        have hB49 : B_s_l28Clocks_0 p_l k4 () = .cont () := by simp only [B_s_l28Clocks_0, hb48, cond_true, cond_false, loopE_done, loopE_ret]
        have q50 := RdS.ex good_Clock hf31 hE41
        have q51 := RdS.only good_Clock q50 hO44 (by simp only [Iv]; omega)
        have q52 := RdS.ex good_Clock q51 hE47
        have q53 := Ex.trans hf32 hE41
        have q54 := Below.only q53 hO44 (by omega)
        have q55 := Ex.trans q54 hE47
        exact ⟨p_l.length - (k4 + 1), by omega, k4 + 1, rfl, hlt34, rfl, rfl, rfl, rfl, q52, q55, (loopM.cont hlt34 hB49).symm.trans hI26⟩
      · skip
        refine CW.cond_t rfl (not_f hb48) ?_
        refine CW.seq ?_
        refine CW.region ?_
        refine SeqR.d1 rfl rfl rfl (yl_assign rfl rfl ?_)
        refine SeqR.done ?_
        refine tn ?_
        refine CW.ret ?_
        refine br ?_
        refine tr ?_
        refine tr ?_
        have hB57 : B_s_l28Clocks_0 p_l k4 () = .ret false := by simp only [B_s_l28Clocks_0, hb48, cond_true, cond_false, loopE_done, loopE_ret]
        have hL56 : loopM (B_s_l28Clocks_0 p_l) (p_l.length - 0) 0 () = .ret false := hI26.symm.trans (loopM.ret hlt34 hB57)
        refine br ?_
        refine tr ?_
        refine rr rfl (.cons rfl .nil) ?_
        have hM58 : (s_l28Clocks p_l) = (false) := by simp only [s_l28Clocks, hb48, hL56, cond_true, cond_false, loopE_done, loopE_ret]
        rw [hM58]
        have q59 := Ex.trans hf32 hE41
        have q60 := Below.only q59 hO44 (by omega)
        have q61 := Ex.trans q60 hE47
        exact ⟨rfl, q61⟩
    · skip
      refine CW.seq ?_
      refine CW.region ?_
      refine SeqR.d1 rfl rfl rfl (yl_lss rfl rfl rfl ?_)
      refine SeqR.done ?_
      refine tn ?_
      refine CW.seq ?_
      refine CW.cond_f rfl (lt_f hlt34) ?_
      refine CW.exit ?_
      refine tx ?_
      refine tx ?_
      have hL62 : loopM (B_s_l28Clocks_0 p_l) (p_l.length - 0) 0 () = .done () := hI26.symm.trans (loopM.stop hlt34)
      refine bx ?_
      refine tn ?_
      refine CW.seq ?_
      refine CW.region ?_
      refine SeqR.d1 rfl rfl rfl (yl_move rfl rfl ?_)
      refine SeqR.d1 rfl rfl rfl (yl_len Try.un34 rfl rfl ?_)
      refine SeqR.d1 rfl rfl rfl (yl_call Try.en50 rfl (opvs_cons rfl (opvs_cons rfl (opvs_cons rfl opvs_nil))) (Cal.mono (c_s_l1In (p_l.length : Int) 1 3) ?_))
      rintro v64 w63 ⟨rfl, hE65⟩
      have hE65z := Ex.size hE65
      refine SeqR.d1 rfl rfl rfl (yl_assign rfl rfl ?_)
      refine SeqR.done ?_
      refine tn ?_
      refine CW.ret ?_
      refine rr rfl (.cons rfl .nil) ?_
      have hM66 : (s_l28Clocks p_l) = ((s_l1In (p_l.length : Int) 1 3)) := by simp only [s_l28Clocks, hL62, cond_true, cond_false, loopE_done, loopE_ret]
      rw [hM66]
      have q67 := Ex.trans hf32 hE65
      exact ⟨rfl, q67⟩
set_option maxRecDepth 100000 in
set_option maxHeartbeats 2000000 in
theorem c_s_GoodRenew {A1 : Option Addr} {c1 : Nat} {A2 : Option Addr} {c2 : Nat} {w : World} (p_r : DRenew) (h1 : RdS w (Iv 0 w.heap.size) (RF e_Clock) 1 A1 p_r.Clocks.length c1 p_r.Clocks) (h2 : RdS w (Iv 0 w.heap.size) (RF e_VLease) 2 A2 p_r.Leases.length c2 p_r.Leases) (o3 : ok_Renew p_r) : Cal Try.prog 25 #[.agg #[.int .i64 (p_r.Now), .int .i64 (p_r.Master.Off), .slice A1 p_r.Clocks.length c1, .int .i64 (p_r.Ver), .slice A2 p_r.Leases.length c2]] w fun v w' => v = .bool ((s_GoodRenew p_r)) ∧ Ex w w' := by
  have hol4 := o3.1.1
  have hol5 := o3.2.1
  refine Cal.of (vs := [.agg #[.int .i64 (p_r.Now), .int .i64 (p_r.Master.Off), .slice A1 p_r.Clocks.length c1, .int .i64 (p_r.Ver), .slice A2 p_r.Leases.length c2]]) Try.func25 rfl Try.ntmps25 rfl ?_
  refine CW.seq ?_
  refine CW.region ?_
  refine SeqR.d1 rfl rfl rfl (yl_box (cs := [.int .i64 (p_r.Now), .int .i64 (p_r.Master.Off), .slice A1 p_r.Clocks.length c1, .int .i64 (p_r.Ver), .slice A2 p_r.Leases.length c2]) rfl rfl rfl ?_)
  intro b6 w7 hs8 hz9 hB10 hE11
  refine SeqR.d1 rfl rfl rfl (yl_assign rfl rfl ?_)
  refine SeqR.done ?_
  refine tn ?_
  refine CW.seq ?_
  refine CW.seq ?_
  refine CW.region ?_
  refine SeqR.d1 rfl rfl rfl (yl_fieldAddr Try.fd37_0 rfl rfl ?_)
  refine SeqR.d1 rfl rfl rfl (yl_load1 Try.ty3 rfl rfl ((hB10.cell 0).trans rfl) ?_)
  refine SeqR.d1 rfl rfl rfl (yl_call Try.en50 rfl (opvs_cons rfl (opvs_cons rfl (opvs_cons rfl opvs_nil))) (Cal.mono (c_s_l1In p_r.Now 0 1000) ?_))
  rintro v13 w12 ⟨rfl, hE14⟩
  have hE14z := Ex.size hE14
  refine SeqR.d1 rfl rfl rfl (yl_not rfl rfl ?_)
  refine SeqR.d1 rfl rfl rfl (yl_move rfl rfl ?_)
  refine bcase (s_l1In p_r.Now 0 1000) (fun hb15 => ?_) (fun hb15 => ?_)
  · have hb15p := f_l1In hb15
    refine SeqR.y rfl rfl rfl rfl rfl (not_t hb15) (yl_fieldAddr Try.fd37_1 rfl rfl ?_)
    have q16 := Box.ex hB10 hE14
    refine SeqR.y rfl rfl rfl rfl rfl (not_t hb15) (yl_loadN (cs := [.int .i64 (p_r.Master.Off)]) Try.ty33 rfl rfl (q16.cells (n := 1) rfl) rfl ?_)
    refine SeqR.y rfl rfl rfl rfl rfl (not_t hb15) (yl_call Try.en66 rfl (opvs_cons rfl opvs_nil) (Cal.mono (c_s_GoodClock p_r.Master) ?_))
    rintro v18 w17 ⟨rfl, hE19⟩
    have hE19z := Ex.size hE19
    refine SeqR.y rfl rfl rfl rfl rfl (not_t hb15) (yl_not rfl rfl ?_)
    refine SeqR.d1 rfl rfl rfl (yl_pick_f rfl rfl (not_t hb15) rfl ?_)
    refine SeqR.d1 rfl rfl rfl (yl_move rfl rfl ?_)
    refine bcase (s_GoodClock p_r.Master) (fun hb20 => ?_) (fun hb20 => ?_)
    · skip
      refine SeqR.y rfl rfl rfl rfl rfl (not_t hb20) (yl_fieldAddr Try.fd37_2 rfl rfl ?_)
      have q21 := Box.ex q16 hE19
      refine SeqR.y rfl rfl rfl rfl rfl (not_t hb20) (yl_load1 Try.ty34 rfl rfl ((q21.cell 2).trans rfl) ?_)
      have q22 := RdS.ex good_Clock h1 hE11
      have q23 := RdS.ex good_Clock q22 hE14
      have q24 := RdS.ex good_Clock q23 hE19
      refine SeqR.y rfl rfl rfl rfl rfl (not_t hb20) (yl_call Try.en67 rfl (opvs_cons rfl opvs_nil) (Cal.mono (c_s_l28Clocks p_r.Clocks (RdS.up q24 good_Clock) o3.1) ?_))
      rintro v26 w25 ⟨rfl, hE27⟩
      have hE27z := Ex.size hE27
      refine SeqR.y rfl rfl rfl rfl rfl (not_t hb20) (yl_not rfl rfl ?_)
      refine SeqR.d1 rfl rfl rfl (yl_pick_f rfl rfl (not_t hb20) rfl ?_)
      refine SeqR.d1 rfl rfl rfl (yl_move rfl rfl ?_)
      refine bcase (s_l28Clocks p_r.Clocks) (fun hb28 => ?_) (fun hb28 => ?_)
      · skip
        refine SeqR.y rfl rfl rfl rfl rfl (not_t hb28) (yl_fieldAddr Try.fd37_3 rfl rfl ?_)
        have q29 := Box.ex q21 hE27
        refine SeqR.y rfl rfl rfl rfl rfl (not_t hb28) (yl_load1 Try.ty3 rfl rfl ((q29.cell 3).trans rfl) ?_)
        refine SeqR.y rfl rfl rfl rfl rfl (not_t hb28) (yl_call Try.en50 rfl (opvs_cons rfl (opvs_cons rfl (opvs_cons rfl opvs_nil))) (Cal.mono (c_s_l1In p_r.Ver 0 20) ?_))
        rintro v31 w30 ⟨rfl, hE32⟩
        have hE32z := Ex.size hE32
        refine SeqR.y rfl rfl rfl rfl rfl (not_t hb28) (yl_not rfl rfl ?_)
        refine SeqR.d1 rfl rfl rfl (yl_pick_f rfl rfl (not_t hb28) rfl ?_)
        refine SeqR.d1 rfl rfl rfl (yl_move rfl rfl ?_)
        refine bcase (s_l1In p_r.Ver 0 20) (fun hb33 => ?_) (fun hb33 => ?_)
        · have hb33p := f_l1In hb33
          refine SeqR.y rfl rfl rfl rfl rfl (not_t hb33) (yl_fieldAddr Try.fd37_4 rfl rfl ?_)
          have q34 := Box.ex q29 hE32
          refine SeqR.y rfl rfl rfl rfl rfl (not_t hb33) (yl_load1 Try.ty35 rfl rfl ((q34.cell 4).trans rfl) ?_)
          refine SeqR.y rfl rfl rfl rfl rfl (not_t hb33) (yl_len Try.un35 rfl rfl ?_)
          refine SeqR.y rfl rfl rfl rfl rfl (not_t hb33) (yl_fieldAddr Try.fd37_2 rfl rfl ?_)
          refine SeqR.y rfl rfl rfl rfl rfl (not_t hb33) (yl_load1 Try.ty34 rfl rfl ((q34.cell 2).trans rfl) ?_)
          refine SeqR.y rfl rfl rfl rfl rfl (not_t hb33) (yl_len Try.un34 rfl rfl ?_)
          refine SeqR.y rfl rfl rfl rfl rfl (not_t hb33) (yl_neq rfl rfl rfl ?_)
          refine SeqR.d1 rfl rfl rfl (yl_pick_f rfl rfl (not_t hb33) rfl ?_)
          refine SeqR.done ?_
          refine tn ?_
          refine bcase (decide ((p_r.Leases.length : Int) = (p_r.Clocks.length : Int))) (fun hb35 => ?_) (fun hb35 => ?_)
          · have hb35p := dec_t hb35
            refine CW.cond_f rfl (not_t hb35) ?_
            refine CW.skip ?_
            refine tn ?_
            refine CW.seq ?_
            refine CW.seq ?_
            refine CW.region ?_
            refine SeqR.d1 rfl rfl rfl (yl_fieldAddr Try.fd37_4 rfl rfl ?_)
            refine SeqR.d1 rfl rfl rfl (yl_load1 Try.ty35 rfl rfl ((q34.cell 4).trans rfl) ?_)
            refine SeqR.d1 rfl rfl rfl (yl_len Try.un35 rfl rfl ?_)
            refine SeqR.d1 rfl rfl rfl (yl_move rfl rfl ?_)
            refine SeqR.done ?_
            refine tn ?_
            refine CW.block ?_
            have q58 := RdS.ex good_Clock q24 hE27
            have q59 := RdS.ex good_Clock q58 hE32
            have q60 := RdS.ex good_VLease h2 hE11
            have q61 := RdS.ex good_VLease q60 hE14
            have q62 := RdS.ex good_VLease q61 hE19
            have q63 := RdS.ex good_VLease q62 hE27
            have q64 := RdS.ex good_VLease q63 hE32
            have q65 := Ex.trans (Ex.refl w) hE11
            have q66 := Ex.trans q65 hE14
            have q67 := Ex.trans q66 hE19
            have q68 := Ex.trans q67 hE27
            have q69 := Ex.trans q68 hE32
            refine CW.loop (fun m55 L56 w57 => ∃ (k36 : Nat), m55 = p_r.Leases.length - k36 ∧ k36 ≤ p_r.Leases.length ∧ lkp L56 1 = some (.pointer (some ⟨b6, 0, none⟩)) ∧ lkp L56 37 = some (.slice A2 p_r.Leases.length c2) ∧ lkp L56 38 = some (.int .i64 ((p_r.Leases.length : Int))) ∧ lkp L56 39 = some (.int .i64 ((k36 : Int))) ∧ Box w57 b6 37 [.int .i64 (p_r.Now), .int .i64 (p_r.Master.Off), .slice A1 p_r.Clocks.length c1, .int .i64 (p_r.Ver), .slice A2 p_r.Leases.length c2] ∧ RdS w57 (Iv 0 w.heap.size) (RF e_Clock) 1 A1 p_r.Clocks.length c1 p_r.Clocks ∧ RdS w57 (Iv 0 w.heap.size) (RF e_VLease) 2 A2 p_r.Leases.length c2 p_r.Leases ∧ Ex w w57 ∧ loopM (B_s_GoodRenew_0 p_r) (p_r.Leases.length - k36) k36 () = loopM (B_s_GoodRenew_0 p_r) (p_r.Leases.length - 0) 0 ()) (p_r.Leases.length - 0) ?_ ?_
            · exact ⟨0, rfl, Nat.zero_le _, rfl, rfl, rfl, rfl, q34, q59, q64, q69, rfl⟩
            · rintro m70 L71 w72 ⟨k36, rfl, hk73, hl75, hl76, hl77, hl78, hf79, hf80, hf81, hf82, hI74⟩
              refine CW.sub (Sub.cons hl75 (Sub.cons hl76 (Sub.cons hl77 (Sub.cons hl78 (Sub.nil _))))) ?_
              have hf79z := Box.lt hf79
              have hf82z := Ex.size hf82
              have hbg83 := RdS.big hf81
              rcases Nat.lt_or_ge k36 p_r.Leases.length with hlt84 | hlt84
              · skip
                refine CW.seq ?_
                refine CW.region ?_
                refine SeqR.d1 rfl rfl rfl (yl_lss rfl rfl rfl ?_)
                refine SeqR.done ?_
                refine tn ?_
                refine CW.seq ?_
                refine CW.cond_t rfl (lt_t hlt84) ?_
                refine CW.skip ?_
                refine tn ?_
                refine CW.seq ?_
                refine CW.block ?_
                refine CW.seq ?_
                refine CW.region ?_
                obtain ⟨eb85, eo85, ec85, eA85, eS85, ebl85, el85, eR85, eC85⟩ := RdS.atD hf81 d_VLease (i := k36) (by first | omega | assumption)
                obtain rfl := eR85
                have eC85 : Cells w72 eb85 (eo85 + k36 * 2) [.int .i64 ((p_r.Leases.getD k36 d_VLease).Ver), .int .i64 ((p_r.Leases.getD k36 d_VLease).Until)] := eC85
                refine SeqR.d1 rfl rfl rfl (yl_indexAddrN Try.un35 Try.ty103 rfl rfl rfl eA85 (by first | omega | assumption | (simp only [IntKind.wrap_i64] at *; omega)) ?_)
                refine SeqR.d1 rfl rfl rfl (yl_loadN (cs := [.int .i64 ((p_r.Leases.getD k36 d_VLease).Ver), .int .i64 ((p_r.Leases.getD k36 d_VLease).Until)]) Try.ty103 rfl rfl eC85 rfl ?_)
                refine SeqR.d1 rfl rfl rfl (yl_alloc Try.ty103 (cs := [.int .i64 (0), .int .i64 (0)]) rfl rfl ?_)
                intro b86 w87 hs88 hz89 hB90 hE91
                refine SeqR.u rfl rfl (yl_store (vs := [.int .i64 ((p_r.Leases.getD k36 d_VLease).Ver), .int .i64 ((p_r.Leases.getD k36 d_VLease).Until)]) Try.ty103 rfl rfl rfl rfl rfl rfl hB90 (Nat.le_of_ble_eq_true rfl) ?_)
                intro w92 hB93 hO94
                have hB93 : Box w92 b86 103 [.int .i64 ((p_r.Leases.getD k36 d_VLease).Ver), .int .i64 ((p_r.Leases.getD k36 d_VLease).Until)] := hB93
                have hO94z := hO94.size
                refine SeqR.done ?_
                refine tn ?_
                refine CW.seq ?_
                refine CW.region ?_
                refine SeqR.d1 rfl rfl rfl (yl_fieldAddr Try.fd103_0 rfl rfl ?_)
                refine SeqR.d1 rfl rfl rfl (yl_load1 Try.ty3 rfl rfl ((hB93.cell 0).trans rfl) ?_)
                refine SeqR.d1 rfl rfl rfl (yl_fieldAddr Try.fd37_3 rfl rfl ?_)
                have q95 := Box.ex hf79 hE91
                have q96 := Box.only q95 hO94 (by omega)
                refine SeqR.d1 rfl rfl rfl (yl_load1 Try.ty3 rfl rfl ((q96.cell 3).trans rfl) ?_)
                refine SeqR.d1 rfl rfl rfl (yl_call Try.en50 rfl (opvs_cons rfl (opvs_cons rfl (opvs_cons rfl opvs_nil))) (Cal.mono (c_s_l1In ((p_r.Leases.getD k36 d_VLease).Ver) 0 p_r.Ver) ?_))
                rintro v98 w97 ⟨rfl, hE99⟩
                have hE99z := Ex.size hE99
                refine SeqR.d1 rfl rfl rfl (yl_not rfl rfl ?_)
                refine SeqR.d1 rfl rfl rfl (yl_move rfl rfl ?_)
                refine bcase (s_l1In ((p_r.Leases.getD k36 d_VLease).Ver) 0 p_r.Ver) (fun hb100 => ?_) (fun hb100 => ?_)
                · have hb100p := f_l1In hb100
                  refine SeqR.y rfl rfl rfl rfl rfl (not_t hb100) (yl_fieldAddr Try.fd103_1 rfl rfl ?_)
                  have q101 := Box.ex hB93 hE99
                  refine SeqR.y rfl rfl rfl rfl rfl (not_t hb100) (yl_load1 Try.ty3 rfl rfl ((q101.cell 1).trans rfl) ?_)
                  refine SeqR.y rfl rfl rfl rfl rfl (not_t hb100) (yl_call Try.en50 rfl (opvs_cons rfl (opvs_cons rfl (opvs_cons rfl opvs_nil))) (Cal.mono (c_s_l1In ((p_r.Leases.getD k36 d_VLease).Until) 0 1020) ?_))
                  rintro v103 w102 ⟨rfl, hE104⟩
                  have hE104z := Ex.size hE104
                  refine SeqR.y rfl rfl rfl rfl rfl (not_t hb100) (yl_not rfl rfl ?_)
                  refine SeqR.d1 rfl rfl rfl (yl_pick_f rfl rfl (not_t hb100) rfl ?_)
                  refine SeqR.done ?_
                  refine tn ?_
                  refine bcase (s_l1In ((p_r.Leases.getD k36 d_VLease).Until) 0 1020) (fun hb105 => ?_) (fun hb105 => ?_)
                  · have hb105p := f_l1In hb105
                    refine CW.cond_f rfl (not_t hb105) ?_
                    refine CW.skip ?_
                    refine bn ?_
                    refine tn ?_
                    refine CW.region ?_
                    refine SeqR.d1 rfl rfl rfl (yl_inc rfl rfl rfl (by omega) ?_)
                    refine SeqR.d1 rfl rfl rfl (yl_move rfl rfl ?_)
                    refine SeqR.done ?_
                    refine tn ?_
                    have hB106 : B_s_GoodRenew_0 p_r k36 () = .cont () := by simp only [B_s_GoodRenew_0, hb15, hb20, hb28, hb33, hb35, hb100, hb105, cond_true, cond_false, loopE_done, loopE_ret]
                    have q107 := Box.ex q96 hE99
                    have q108 := Box.ex q107 hE104
                    have q109 := RdS.ex good_Clock hf80 hE91
                    have q110 := RdS.only good_Clock q109 hO94 (by simp only [Iv]; omega)
                    have q111 := RdS.ex good_Clock q110 hE99
                    have q112 := RdS.ex good_Clock q111 hE104
                    have q113 := RdS.ex good_VLease hf81 hE91
                    have q114 := RdS.only good_VLease q113 hO94 (by simp only [Iv]; omega)
                    have q115 := RdS.ex good_VLease q114 hE99
                    have q116 := RdS.ex good_VLease q115 hE104
                    have q117 := Ex.trans hf82 hE91
                    have q118 := Below.only q117 hO94 (by omega)
                    have q119 := Ex.trans q118 hE99
                    have q120 := Ex.trans q119 hE104
                    exact ⟨p_r.Leases.length - (k36 + 1), by omega, k36 + 1, rfl, hlt84, rfl, rfl, rfl, rfl, q108, q112, q116, q120, (loopM.cont hlt84 hB106).symm.trans hI74⟩
                  · skip
                    refine CW.cond_t rfl (not_f hb105) ?_
                    refine CW.seq ?_
                    refine CW.region ?_
                    refine SeqR.d1 rfl rfl rfl (yl_assign rfl rfl ?_)
                    refine SeqR.done ?_
                    refine tn ?_
                    refine CW.ret ?_
                    refine br ?_
                    refine tr ?_
                    refine tr ?_
                    have hB122 : B_s_GoodRenew_0 p_r k36 () = .ret false := by simp only [B_s_GoodRenew_0, hb15, hb20, hb28, hb33, hb35, hb100, hb105, cond_true, cond_false, loopE_done, loopE_ret]
                    have hL121 : loopM (B_s_GoodRenew_0 p_r) (p_r.Leases.length - 0) 0 () = .ret false := hI74.symm.trans (loopM.ret hlt84 hB122)
                    refine br ?_
                    refine tr ?_
                    refine rr rfl (.cons rfl .nil) ?_
                    have hM123 : (s_GoodRenew p_r) = (false) := by simp only [s_GoodRenew, hb15, hb20, hb28, hb33, hb35, hb100, hb105, hL121, cond_true, cond_false, loopE_done, loopE_ret]
                    rw [hM123]
                    have q124 := Ex.trans hf82 hE91
                    have q125 := Below.only q124 hO94 (by omega)
                    have q126 := Ex.trans q125 hE99
                    have q127 := Ex.trans q126 hE104
                    exact ⟨rfl, q127⟩
                · skip
                  refine SeqR.z rfl rfl rfl rfl rfl (not_f hb100) ?_
                  refine SeqR.z rfl rfl rfl rfl rfl (not_f hb100) ?_
                  refine SeqR.z rfl rfl rfl rfl rfl (not_f hb100) ?_
                  refine SeqR.z rfl rfl rfl rfl rfl (not_f hb100) ?_
                  refine SeqR.d1 rfl rfl rfl (yl_pick_t rfl rfl (not_f hb100) rfl ?_)
                  refine SeqR.done ?_
                  refine tn ?_
                  refine CW.cond_t rfl rfl ?_
                  refine CW.seq ?_
                  refine CW.region ?_
                  refine SeqR.d1 rfl rfl rfl (yl_assign rfl rfl ?_)
                  refine SeqR.done ?_
                  refine tn ?_
                  refine CW.ret ?_
                  refine br ?_
                  refine tr ?_
                  refine tr ?_
                  have hB129 : B_s_GoodRenew_0 p_r k36 () = .ret false := by simp only [B_s_GoodRenew_0, hb15, hb20, hb28, hb33, hb35, hb100, cond_true, cond_false, loopE_done, loopE_ret]
                  have hL128 : loopM (B_s_GoodRenew_0 p_r) (p_r.Leases.length - 0) 0 () = .ret false := hI74.symm.trans (loopM.ret hlt84 hB129)
                  refine br ?_
                  refine tr ?_
                  refine rr rfl (.cons rfl .nil) ?_
                  have hM130 : (s_GoodRenew p_r) = (false) := by simp only [s_GoodRenew, hb15, hb20, hb28, hb33, hb35, hb100, hL128, cond_true, cond_false, loopE_done, loopE_ret]
                  rw [hM130]
                  have q131 := Ex.trans hf82 hE91
                  have q132 := Below.only q131 hO94 (by omega)
                  have q133 := Ex.trans q132 hE99
                  exact ⟨rfl, q133⟩
              · skip
                refine CW.seq ?_
                refine CW.region ?_
                refine SeqR.d1 rfl rfl rfl (yl_lss rfl rfl rfl ?_)
                refine SeqR.done ?_
                refine tn ?_
                refine CW.seq ?_
                refine CW.cond_f rfl (lt_f hlt84) ?_
                refine CW.exit ?_
                refine tx ?_
                refine tx ?_
                have hL134 : loopM (B_s_GoodRenew_0 p_r) (p_r.Leases.length - 0) 0 () = .done () := hI74.symm.trans (loopM.stop hlt84)
                refine bx ?_
                refine tn ?_
                refine CW.seq ?_
                refine CW.region ?_
                refine SeqR.d1 rfl rfl rfl (yl_assign rfl rfl ?_)
                refine SeqR.done ?_
                refine tn ?_
                refine CW.ret ?_
                refine rr rfl (.cons rfl .nil) ?_
                have hM135 : (s_GoodRenew p_r) = (true) := by simp only [s_GoodRenew, hb15, hb20, hb28, hb33, hb35, hL134, cond_true, cond_false, loopE_done, loopE_ret]
                rw [hM135]
                exact ⟨rfl, hf82⟩
          · have hb35p := dec_f hb35
            refine CW.cond_t rfl (not_f hb35) ?_
            refine CW.seq ?_
            refine CW.region ?_
            refine SeqR.d1 rfl rfl rfl (yl_assign rfl rfl ?_)
            refine SeqR.done ?_
            refine tn ?_
            refine CW.ret ?_
            refine tr ?_
            refine rr rfl (.cons rfl .nil) ?_
            have hM136 : (s_GoodRenew p_r) = (false) := by simp only [s_GoodRenew, hb15, hb20, hb28, hb33, hb35, cond_true, cond_false, loopE_done, loopE_ret]
            rw [hM136]
            have q137 := Ex.trans (Ex.refl w) hE11
            have q138 := Ex.trans q137 hE14
            have q139 := Ex.trans q138 hE19
            have q140 := Ex.trans q139 hE27
            have q141 := Ex.trans q140 hE32
            exact ⟨rfl, q141⟩
        · skip
          refine SeqR.z rfl rfl rfl rfl rfl (not_f hb33) ?_
          refine SeqR.z rfl rfl rfl rfl rfl (not_f hb33) ?_
          refine SeqR.z rfl rfl rfl rfl rfl (not_f hb33) ?_
          refine SeqR.z rfl rfl rfl rfl rfl (not_f hb33) ?_
          refine SeqR.z rfl rfl rfl rfl rfl (not_f hb33) ?_
          refine SeqR.z rfl rfl rfl rfl rfl (not_f hb33) ?_
          refine SeqR.z rfl rfl rfl rfl rfl (not_f hb33) ?_
          refine SeqR.d1 rfl rfl rfl (yl_pick_t rfl rfl (not_f hb33) rfl ?_)
          refine SeqR.done ?_
          refine tn ?_
          refine CW.cond_t rfl rfl ?_
          refine CW.seq ?_
          refine CW.region ?_
          refine SeqR.d1 rfl rfl rfl (yl_assign rfl rfl ?_)
          refine SeqR.done ?_
          refine tn ?_
          refine CW.ret ?_
          refine tr ?_
          refine rr rfl (.cons rfl .nil) ?_
          have hM142 : (s_GoodRenew p_r) = (false) := by simp only [s_GoodRenew, hb15, hb20, hb28, hb33, cond_true, cond_false, loopE_done, loopE_ret]
          rw [hM142]
          have q143 := Ex.trans (Ex.refl w) hE11
          have q144 := Ex.trans q143 hE14
          have q145 := Ex.trans q144 hE19
          have q146 := Ex.trans q145 hE27
          have q147 := Ex.trans q146 hE32
          exact ⟨rfl, q147⟩
      · skip
        refine SeqR.z rfl rfl rfl rfl rfl (not_f hb28) ?_
        refine SeqR.z rfl rfl rfl rfl rfl (not_f hb28) ?_
        refine SeqR.z rfl rfl rfl rfl rfl (not_f hb28) ?_
        refine SeqR.z rfl rfl rfl rfl rfl (not_f hb28) ?_
        refine SeqR.d1 rfl rfl rfl (yl_pick_t rfl rfl (not_f hb28) rfl ?_)
        refine SeqR.d1 rfl rfl rfl (yl_move rfl rfl ?_)
        refine SeqR.z rfl rfl rfl rfl rfl rfl ?_
        refine SeqR.z rfl rfl rfl rfl rfl rfl ?_
        refine SeqR.z rfl rfl rfl rfl rfl rfl ?_
        refine SeqR.z rfl rfl rfl rfl rfl rfl ?_
        refine SeqR.z rfl rfl rfl rfl rfl rfl ?_
        refine SeqR.z rfl rfl rfl rfl rfl rfl ?_
        refine SeqR.z rfl rfl rfl rfl rfl rfl ?_
        refine SeqR.d1 rfl rfl rfl (yl_pick_t rfl rfl rfl rfl ?_)
        refine SeqR.done ?_
        refine tn ?_
        refine CW.cond_t rfl rfl ?_
        refine CW.seq ?_
        refine CW.region ?_
        refine SeqR.d1 rfl rfl rfl (yl_assign rfl rfl ?_)
        refine SeqR.done ?_
        refine tn ?_
        refine CW.ret ?_
        refine tr ?_
        refine rr rfl (.cons rfl .nil) ?_
        have hM148 : (s_GoodRenew p_r) = (false) := by simp only [s_GoodRenew, hb15, hb20, hb28, cond_true, cond_false, loopE_done, loopE_ret]
        rw [hM148]
        have q149 := Ex.trans (Ex.refl w) hE11
        have q150 := Ex.trans q149 hE14
        have q151 := Ex.trans q150 hE19
        have q152 := Ex.trans q151 hE27
        exact ⟨rfl, q152⟩
    · skip
      refine SeqR.z rfl rfl rfl rfl rfl (not_f hb20) ?_
      refine SeqR.z rfl rfl rfl rfl rfl (not_f hb20) ?_
      refine SeqR.z rfl rfl rfl rfl rfl (not_f hb20) ?_
      refine SeqR.z rfl rfl rfl rfl rfl (not_f hb20) ?_
      refine SeqR.d1 rfl rfl rfl (yl_pick_t rfl rfl (not_f hb20) rfl ?_)
      refine SeqR.d1 rfl rfl rfl (yl_move rfl rfl ?_)
      refine SeqR.z rfl rfl rfl rfl rfl rfl ?_
      refine SeqR.z rfl rfl rfl rfl rfl rfl ?_
      refine SeqR.z rfl rfl rfl rfl rfl rfl ?_
      refine SeqR.z rfl rfl rfl rfl rfl rfl ?_
      refine SeqR.d1 rfl rfl rfl (yl_pick_t rfl rfl rfl rfl ?_)
      refine SeqR.d1 rfl rfl rfl (yl_move rfl rfl ?_)
      refine SeqR.z rfl rfl rfl rfl rfl rfl ?_
      refine SeqR.z rfl rfl rfl rfl rfl rfl ?_
      refine SeqR.z rfl rfl rfl rfl rfl rfl ?_
      refine SeqR.z rfl rfl rfl rfl rfl rfl ?_
      refine SeqR.z rfl rfl rfl rfl rfl rfl ?_
      refine SeqR.z rfl rfl rfl rfl rfl rfl ?_
      refine SeqR.z rfl rfl rfl rfl rfl rfl ?_
      refine SeqR.d1 rfl rfl rfl (yl_pick_t rfl rfl rfl rfl ?_)
      refine SeqR.done ?_
      refine tn ?_
      refine CW.cond_t rfl rfl ?_
      refine CW.seq ?_
      refine CW.region ?_
      refine SeqR.d1 rfl rfl rfl (yl_assign rfl rfl ?_)
      refine SeqR.done ?_
      refine tn ?_
      refine CW.ret ?_
      refine tr ?_
      refine rr rfl (.cons rfl .nil) ?_
      have hM153 : (s_GoodRenew p_r) = (false) := by simp only [s_GoodRenew, hb15, hb20, cond_true, cond_false, loopE_done, loopE_ret]
      rw [hM153]
      have q154 := Ex.trans (Ex.refl w) hE11
      have q155 := Ex.trans q154 hE14
      have q156 := Ex.trans q155 hE19
      exact ⟨rfl, q156⟩
  · skip
    refine SeqR.z rfl rfl rfl rfl rfl (not_f hb15) ?_
    refine SeqR.z rfl rfl rfl rfl rfl (not_f hb15) ?_
    refine SeqR.z rfl rfl rfl rfl rfl (not_f hb15) ?_
    refine SeqR.z rfl rfl rfl rfl rfl (not_f hb15) ?_
    refine SeqR.d1 rfl rfl rfl (yl_pick_t rfl rfl (not_f hb15) rfl ?_)
    refine SeqR.d1 rfl rfl rfl (yl_move rfl rfl ?_)
    refine SeqR.z rfl rfl rfl rfl rfl rfl ?_
    refine SeqR.z rfl rfl rfl rfl rfl rfl ?_
    refine SeqR.z rfl rfl rfl rfl rfl rfl ?_
    refine SeqR.z rfl rfl rfl rfl rfl rfl ?_
    refine SeqR.d1 rfl rfl rfl (yl_pick_t rfl rfl rfl rfl ?_)
    refine SeqR.d1 rfl rfl rfl (yl_move rfl rfl ?_)
    refine SeqR.z rfl rfl rfl rfl rfl rfl ?_
    refine SeqR.z rfl rfl rfl rfl rfl rfl ?_
    refine SeqR.z rfl rfl rfl rfl rfl rfl ?_
    refine SeqR.z rfl rfl rfl rfl rfl rfl ?_
    refine SeqR.d1 rfl rfl rfl (yl_pick_t rfl rfl rfl rfl ?_)
    refine SeqR.d1 rfl rfl rfl (yl_move rfl rfl ?_)
    refine SeqR.z rfl rfl rfl rfl rfl rfl ?_
    refine SeqR.z rfl rfl rfl rfl rfl rfl ?_
    refine SeqR.z rfl rfl rfl rfl rfl rfl ?_
    refine SeqR.z rfl rfl rfl rfl rfl rfl ?_
    refine SeqR.z rfl rfl rfl rfl rfl rfl ?_
    refine SeqR.z rfl rfl rfl rfl rfl rfl ?_
    refine SeqR.z rfl rfl rfl rfl rfl rfl ?_
    refine SeqR.d1 rfl rfl rfl (yl_pick_t rfl rfl rfl rfl ?_)
    refine SeqR.done ?_
    refine tn ?_
    refine CW.cond_t rfl rfl ?_
    refine CW.seq ?_
    refine CW.region ?_
    refine SeqR.d1 rfl rfl rfl (yl_assign rfl rfl ?_)
    refine SeqR.done ?_
    refine tn ?_
    refine CW.ret ?_
    refine tr ?_
    refine rr rfl (.cons rfl .nil) ?_
    have hM157 : (s_GoodRenew p_r) = (false) := by simp only [s_GoodRenew, hb15, cond_true, cond_false, loopE_done, loopE_ret]
    rw [hM157]
    have q158 := Ex.trans (Ex.refl w) hE11
    have q159 := Ex.trans q158 hE14
    exact ⟨rfl, q159⟩
set_option maxRecDepth 100000 in
set_option maxHeartbeats 2000000 in
theorem c_s_l28High {A1 : Option Addr} {c1 : Nat} {A2 : Option Addr} {c2 : Nat} {w : World} (p_r : DRenew) (p_c : DClock) (h1 : RdS w (Iv 0 w.heap.size) (RF e_Clock) 1 A1 p_r.Clocks.length c1 p_r.Clocks) (h2 : RdS w (Iv 0 w.heap.size) (RF e_VLease) 2 A2 p_r.Leases.length c2 p_r.Leases) (o3 : ok_Renew p_r) : Cal Try.prog 106 #[.agg #[.int .i64 (p_r.Now), .int .i64 (p_r.Master.Off), .slice A1 p_r.Clocks.length c1, .int .i64 (p_r.Ver), .slice A2 p_r.Leases.length c2], .agg #[.int .i64 (p_c.Off)]] w fun v w' => v = .int .i64 ((s_l28High p_r p_c)) ∧ Ex w w' := by
  have hol4 := o3.1.1
  have hol5 := o3.2.1
  refine Cal.of (vs := [.agg #[.int .i64 (p_r.Now), .int .i64 (p_r.Master.Off), .slice A1 p_r.Clocks.length c1, .int .i64 (p_r.Ver), .slice A2 p_r.Leases.length c2], .agg #[.int .i64 (p_c.Off)]]) Try.func106 rfl Try.ntmps106 rfl ?_
  refine CW.seq ?_
  refine CW.region ?_
  refine SeqR.d1 rfl rfl rfl (yl_box (cs := [.int .i64 (p_r.Now), .int .i64 (p_r.Master.Off), .slice A1 p_r.Clocks.length c1, .int .i64 (p_r.Ver), .slice A2 p_r.Leases.length c2]) rfl rfl rfl ?_)
  intro b6 w7 hs8 hz9 hB10 hE11
  refine SeqR.d1 rfl rfl rfl (yl_box (cs := [.int .i64 (p_c.Off)]) rfl rfl rfl ?_)
  intro b12 w13 hs14 hz15 hB16 hE17
  refine SeqR.d1 rfl rfl rfl (yl_assign rfl rfl ?_)
  refine SeqR.done ?_
  refine tn ?_
  refine CW.seq ?_
  refine CW.region ?_
  refine SeqR.d1 rfl rfl rfl (yl_fieldAddr Try.fd37_0 rfl rfl ?_)
  have q18 := Box.ex hB10 hE17
  refine SeqR.d1 rfl rfl rfl (yl_load1 Try.ty3 rfl rfl ((q18.cell 0).trans rfl) ?_)
  refine SeqR.d1 rfl rfl rfl (yl_fieldAddr Try.fd33_0 rfl rfl ?_)
  refine SeqR.d1 rfl rfl rfl (yl_load1 Try.ty3 rfl rfl ((hB16.cell 0).trans rfl) ?_)
  refine SeqR.d1 rfl rfl rfl (yl_add rfl rfl rfl ?_)
  refine SeqR.d1 rfl rfl rfl (yl_add rfl rfl rfl ?_)
  refine SeqR.d1 rfl rfl rfl (yl_assign rfl rfl ?_)
  refine SeqR.done ?_
  refine tn ?_
  refine CW.ret ?_
  refine rr rfl (.cons rfl .nil) ?_
  have hM19 : (s_l28High p_r p_c) = (IntKind.wrap .i64 ((IntKind.wrap .i64 (p_r.Now + p_c.Off)) + 5)) := by simp only [s_l28High, cond_true, cond_false, loopE_done, loopE_ret]
  rw [hM19]
  have q20 := Ex.trans (Ex.refl w) hE11
  have q21 := Ex.trans q20 hE17
  exact ⟨rfl, q21⟩
set_option maxRecDepth 100000 in
set_option maxHeartbeats 2000000 in
theorem c_s_l28Usable {A1 : Option Addr} {c1 : Nat} {A2 : Option Addr} {c2 : Nat} {w : World} (p_r : DRenew) (p_server : Int) (h1 : RdS w (Iv 0 w.heap.size) (RF e_Clock) 1 A1 p_r.Clocks.length c1 p_r.Clocks) (h2 : RdS w (Iv 0 w.heap.size) (RF e_VLease) 2 A2 p_r.Leases.length c2 p_r.Leases) (o3 : ok_Renew p_r) (pre0 : (0 ≤ p_server ∧ p_server < (p_r.Clocks.length : Int) ∧ p_server < (p_r.Leases.length : Int))) : Cal Try.prog 77 #[.agg #[.int .i64 (p_r.Now), .int .i64 (p_r.Master.Off), .slice A1 p_r.Clocks.length c1, .int .i64 (p_r.Ver), .slice A2 p_r.Leases.length c2], .int .i64 (p_server)] w fun v w' => v = .bool ((s_l28Usable p_r p_server)) ∧ Ex w w' := by
  have hol4 := o3.1.1
  have hol5 := o3.2.1
  refine Cal.of (vs := [.agg #[.int .i64 (p_r.Now), .int .i64 (p_r.Master.Off), .slice A1 p_r.Clocks.length c1, .int .i64 (p_r.Ver), .slice A2 p_r.Leases.length c2], .int .i64 (p_server)]) Try.func77 rfl Try.ntmps77 rfl ?_
  refine CW.seq ?_
  refine CW.region ?_
  refine SeqR.d1 rfl rfl rfl (yl_box (cs := [.int .i64 (p_r.Now), .int .i64 (p_r.Master.Off), .slice A1 p_r.Clocks.length c1, .int .i64 (p_r.Ver), .slice A2 p_r.Leases.length c2]) rfl rfl rfl ?_)
  intro b6 w7 hs8 hz9 hB10 hE11
  refine SeqR.d1 rfl rfl rfl (yl_assign rfl rfl ?_)
  refine SeqR.done ?_
  refine tn ?_
  refine CW.seq ?_
  have q12 := RdS.ex good_Clock h1 hE11
  obtain ⟨eb13, eo13, ec13, eA13, eS13, ebl13, el13, eR13, eC13⟩ := RdS.atD q12 d_Clock (i := (p_server).toNat) (by first | omega | assumption | (simp only [IntKind.wrap_i64] at *; omega))
  obtain rfl := eR13
  have eC13 : Cells w7 eb13 (eo13 + ((p_server).toNat) * 1) [.int .i64 ((p_r.Clocks.getD ((p_server).toNat) d_Clock).Off)] := eC13
  have q14 := RdS.ex good_VLease h2 hE11
  obtain ⟨eb16, eo16, ec16, eA16, eS16, ebl16, el16, eR16, eC16⟩ := RdS.atD q14 d_VLease (i := (p_server).toNat) (by first | omega | assumption | (simp only [IntKind.wrap_i64] at *; omega))
  obtain rfl := eR16
  have eC16 : Cells w7 eb16 (eo16 + ((p_server).toNat) * 2) [.int .i64 ((p_r.Leases.getD ((p_server).toNat) d_VLease).Ver), .int .i64 ((p_r.Leases.getD ((p_server).toNat) d_VLease).Until)] := eC16
  refine CW.draws (vget [Det (.agg #[.int .i64 (p_r.Now), .int .i64 (p_r.Master.Off), .slice A1 p_r.Clocks.length c1, .int .i64 (p_r.Ver), .slice A2 p_r.Leases.length c2]), Det (.pointer (some ⟨b6, 0 + 2, none⟩)), Det (.slice A1 p_r.Clocks.length c1), Det (.int .i64 (p_server)), Det (.pointer (some ⟨eb13, eo13 + ((p_server).toNat) * 1, none⟩)), Det (.agg #[.int .i64 ((p_r.Clocks.getD ((p_server).toNat) d_Clock).Off)]), Det (.int .i64 ((s_l28High p_r (p_r.Clocks.getD ((p_server).toNat) d_Clock)))), Det (.pointer (some ⟨b6, 0 + 4, none⟩)), Det (.slice A2 p_r.Leases.length c2), Det (.int .i64 (p_server)), Det (.pointer (some ⟨eb16, eo16 + ((p_server).toNat) * 2, none⟩)), Det (.pointer (some ⟨eb16, eo16 + ((p_server).toNat) * 2 + 1, none⟩)), Det (.int .i64 ((p_r.Leases.getD ((p_server).toNat) d_VLease).Until)), Det (.bool (decide ((s_l28High p_r (p_r.Clocks.getD ((p_server).toNat) d_Clock)) < ((p_r.Leases.getD ((p_server).toNat) d_VLease).Until)))), Det (.bool (decide ((s_l28High p_r (p_r.Clocks.getD ((p_server).toNat) d_Clock)) < ((p_r.Leases.getD ((p_server).toNat) d_VLease).Until))))]) Try.follows rfl rfl rfl rfl (vget_stable ⟨Stable.det _, Stable.det _, Stable.det _, Stable.det _, Stable.det _, Stable.det _, Stable.det _, Stable.det _, Stable.det _, Stable.det _, Stable.det _, Stable.det _, Stable.det _, Stable.det _, Stable.det _, trivial⟩) ⟨?_, ?_, ?_, ?_, ?_, ?_, ?_, ?_, ?_, ?_, ?_, ?_, ?_, ?_, ?_, trivial⟩ ?_
  · intro L17 w18 hi19
    have hE20 := hi19.ex
    have hE20z := Ex.size hE20
    have hx21 := hi19.old 2 _ rfl rfl
    have q22 := Box.ex hB10 hE20
    exact OpR.op' rfl (Yl.same (yl_loadN (cs := [.int .i64 (p_r.Now), .int .i64 (p_r.Master.Off), .slice A1 p_r.Clocks.length c1, .int .i64 (p_r.Ver), .slice A2 p_r.Leases.length c2]) Try.ty37 rfl hx21 (q22.cells (n := 5) rfl) rfl ⟨rfl, rfl⟩))
  · intro L23 w24 hi25
    have hE26 := hi25.ex
    have hE26z := Ex.size hE26
    have hx27 := hi25.old 2 _ rfl rfl
    exact OpR.op' rfl (Yl.same (yl_fieldAddr Try.fd37_2 rfl hx27 ⟨rfl, rfl⟩))
  · intro L28 w29 hi30
    have hE31 := hi30.ex
    have hE31z := Ex.size hE31
    obtain ⟨_, hx32, rfl⟩ := hi30.dep 1 6 rfl rfl
    have q33 := Box.ex hB10 hE31
    exact OpR.op' rfl (Yl.same (yl_load1 Try.ty34 rfl hx32 ((q33.cell 2).trans rfl) ⟨rfl, rfl⟩))
  · intro L34 w35 hi36
    have hE37 := hi36.ex
    have hE37z := Ex.size hE37
    have hx38 := hi36.old 1 _ rfl rfl
    exact OpR.op' rfl (Yl.same (yl_move rfl hx38 ⟨rfl, rfl⟩))
  · intro L39 w40 hi41
    have hE42 := hi41.ex
    have hE42z := Ex.size hE42
    obtain ⟨_, hx43, rfl⟩ := hi41.dep 2 7 rfl rfl
    obtain ⟨_, hx44, rfl⟩ := hi41.dep 3 8 rfl rfl
    exact OpR.op' rfl (Yl.same (yl_indexAddr Try.un34 Try.ty33 rfl hx43 hx44 eA13 (by first | omega | assumption | (simp only [IntKind.wrap_i64] at *; omega)) (by first | omega | assumption | (simp only [IntKind.wrap_i64] at *; omega)) ⟨rfl, rfl⟩))
  · intro L45 w46 hi47
    have hE48 := hi47.ex
    have hE48z := Ex.size hE48
    obtain ⟨_, hx49, rfl⟩ := hi47.dep 4 9 rfl rfl
    have q50 := Cells.ex eC13 hE48
    exact OpR.op' rfl (Yl.same (yl_loadN (cs := [.int .i64 ((p_r.Clocks.getD ((p_server).toNat) d_Clock).Off)]) Try.ty33 rfl hx49 q50 rfl ⟨rfl, rfl⟩))
  · intro L51 w52 hi53
    have hE54 := hi53.ex
    have hE54z := Ex.size hE54
    obtain ⟨_, hx55, rfl⟩ := hi53.dep 0 5 rfl rfl
    obtain ⟨_, hx56, rfl⟩ := hi53.dep 5 10 rfl rfl
    have q57 := RdS.ex good_Clock q12 hE54
    have q58 := RdS.ex good_VLease q14 hE54
    refine OpR.op' rfl (yl_call Try.en106 rfl (opvs_cons hx55 (opvs_cons hx56 opvs_nil)) (Cal.mono (c_s_l28High p_r (p_r.Clocks.getD ((p_server).toNat) d_Clock) (RdS.up q57 good_Clock) (RdS.up q58 good_VLease) o3) ?_))
    rintro v60 w59 ⟨rfl, hE61⟩
    exact ⟨rfl, hE61⟩
  · intro L62 w63 hi64
    have hE65 := hi64.ex
    have hE65z := Ex.size hE65
    have hx66 := hi64.old 2 _ rfl rfl
    exact OpR.op' rfl (Yl.same (yl_fieldAddr Try.fd37_4 rfl hx66 ⟨rfl, rfl⟩))
  · intro L67 w68 hi69
    have hE70 := hi69.ex
    have hE70z := Ex.size hE70
    obtain ⟨_, hx71, rfl⟩ := hi69.dep 7 12 rfl rfl
    have q72 := Box.ex hB10 hE70
    exact OpR.op' rfl (Yl.same (yl_load1 Try.ty35 rfl hx71 ((q72.cell 4).trans rfl) ⟨rfl, rfl⟩))
  · intro L73 w74 hi75
    have hE76 := hi75.ex
    have hE76z := Ex.size hE76
    have hx77 := hi75.old 1 _ rfl rfl
    exact OpR.op' rfl (Yl.same (yl_move rfl hx77 ⟨rfl, rfl⟩))
  · intro L78 w79 hi80
    have hE81 := hi80.ex
    have hE81z := Ex.size hE81
    obtain ⟨_, hx82, rfl⟩ := hi80.dep 8 13 rfl rfl
    obtain ⟨_, hx83, rfl⟩ := hi80.dep 9 14 rfl rfl
    exact OpR.op' rfl (Yl.same (yl_indexAddr Try.un35 Try.ty103 rfl hx82 hx83 eA16 (by first | omega | assumption | (simp only [IntKind.wrap_i64] at *; omega)) (by first | omega | assumption | (simp only [IntKind.wrap_i64] at *; omega)) ⟨rfl, rfl⟩))
  · intro L84 w85 hi86
    have hE87 := hi86.ex
    have hE87z := Ex.size hE87
    obtain ⟨_, hx88, rfl⟩ := hi86.dep 10 15 rfl rfl
    exact OpR.op' rfl (Yl.same (yl_fieldAddr Try.fd103_1 rfl hx88 ⟨rfl, rfl⟩))
  · intro L89 w90 hi91
    have hE92 := hi91.ex
    have hE92z := Ex.size hE92
    obtain ⟨_, hx93, rfl⟩ := hi91.dep 11 16 rfl rfl
    have q94 := Cells.ex eC16 hE92
    exact OpR.op' rfl (Yl.same (yl_load1 Try.ty3 rfl hx93 (q94 1 _ rfl) ⟨rfl, rfl⟩))
  · intro L95 w96 hi97
    have hE98 := hi97.ex
    have hE98z := Ex.size hE98
    obtain ⟨_, hx99, rfl⟩ := hi97.dep 6 11 rfl rfl
    obtain ⟨_, hx100, rfl⟩ := hi97.dep 12 17 rfl rfl
    exact OpR.op' rfl (Yl.same (yl_lss rfl hx99 hx100 ⟨rfl, rfl⟩))
  · intro L101 w102 hi103
    have hE104 := hi103.ex
    have hE104z := Ex.size hE104
    obtain ⟨_, hx105, rfl⟩ := hi103.dep 13 18 rfl rfl
    exact OpR.op' rfl (Yl.same (yl_assign rfl hx105 ⟨rfl, rfl⟩))
  · intro L106 w107 hp108
    have hE109 := hp108.ex
    have hE109z := Ex.size hE109
    obtain ⟨_, hx110, rfl⟩ := hp108.new 14 4 rfl
    refine tn ?_
    refine CW.sub (Sub.cons hx110 (Sub.nil _)) ?_
    refine CW.ret ?_
    refine rr rfl (.cons rfl .nil) ?_
    have hM111 : (s_l28Usable p_r p_server) = (decide ((s_l28High p_r (p_r.Clocks.getD ((p_server).toNat) d_Clock)) < ((p_r.Leases.getD ((p_server).toNat) d_VLease).Until))) := by simp only [s_l28Usable, cond_true, cond_false, loopE_done, loopE_ret]
    rw [hM111]
    have q112 := Ex.trans (Ex.refl w) hE11
    have q113 := Ex.trans q112 hE109
    exact ⟨rfl, q113⟩
set_option maxRecDepth 100000 in
set_option maxHeartbeats 2000000 in
theorem c_s_UsableIn {A1 : Option Addr} {c1 : Nat} {A2 : Option Addr} {c2 : Nat} {w : World} (p_r : DRenew) (p_server : Int) (h1 : RdS w (Iv 0 w.heap.size) (RF e_Clock) 1 A1 p_r.Clocks.length c1 p_r.Clocks) (h2 : RdS w (Iv 0 w.heap.size) (RF e_VLease) 2 A2 p_r.Leases.length c2 p_r.Leases) (o3 : ok_Renew p_r) : Cal Try.prog 30 #[.agg #[.int .i64 (p_r.Now), .int .i64 (p_r.Master.Off), .slice A1 p_r.Clocks.length c1, .int .i64 (p_r.Ver), .slice A2 p_r.Leases.length c2], .int .i64 (p_server)] w fun v w' => v = .tuple #[.int .i64 ((s_UsableIn p_r p_server).1), .bool ((s_UsableIn p_r p_server).2.1), .bool ((s_UsableIn p_r p_server).2.2)] ∧ Ex w w' := by
  have hol4 := o3.1.1
  have hol5 := o3.2.1
  refine Cal.of (vs := [.agg #[.int .i64 (p_r.Now), .int .i64 (p_r.Master.Off), .slice A1 p_r.Clocks.length c1, .int .i64 (p_r.Ver), .slice A2 p_r.Leases.length c2], .int .i64 (p_server)]) Try.func30 rfl Try.ntmps30 rfl ?_
  refine CW.seq ?_
  refine CW.region ?_
  refine SeqR.d1 rfl rfl rfl (yl_box (cs := [.int .i64 (p_r.Now), .int .i64 (p_r.Master.Off), .slice A1 p_r.Clocks.length c1, .int .i64 (p_r.Ver), .slice A2 p_r.Leases.length c2]) rfl rfl rfl ?_)
  intro b6 w7 hs8 hz9 hB10 hE11
  refine SeqR.d1 rfl rfl rfl (yl_assign rfl rfl ?_)
  refine SeqR.d1 rfl rfl rfl (yl_assign rfl rfl ?_)
  refine SeqR.d1 rfl rfl rfl (yl_assign rfl rfl ?_)
  refine SeqR.done ?_
  refine tn ?_
  refine CW.seq ?_
  refine CW.seq ?_
  refine CW.region ?_
  refine SeqR.d1 rfl rfl rfl (yl_loadN (cs := [.int .i64 (p_r.Now), .int .i64 (p_r.Master.Off), .slice A1 p_r.Clocks.length c1, .int .i64 (p_r.Ver), .slice A2 p_r.Leases.length c2]) Try.ty37 rfl rfl (hB10.cells (n := 5) rfl) rfl ?_)
  have q12 := RdS.ex good_Clock h1 hE11
  have q13 := RdS.ex good_VLease h2 hE11
  refine SeqR.d1 rfl rfl rfl (yl_call Try.en25 rfl (opvs_cons rfl opvs_nil) (Cal.mono (c_s_GoodRenew p_r (RdS.up q12 good_Clock) (RdS.up q13 good_VLease) o3) ?_))
  rintro v15 w14 ⟨rfl, hE16⟩
  have hE16z := Ex.size hE16
  refine SeqR.d1 rfl rfl rfl (yl_not rfl rfl ?_)
  refine SeqR.d1 rfl rfl rfl (yl_move rfl rfl ?_)
  refine bcase (s_GoodRenew p_r) (fun hb17 => ?_) (fun hb17 => ?_)
  · have hb17p := f_s_GoodRenew hb17
    refine SeqR.y rfl rfl rfl rfl rfl (not_t hb17) (yl_move rfl rfl ?_)
    refine SeqR.y rfl rfl rfl rfl rfl (not_t hb17) (yl_fieldAddr Try.fd37_2 rfl rfl ?_)
    have q18 := Box.ex hB10 hE16
    refine SeqR.y rfl rfl rfl rfl rfl (not_t hb17) (yl_load1 Try.ty34 rfl rfl ((q18.cell 2).trans rfl) ?_)
    refine SeqR.y rfl rfl rfl rfl rfl (not_t hb17) (yl_len Try.un34 rfl rfl ?_)
    refine SeqR.y rfl rfl rfl rfl rfl (not_t hb17) (yl_sub rfl rfl rfl ?_)
    refine SeqR.y rfl rfl rfl rfl rfl (not_t hb17) (yl_call Try.en50 rfl (opvs_cons rfl (opvs_cons rfl (opvs_cons rfl opvs_nil))) (Cal.mono (c_s_l1In p_server 0 (IntKind.wrap .i64 ((p_r.Clocks.length : Int) - 1))) ?_))
    rintro v20 w19 ⟨rfl, hE21⟩
    have hE21z := Ex.size hE21
    refine SeqR.y rfl rfl rfl rfl rfl (not_t hb17) (yl_not rfl rfl ?_)
    refine SeqR.d1 rfl rfl rfl (yl_pick_f rfl rfl (not_t hb17) rfl ?_)
    refine SeqR.done ?_
    refine tn ?_
    refine bcase (s_l1In p_server 0 (IntKind.wrap .i64 ((p_r.Clocks.length : Int) - 1))) (fun hb22 => ?_) (fun hb22 => ?_)
    · have hb22p := f_l1In hb22
      refine CW.cond_f rfl (not_t hb22) ?_
      refine CW.skip ?_
      refine tn ?_
      refine CW.seq ?_
      have q23 := Box.ex q18 hE21
      have q24 := RdS.ex good_VLease q13 hE16
      have q25 := RdS.ex good_VLease q24 hE21
      obtain ⟨eb26, eo26, ec26, eA26, eS26, ebl26, el26, eR26, eC26⟩ := RdS.atD q25 d_VLease (i := (p_server).toNat) (by first | omega | assumption | (simp only [IntKind.wrap_i64] at *; omega))
      obtain rfl := eR26
      have eC26 : Cells w19 eb26 (eo26 + ((p_server).toNat) * 2) [.int .i64 ((p_r.Leases.getD ((p_server).toNat) d_VLease).Ver), .int .i64 ((p_r.Leases.getD ((p_server).toNat) d_VLease).Until)] := eC26
      have q27 := RdS.ex good_Clock q12 hE16
      have q28 := RdS.ex good_Clock q27 hE21
      refine CW.draws (vget [Det (.pointer (some ⟨b6, 0 + 4, none⟩)), Det (.slice A2 p_r.Leases.length c2), Det (.int .i64 (p_server)), Det (.pointer (some ⟨eb26, eo26 + ((p_server).toNat) * 2, none⟩)), Det (.pointer (some ⟨eb26, eo26 + ((p_server).toNat) * 2 + 0, none⟩)), Det (.int .i64 ((p_r.Leases.getD ((p_server).toNat) d_VLease).Ver)), Det (.agg #[.int .i64 (p_r.Now), .int .i64 (p_r.Master.Off), .slice A1 p_r.Clocks.length c1, .int .i64 (p_r.Ver), .slice A2 p_r.Leases.length c2]), Det (.int .i64 (p_server)), Det (.bool ((s_l28Usable p_r p_server))), Det (.int .i64 ((p_r.Leases.getD ((p_server).toNat) d_VLease).Ver)), Det (.bool ((s_l28Usable p_r p_server))), Det (.bool (true))]) Try.follows rfl rfl rfl rfl (vget_stable ⟨Stable.det _, Stable.det _, Stable.det _, Stable.det _, Stable.det _, Stable.det _, Stable.det _, Stable.det _, Stable.det _, Stable.det _, Stable.det _, Stable.det _, trivial⟩) ⟨?_, ?_, ?_, ?_, ?_, ?_, ?_, ?_, ?_, ?_, ?_, ?_, trivial⟩ ?_
      · intro L30 w31 hi32
        have hE33 := hi32.ex
        have hE33z := Ex.size hE33
        have hx34 := hi32.old 2 _ rfl rfl
        exact OpR.op' rfl (Yl.same (yl_fieldAddr Try.fd37_4 rfl hx34 ⟨rfl, rfl⟩))
      · intro L35 w36 hi37
        have hE38 := hi37.ex
        have hE38z := Ex.size hE38
        obtain ⟨_, hx39, rfl⟩ := hi37.dep 0 19 rfl rfl
        have q40 := Box.ex q23 hE38
        exact OpR.op' rfl (Yl.same (yl_load1 Try.ty35 rfl hx39 ((q40.cell 4).trans rfl) ⟨rfl, rfl⟩))
      · intro L41 w42 hi43
        have hE44 := hi43.ex
        have hE44z := Ex.size hE44
        have hx45 := hi43.old 1 _ rfl rfl
        exact OpR.op' rfl (Yl.same (yl_move rfl hx45 ⟨rfl, rfl⟩))
      · intro L46 w47 hi48
        have hE49 := hi48.ex
        have hE49z := Ex.size hE49
        obtain ⟨_, hx50, rfl⟩ := hi48.dep 1 20 rfl rfl
        obtain ⟨_, hx51, rfl⟩ := hi48.dep 2 21 rfl rfl
        exact OpR.op' rfl (Yl.same (yl_indexAddr Try.un35 Try.ty103 rfl hx50 hx51 eA26 (by first | omega | assumption | (simp only [IntKind.wrap_i64] at *; omega)) (by first | omega | assumption | (simp only [IntKind.wrap_i64] at *; omega)) ⟨rfl, rfl⟩))
      · intro L52 w53 hi54
        have hE55 := hi54.ex
        have hE55z := Ex.size hE55
        obtain ⟨_, hx56, rfl⟩ := hi54.dep 3 22 rfl rfl
        exact OpR.op' rfl (Yl.same (yl_fieldAddr Try.fd103_0 rfl hx56 ⟨rfl, rfl⟩))
      · intro L57 w58 hi59
        have hE60 := hi59.ex
        have hE60z := Ex.size hE60
        obtain ⟨_, hx61, rfl⟩ := hi59.dep 4 23 rfl rfl
        have q62 := Cells.ex eC26 hE60
        exact OpR.op' rfl (Yl.same (yl_load1 Try.ty3 rfl hx61 (q62 0 _ rfl) ⟨rfl, rfl⟩))
      · intro L63 w64 hi65
        have hE66 := hi65.ex
        have hE66z := Ex.size hE66
        have hx67 := hi65.old 2 _ rfl rfl
        have q68 := Box.ex q23 hE66
        exact OpR.op' rfl (Yl.same (yl_loadN (cs := [.int .i64 (p_r.Now), .int .i64 (p_r.Master.Off), .slice A1 p_r.Clocks.length c1, .int .i64 (p_r.Ver), .slice A2 p_r.Leases.length c2]) Try.ty37 rfl hx67 (q68.cells (n := 5) rfl) rfl ⟨rfl, rfl⟩))
      · intro L69 w70 hi71
        have hE72 := hi71.ex
        have hE72z := Ex.size hE72
        have hx73 := hi71.old 1 _ rfl rfl
        exact OpR.op' rfl (Yl.same (yl_move rfl hx73 ⟨rfl, rfl⟩))
      · intro L74 w75 hi76
        have hE77 := hi76.ex
        have hE77z := Ex.size hE77
        obtain ⟨_, hx78, rfl⟩ := hi76.dep 6 25 rfl rfl
        obtain ⟨_, hx79, rfl⟩ := hi76.dep 7 26 rfl rfl
        have q80 := RdS.ex good_Clock q28 hE77
        have q81 := RdS.ex good_VLease q25 hE77
        refine OpR.op' rfl (yl_call Try.en77 rfl (opvs_cons hx78 (opvs_cons hx79 opvs_nil)) (Cal.mono (c_s_l28Usable p_r p_server (RdS.up q80 good_Clock) (RdS.up q81 good_VLease) o3 (by first | omega | assumption | (simp only [IntKind.wrap_i64] at *; omega))) ?_))
        rintro v83 w82 ⟨rfl, hE84⟩
        exact ⟨rfl, hE84⟩
      · intro L85 w86 hi87
        have hE88 := hi87.ex
        have hE88z := Ex.size hE88
        obtain ⟨_, hx89, rfl⟩ := hi87.dep 5 24 rfl rfl
        exact OpR.op' rfl (Yl.same (yl_assign rfl hx89 ⟨rfl, rfl⟩))
      · intro L90 w91 hi92
        have hE93 := hi92.ex
        have hE93z := Ex.size hE93
        obtain ⟨_, hx94, rfl⟩ := hi92.dep 8 27 rfl rfl
        exact OpR.op' rfl (Yl.same (yl_assign rfl hx94 ⟨rfl, rfl⟩))
      · intro L95 w96 hi97
        have hE98 := hi97.ex
        have hE98z := Ex.size hE98
        exact OpR.op' rfl (Yl.same (yl_assign rfl rfl ⟨rfl, rfl⟩))
      · intro L99 w100 hp101
        have hE102 := hp101.ex
        have hE102z := Ex.size hE102
        obtain ⟨_, hx103, rfl⟩ := hp101.new 9 4 rfl
        obtain ⟨_, hx104, rfl⟩ := hp101.new 10 5 rfl
        obtain ⟨_, hx105, rfl⟩ := hp101.new 11 6 rfl
        refine tn ?_
        refine CW.sub (Sub.cons hx103 (Sub.cons hx104 (Sub.cons hx105 (Sub.nil _)))) ?_
        refine CW.ret ?_
        refine rr rfl (.cons rfl (.cons rfl (.cons rfl .nil))) ?_
        have hM106 : (s_UsableIn p_r p_server) = (((p_r.Leases.getD ((p_server).toNat) d_VLease).Ver, (s_l28Usable p_r p_server), true)) := by simp only [s_UsableIn, hb17, hb22, cond_true, cond_false, loopE_done, loopE_ret]
        rw [hM106]
        have q107 := Ex.trans (Ex.refl w) hE11
        have q108 := Ex.trans q107 hE16
        have q109 := Ex.trans q108 hE21
        have q110 := Ex.trans q109 hE102
        exact ⟨rfl, q110⟩
    · skip
      refine CW.cond_t rfl (not_f hb22) ?_
      refine CW.seq ?_
      refine CW.region ?_
      refine SeqR.d1 rfl rfl rfl (yl_assign rfl rfl ?_)
      refine SeqR.d1 rfl rfl rfl (yl_assign rfl rfl ?_)
      refine SeqR.d1 rfl rfl rfl (yl_assign rfl rfl ?_)
      refine SeqR.done ?_
      refine tn ?_
      refine CW.ret ?_
      refine tr ?_
      refine rr rfl (.cons rfl (.cons rfl (.cons rfl .nil))) ?_
      have hM111 : (s_UsableIn p_r p_server) = ((0, false, false)) := by simp only [s_UsableIn, hb17, hb22, cond_true, cond_false, loopE_done, loopE_ret]
      rw [hM111]
      have q112 := Ex.trans (Ex.refl w) hE11
      have q113 := Ex.trans q112 hE16
      have q114 := Ex.trans q113 hE21
      exact ⟨rfl, q114⟩
  · skip
    refine SeqR.z rfl rfl rfl rfl rfl (not_f hb17) ?_
    refine SeqR.z rfl rfl rfl rfl rfl (not_f hb17) ?_
    refine SeqR.z rfl rfl rfl rfl rfl (not_f hb17) ?_
    refine SeqR.z rfl rfl rfl rfl rfl (not_f hb17) ?_
    refine SeqR.z rfl rfl rfl rfl rfl (not_f hb17) ?_
    refine SeqR.z rfl rfl rfl rfl rfl (not_f hb17) ?_
    refine SeqR.z rfl rfl rfl rfl rfl (not_f hb17) ?_
    refine SeqR.d1 rfl rfl rfl (yl_pick_t rfl rfl (not_f hb17) rfl ?_)
    refine SeqR.done ?_
    refine tn ?_
    refine CW.cond_t rfl rfl ?_
    refine CW.seq ?_
    refine CW.region ?_
    refine SeqR.d1 rfl rfl rfl (yl_assign rfl rfl ?_)
    refine SeqR.d1 rfl rfl rfl (yl_assign rfl rfl ?_)
    refine SeqR.d1 rfl rfl rfl (yl_assign rfl rfl ?_)
    refine SeqR.done ?_
    refine tn ?_
    refine CW.ret ?_
    refine tr ?_
    refine rr rfl (.cons rfl (.cons rfl (.cons rfl .nil))) ?_
    have hM115 : (s_UsableIn p_r p_server) = ((0, false, false)) := by simp only [s_UsableIn, hb17, cond_true, cond_false, loopE_done, loopE_ret]
    rw [hM115]
    have q116 := Ex.trans (Ex.refl w) hE11
    have q117 := Ex.trans q116 hE16
    exact ⟨rfl, q117⟩
set_option maxRecDepth 100000 in
set_option maxHeartbeats 2000000 in
theorem c_i_within {w : World} (p_n : Int) (p_low : Int) (p_high : Int) : Cal Try.prog 56 #[.int .i64 (p_n), .int .i64 (p_low), .int .i64 (p_high)] w fun v w' => v = .bool ((i_within p_n p_low p_high)) ∧ Ex w w' := by
  refine Cal.of (vs := [.int .i64 (p_n), .int .i64 (p_low), .int .i64 (p_high)]) Try.func56 rfl Try.ntmps56 rfl ?_
  refine CW.seq ?_
  refine CW.region ?_
  refine SeqR.d1 rfl rfl rfl (yl_assign rfl rfl ?_)
  refine SeqR.done ?_
  refine tn ?_
  refine CW.seq ?_
  refine CW.region ?_
  refine SeqR.d1 rfl rfl rfl (yl_move rfl rfl ?_)
  refine SeqR.d1 rfl rfl rfl (yl_move rfl rfl ?_)
  refine SeqR.d1 rfl rfl rfl (yl_geq rfl rfl rfl ?_)
  refine SeqR.d1 rfl rfl rfl (yl_move rfl rfl ?_)
  refine bcase (decide (p_low ≤ p_n)) (fun hb1 => ?_) (fun hb1 => ?_)
  · have hb1p := dec_t hb1
    refine SeqR.y rfl rfl rfl rfl rfl hb1 (yl_move rfl rfl ?_)
    refine SeqR.y rfl rfl rfl rfl rfl hb1 (yl_move rfl rfl ?_)
    refine SeqR.y rfl rfl rfl rfl rfl hb1 (yl_leq rfl rfl rfl ?_)
    refine SeqR.d1 rfl rfl rfl (yl_pick_t rfl rfl hb1 rfl ?_)
    refine SeqR.d1 rfl rfl rfl (yl_assign rfl rfl ?_)
    refine SeqR.done ?_
    refine tn ?_
    refine CW.ret ?_
    refine rr rfl (.cons rfl .nil) ?_
    have hM2 : (i_within p_n p_low p_high) = (decide (p_n ≤ p_high)) := by simp only [i_within, hb1, cond_true, cond_false, loopE_done, loopE_ret]
    rw [hM2]
    exact ⟨rfl, (Ex.refl w)⟩
  · have hb1p := dec_f hb1
    refine SeqR.z rfl rfl rfl rfl rfl hb1 ?_
    refine SeqR.z rfl rfl rfl rfl rfl hb1 ?_
    refine SeqR.z rfl rfl rfl rfl rfl hb1 ?_
    refine SeqR.d1 rfl rfl rfl (yl_pick_f rfl rfl hb1 rfl ?_)
    refine SeqR.d1 rfl rfl rfl (yl_assign rfl rfl ?_)
    refine SeqR.done ?_
    refine tn ?_
    refine CW.ret ?_
    refine rr rfl (.cons rfl .nil) ?_
    have hM3 : (i_within p_n p_low p_high) = (false) := by simp only [i_within, hb1, cond_true, cond_false, loopE_done, loopE_ret]
    rw [hM3]
    exact ⟨rfl, (Ex.refl w)⟩
set_option maxRecDepth 100000 in
set_option maxHeartbeats 2000000 in
theorem c_i_GoodClock {w : World} (p_c : DClock) : Cal Try.prog 71 #[.agg #[.int .i64 (p_c.Off)]] w fun v w' => v = .bool ((i_GoodClock p_c)) ∧ Ex w w' := by
  refine Cal.of (vs := [.agg #[.int .i64 (p_c.Off)]]) Try.func71 rfl Try.ntmps71 rfl ?_
  refine CW.seq ?_
  refine CW.region ?_
  refine SeqR.d1 rfl rfl rfl (yl_box (cs := [.int .i64 (p_c.Off)]) rfl rfl rfl ?_)
  intro b1 w2 hs3 hz4 hB5 hE6
  refine SeqR.d1 rfl rfl rfl (yl_assign rfl rfl ?_)
  refine SeqR.done ?_
  refine tn ?_
  refine CW.seq ?_
  refine CW.region ?_
  refine SeqR.d1 rfl rfl rfl (yl_fieldAddr Try.fd33_0 rfl rfl ?_)
  refine SeqR.d1 rfl rfl rfl (yl_load1 Try.ty3 rfl rfl ((hB5.cell 0).trans rfl) ?_)
  refine SeqR.d1 rfl rfl rfl (yl_call Try.en56 rfl (opvs_cons rfl (opvs_cons rfl (opvs_cons rfl opvs_nil))) (Cal.mono (c_i_within p_c.Off (-5) 5) ?_))
  rintro v8 w7 ⟨rfl, hE9⟩
  have hE9z := Ex.size hE9
  refine SeqR.d1 rfl rfl rfl (yl_assign rfl rfl ?_)
  refine SeqR.done ?_
  refine tn ?_
  refine CW.ret ?_
  refine rr rfl (.cons rfl .nil) ?_
  have hM10 : (i_GoodClock p_c) = ((i_within p_c.Off (-5) 5)) := by simp only [i_GoodClock, cond_true, cond_false, loopE_done, loopE_ret]
  rw [hM10]
  have q11 := Ex.trans (Ex.refl w) hE6
  have q12 := Ex.trans q11 hE9
  exact ⟨rfl, q12⟩
set_option maxRecDepth 100000 in
set_option maxHeartbeats 2000000 in
theorem c_g_slices_IndexFunc_Clock {A1 : Option Addr} {c1 : Nat} {g3 : Nat} {cp4 : List Value} {w : World} (p_s : List DClock) (p_f : DClock → Bool) (h1 : RdS w (Iv 0 w.heap.size) (RF e_Clock) 1 A1 p_s.length c1 p_s) (hen5 : Enters Try.prog g3) (hfn6 : ∀ (w1 : World) (y0 : DClock), Ex w w1 → Cal Try.prog g3 (([.agg #[.int .i64 (y0.Off)]] : List Value) ++ cp4).toArray w1 fun v w2 => v = .bool (p_f y0) ∧ Ex w1 w2) (o2 : (okL okT) p_s) : Cal Try.prog 104 #[.slice A1 p_s.length c1, .func (.func g3) #[] cp4.toArray] w fun v w' => v = .int .i64 ((g_slices_IndexFunc_Clock p_s p_f)) ∧ Ex w w' := by
  have hol7 := o2.1
  refine Cal.of (vs := [.slice A1 p_s.length c1, .func (.func g3) #[] cp4.toArray]) Try.func104 rfl Try.ntmps104 rfl ?_
  refine CW.seq ?_
  refine CW.region ?_
  refine SeqR.d1 rfl rfl rfl (yl_assign rfl rfl ?_)
  refine SeqR.done ?_
  refine tn ?_
  refine CW.seq ?_
  refine CW.seq ?_
  refine CW.region ?_
  refine SeqR.d1 rfl rfl rfl (yl_move rfl rfl ?_)
  refine SeqR.d1 rfl rfl rfl (yl_len Try.un34 rfl rfl ?_)
  refine SeqR.d1 rfl rfl rfl (yl_move rfl rfl ?_)
  refine SeqR.done ?_
  refine tn ?_
  refine CW.block ?_
  refine CW.loop (fun m9 L10 w11 => ∃ (k8 : Nat), m9 = p_s.length - k8 ∧ k8 ≤ p_s.length ∧ lkp L10 0 = some (.slice A1 p_s.length c1) ∧ lkp L10 1 = some (.func (.func g3) #[] cp4.toArray) ∧ lkp L10 7 = some (.int .i64 ((p_s.length : Int))) ∧ lkp L10 8 = some (.int .i64 ((k8 : Int))) ∧ RdS w11 (Iv 0 w.heap.size) (RF e_Clock) 1 A1 p_s.length c1 p_s ∧ Ex w w11 ∧ loopM (B_g_slices_IndexFunc_Clock_0 p_s p_f) (p_s.length - k8) k8 () = loopM (B_g_slices_IndexFunc_Clock_0 p_s p_f) (p_s.length - 0) 0 ()) (p_s.length - 0) ?_ ?_
  · exact ⟨0, rfl, Nat.zero_le _, rfl, rfl, rfl, rfl, h1, (Ex.refl w), rfl⟩
  · rintro m12 L13 w14 ⟨k8, rfl, hk15, hl17, hl18, hl19, hl20, hf21, hf22, hI16⟩
    refine CW.sub (Sub.cons hl17 (Sub.cons hl18 (Sub.cons hl19 (Sub.cons hl20 (Sub.nil _))))) ?_
    have hf22z := Ex.size hf22
    have hbg23 := RdS.big hf21
    rcases Nat.lt_or_ge k8 p_s.length with hlt24 | hlt24
    · skip
      refine CW.seq ?_
      refine CW.region ?_
      refine SeqR.d1 rfl rfl rfl (yl_lss rfl rfl rfl ?_)
      refine SeqR.done ?_
      refine tn ?_
      refine CW.seq ?_
      refine CW.cond_t rfl (lt_t hlt24) ?_
      refine CW.skip ?_
      refine tn ?_
      refine CW.seq ?_
      refine CW.block ?_
      refine CW.seq ?_
      refine CW.region ?_
      refine SeqR.d1 rfl rfl rfl (yl_move rfl rfl ?_)
      refine SeqR.d1 rfl rfl rfl (yl_assign rfl rfl ?_)
      refine SeqR.done ?_
      refine tn ?_
      refine CW.seq ?_
      refine CW.region ?_
      refine SeqR.d1 rfl rfl rfl (yl_move rfl rfl ?_)
      refine SeqR.d1 rfl rfl rfl (yl_move rfl rfl ?_)
      refine SeqR.d1 rfl rfl rfl (yl_move rfl rfl ?_)
      obtain ⟨eb25, eo25, ec25, eA25, eS25, ebl25, el25, eR25, eC25⟩ := RdS.atD hf21 d_Clock (i := k8) (by first | omega | assumption)
      obtain rfl := eR25
      have eC25 : Cells w14 eb25 (eo25 + k8 * 1) [.int .i64 ((p_s.getD k8 d_Clock).Off)] := eC25
      refine SeqR.d1 rfl rfl rfl (yl_indexAddrN Try.un34 Try.ty33 rfl rfl rfl eA25 (by first | omega | assumption | (simp only [IntKind.wrap_i64] at *; omega)) ?_)
      refine SeqR.d1 rfl rfl rfl (yl_loadN (cs := [.int .i64 ((p_s.getD k8 d_Clock).Off)]) Try.ty33 rfl rfl eC25 rfl ?_)
      refine SeqR.d1 rfl rfl rfl (yl_callv hen5 rfl rfl (opvs_cons rfl opvs_nil) (Cal.mono (hfn6 w14 (p_s.getD k8 d_Clock) hf22) ?_))
      rintro v27 w26 ⟨rfl, hE28⟩
      have hE28z := Ex.size hE28
      refine SeqR.done ?_
      refine tn ?_
      refine bcase (p_f (p_s.getD k8 d_Clock)) (fun hb29 => ?_) (fun hb29 => ?_)
      · skip
        refine CW.cond_t rfl hb29 ?_
        refine CW.seq ?_
        refine CW.region ?_
        refine SeqR.d1 rfl rfl rfl (yl_move rfl rfl ?_)
        refine SeqR.d1 rfl rfl rfl (yl_assign rfl rfl ?_)
        refine SeqR.done ?_
        refine tn ?_
        refine CW.ret ?_
        refine br ?_
        refine tr ?_
        refine tr ?_
        have hB31 : B_g_slices_IndexFunc_Clock_0 p_s p_f k8 () = .ret (k8 : Int) := by simp only [B_g_slices_IndexFunc_Clock_0, hb29, cond_true, cond_false, loopE_done, loopE_ret]
        have hL30 : loopM (B_g_slices_IndexFunc_Clock_0 p_s p_f) (p_s.length - 0) 0 () = .ret (k8 : Int) := hI16.symm.trans (loopM.ret hlt24 hB31)
        refine br ?_
        refine tr ?_
        refine rr rfl (.cons rfl .nil) ?_
        have hM32 : (g_slices_IndexFunc_Clock p_s p_f) = ((k8 : Int)) := by simp only [g_slices_IndexFunc_Clock, hb29, hL30, cond_true, cond_false, loopE_done, loopE_ret]
        rw [hM32]
        have q33 := Ex.trans hf22 hE28
        exact ⟨rfl, q33⟩
      · skip
        refine CW.cond_f rfl hb29 ?_
        refine CW.skip ?_
        refine bn ?_
        refine tn ?_
        refine CW.region ?_
        refine SeqR.d1 rfl rfl rfl (yl_inc rfl rfl rfl (by omega) ?_)
        refine SeqR.d1 rfl rfl rfl (yl_move rfl rfl ?_)
        refine SeqR.done ?_
        refine tn ?_
        have hB34 : B_g_slices_IndexFunc_Clock_0 p_s p_f k8 () = .cont () := by simp only [B_g_slices_IndexFunc_Clock_0, hb29, cond_true, cond_false, loopE_done, loopE_ret]
        have q35 := RdS.ex good_Clock hf21 hE28
        have q36 := Ex.trans hf22 hE28
        exact ⟨p_s.length - (k8 + 1), by omega, k8 + 1, rfl, hlt24, rfl, rfl, rfl, rfl, q35, q36, (loopM.cont hlt24 hB34).symm.trans hI16⟩
    · skip
      refine CW.seq ?_
      refine CW.region ?_
      refine SeqR.d1 rfl rfl rfl (yl_lss rfl rfl rfl ?_)
      refine SeqR.done ?_
      refine tn ?_
      refine CW.seq ?_
      refine CW.cond_f rfl (lt_f hlt24) ?_
      refine CW.exit ?_
      refine tx ?_
      refine tx ?_
      have hL37 : loopM (B_g_slices_IndexFunc_Clock_0 p_s p_f) (p_s.length - 0) 0 () = .done () := hI16.symm.trans (loopM.stop hlt24)
      refine bx ?_
      refine tn ?_
      refine CW.seq ?_
      refine CW.region ?_
      refine SeqR.d1 rfl rfl rfl (yl_assign rfl rfl ?_)
      refine SeqR.done ?_
      refine tn ?_
      refine CW.ret ?_
      refine rr rfl (.cons rfl .nil) ?_
      have hM38 : (g_slices_IndexFunc_Clock p_s p_f) = (-1) := by simp only [g_slices_IndexFunc_Clock, hL37, cond_true, cond_false, loopE_done, loopE_ret]
      rw [hM38]
      exact ⟨rfl, hf22⟩
set_option maxRecDepth 100000 in
set_option maxHeartbeats 2000000 in
theorem c_g_slices_ContainsFunc_Clock {A1 : Option Addr} {c1 : Nat} {g3 : Nat} {cp4 : List Value} {w : World} (p_s : List DClock) (p_f : DClock → Bool) (h1 : RdS w (Iv 0 w.heap.size) (RF e_Clock) 1 A1 p_s.length c1 p_s) (hen5 : Enters Try.prog g3) (hfn6 : ∀ (w1 : World) (y0 : DClock), Ex w w1 → Cal Try.prog g3 (([.agg #[.int .i64 (y0.Off)]] : List Value) ++ cp4).toArray w1 fun v w2 => v = .bool (p_f y0) ∧ Ex w1 w2) (o2 : (okL okT) p_s) : Cal Try.prog 72 #[.slice A1 p_s.length c1, .func (.func g3) #[] cp4.toArray] w fun v w' => v = .bool ((g_slices_ContainsFunc_Clock p_s p_f)) ∧ Ex w w' := by
  have hol7 := o2.1
  refine Cal.of (vs := [.slice A1 p_s.length c1, .func (.func g3) #[] cp4.toArray]) Try.func72 rfl Try.ntmps72 rfl ?_
  refine CW.seq ?_
  refine CW.region ?_
  refine SeqR.d1 rfl rfl rfl (yl_assign rfl rfl ?_)
  refine SeqR.done ?_
  refine tn ?_
  refine CW.seq ?_
  refine CW.region ?_
  refine SeqR.d1 rfl rfl rfl (yl_move rfl rfl ?_)
  refine SeqR.d1 rfl rfl rfl (yl_move rfl rfl ?_)
  refine SeqR.d1 rfl rfl rfl (yl_call Try.en104 rfl (opvs_cons rfl (opvs_cons rfl opvs_nil)) (Cal.mono (c_g_slices_IndexFunc_Clock p_s p_f (RdS.up h1 good_Clock) hen5 (fun w1 y0 => fun hE => hfn6 w1 y0 (Ex.trans (Ex.refl w) hE)) o2) ?_))
  rintro v9 w8 ⟨rfl, hE10⟩
  have hE10z := Ex.size hE10
  refine SeqR.d1 rfl rfl rfl (yl_geq rfl rfl rfl ?_)
  refine SeqR.d1 rfl rfl rfl (yl_assign rfl rfl ?_)
  refine SeqR.done ?_
  refine tn ?_
  refine CW.ret ?_
  refine rr rfl (.cons rfl .nil) ?_
  have hM11 : (g_slices_ContainsFunc_Clock p_s p_f) = (decide (0 ≤ (g_slices_IndexFunc_Clock p_s p_f))) := by simp only [g_slices_ContainsFunc_Clock, cond_true, cond_false, loopE_done, loopE_ret]
  rw [hM11]
  have q12 := Ex.trans (Ex.refl w) hE10
  exact ⟨rfl, q12⟩
set_option maxRecDepth 100000 in
set_option maxHeartbeats 2000000 in
theorem c_i_GoodRenew_c1 {w : World} (p_c : DClock) : Cal Try.prog 73 #[.agg #[.int .i64 (p_c.Off)]] w fun v w' => v = .bool ((i_GoodRenew_c1 p_c)) ∧ Ex w w' := by
  refine Cal.of (vs := [.agg #[.int .i64 (p_c.Off)]]) Try.func73 rfl Try.ntmps73 rfl ?_
  refine CW.seq ?_
  refine CW.region ?_
  refine SeqR.d1 rfl rfl rfl (yl_box (cs := [.int .i64 (p_c.Off)]) rfl rfl rfl ?_)
  intro b1 w2 hs3 hz4 hB5 hE6
  refine SeqR.d1 rfl rfl rfl (yl_assign rfl rfl ?_)
  refine SeqR.done ?_
  refine tn ?_
  refine CW.seq ?_
  refine CW.region ?_
  refine SeqR.d1 rfl rfl rfl (yl_loadN (cs := [.int .i64 (p_c.Off)]) Try.ty33 rfl rfl (hB5.cells (n := 1) rfl) rfl ?_)
  refine SeqR.d1 rfl rfl rfl (yl_call Try.en71 rfl (opvs_cons rfl opvs_nil) (Cal.mono (c_i_GoodClock p_c) ?_))
  rintro v8 w7 ⟨rfl, hE9⟩
  have hE9z := Ex.size hE9
  refine SeqR.d1 rfl rfl rfl (yl_not rfl rfl ?_)
  refine SeqR.d1 rfl rfl rfl (yl_assign rfl rfl ?_)
  refine SeqR.done ?_
  refine tn ?_
  refine CW.ret ?_
  refine rr rfl (.cons rfl .nil) ?_
  have hM10 : (i_GoodRenew_c1 p_c) = (!(i_GoodClock p_c)) := by simp only [i_GoodRenew_c1, cond_true, cond_false, loopE_done, loopE_ret]
  rw [hM10]
  have q11 := Ex.trans (Ex.refl w) hE6
  have q12 := Ex.trans q11 hE9
  exact ⟨rfl, q12⟩
set_option maxRecDepth 100000 in
set_option maxHeartbeats 2000000 in
theorem c_g_slices_IndexFunc_VLease {A1 : Option Addr} {c1 : Nat} {g3 : Nat} {cp4 : List Value} {w : World} (p_s : List DVLease) (p_f : DVLease → Bool) (h1 : RdS w (Iv 0 w.heap.size) (RF e_VLease) 2 A1 p_s.length c1 p_s) (hen5 : Enters Try.prog g3) (hfn6 : ∀ (w1 : World) (y0 : DVLease), Ex w w1 → Cal Try.prog g3 (([.agg #[.int .i64 (y0.Ver), .int .i64 (y0.Until)]] : List Value) ++ cp4).toArray w1 fun v w2 => v = .bool (p_f y0) ∧ Ex w1 w2) (o2 : (okL okT) p_s) : Cal Try.prog 105 #[.slice A1 p_s.length c1, .func (.func g3) #[] cp4.toArray] w fun v w' => v = .int .i64 ((g_slices_IndexFunc_VLease p_s p_f)) ∧ Ex w w' := by
  have hol7 := o2.1
  refine Cal.of (vs := [.slice A1 p_s.length c1, .func (.func g3) #[] cp4.toArray]) Try.func105 rfl Try.ntmps105 rfl ?_
  refine CW.seq ?_
  refine CW.region ?_
  refine SeqR.d1 rfl rfl rfl (yl_assign rfl rfl ?_)
  refine SeqR.done ?_
  refine tn ?_
  refine CW.seq ?_
  refine CW.seq ?_
  refine CW.region ?_
  refine SeqR.d1 rfl rfl rfl (yl_move rfl rfl ?_)
  refine SeqR.d1 rfl rfl rfl (yl_len Try.un35 rfl rfl ?_)
  refine SeqR.d1 rfl rfl rfl (yl_move rfl rfl ?_)
  refine SeqR.done ?_
  refine tn ?_
  refine CW.block ?_
  refine CW.loop (fun m9 L10 w11 => ∃ (k8 : Nat), m9 = p_s.length - k8 ∧ k8 ≤ p_s.length ∧ lkp L10 0 = some (.slice A1 p_s.length c1) ∧ lkp L10 1 = some (.func (.func g3) #[] cp4.toArray) ∧ lkp L10 7 = some (.int .i64 ((p_s.length : Int))) ∧ lkp L10 8 = some (.int .i64 ((k8 : Int))) ∧ RdS w11 (Iv 0 w.heap.size) (RF e_VLease) 2 A1 p_s.length c1 p_s ∧ Ex w w11 ∧ loopM (B_g_slices_IndexFunc_VLease_0 p_s p_f) (p_s.length - k8) k8 () = loopM (B_g_slices_IndexFunc_VLease_0 p_s p_f) (p_s.length - 0) 0 ()) (p_s.length - 0) ?_ ?_
  · exact ⟨0, rfl, Nat.zero_le _, rfl, rfl, rfl, rfl, h1, (Ex.refl w), rfl⟩
  · rintro m12 L13 w14 ⟨k8, rfl, hk15, hl17, hl18, hl19, hl20, hf21, hf22, hI16⟩
    refine CW.sub (Sub.cons hl17 (Sub.cons hl18 (Sub.cons hl19 (Sub.cons hl20 (Sub.nil _))))) ?_
    have hf22z := Ex.size hf22
    have hbg23 := RdS.big hf21
    rcases Nat.lt_or_ge k8 p_s.length with hlt24 | hlt24
    · skip
      refine CW.seq ?_
      refine CW.region ?_
      refine SeqR.d1 rfl rfl rfl (yl_lss rfl rfl rfl ?_)
      refine SeqR.done ?_
      refine tn ?_
      refine CW.seq ?_
      refine CW.cond_t rfl (lt_t hlt24) ?_
      refine CW.skip ?_
      refine tn ?_
      refine CW.seq ?_
      refine CW.block ?_
      refine CW.seq ?_
      refine CW.region ?_
      refine SeqR.d1 rfl rfl rfl (yl_move rfl rfl ?_)
      refine SeqR.d1 rfl rfl rfl (yl_assign rfl rfl ?_)
      refine SeqR.done ?_
      refine tn ?_
      refine CW.seq ?_
      refine CW.region ?_
      refine SeqR.d1 rfl rfl rfl (yl_move rfl rfl ?_)
      refine SeqR.d1 rfl rfl rfl (yl_move rfl rfl ?_)
      refine SeqR.d1 rfl rfl rfl (yl_move rfl rfl ?_)
      obtain ⟨eb25, eo25, ec25, eA25, eS25, ebl25, el25, eR25, eC25⟩ := RdS.atD hf21 d_VLease (i := k8) (by first | omega | assumption)
      obtain rfl := eR25
      have eC25 : Cells w14 eb25 (eo25 + k8 * 2) [.int .i64 ((p_s.getD k8 d_VLease).Ver), .int .i64 ((p_s.getD k8 d_VLease).Until)] := eC25
      refine SeqR.d1 rfl rfl rfl (yl_indexAddrN Try.un35 Try.ty103 rfl rfl rfl eA25 (by first | omega | assumption | (simp only [IntKind.wrap_i64] at *; omega)) ?_)
      refine SeqR.d1 rfl rfl rfl (yl_loadN (cs := [.int .i64 ((p_s.getD k8 d_VLease).Ver), .int .i64 ((p_s.getD k8 d_VLease).Until)]) Try.ty103 rfl rfl eC25 rfl ?_)
      refine SeqR.d1 rfl rfl rfl (yl_callv hen5 rfl rfl (opvs_cons rfl opvs_nil) (Cal.mono (hfn6 w14 (p_s.getD k8 d_VLease) hf22) ?_))
      rintro v27 w26 ⟨rfl, hE28⟩
      have hE28z := Ex.size hE28
      refine SeqR.done ?_
      refine tn ?_
      refine bcase (p_f (p_s.getD k8 d_VLease)) (fun hb29 => ?_) (fun hb29 => ?_)
      · skip
        refine CW.cond_t rfl hb29 ?_
        refine CW.seq ?_
        refine CW.region ?_
        refine SeqR.d1 rfl rfl rfl (yl_move rfl rfl ?_)
        refine SeqR.d1 rfl rfl rfl (yl_assign rfl rfl ?_)
        refine SeqR.done ?_
        refine tn ?_
        refine CW.ret ?_
        refine br ?_
        refine tr ?_
        refine tr ?_
        have hB31 : B_g_slices_IndexFunc_VLease_0 p_s p_f k8 () = .ret (k8 : Int) := by simp only [B_g_slices_IndexFunc_VLease_0, hb29, cond_true, cond_false, loopE_done, loopE_ret]
        have hL30 : loopM (B_g_slices_IndexFunc_VLease_0 p_s p_f) (p_s.length - 0) 0 () = .ret (k8 : Int) := hI16.symm.trans (loopM.ret hlt24 hB31)
        refine br ?_
        refine tr ?_
        refine rr rfl (.cons rfl .nil) ?_
        have hM32 : (g_slices_IndexFunc_VLease p_s p_f) = ((k8 : Int)) := by simp only [g_slices_IndexFunc_VLease, hb29, hL30, cond_true, cond_false, loopE_done, loopE_ret]
        rw [hM32]
        have q33 := Ex.trans hf22 hE28
        exact ⟨rfl, q33⟩
      · skip
        refine CW.cond_f rfl hb29 ?_
        refine CW.skip ?_
        refine bn ?_
        refine tn ?_
        refine CW.region ?_
        refine SeqR.d1 rfl rfl rfl (yl_inc rfl rfl rfl (by omega) ?_)
        refine SeqR.d1 rfl rfl rfl (yl_move rfl rfl ?_)
        refine SeqR.done ?_
        refine tn ?_
        have hB34 : B_g_slices_IndexFunc_VLease_0 p_s p_f k8 () = .cont () := by simp only [B_g_slices_IndexFunc_VLease_0, hb29, cond_true, cond_false, loopE_done, loopE_ret]
        have q35 := RdS.ex good_VLease hf21 hE28
        have q36 := Ex.trans hf22 hE28
        exact ⟨p_s.length - (k8 + 1), by omega, k8 + 1, rfl, hlt24, rfl, rfl, rfl, rfl, q35, q36, (loopM.cont hlt24 hB34).symm.trans hI16⟩
    · skip
      refine CW.seq ?_
      refine CW.region ?_
      refine SeqR.d1 rfl rfl rfl (yl_lss rfl rfl rfl ?_)
      refine SeqR.done ?_
      refine tn ?_
      refine CW.seq ?_
      refine CW.cond_f rfl (lt_f hlt24) ?_
      refine CW.exit ?_
      refine tx ?_
      refine tx ?_
      have hL37 : loopM (B_g_slices_IndexFunc_VLease_0 p_s p_f) (p_s.length - 0) 0 () = .done () := hI16.symm.trans (loopM.stop hlt24)
      refine bx ?_
      refine tn ?_
      refine CW.seq ?_
      refine CW.region ?_
      refine SeqR.d1 rfl rfl rfl (yl_assign rfl rfl ?_)
      refine SeqR.done ?_
      refine tn ?_
      refine CW.ret ?_
      refine rr rfl (.cons rfl .nil) ?_
      have hM38 : (g_slices_IndexFunc_VLease p_s p_f) = (-1) := by simp only [g_slices_IndexFunc_VLease, hL37, cond_true, cond_false, loopE_done, loopE_ret]
      rw [hM38]
      exact ⟨rfl, hf22⟩
set_option maxRecDepth 100000 in
set_option maxHeartbeats 2000000 in
theorem c_g_slices_ContainsFunc_VLease {A1 : Option Addr} {c1 : Nat} {g3 : Nat} {cp4 : List Value} {w : World} (p_s : List DVLease) (p_f : DVLease → Bool) (h1 : RdS w (Iv 0 w.heap.size) (RF e_VLease) 2 A1 p_s.length c1 p_s) (hen5 : Enters Try.prog g3) (hfn6 : ∀ (w1 : World) (y0 : DVLease), Ex w w1 → Cal Try.prog g3 (([.agg #[.int .i64 (y0.Ver), .int .i64 (y0.Until)]] : List Value) ++ cp4).toArray w1 fun v w2 => v = .bool (p_f y0) ∧ Ex w1 w2) (o2 : (okL okT) p_s) : Cal Try.prog 74 #[.slice A1 p_s.length c1, .func (.func g3) #[] cp4.toArray] w fun v w' => v = .bool ((g_slices_ContainsFunc_VLease p_s p_f)) ∧ Ex w w' := by
  have hol7 := o2.1
  refine Cal.of (vs := [.slice A1 p_s.length c1, .func (.func g3) #[] cp4.toArray]) Try.func74 rfl Try.ntmps74 rfl ?_
  refine CW.seq ?_
  refine CW.region ?_
  refine SeqR.d1 rfl rfl rfl (yl_assign rfl rfl ?_)
  refine SeqR.done ?_
  refine tn ?_
  refine CW.seq ?_
  refine CW.region ?_
  refine SeqR.d1 rfl rfl rfl (yl_move rfl rfl ?_)
  refine SeqR.d1 rfl rfl rfl (yl_move rfl rfl ?_)
  refine SeqR.d1 rfl rfl rfl (yl_call Try.en105 rfl (opvs_cons rfl (opvs_cons rfl opvs_nil)) (Cal.mono (c_g_slices_IndexFunc_VLease p_s p_f (RdS.up h1 good_VLease) hen5 (fun w1 y0 => fun hE => hfn6 w1 y0 (Ex.trans (Ex.refl w) hE)) o2) ?_))
  rintro v9 w8 ⟨rfl, hE10⟩
  have hE10z := Ex.size hE10
  refine SeqR.d1 rfl rfl rfl (yl_geq rfl rfl rfl ?_)
  refine SeqR.d1 rfl rfl rfl (yl_assign rfl rfl ?_)
  refine SeqR.done ?_
  refine tn ?_
  refine CW.ret ?_
  refine rr rfl (.cons rfl .nil) ?_
  have hM11 : (g_slices_ContainsFunc_VLease p_s p_f) = (decide (0 ≤ (g_slices_IndexFunc_VLease p_s p_f))) := by simp only [g_slices_ContainsFunc_VLease, cond_true, cond_false, loopE_done, loopE_ret]
  rw [hM11]
  have q12 := Ex.trans (Ex.refl w) hE10
  exact ⟨rfl, q12⟩
set_option maxRecDepth 100000 in
set_option maxHeartbeats 2000000 in
theorem c_i_GoodRenew_c2 {A1 : Option Addr} {c1 : Nat} {A2 : Option Addr} {c2 : Nat} {b3 : Nat} {w : World} (p_l : DVLease) (p_cap0 : DRenew) (h1 : RdS w (Iv 0 w.heap.size) (RF e_Clock) 1 A1 p_cap0.Clocks.length c1 p_cap0.Clocks) (h2 : RdS w (Iv 0 w.heap.size) (RF e_VLease) 2 A2 p_cap0.Leases.length c2 p_cap0.Leases) (h4 : Box w b3 37 [.int .i64 (p_cap0.Now), .int .i64 (p_cap0.Master.Off), .slice A1 p_cap0.Clocks.length c1, .int .i64 (p_cap0.Ver), .slice A2 p_cap0.Leases.length c2]) (o5 : ok_Renew p_cap0) : Cal Try.prog 75 #[.agg #[.int .i64 (p_l.Ver), .int .i64 (p_l.Until)], .pointer (some ⟨b3, 0, none⟩)] w fun v w' => v = .bool ((i_GoodRenew_c2 p_l p_cap0)) ∧ Ex w w' := by
  have hol6 := o5.1.1
  have hol7 := o5.2.1
  refine Cal.of (vs := [.agg #[.int .i64 (p_l.Ver), .int .i64 (p_l.Until)], .pointer (some ⟨b3, 0, none⟩)]) Try.func75 rfl Try.ntmps75 rfl ?_
  refine CW.seq ?_
  refine CW.region ?_
  refine SeqR.d1 rfl rfl rfl (yl_box (cs := [.int .i64 (p_l.Ver), .int .i64 (p_l.Until)]) rfl rfl rfl ?_)
  intro b8 w9 hs10 hz11 hB12 hE13
  refine SeqR.d1 rfl rfl rfl (yl_assign rfl rfl ?_)
  refine SeqR.done ?_
  refine tn ?_
  refine CW.seq ?_
  refine CW.region ?_
  refine SeqR.d1 rfl rfl rfl (yl_fieldAddr Try.fd103_0 rfl rfl ?_)
  refine SeqR.d1 rfl rfl rfl (yl_load1 Try.ty3 rfl rfl ((hB12.cell 0).trans rfl) ?_)
  refine SeqR.d1 rfl rfl rfl (yl_fieldAddr Try.fd37_3 rfl rfl ?_)
  have q14 := Box.ex h4 hE13
  refine SeqR.d1 rfl rfl rfl (yl_load1 Try.ty3 rfl rfl ((q14.cell 3).trans rfl) ?_)
  refine SeqR.d1 rfl rfl rfl (yl_call Try.en56 rfl (opvs_cons rfl (opvs_cons rfl (opvs_cons rfl opvs_nil))) (Cal.mono (c_i_within p_l.Ver 0 p_cap0.Ver) ?_))
  rintro v16 w15 ⟨rfl, hE17⟩
  have hE17z := Ex.size hE17
  refine SeqR.d1 rfl rfl rfl (yl_not rfl rfl ?_)
  refine SeqR.d1 rfl rfl rfl (yl_move rfl rfl ?_)
  refine bcase (i_within p_l.Ver 0 p_cap0.Ver) (fun hb18 => ?_) (fun hb18 => ?_)
  · have hb18p := f_within hb18
    refine SeqR.y rfl rfl rfl rfl rfl (not_t hb18) (yl_fieldAddr Try.fd103_1 rfl rfl ?_)
    have q19 := Box.ex hB12 hE17
    refine SeqR.y rfl rfl rfl rfl rfl (not_t hb18) (yl_load1 Try.ty3 rfl rfl ((q19.cell 1).trans rfl) ?_)
    refine SeqR.y rfl rfl rfl rfl rfl (not_t hb18) (yl_call Try.en56 rfl (opvs_cons rfl (opvs_cons rfl (opvs_cons rfl opvs_nil))) (Cal.mono (c_i_within p_l.Until 0 1020) ?_))
    rintro v21 w20 ⟨rfl, hE22⟩
    have hE22z := Ex.size hE22
    refine SeqR.y rfl rfl rfl rfl rfl (not_t hb18) (yl_not rfl rfl ?_)
    refine SeqR.d1 rfl rfl rfl (yl_pick_f rfl rfl (not_t hb18) rfl ?_)
    refine SeqR.d1 rfl rfl rfl (yl_assign rfl rfl ?_)
    refine SeqR.done ?_
    refine tn ?_
    refine CW.ret ?_
    refine rr rfl (.cons rfl .nil) ?_
    have hM23 : (i_GoodRenew_c2 p_l p_cap0) = (!(i_within p_l.Until 0 1020)) := by simp only [i_GoodRenew_c2, hb18, cond_true, cond_false, loopE_done, loopE_ret]
    rw [hM23]
    have q24 := Ex.trans (Ex.refl w) hE13
    have q25 := Ex.trans q24 hE17
    have q26 := Ex.trans q25 hE22
    exact ⟨rfl, q26⟩
  · skip
    refine SeqR.z rfl rfl rfl rfl rfl (not_f hb18) ?_
    refine SeqR.z rfl rfl rfl rfl rfl (not_f hb18) ?_
    refine SeqR.z rfl rfl rfl rfl rfl (not_f hb18) ?_
    refine SeqR.z rfl rfl rfl rfl rfl (not_f hb18) ?_
    refine SeqR.d1 rfl rfl rfl (yl_pick_t rfl rfl (not_f hb18) rfl ?_)
    refine SeqR.d1 rfl rfl rfl (yl_assign rfl rfl ?_)
    refine SeqR.done ?_
    refine tn ?_
    refine CW.ret ?_
    refine rr rfl (.cons rfl .nil) ?_
    have hM27 : (i_GoodRenew_c2 p_l p_cap0) = (true) := by simp only [i_GoodRenew_c2, hb18, cond_true, cond_false, loopE_done, loopE_ret]
    rw [hM27]
    have q28 := Ex.trans (Ex.refl w) hE13
    have q29 := Ex.trans q28 hE17
    exact ⟨rfl, q29⟩
set_option maxRecDepth 100000 in
set_option maxHeartbeats 2000000 in
theorem c_i_GoodRenew {A1 : Option Addr} {c1 : Nat} {A2 : Option Addr} {c2 : Nat} {w : World} (p_r : DRenew) (h1 : RdS w (Iv 0 w.heap.size) (RF e_Clock) 1 A1 p_r.Clocks.length c1 p_r.Clocks) (h2 : RdS w (Iv 0 w.heap.size) (RF e_VLease) 2 A2 p_r.Leases.length c2 p_r.Leases) (o3 : ok_Renew p_r) : Cal Try.prog 27 #[.agg #[.int .i64 (p_r.Now), .int .i64 (p_r.Master.Off), .slice A1 p_r.Clocks.length c1, .int .i64 (p_r.Ver), .slice A2 p_r.Leases.length c2]] w fun v w' => v = .bool ((i_GoodRenew p_r)) ∧ Ex w w' := by
  have hol4 := o3.1.1
  have hol5 := o3.2.1
  refine Cal.of (vs := [.agg #[.int .i64 (p_r.Now), .int .i64 (p_r.Master.Off), .slice A1 p_r.Clocks.length c1, .int .i64 (p_r.Ver), .slice A2 p_r.Leases.length c2]]) Try.func27 rfl Try.ntmps27 rfl ?_
  refine CW.seq ?_
  refine CW.region ?_
  refine SeqR.d1 rfl rfl rfl (yl_box (cs := [.int .i64 (p_r.Now), .int .i64 (p_r.Master.Off), .slice A1 p_r.Clocks.length c1, .int .i64 (p_r.Ver), .slice A2 p_r.Leases.length c2]) rfl rfl rfl ?_)
  intro b6 w7 hs8 hz9 hB10 hE11
  refine SeqR.d1 rfl rfl rfl (yl_assign rfl rfl ?_)
  refine SeqR.done ?_
  refine tn ?_
  refine CW.seq ?_
  refine CW.region ?_
  refine SeqR.d1 rfl rfl rfl (yl_fieldAddr Try.fd37_0 rfl rfl ?_)
  refine SeqR.d1 rfl rfl rfl (yl_load1 Try.ty3 rfl rfl ((hB10.cell 0).trans rfl) ?_)
  refine SeqR.d1 rfl rfl rfl (yl_call Try.en56 rfl (opvs_cons rfl (opvs_cons rfl (opvs_cons rfl opvs_nil))) (Cal.mono (c_i_within p_r.Now 0 1000) ?_))
  rintro v13 w12 ⟨rfl, hE14⟩
  have hE14z := Ex.size hE14
  refine SeqR.d1 rfl rfl rfl (yl_move rfl rfl ?_)
  refine bcase (i_within p_r.Now 0 1000) (fun hb15 => ?_) (fun hb15 => ?_)
  · have hb15p := f_within hb15
    refine SeqR.y rfl rfl rfl rfl rfl hb15 (yl_fieldAddr Try.fd37_1 rfl rfl ?_)
    have q16 := Box.ex hB10 hE14
    refine SeqR.y rfl rfl rfl rfl rfl hb15 (yl_loadN (cs := [.int .i64 (p_r.Master.Off)]) Try.ty33 rfl rfl (q16.cells (n := 1) rfl) rfl ?_)
    refine SeqR.y rfl rfl rfl rfl rfl hb15 (yl_call Try.en71 rfl (opvs_cons rfl opvs_nil) (Cal.mono (c_i_GoodClock p_r.Master) ?_))
    rintro v18 w17 ⟨rfl, hE19⟩
    have hE19z := Ex.size hE19
    refine SeqR.d1 rfl rfl rfl (yl_pick_t rfl rfl hb15 rfl ?_)
    refine SeqR.d1 rfl rfl rfl (yl_move rfl rfl ?_)
    refine bcase (i_GoodClock p_r.Master) (fun hb20 => ?_) (fun hb20 => ?_)
    · skip
      refine SeqR.y rfl rfl rfl rfl rfl hb20 (yl_fieldAddr Try.fd37_2 rfl rfl ?_)
      have q21 := Box.ex q16 hE19
      refine SeqR.y rfl rfl rfl rfl rfl hb20 (yl_load1 Try.ty34 rfl rfl ((q21.cell 2).trans rfl) ?_)
      refine SeqR.y rfl rfl rfl rfl rfl hb20 (yl_len Try.un34 rfl rfl ?_)
      refine SeqR.y rfl rfl rfl rfl rfl hb20 (yl_call Try.en56 rfl (opvs_cons rfl (opvs_cons rfl (opvs_cons rfl opvs_nil))) (Cal.mono (c_i_within (p_r.Clocks.length : Int) 1 3) ?_))
      rintro v23 w22 ⟨rfl, hE24⟩
      have hE24z := Ex.size hE24
      refine SeqR.d1 rfl rfl rfl (yl_pick_t rfl rfl hb20 rfl ?_)
      refine SeqR.d1 rfl rfl rfl (yl_move rfl rfl ?_)
      refine bcase (i_within (p_r.Clocks.length : Int) 1 3) (fun hb25 => ?_) (fun hb25 => ?_)
      · have hb25p := f_within hb25
        refine SeqR.y rfl rfl rfl rfl rfl hb25 (yl_fieldAddr Try.fd37_3 rfl rfl ?_)
        have q26 := Box.ex q21 hE24
        refine SeqR.y rfl rfl rfl rfl rfl hb25 (yl_load1 Try.ty3 rfl rfl ((q26.cell 3).trans rfl) ?_)
        refine SeqR.y rfl rfl rfl rfl rfl hb25 (yl_call Try.en56 rfl (opvs_cons rfl (opvs_cons rfl (opvs_cons rfl opvs_nil))) (Cal.mono (c_i_within p_r.Ver 0 20) ?_))
        rintro v28 w27 ⟨rfl, hE29⟩
        have hE29z := Ex.size hE29
        refine SeqR.d1 rfl rfl rfl (yl_pick_t rfl rfl hb25 rfl ?_)
        refine SeqR.d1 rfl rfl rfl (yl_move rfl rfl ?_)
        refine bcase (i_within p_r.Ver 0 20) (fun hb30 => ?_) (fun hb30 => ?_)
        · have hb30p := f_within hb30
          refine SeqR.y rfl rfl rfl rfl rfl hb30 (yl_fieldAddr Try.fd37_4 rfl rfl ?_)
          have q31 := Box.ex q26 hE29
          refine SeqR.y rfl rfl rfl rfl rfl hb30 (yl_load1 Try.ty35 rfl rfl ((q31.cell 4).trans rfl) ?_)
          refine SeqR.y rfl rfl rfl rfl rfl hb30 (yl_len Try.un35 rfl rfl ?_)
          refine SeqR.y rfl rfl rfl rfl rfl hb30 (yl_fieldAddr Try.fd37_2 rfl rfl ?_)
          refine SeqR.y rfl rfl rfl rfl rfl hb30 (yl_load1 Try.ty34 rfl rfl ((q31.cell 2).trans rfl) ?_)
          refine SeqR.y rfl rfl rfl rfl rfl hb30 (yl_len Try.un34 rfl rfl ?_)
          refine SeqR.y rfl rfl rfl rfl rfl hb30 (yl_eql rfl rfl rfl ?_)
          refine SeqR.d1 rfl rfl rfl (yl_pick_t rfl rfl hb30 rfl ?_)
          refine SeqR.d1 rfl rfl rfl (yl_move rfl rfl ?_)
          refine bcase (decide ((p_r.Leases.length : Int) = (p_r.Clocks.length : Int))) (fun hb32 => ?_) (fun hb32 => ?_)
          · have hb32p := dec_t hb32
            refine SeqR.y rfl rfl rfl rfl rfl hb32 (yl_fieldAddr Try.fd37_2 rfl rfl ?_)
            refine SeqR.y rfl rfl rfl rfl rfl hb32 (yl_load1 Try.ty34 rfl rfl ((q31.cell 2).trans rfl) ?_)
            have q33 := RdS.ex good_Clock h1 hE11
            have q34 := RdS.ex good_Clock q33 hE14
            have q35 := RdS.ex good_Clock q34 hE19
            have q36 := RdS.ex good_Clock q35 hE24
            have q37 := RdS.ex good_Clock q36 hE29
            refine SeqR.y rfl rfl rfl rfl rfl hb32 (yl_call Try.en72 rfl (opvs_cons rfl (opvs_cons rfl opvs_nil)) (Cal.mono (c_g_slices_ContainsFunc_Clock p_r.Clocks (fun y0 => i_GoodRenew_c1 y0) (RdS.up q37 good_Clock) Try.en73 (fun _ y0 => fun hE  => c_i_GoodRenew_c1 y0) o3.1) ?_))
            rintro v39 w38 ⟨rfl, hE40⟩
            have hE40z := Ex.size hE40
            refine SeqR.y rfl rfl rfl rfl rfl hb32 (yl_not rfl rfl ?_)
            refine SeqR.d1 rfl rfl rfl (yl_pick_t rfl rfl hb32 rfl ?_)
            refine SeqR.d1 rfl rfl rfl (yl_move rfl rfl ?_)
            refine bcase (g_slices_ContainsFunc_Clock p_r.Clocks (fun y0 => i_GoodRenew_c1 y0)) (fun hb41 => ?_) (fun hb41 => ?_)
            · skip
              refine SeqR.z rfl rfl rfl rfl rfl (not_t hb41) ?_
              refine SeqR.z rfl rfl rfl rfl rfl (not_t hb41) ?_
              refine SeqR.z rfl rfl rfl rfl rfl (not_t hb41) ?_
              refine SeqR.z rfl rfl rfl rfl rfl (not_t hb41) ?_
              refine SeqR.z rfl rfl rfl rfl rfl (not_t hb41) ?_
              refine SeqR.d1 rfl rfl rfl (yl_pick_f rfl rfl (not_t hb41) rfl ?_)
              refine SeqR.d1 rfl rfl rfl (yl_assign rfl rfl ?_)
              refine SeqR.done ?_
              refine tn ?_
              refine CW.ret ?_
              refine rr rfl (.cons rfl .nil) ?_
              have hM42 : (i_GoodRenew p_r) = (false) := by simp only [i_GoodRenew, hb15, hb20, hb25, hb30, hb32, hb41, cond_true, cond_false, loopE_done, loopE_ret]
              rw [hM42]
              have q43 := Ex.trans (Ex.refl w) hE11
              have q44 := Ex.trans q43 hE14
              have q45 := Ex.trans q44 hE19
              have q46 := Ex.trans q45 hE24
              have q47 := Ex.trans q46 hE29
              have q48 := Ex.trans q47 hE40
              exact ⟨rfl, q48⟩
            · skip
              refine SeqR.y rfl rfl rfl rfl rfl (not_f hb41) (yl_fieldAddr Try.fd37_4 rfl rfl ?_)
              have q49 := Box.ex q31 hE40
              refine SeqR.y rfl rfl rfl rfl rfl (not_f hb41) (yl_load1 Try.ty35 rfl rfl ((q49.cell 4).trans rfl) ?_)
              refine SeqR.y rfl rfl rfl rfl rfl (not_f hb41) (yl_makeFunc rfl (opvs_cons rfl opvs_nil) ?_)
              have q50 := RdS.ex good_VLease h2 hE11
              have q51 := RdS.ex good_VLease q50 hE14
              have q52 := RdS.ex good_VLease q51 hE19
              have q53 := RdS.ex good_VLease q52 hE24
              have q54 := RdS.ex good_VLease q53 hE29
              have q55 := RdS.ex good_VLease q54 hE40
              have q56 := RdS.ex good_Clock q37 hE40
              refine SeqR.y rfl rfl rfl rfl rfl (not_f hb41) (yl_call Try.en74 rfl (opvs_cons rfl (opvs_cons rfl opvs_nil)) (Cal.mono (c_g_slices_ContainsFunc_VLease p_r.Leases (fun y0 => i_GoodRenew_c2 y0 p_r) (RdS.up q55 good_VLease) Try.en75 (fun _ y0 => fun hE  => c_i_GoodRenew_c2 y0 p_r (RdS.up (RdS.ex good_Clock q56 hE) good_Clock) (RdS.up (RdS.ex good_VLease q55 hE) good_VLease) (Box.ex q49 hE) o3) o3.2) ?_))
              rintro v58 w57 ⟨rfl, hE59⟩
              have hE59z := Ex.size hE59
              refine SeqR.y rfl rfl rfl rfl rfl (not_f hb41) (yl_not rfl rfl ?_)
              refine SeqR.d1 rfl rfl rfl (yl_pick_t rfl rfl (not_f hb41) rfl ?_)
              refine SeqR.d1 rfl rfl rfl (yl_assign rfl rfl ?_)
              refine SeqR.done ?_
              refine tn ?_
              refine CW.ret ?_
              refine rr rfl (.cons rfl .nil) ?_
              have hM60 : (i_GoodRenew p_r) = (!(g_slices_ContainsFunc_VLease p_r.Leases (fun y0 => i_GoodRenew_c2 y0 p_r))) := by simp only [i_GoodRenew, hb15, hb20, hb25, hb30, hb32, hb41, cond_true, cond_false, loopE_done, loopE_ret]
              rw [hM60]
              have q61 := Ex.trans (Ex.refl w) hE11
              have q62 := Ex.trans q61 hE14
              have q63 := Ex.trans q62 hE19
              have q64 := Ex.trans q63 hE24
              have q65 := Ex.trans q64 hE29
              have q66 := Ex.trans q65 hE40
              have q67 := Ex.trans q66 hE59
              exact ⟨rfl, q67⟩
          · have hb32p := dec_f hb32
            refine SeqR.z rfl rfl rfl rfl rfl hb32 ?_
            refine SeqR.z rfl rfl rfl rfl rfl hb32 ?_
            refine SeqR.z rfl rfl rfl rfl rfl hb32 ?_
            refine SeqR.z rfl rfl rfl rfl rfl hb32 ?_
            refine SeqR.d1 rfl rfl rfl (yl_pick_f rfl rfl hb32 rfl ?_)
            refine SeqR.d1 rfl rfl rfl (yl_move rfl rfl ?_)
            refine SeqR.z rfl rfl rfl rfl rfl rfl ?_
            refine SeqR.z rfl rfl rfl rfl rfl rfl ?_
            refine SeqR.z rfl rfl rfl rfl rfl rfl ?_
            refine SeqR.z rfl rfl rfl rfl rfl rfl ?_
            refine SeqR.z rfl rfl rfl rfl rfl rfl ?_
            refine SeqR.d1 rfl rfl rfl (yl_pick_f rfl rfl rfl rfl ?_)
            refine SeqR.d1 rfl rfl rfl (yl_assign rfl rfl ?_)
            refine SeqR.done ?_
            refine tn ?_
            refine CW.ret ?_
            refine rr rfl (.cons rfl .nil) ?_
            have hM68 : (i_GoodRenew p_r) = (false) := by simp only [i_GoodRenew, hb15, hb20, hb25, hb30, hb32, cond_true, cond_false, loopE_done, loopE_ret]
            rw [hM68]
            have q69 := Ex.trans (Ex.refl w) hE11
            have q70 := Ex.trans q69 hE14
            have q71 := Ex.trans q70 hE19
            have q72 := Ex.trans q71 hE24
            have q73 := Ex.trans q72 hE29
            exact ⟨rfl, q73⟩
        · skip
          refine SeqR.z rfl rfl rfl rfl rfl hb30 ?_
          refine SeqR.z rfl rfl rfl rfl rfl hb30 ?_
          refine SeqR.z rfl rfl rfl rfl rfl hb30 ?_
          refine SeqR.z rfl rfl rfl rfl rfl hb30 ?_
          refine SeqR.z rfl rfl rfl rfl rfl hb30 ?_
          refine SeqR.z rfl rfl rfl rfl rfl hb30 ?_
          refine SeqR.z rfl rfl rfl rfl rfl hb30 ?_
          refine SeqR.d1 rfl rfl rfl (yl_pick_f rfl rfl hb30 rfl ?_)
          refine SeqR.d1 rfl rfl rfl (yl_move rfl rfl ?_)
          refine SeqR.z rfl rfl rfl rfl rfl rfl ?_
          refine SeqR.z rfl rfl rfl rfl rfl rfl ?_
          refine SeqR.z rfl rfl rfl rfl rfl rfl ?_
          refine SeqR.z rfl rfl rfl rfl rfl rfl ?_
          refine SeqR.d1 rfl rfl rfl (yl_pick_f rfl rfl rfl rfl ?_)
          refine SeqR.d1 rfl rfl rfl (yl_move rfl rfl ?_)
          refine SeqR.z rfl rfl rfl rfl rfl rfl ?_
          refine SeqR.z rfl rfl rfl rfl rfl rfl ?_
          refine SeqR.z rfl rfl rfl rfl rfl rfl ?_
          refine SeqR.z rfl rfl rfl rfl rfl rfl ?_
          refine SeqR.z rfl rfl rfl rfl rfl rfl ?_
          refine SeqR.d1 rfl rfl rfl (yl_pick_f rfl rfl rfl rfl ?_)
          refine SeqR.d1 rfl rfl rfl (yl_assign rfl rfl ?_)
          refine SeqR.done ?_
          refine tn ?_
          refine CW.ret ?_
          refine rr rfl (.cons rfl .nil) ?_
          have hM74 : (i_GoodRenew p_r) = (false) := by simp only [i_GoodRenew, hb15, hb20, hb25, hb30, cond_true, cond_false, loopE_done, loopE_ret]
          rw [hM74]
          have q75 := Ex.trans (Ex.refl w) hE11
          have q76 := Ex.trans q75 hE14
          have q77 := Ex.trans q76 hE19
          have q78 := Ex.trans q77 hE24
          have q79 := Ex.trans q78 hE29
          exact ⟨rfl, q79⟩
      · skip
        refine SeqR.z rfl rfl rfl rfl rfl hb25 ?_
        refine SeqR.z rfl rfl rfl rfl rfl hb25 ?_
        refine SeqR.z rfl rfl rfl rfl rfl hb25 ?_
        refine SeqR.d1 rfl rfl rfl (yl_pick_f rfl rfl hb25 rfl ?_)
        refine SeqR.d1 rfl rfl rfl (yl_move rfl rfl ?_)
        refine SeqR.z rfl rfl rfl rfl rfl rfl ?_
        refine SeqR.z rfl rfl rfl rfl rfl rfl ?_
        refine SeqR.z rfl rfl rfl rfl rfl rfl ?_
        refine SeqR.z rfl rfl rfl rfl rfl rfl ?_
        refine SeqR.z rfl rfl rfl rfl rfl rfl ?_
        refine SeqR.z rfl rfl rfl rfl rfl rfl ?_
        refine SeqR.z rfl rfl rfl rfl rfl rfl ?_
        refine SeqR.d1 rfl rfl rfl (yl_pick_f rfl rfl rfl rfl ?_)
        refine SeqR.d1 rfl rfl rfl (yl_move rfl rfl ?_)
        refine SeqR.z rfl rfl rfl rfl rfl rfl ?_
        refine SeqR.z rfl rfl rfl rfl rfl rfl ?_
        refine SeqR.z rfl rfl rfl rfl rfl rfl ?_
        refine SeqR.z rfl rfl rfl rfl rfl rfl ?_
        refine SeqR.d1 rfl rfl rfl (yl_pick_f rfl rfl rfl rfl ?_)
        refine SeqR.d1 rfl rfl rfl (yl_move rfl rfl ?_)
        refine SeqR.z rfl rfl rfl rfl rfl rfl ?_
        refine SeqR.z rfl rfl rfl rfl rfl rfl ?_
        refine SeqR.z rfl rfl rfl rfl rfl rfl ?_
        refine SeqR.z rfl rfl rfl rfl rfl rfl ?_
        refine SeqR.z rfl rfl rfl rfl rfl rfl ?_
        refine SeqR.d1 rfl rfl rfl (yl_pick_f rfl rfl rfl rfl ?_)
        refine SeqR.d1 rfl rfl rfl (yl_assign rfl rfl ?_)
        refine SeqR.done ?_
        refine tn ?_
        refine CW.ret ?_
        refine rr rfl (.cons rfl .nil) ?_
        have hM80 : (i_GoodRenew p_r) = (false) := by simp only [i_GoodRenew, hb15, hb20, hb25, cond_true, cond_false, loopE_done, loopE_ret]
        rw [hM80]
        have q81 := Ex.trans (Ex.refl w) hE11
        have q82 := Ex.trans q81 hE14
        have q83 := Ex.trans q82 hE19
        have q84 := Ex.trans q83 hE24
        exact ⟨rfl, q84⟩
    · skip
      refine SeqR.z rfl rfl rfl rfl rfl hb20 ?_
      refine SeqR.z rfl rfl rfl rfl rfl hb20 ?_
      refine SeqR.z rfl rfl rfl rfl rfl hb20 ?_
      refine SeqR.z rfl rfl rfl rfl rfl hb20 ?_
      refine SeqR.d1 rfl rfl rfl (yl_pick_f rfl rfl hb20 rfl ?_)
      refine SeqR.d1 rfl rfl rfl (yl_move rfl rfl ?_)
      refine SeqR.z rfl rfl rfl rfl rfl rfl ?_
      refine SeqR.z rfl rfl rfl rfl rfl rfl ?_
      refine SeqR.z rfl rfl rfl rfl rfl rfl ?_
      refine SeqR.d1 rfl rfl rfl (yl_pick_f rfl rfl rfl rfl ?_)
      refine SeqR.d1 rfl rfl rfl (yl_move rfl rfl ?_)
      refine SeqR.z rfl rfl rfl rfl rfl rfl ?_
      refine SeqR.z rfl rfl rfl rfl rfl rfl ?_
      refine SeqR.z rfl rfl rfl rfl rfl rfl ?_
      refine SeqR.z rfl rfl rfl rfl rfl rfl ?_
      refine SeqR.z rfl rfl rfl rfl rfl rfl ?_
      refine SeqR.z rfl rfl rfl rfl rfl rfl ?_
      refine SeqR.z rfl rfl rfl rfl rfl rfl ?_
      refine SeqR.d1 rfl rfl rfl (yl_pick_f rfl rfl rfl rfl ?_)
      refine SeqR.d1 rfl rfl rfl (yl_move rfl rfl ?_)
      refine SeqR.z rfl rfl rfl rfl rfl rfl ?_
      refine SeqR.z rfl rfl rfl rfl rfl rfl ?_
      refine SeqR.z rfl rfl rfl rfl rfl rfl ?_
      refine SeqR.z rfl rfl rfl rfl rfl rfl ?_
      refine SeqR.d1 rfl rfl rfl (yl_pick_f rfl rfl rfl rfl ?_)
      refine SeqR.d1 rfl rfl rfl (yl_move rfl rfl ?_)
      refine SeqR.z rfl rfl rfl rfl rfl rfl ?_
      refine SeqR.z rfl rfl rfl rfl rfl rfl ?_
      refine SeqR.z rfl rfl rfl rfl rfl rfl ?_
      refine SeqR.z rfl rfl rfl rfl rfl rfl ?_
      refine SeqR.z rfl rfl rfl rfl rfl rfl ?_
      refine SeqR.d1 rfl rfl rfl (yl_pick_f rfl rfl rfl rfl ?_)
      refine SeqR.d1 rfl rfl rfl (yl_assign rfl rfl ?_)
      refine SeqR.done ?_
      refine tn ?_
      refine CW.ret ?_
      refine rr rfl (.cons rfl .nil) ?_
      have hM85 : (i_GoodRenew p_r) = (false) := by simp only [i_GoodRenew, hb15, hb20, cond_true, cond_false, loopE_done, loopE_ret]
      rw [hM85]
      have q86 := Ex.trans (Ex.refl w) hE11
      have q87 := Ex.trans q86 hE14
      have q88 := Ex.trans q87 hE19
      exact ⟨rfl, q88⟩
  · skip
    refine SeqR.z rfl rfl rfl rfl rfl hb15 ?_
    refine SeqR.z rfl rfl rfl rfl rfl hb15 ?_
    refine SeqR.z rfl rfl rfl rfl rfl hb15 ?_
    refine SeqR.d1 rfl rfl rfl (yl_pick_f rfl rfl hb15 rfl ?_)
    refine SeqR.d1 rfl rfl rfl (yl_move rfl rfl ?_)
    refine SeqR.z rfl rfl rfl rfl rfl rfl ?_
    refine SeqR.z rfl rfl rfl rfl rfl rfl ?_
    refine SeqR.z rfl rfl rfl rfl rfl rfl ?_
    refine SeqR.z rfl rfl rfl rfl rfl rfl ?_
    refine SeqR.d1 rfl rfl rfl (yl_pick_f rfl rfl rfl rfl ?_)
    refine SeqR.d1 rfl rfl rfl (yl_move rfl rfl ?_)
    refine SeqR.z rfl rfl rfl rfl rfl rfl ?_
    refine SeqR.z rfl rfl rfl rfl rfl rfl ?_
    refine SeqR.z rfl rfl rfl rfl rfl rfl ?_
    refine SeqR.d1 rfl rfl rfl (yl_pick_f rfl rfl rfl rfl ?_)
    refine SeqR.d1 rfl rfl rfl (yl_move rfl rfl ?_)
    refine SeqR.z rfl rfl rfl rfl rfl rfl ?_
    refine SeqR.z rfl rfl rfl rfl rfl rfl ?_
    refine SeqR.z rfl rfl rfl rfl rfl rfl ?_
    refine SeqR.z rfl rfl rfl rfl rfl rfl ?_
    refine SeqR.z rfl rfl rfl rfl rfl rfl ?_
    refine SeqR.z rfl rfl rfl rfl rfl rfl ?_
    refine SeqR.z rfl rfl rfl rfl rfl rfl ?_
    refine SeqR.d1 rfl rfl rfl (yl_pick_f rfl rfl rfl rfl ?_)
    refine SeqR.d1 rfl rfl rfl (yl_move rfl rfl ?_)
    refine SeqR.z rfl rfl rfl rfl rfl rfl ?_
    refine SeqR.z rfl rfl rfl rfl rfl rfl ?_
    refine SeqR.z rfl rfl rfl rfl rfl rfl ?_
    refine SeqR.z rfl rfl rfl rfl rfl rfl ?_
    refine SeqR.d1 rfl rfl rfl (yl_pick_f rfl rfl rfl rfl ?_)
    refine SeqR.d1 rfl rfl rfl (yl_move rfl rfl ?_)
    refine SeqR.z rfl rfl rfl rfl rfl rfl ?_
    refine SeqR.z rfl rfl rfl rfl rfl rfl ?_
    refine SeqR.z rfl rfl rfl rfl rfl rfl ?_
    refine SeqR.z rfl rfl rfl rfl rfl rfl ?_
    refine SeqR.z rfl rfl rfl rfl rfl rfl ?_
    refine SeqR.d1 rfl rfl rfl (yl_pick_f rfl rfl rfl rfl ?_)
    refine SeqR.d1 rfl rfl rfl (yl_assign rfl rfl ?_)
    refine SeqR.done ?_
    refine tn ?_
    refine CW.ret ?_
    refine rr rfl (.cons rfl .nil) ?_
    have hM89 : (i_GoodRenew p_r) = (false) := by simp only [i_GoodRenew, hb15, cond_true, cond_false, loopE_done, loopE_ret]
    rw [hM89]
    have q90 := Ex.trans (Ex.refl w) hE11
    have q91 := Ex.trans q90 hE14
    exact ⟨rfl, q91⟩
set_option maxRecDepth 100000 in
set_option maxHeartbeats 2000000 in
theorem c_i_Clock_span {w : World} (p_c : DClock) (p_now : Int) : Cal Try.prog 107 #[.agg #[.int .i64 (p_c.Off)], .int .i64 (p_now)] w fun v w' => v = .agg #[.int .i64 ((i_Clock_span p_c p_now).Low), .int .i64 ((i_Clock_span p_c p_now).High)] ∧ Ex w w' := by
  refine Cal.of (vs := [.agg #[.int .i64 (p_c.Off)], .int .i64 (p_now)]) Try.func107 rfl Try.ntmps107 rfl ?_
  refine CW.seq ?_
  refine CW.region ?_
  refine SeqR.d1 rfl rfl rfl (yl_box (cs := [.int .i64 (p_c.Off)]) rfl rfl rfl ?_)
  intro b1 w2 hs3 hz4 hB5 hE6
  refine SeqR.d1 rfl rfl rfl (yl_alloc Try.ty134 (cs := [.int .i64 (0), .int .i64 (0)]) rfl rfl ?_)
  intro b7 w8 hs9 hz10 hB11 hE12
  refine SeqR.done ?_
  refine tn ?_
  refine CW.seq ?_
  refine CW.region ?_
  refine SeqR.d1 rfl rfl rfl (yl_move rfl rfl ?_)
  refine SeqR.d1 rfl rfl rfl (yl_fieldAddr Try.fd33_0 rfl rfl ?_)
  have q13 := Box.ex hB5 hE12
  refine SeqR.d1 rfl rfl rfl (yl_load1 Try.ty3 rfl rfl ((q13.cell 0).trans rfl) ?_)
  refine SeqR.d1 rfl rfl rfl (yl_add rfl rfl rfl ?_)
  refine SeqR.d1 rfl rfl rfl (yl_sub rfl rfl rfl ?_)
  refine SeqR.d1 rfl rfl rfl (yl_move rfl rfl ?_)
  refine SeqR.d1 rfl rfl rfl (yl_fieldAddr Try.fd33_0 rfl rfl ?_)
  refine SeqR.d1 rfl rfl rfl (yl_load1 Try.ty3 rfl rfl ((q13.cell 0).trans rfl) ?_)
  refine SeqR.d1 rfl rfl rfl (yl_add rfl rfl rfl ?_)
  refine SeqR.d1 rfl rfl rfl (yl_add rfl rfl rfl ?_)
  refine SeqR.d1 rfl rfl rfl (yl_build (cs := [.int .i64 (IntKind.wrap .i64 ((IntKind.wrap .i64 (p_now + p_c.Off)) - 5)), .int .i64 (IntKind.wrap .i64 ((IntKind.wrap .i64 (p_now + p_c.Off)) + 5))]) rfl (opvs_cons rfl (opvs_cons rfl opvs_nil)) (by kernel_rfl) ?_)
  refine SeqR.u rfl rfl (yl_store (vs := [.int .i64 (IntKind.wrap .i64 ((IntKind.wrap .i64 (p_now + p_c.Off)) - 5)), .int .i64 (IntKind.wrap .i64 ((IntKind.wrap .i64 (p_now + p_c.Off)) + 5))]) Try.ty134 rfl rfl rfl rfl rfl rfl hB11 (Nat.le_of_ble_eq_true rfl) ?_)
  intro w14 hB15 hO16
  have hB15 : Box w14 b7 134 [.int .i64 (IntKind.wrap .i64 ((IntKind.wrap .i64 (p_now + p_c.Off)) - 5)), .int .i64 (IntKind.wrap .i64 ((IntKind.wrap .i64 (p_now + p_c.Off)) + 5))] := hB15
  have hO16z := hO16.size
  refine SeqR.done ?_
  refine tn ?_
  refine CW.ret ?_
  refine rr rfl (.cons ⟨_, rfl, run_loadN Try.ty134 (cs := [.int .i64 (IntKind.wrap .i64 ((IntKind.wrap .i64 (p_now + p_c.Off)) - 5)), .int .i64 (IntKind.wrap .i64 ((IntKind.wrap .i64 (p_now + p_c.Off)) + 5))]) rfl (hB15.cells (n := 2) rfl)⟩ .nil) ?_
  have hM17 : (i_Clock_span p_c p_now) = ((⟨IntKind.wrap .i64 ((IntKind.wrap .i64 (p_now + p_c.Off)) - 5), IntKind.wrap .i64 ((IntKind.wrap .i64 (p_now + p_c.Off)) + 5)⟩ : DSpan)) := by simp only [i_Clock_span, cond_true, cond_false, loopE_done, loopE_ret]
  rw [hM17]
  have q18 := Ex.trans (Ex.refl w) hE6
  have q19 := Ex.trans q18 hE12
  have q20 := Below.only q19 hO16 (by omega)
  exact ⟨rfl, q20⟩
set_option maxRecDepth 100000 in
set_option maxHeartbeats 2000000 in
theorem c_i_Renew_usable {A1 : Option Addr} {c1 : Nat} {A2 : Option Addr} {c2 : Nat} {w : World} (p_r : DRenew) (p_server : Int) (h1 : RdS w (Iv 0 w.heap.size) (RF e_Clock) 1 A1 p_r.Clocks.length c1 p_r.Clocks) (h2 : RdS w (Iv 0 w.heap.size) (RF e_VLease) 2 A2 p_r.Leases.length c2 p_r.Leases) (o3 : ok_Renew p_r) (pre0 : (0 ≤ p_server ∧ p_server < (p_r.Clocks.length : Int) ∧ p_server < (p_r.Leases.length : Int))) : Cal Try.prog 78 #[.agg #[.int .i64 (p_r.Now), .int .i64 (p_r.Master.Off), .slice A1 p_r.Clocks.length c1, .int .i64 (p_r.Ver), .slice A2 p_r.Leases.length c2], .int .i64 (p_server)] w fun v w' => v = .bool ((i_Renew_usable p_r p_server)) ∧ Ex w w' := by
  have hol4 := o3.1.1
  have hol5 := o3.2.1
  refine Cal.of (vs := [.agg #[.int .i64 (p_r.Now), .int .i64 (p_r.Master.Off), .slice A1 p_r.Clocks.length c1, .int .i64 (p_r.Ver), .slice A2 p_r.Leases.length c2], .int .i64 (p_server)]) Try.func78 rfl Try.ntmps78 rfl ?_
  refine CW.seq ?_
  refine CW.region ?_
  refine SeqR.d1 rfl rfl rfl (yl_box (cs := [.int .i64 (p_r.Now), .int .i64 (p_r.Master.Off), .slice A1 p_r.Clocks.length c1, .int .i64 (p_r.Ver), .slice A2 p_r.Leases.length c2]) rfl rfl rfl ?_)
  intro b6 w7 hs8 hz9 hB10 hE11
  refine SeqR.d1 rfl rfl rfl (yl_assign rfl rfl ?_)
  refine SeqR.done ?_
  refine tn ?_
  refine CW.seq ?_
  have q12 := RdS.ex good_Clock h1 hE11
  obtain ⟨eb13, eo13, ec13, eA13, eS13, ebl13, el13, eR13, eC13⟩ := RdS.atD q12 d_Clock (i := (p_server).toNat) (by first | omega | assumption | (simp only [IntKind.wrap_i64] at *; omega))
  obtain rfl := eR13
  have eC13 : Cells w7 eb13 (eo13 + ((p_server).toNat) * 1) [.int .i64 ((p_r.Clocks.getD ((p_server).toNat) d_Clock).Off)] := eC13
  have q15 := RdS.ex good_VLease h2 hE11
  obtain ⟨eb16, eo16, ec16, eA16, eS16, ebl16, el16, eR16, eC16⟩ := RdS.atD q15 d_VLease (i := (p_server).toNat) (by first | omega | assumption | (simp only [IntKind.wrap_i64] at *; omega))
  obtain rfl := eR16
  have eC16 : Cells w7 eb16 (eo16 + ((p_server).toNat) * 2) [.int .i64 ((p_r.Leases.getD ((p_server).toNat) d_VLease).Ver), .int .i64 ((p_r.Leases.getD ((p_server).toNat) d_VLease).Until)] := eC16
  refine CW.draws (vget [Det (.pointer (some ⟨b6, 0 + 2, none⟩)), Det (.slice A1 p_r.Clocks.length c1), Det (.int .i64 (p_server)), Det (.pointer (some ⟨eb13, eo13 + ((p_server).toNat) * 1, none⟩)), Det (.agg #[.int .i64 ((p_r.Clocks.getD ((p_server).toNat) d_Clock).Off)]), Det (.pointer (some ⟨b6, 0 + 0, none⟩)), Det (.int .i64 (p_r.Now)), Det (.agg #[.int .i64 ((i_Clock_span (p_r.Clocks.getD ((p_server).toNat) d_Clock) p_r.Now).Low), .int .i64 ((i_Clock_span (p_r.Clocks.getD ((p_server).toNat) d_Clock) p_r.Now).High)]), Det (.int .i64 ((i_Clock_span (p_r.Clocks.getD ((p_server).toNat) d_Clock) p_r.Now).High)), Det (.pointer (some ⟨b6, 0 + 4, none⟩)), Det (.slice A2 p_r.Leases.length c2), Det (.int .i64 (p_server)), Det (.pointer (some ⟨eb16, eo16 + ((p_server).toNat) * 2, none⟩)), Det (.pointer (some ⟨eb16, eo16 + ((p_server).toNat) * 2 + 1, none⟩)), Det (.int .i64 ((p_r.Leases.getD ((p_server).toNat) d_VLease).Until)), Det (.bool (decide (((i_Clock_span (p_r.Clocks.getD ((p_server).toNat) d_Clock) p_r.Now).High) < ((p_r.Leases.getD ((p_server).toNat) d_VLease).Until)))), Det (.bool (decide (((i_Clock_span (p_r.Clocks.getD ((p_server).toNat) d_Clock) p_r.Now).High) < ((p_r.Leases.getD ((p_server).toNat) d_VLease).Until))))]) Try.follows rfl rfl rfl rfl (vget_stable ⟨Stable.det _, Stable.det _, Stable.det _, Stable.det _, Stable.det _, Stable.det _, Stable.det _, Stable.det _, Stable.det _, Stable.det _, Stable.det _, Stable.det _, Stable.det _, Stable.det _, Stable.det _, Stable.det _, Stable.det _, trivial⟩) ⟨?_, ?_, ?_, ?_, ?_, ?_, ?_, ?_, ?_, ?_, ?_, ?_, ?_, ?_, ?_, ?_, ?_, trivial⟩ ?_
  · intro L17 w18 hi19
    have hE20 := hi19.ex
    have hE20z := Ex.size hE20
    have hx21 := hi19.old 2 _ rfl rfl
    exact OpR.op' rfl (Yl.same (yl_fieldAddr Try.fd37_2 rfl hx21 ⟨rfl, rfl⟩))
  · intro L22 w23 hi24
    have hE25 := hi24.ex
    have hE25z := Ex.size hE25
    obtain ⟨_, hx26, rfl⟩ := hi24.dep 0 5 rfl rfl
    have q27 := Box.ex hB10 hE25
    exact OpR.op' rfl (Yl.same (yl_load1 Try.ty34 rfl hx26 ((q27.cell 2).trans rfl) ⟨rfl, rfl⟩))
  · intro L28 w29 hi30
    have hE31 := hi30.ex
    have hE31z := Ex.size hE31
    have hx32 := hi30.old 1 _ rfl rfl
    exact OpR.op' rfl (Yl.same (yl_move rfl hx32 ⟨rfl, rfl⟩))
  · intro L33 w34 hi35
    have hE36 := hi35.ex
    have hE36z := Ex.size hE36
    obtain ⟨_, hx37, rfl⟩ := hi35.dep 1 6 rfl rfl
    obtain ⟨_, hx38, rfl⟩ := hi35.dep 2 7 rfl rfl
    exact OpR.op' rfl (Yl.same (yl_indexAddr Try.un34 Try.ty33 rfl hx37 hx38 eA13 (by first | omega | assumption | (simp only [IntKind.wrap_i64] at *; omega)) (by first | omega | assumption | (simp only [IntKind.wrap_i64] at *; omega)) ⟨rfl, rfl⟩))
  · intro L39 w40 hi41
    have hE42 := hi41.ex
    have hE42z := Ex.size hE42
    obtain ⟨_, hx43, rfl⟩ := hi41.dep 3 8 rfl rfl
    have q44 := Cells.ex eC13 hE42
    exact OpR.op' rfl (Yl.same (yl_loadN (cs := [.int .i64 ((p_r.Clocks.getD ((p_server).toNat) d_Clock).Off)]) Try.ty33 rfl hx43 q44 rfl ⟨rfl, rfl⟩))
  · intro L45 w46 hi47
    have hE48 := hi47.ex
    have hE48z := Ex.size hE48
    have hx49 := hi47.old 2 _ rfl rfl
    exact OpR.op' rfl (Yl.same (yl_fieldAddr Try.fd37_0 rfl hx49 ⟨rfl, rfl⟩))
  · intro L50 w51 hi52
    have hE53 := hi52.ex
    have hE53z := Ex.size hE53
    obtain ⟨_, hx54, rfl⟩ := hi52.dep 5 10 rfl rfl
    have q55 := Box.ex hB10 hE53
    exact OpR.op' rfl (Yl.same (yl_load1 Try.ty3 rfl hx54 ((q55.cell 0).trans rfl) ⟨rfl, rfl⟩))
  · intro L56 w57 hi58
    have hE59 := hi58.ex
    have hE59z := Ex.size hE59
    obtain ⟨_, hx60, rfl⟩ := hi58.dep 4 9 rfl rfl
    obtain ⟨_, hx61, rfl⟩ := hi58.dep 6 11 rfl rfl
    refine OpR.op' rfl (yl_call Try.en107 rfl (opvs_cons hx60 (opvs_cons hx61 opvs_nil)) (Cal.mono (c_i_Clock_span (p_r.Clocks.getD ((p_server).toNat) d_Clock) p_r.Now) ?_))
    rintro v63 w62 ⟨rfl, hE64⟩
    exact ⟨rfl, hE64⟩
  · intro L65 w66 hi67
    have hE68 := hi67.ex
    have hE68z := Ex.size hE68
    obtain ⟨_, hx69, rfl⟩ := hi67.dep 7 12 rfl rfl
    exact OpR.op' rfl (Yl.same (yl_field1 Try.fd134_1 rfl hx69 rfl ⟨rfl, rfl⟩))
  · intro L70 w71 hi72
    have hE73 := hi72.ex
    have hE73z := Ex.size hE73
    have hx74 := hi72.old 2 _ rfl rfl
    exact OpR.op' rfl (Yl.same (yl_fieldAddr Try.fd37_4 rfl hx74 ⟨rfl, rfl⟩))
  · intro L75 w76 hi77
    have hE78 := hi77.ex
    have hE78z := Ex.size hE78
    obtain ⟨_, hx79, rfl⟩ := hi77.dep 9 14 rfl rfl
    have q80 := Box.ex hB10 hE78
    exact OpR.op' rfl (Yl.same (yl_load1 Try.ty35 rfl hx79 ((q80.cell 4).trans rfl) ⟨rfl, rfl⟩))
  · intro L81 w82 hi83
    have hE84 := hi83.ex
    have hE84z := Ex.size hE84
    have hx85 := hi83.old 1 _ rfl rfl
    exact OpR.op' rfl (Yl.same (yl_move rfl hx85 ⟨rfl, rfl⟩))
  · intro L86 w87 hi88
    have hE89 := hi88.ex
    have hE89z := Ex.size hE89
    obtain ⟨_, hx90, rfl⟩ := hi88.dep 10 15 rfl rfl
    obtain ⟨_, hx91, rfl⟩ := hi88.dep 11 16 rfl rfl
    exact OpR.op' rfl (Yl.same (yl_indexAddr Try.un35 Try.ty103 rfl hx90 hx91 eA16 (by first | omega | assumption | (simp only [IntKind.wrap_i64] at *; omega)) (by first | omega | assumption | (simp only [IntKind.wrap_i64] at *; omega)) ⟨rfl, rfl⟩))
  · intro L92 w93 hi94
    have hE95 := hi94.ex
    have hE95z := Ex.size hE95
    obtain ⟨_, hx96, rfl⟩ := hi94.dep 12 17 rfl rfl
    exact OpR.op' rfl (Yl.same (yl_fieldAddr Try.fd103_1 rfl hx96 ⟨rfl, rfl⟩))
  · intro L97 w98 hi99
    have hE100 := hi99.ex
    have hE100z := Ex.size hE100
    obtain ⟨_, hx101, rfl⟩ := hi99.dep 13 18 rfl rfl
    have q102 := Cells.ex eC16 hE100
    exact OpR.op' rfl (Yl.same (yl_load1 Try.ty3 rfl hx101 (q102 1 _ rfl) ⟨rfl, rfl⟩))
  · intro L103 w104 hi105
    have hE106 := hi105.ex
    have hE106z := Ex.size hE106
    obtain ⟨_, hx107, rfl⟩ := hi105.dep 8 13 rfl rfl
    obtain ⟨_, hx108, rfl⟩ := hi105.dep 14 19 rfl rfl
    exact OpR.op' rfl (Yl.same (yl_lss rfl hx107 hx108 ⟨rfl, rfl⟩))
  · intro L109 w110 hi111
    have hE112 := hi111.ex
    have hE112z := Ex.size hE112
    obtain ⟨_, hx113, rfl⟩ := hi111.dep 15 20 rfl rfl
    exact OpR.op' rfl (Yl.same (yl_assign rfl hx113 ⟨rfl, rfl⟩))
  · intro L114 w115 hp116
    have hE117 := hp116.ex
    have hE117z := Ex.size hE117
    obtain ⟨_, hx118, rfl⟩ := hp116.new 16 4 rfl
    refine tn ?_
    refine CW.sub (Sub.cons hx118 (Sub.nil _)) ?_
    refine CW.ret ?_
    refine rr rfl (.cons rfl .nil) ?_
    have hM119 : (i_Renew_usable p_r p_server) = (decide (((i_Clock_span (p_r.Clocks.getD ((p_server).toNat) d_Clock) p_r.Now).High) < ((p_r.Leases.getD ((p_server).toNat) d_VLease).Until))) := by simp only [i_Renew_usable, cond_true, cond_false, loopE_done, loopE_ret]
    rw [hM119]
    have q120 := Ex.trans (Ex.refl w) hE11
    have q121 := Ex.trans q120 hE117
    exact ⟨rfl, q121⟩
set_option maxRecDepth 100000 in
set_option maxHeartbeats 2000000 in
theorem c_i_UsableIn {A1 : Option Addr} {c1 : Nat} {A2 : Option Addr} {c2 : Nat} {w : World} (p_r : DRenew) (p_server : Int) (h1 : RdS w (Iv 0 w.heap.size) (RF e_Clock) 1 A1 p_r.Clocks.length c1 p_r.Clocks) (h2 : RdS w (Iv 0 w.heap.size) (RF e_VLease) 2 A2 p_r.Leases.length c2 p_r.Leases) (o3 : ok_Renew p_r) : Cal Try.prog 31 #[.agg #[.int .i64 (p_r.Now), .int .i64 (p_r.Master.Off), .slice A1 p_r.Clocks.length c1, .int .i64 (p_r.Ver), .slice A2 p_r.Leases.length c2], .int .i64 (p_server)] w fun v w' => v = .tuple #[.int .i64 ((i_UsableIn p_r p_server).1), .bool ((i_UsableIn p_r p_server).2.1), .bool ((i_UsableIn p_r p_server).2.2)] ∧ Ex w w' := by
  have hol4 := o3.1.1
  have hol5 := o3.2.1
  refine Cal.of (vs := [.agg #[.int .i64 (p_r.Now), .int .i64 (p_r.Master.Off), .slice A1 p_r.Clocks.length c1, .int .i64 (p_r.Ver), .slice A2 p_r.Leases.length c2], .int .i64 (p_server)]) Try.func31 rfl Try.ntmps31 rfl ?_
  refine CW.seq ?_
  refine CW.region ?_
  refine SeqR.d1 rfl rfl rfl (yl_box (cs := [.int .i64 (p_r.Now), .int .i64 (p_r.Master.Off), .slice A1 p_r.Clocks.length c1, .int .i64 (p_r.Ver), .slice A2 p_r.Leases.length c2]) rfl rfl rfl ?_)
  intro b6 w7 hs8 hz9 hB10 hE11
  refine SeqR.d1 rfl rfl rfl (yl_assign rfl rfl ?_)
  refine SeqR.d1 rfl rfl rfl (yl_assign rfl rfl ?_)
  refine SeqR.d1 rfl rfl rfl (yl_assign rfl rfl ?_)
  refine SeqR.done ?_
  refine tn ?_
  refine CW.seq ?_
  refine CW.seq ?_
  refine CW.region ?_
  refine SeqR.d1 rfl rfl rfl (yl_loadN (cs := [.int .i64 (p_r.Now), .int .i64 (p_r.Master.Off), .slice A1 p_r.Clocks.length c1, .int .i64 (p_r.Ver), .slice A2 p_r.Leases.length c2]) Try.ty37 rfl rfl (hB10.cells (n := 5) rfl) rfl ?_)
  have q12 := RdS.ex good_Clock h1 hE11
  have q13 := RdS.ex good_VLease h2 hE11
  refine SeqR.d1 rfl rfl rfl (yl_call Try.en27 rfl (opvs_cons rfl opvs_nil) (Cal.mono (c_i_GoodRenew p_r (RdS.up q12 good_Clock) (RdS.up q13 good_VLease) o3) ?_))
  rintro v15 w14 ⟨rfl, hE16⟩
  have hE16z := Ex.size hE16
  refine SeqR.d1 rfl rfl rfl (yl_not rfl rfl ?_)
  refine SeqR.d1 rfl rfl rfl (yl_move rfl rfl ?_)
  refine bcase (i_GoodRenew p_r) (fun hb17 => ?_) (fun hb17 => ?_)
  · have hb17p := f_i_GoodRenew hb17
    refine SeqR.y rfl rfl rfl rfl rfl (not_t hb17) (yl_move rfl rfl ?_)
    refine SeqR.y rfl rfl rfl rfl rfl (not_t hb17) (yl_fieldAddr Try.fd37_2 rfl rfl ?_)
    have q18 := Box.ex hB10 hE16
    refine SeqR.y rfl rfl rfl rfl rfl (not_t hb17) (yl_load1 Try.ty34 rfl rfl ((q18.cell 2).trans rfl) ?_)
    refine SeqR.y rfl rfl rfl rfl rfl (not_t hb17) (yl_len Try.un34 rfl rfl ?_)
    refine SeqR.y rfl rfl rfl rfl rfl (not_t hb17) (yl_sub rfl rfl rfl ?_)
    refine SeqR.y rfl rfl rfl rfl rfl (not_t hb17) (yl_call Try.en56 rfl (opvs_cons rfl (opvs_cons rfl (opvs_cons rfl opvs_nil))) (Cal.mono (c_i_within p_server 0 (IntKind.wrap .i64 ((p_r.Clocks.length : Int) - 1))) ?_))
    rintro v20 w19 ⟨rfl, hE21⟩
    have hE21z := Ex.size hE21
    refine SeqR.y rfl rfl rfl rfl rfl (not_t hb17) (yl_not rfl rfl ?_)
    refine SeqR.d1 rfl rfl rfl (yl_pick_f rfl rfl (not_t hb17) rfl ?_)
    refine SeqR.done ?_
    refine tn ?_
    refine bcase (i_within p_server 0 (IntKind.wrap .i64 ((p_r.Clocks.length : Int) - 1))) (fun hb22 => ?_) (fun hb22 => ?_)
    · have hb22p := f_within hb22
      refine CW.cond_f rfl (not_t hb22) ?_
      refine CW.skip ?_
      refine tn ?_
      refine CW.seq ?_
      have q23 := Box.ex q18 hE21
      have q24 := RdS.ex good_VLease q13 hE16
      have q25 := RdS.ex good_VLease q24 hE21
      obtain ⟨eb26, eo26, ec26, eA26, eS26, ebl26, el26, eR26, eC26⟩ := RdS.atD q25 d_VLease (i := (p_server).toNat) (by first | omega | assumption | (simp only [IntKind.wrap_i64] at *; omega))
      obtain rfl := eR26
      have eC26 : Cells w19 eb26 (eo26 + ((p_server).toNat) * 2) [.int .i64 ((p_r.Leases.getD ((p_server).toNat) d_VLease).Ver), .int .i64 ((p_r.Leases.getD ((p_server).toNat) d_VLease).Until)] := eC26
      have q27 := RdS.ex good_Clock q12 hE16
      have q28 := RdS.ex good_Clock q27 hE21
      refine CW.draws (vget [Det (.pointer (some ⟨b6, 0 + 4, none⟩)), Det (.slice A2 p_r.Leases.length c2), Det (.int .i64 (p_server)), Det (.pointer (some ⟨eb26, eo26 + ((p_server).toNat) * 2, none⟩)), Det (.pointer (some ⟨eb26, eo26 + ((p_server).toNat) * 2 + 0, none⟩)), Det (.int .i64 ((p_r.Leases.getD ((p_server).toNat) d_VLease).Ver)), Det (.agg #[.int .i64 (p_r.Now), .int .i64 (p_r.Master.Off), .slice A1 p_r.Clocks.length c1, .int .i64 (p_r.Ver), .slice A2 p_r.Leases.length c2]), Det (.int .i64 (p_server)), Det (.bool ((i_Renew_usable p_r p_server))), Det (.int .i64 ((p_r.Leases.getD ((p_server).toNat) d_VLease).Ver)), Det (.bool ((i_Renew_usable p_r p_server))), Det (.bool (true))]) Try.follows rfl rfl rfl rfl (vget_stable ⟨Stable.det _, Stable.det _, Stable.det _, Stable.det _, Stable.det _, Stable.det _, Stable.det _, Stable.det _, Stable.det _, Stable.det _, Stable.det _, Stable.det _, trivial⟩) ⟨?_, ?_, ?_, ?_, ?_, ?_, ?_, ?_, ?_, ?_, ?_, ?_, trivial⟩ ?_
      · intro L30 w31 hi32
        have hE33 := hi32.ex
        have hE33z := Ex.size hE33
        have hx34 := hi32.old 2 _ rfl rfl
        exact OpR.op' rfl (Yl.same (yl_fieldAddr Try.fd37_4 rfl hx34 ⟨rfl, rfl⟩))
      · intro L35 w36 hi37
        have hE38 := hi37.ex
        have hE38z := Ex.size hE38
        obtain ⟨_, hx39, rfl⟩ := hi37.dep 0 19 rfl rfl
        have q40 := Box.ex q23 hE38
        exact OpR.op' rfl (Yl.same (yl_load1 Try.ty35 rfl hx39 ((q40.cell 4).trans rfl) ⟨rfl, rfl⟩))
      · intro L41 w42 hi43
        have hE44 := hi43.ex
        have hE44z := Ex.size hE44
        have hx45 := hi43.old 1 _ rfl rfl
        exact OpR.op' rfl (Yl.same (yl_move rfl hx45 ⟨rfl, rfl⟩))
      · intro L46 w47 hi48
        have hE49 := hi48.ex
        have hE49z := Ex.size hE49
        obtain ⟨_, hx50, rfl⟩ := hi48.dep 1 20 rfl rfl
        obtain ⟨_, hx51, rfl⟩ := hi48.dep 2 21 rfl rfl
        exact OpR.op' rfl (Yl.same (yl_indexAddr Try.un35 Try.ty103 rfl hx50 hx51 eA26 (by first | omega | assumption | (simp only [IntKind.wrap_i64] at *; omega)) (by first | omega | assumption | (simp only [IntKind.wrap_i64] at *; omega)) ⟨rfl, rfl⟩))
      · intro L52 w53 hi54
        have hE55 := hi54.ex
        have hE55z := Ex.size hE55
        obtain ⟨_, hx56, rfl⟩ := hi54.dep 3 22 rfl rfl
        exact OpR.op' rfl (Yl.same (yl_fieldAddr Try.fd103_0 rfl hx56 ⟨rfl, rfl⟩))
      · intro L57 w58 hi59
        have hE60 := hi59.ex
        have hE60z := Ex.size hE60
        obtain ⟨_, hx61, rfl⟩ := hi59.dep 4 23 rfl rfl
        have q62 := Cells.ex eC26 hE60
        exact OpR.op' rfl (Yl.same (yl_load1 Try.ty3 rfl hx61 (q62 0 _ rfl) ⟨rfl, rfl⟩))
      · intro L63 w64 hi65
        have hE66 := hi65.ex
        have hE66z := Ex.size hE66
        have hx67 := hi65.old 2 _ rfl rfl
        have q68 := Box.ex q23 hE66
        exact OpR.op' rfl (Yl.same (yl_loadN (cs := [.int .i64 (p_r.Now), .int .i64 (p_r.Master.Off), .slice A1 p_r.Clocks.length c1, .int .i64 (p_r.Ver), .slice A2 p_r.Leases.length c2]) Try.ty37 rfl hx67 (q68.cells (n := 5) rfl) rfl ⟨rfl, rfl⟩))
      · intro L69 w70 hi71
        have hE72 := hi71.ex
        have hE72z := Ex.size hE72
        have hx73 := hi71.old 1 _ rfl rfl
        exact OpR.op' rfl (Yl.same (yl_move rfl hx73 ⟨rfl, rfl⟩))
      · intro L74 w75 hi76
        have hE77 := hi76.ex
        have hE77z := Ex.size hE77
        obtain ⟨_, hx78, rfl⟩ := hi76.dep 6 25 rfl rfl
        obtain ⟨_, hx79, rfl⟩ := hi76.dep 7 26 rfl rfl
        have q80 := RdS.ex good_Clock q28 hE77
        have q81 := RdS.ex good_VLease q25 hE77
        refine OpR.op' rfl (yl_call Try.en78 rfl (opvs_cons hx78 (opvs_cons hx79 opvs_nil)) (Cal.mono (c_i_Renew_usable p_r p_server (RdS.up q80 good_Clock) (RdS.up q81 good_VLease) o3 (by first | omega | assumption | (simp only [IntKind.wrap_i64] at *; omega))) ?_))
        rintro v83 w82 ⟨rfl, hE84⟩
        exact ⟨rfl, hE84⟩
      · intro L85 w86 hi87
        have hE88 := hi87.ex
        have hE88z := Ex.size hE88
        obtain ⟨_, hx89, rfl⟩ := hi87.dep 5 24 rfl rfl
        exact OpR.op' rfl (Yl.same (yl_assign rfl hx89 ⟨rfl, rfl⟩))
      · intro L90 w91 hi92
        have hE93 := hi92.ex
        have hE93z := Ex.size hE93
        obtain ⟨_, hx94, rfl⟩ := hi92.dep 8 27 rfl rfl
        exact OpR.op' rfl (Yl.same (yl_assign rfl hx94 ⟨rfl, rfl⟩))
      · intro L95 w96 hi97
        have hE98 := hi97.ex
        have hE98z := Ex.size hE98
        exact OpR.op' rfl (Yl.same (yl_assign rfl rfl ⟨rfl, rfl⟩))
      · intro L99 w100 hp101
        have hE102 := hp101.ex
        have hE102z := Ex.size hE102
        obtain ⟨_, hx103, rfl⟩ := hp101.new 9 4 rfl
        obtain ⟨_, hx104, rfl⟩ := hp101.new 10 5 rfl
        obtain ⟨_, hx105, rfl⟩ := hp101.new 11 6 rfl
        refine tn ?_
        refine CW.sub (Sub.cons hx103 (Sub.cons hx104 (Sub.cons hx105 (Sub.nil _)))) ?_
        refine CW.ret ?_
        refine rr rfl (.cons rfl (.cons rfl (.cons rfl .nil))) ?_
        have hM106 : (i_UsableIn p_r p_server) = (((p_r.Leases.getD ((p_server).toNat) d_VLease).Ver, (i_Renew_usable p_r p_server), true)) := by simp only [i_UsableIn, hb17, hb22, cond_true, cond_false, loopE_done, loopE_ret]
        rw [hM106]
        have q107 := Ex.trans (Ex.refl w) hE11
        have q108 := Ex.trans q107 hE16
        have q109 := Ex.trans q108 hE21
        have q110 := Ex.trans q109 hE102
        exact ⟨rfl, q110⟩
    · skip
      refine CW.cond_t rfl (not_f hb22) ?_
      refine CW.seq ?_
      refine CW.region ?_
      refine SeqR.d1 rfl rfl rfl (yl_assign rfl rfl ?_)
      refine SeqR.d1 rfl rfl rfl (yl_assign rfl rfl ?_)
      refine SeqR.d1 rfl rfl rfl (yl_assign rfl rfl ?_)
      refine SeqR.done ?_
      refine tn ?_
      refine CW.ret ?_
      refine tr ?_
      refine rr rfl (.cons rfl (.cons rfl (.cons rfl .nil))) ?_
      have hM111 : (i_UsableIn p_r p_server) = ((0, false, false)) := by simp only [i_UsableIn, hb17, hb22, cond_true, cond_false, loopE_done, loopE_ret]
      rw [hM111]
      have q112 := Ex.trans (Ex.refl w) hE11
      have q113 := Ex.trans q112 hE16
      have q114 := Ex.trans q113 hE21
      exact ⟨rfl, q114⟩
  · skip
    refine SeqR.z rfl rfl rfl rfl rfl (not_f hb17) ?_
    refine SeqR.z rfl rfl rfl rfl rfl (not_f hb17) ?_
    refine SeqR.z rfl rfl rfl rfl rfl (not_f hb17) ?_
    refine SeqR.z rfl rfl rfl rfl rfl (not_f hb17) ?_
    refine SeqR.z rfl rfl rfl rfl rfl (not_f hb17) ?_
    refine SeqR.z rfl rfl rfl rfl rfl (not_f hb17) ?_
    refine SeqR.z rfl rfl rfl rfl rfl (not_f hb17) ?_
    refine SeqR.d1 rfl rfl rfl (yl_pick_t rfl rfl (not_f hb17) rfl ?_)
    refine SeqR.done ?_
    refine tn ?_
    refine CW.cond_t rfl rfl ?_
    refine CW.seq ?_
    refine CW.region ?_
    refine SeqR.d1 rfl rfl rfl (yl_assign rfl rfl ?_)
    refine SeqR.d1 rfl rfl rfl (yl_assign rfl rfl ?_)
    refine SeqR.d1 rfl rfl rfl (yl_assign rfl rfl ?_)
    refine SeqR.done ?_
    refine tn ?_
    refine CW.ret ?_
    refine tr ?_
    refine rr rfl (.cons rfl (.cons rfl (.cons rfl .nil))) ?_
    have hM115 : (i_UsableIn p_r p_server) = ((0, false, false)) := by simp only [i_UsableIn, hb17, cond_true, cond_false, loopE_done, loopE_ret]
    rw [hM115]
    have q116 := Ex.trans (Ex.refl w) hE11
    have q117 := Ex.trans q116 hE16
    exact ⟨rfl, q117⟩
set_option maxRecDepth 100000 in
set_option maxHeartbeats 2000000 in
theorem c_l_FnExactUsableIn {A1 : Option Addr} {c1 : Nat} {A2 : Option Addr} {c2 : Nat} {w : World} (p_aR : DRenew) (p_aServer : Int) (h1 : RdS w (Iv 0 w.heap.size) (RF e_Clock) 1 A1 p_aR.Clocks.length c1 p_aR.Clocks) (h2 : RdS w (Iv 0 w.heap.size) (RF e_VLease) 2 A2 p_aR.Leases.length c2 p_aR.Leases) (pre0 : wf_Renew p_aR) (pre1 : wfI p_aServer) : Cal Try.prog 8 #[.agg #[.int .i64 (p_aR.Now), .int .i64 (p_aR.Master.Off), .slice A1 p_aR.Clocks.length c1, .int .i64 (p_aR.Ver), .slice A2 p_aR.Leases.length c2], .int .i64 (p_aServer)] w fun v w' => v = .bool ((l_FnExactUsableIn p_aR p_aServer)) ∧ Ex w w' := by
  refine Cal.of (vs := [.agg #[.int .i64 (p_aR.Now), .int .i64 (p_aR.Master.Off), .slice A1 p_aR.Clocks.length c1, .int .i64 (p_aR.Ver), .slice A2 p_aR.Leases.length c2], .int .i64 (p_aServer)]) Try.func8 rfl Try.ntmps8 rfl ?_
  refine CW.seq ?_
  refine CW.region ?_
  refine SeqR.d1 rfl rfl rfl (yl_box (cs := [.int .i64 (p_aR.Now), .int .i64 (p_aR.Master.Off), .slice A1 p_aR.Clocks.length c1, .int .i64 (p_aR.Ver), .slice A2 p_aR.Leases.length c2]) rfl rfl rfl ?_)
  intro b3 w4 hs5 hz6 hB7 hE8
  refine SeqR.d1 rfl rfl rfl (yl_assign rfl rfl ?_)
  refine SeqR.done ?_
  refine tn ?_
  refine CW.seq ?_
  refine CW.region ?_
  refine SeqR.d1 rfl rfl rfl (yl_assign rfl rfl ?_)
  refine SeqR.done ?_
  refine tn ?_
  refine CW.seq ?_
  refine CW.region ?_
  refine SeqR.d1 rfl rfl rfl (yl_loadN (cs := [.int .i64 (p_aR.Now), .int .i64 (p_aR.Master.Off), .slice A1 p_aR.Clocks.length c1, .int .i64 (p_aR.Ver), .slice A2 p_aR.Leases.length c2]) Try.ty46 rfl rfl (hB7.cells (n := 5) rfl) rfl ?_)
  refine SeqR.d1 rfl rfl rfl (yl_move rfl rfl ?_)
  have q9 := RdS.ex good_Clock h1 hE8
  have q10 := RdS.ex good_VLease h2 hE8
  refine SeqR.d1 rfl rfl rfl (yl_call Try.en24 rfl (opvs_cons rfl (opvs_cons rfl opvs_nil)) (Cal.mono (c_l_szRenew p_aR 1048576 (RdS.up q9 good_Clock) (RdS.up q10 good_VLease)) ?_))
  rintro v12 w11 ⟨rfl, hE13⟩
  have hE13z := Ex.size hE13
  refine SeqR.d1 rfl rfl rfl (yl_assign rfl rfl ?_)
  refine SeqR.done ?_
  refine tn ?_
  refine CW.seq ?_
  refine CW.seq ?_
  refine CW.region ?_
  refine SeqR.d1 rfl rfl rfl (yl_move rfl rfl ?_)
  refine SeqR.d1 rfl rfl rfl (yl_lss rfl rfl rfl ?_)
  refine SeqR.done ?_
  refine tn ?_
  refine bcase (decide ((l_szRenew p_aR 1048576) < 0)) (fun hb14 => ?_) (fun hb14 => ?_)
  · have hb14p := dec_t hb14
    refine CW.cond_t rfl hb14 ?_
    refine CW.seq ?_
    refine CW.region ?_
    refine SeqR.d1 rfl rfl rfl (yl_assign rfl rfl ?_)
    refine SeqR.done ?_
    refine tn ?_
    refine CW.ret ?_
    refine tr ?_
    refine rr rfl (.cons rfl .nil) ?_
    have hM15 : (l_FnExactUsableIn p_aR p_aServer) = (true) := by simp only [l_FnExactUsableIn, hb14, cond_true, cond_false, loopE_done, loopE_ret]
    rw [hM15]
    have q16 := Ex.trans (Ex.refl w) hE8
    have q17 := Ex.trans q16 hE13
    exact ⟨rfl, q17⟩
  · have hb14p := dec_f hb14
    refine CW.cond_f rfl hb14 ?_
    refine CW.skip ?_
    refine tn ?_
    refine CW.seq ?_
    refine CW.region ?_
    have q18 := Box.ex hB7 hE13
    refine SeqR.d1 rfl rfl rfl (yl_loadN (cs := [.int .i64 (p_aR.Now), .int .i64 (p_aR.Master.Off), .slice A1 p_aR.Clocks.length c1, .int .i64 (p_aR.Ver), .slice A2 p_aR.Leases.length c2]) Try.ty46 rfl rfl (q18.cells (n := 5) rfl) rfl ?_)
    have q19 := RdS.ex good_Clock q9 hE13
    have q20 := RdS.ex good_VLease q10 hE13
    refine SeqR.d1 rfl rfl rfl (yl_call Try.en26 rfl (opvs_cons rfl opvs_nil) (Cal.mono (c_l_toRenew p_aR (RdS.up q19 good_Clock) (RdS.up q20 good_VLease) ((szok_Renew pre0 (by decide) (dec_f hb14)).1)) ?_))
    rintro v24 w21 ⟨A22, c22, A23, c23, rfl, h22, h23, hE25⟩
    have hE25z := Ex.size hE25
    refine SeqR.d1 rfl rfl rfl (yl_move rfl rfl ?_)
    refine SeqR.d1 rfl rfl rfl (yl_call Try.en30 rfl (opvs_cons rfl (opvs_cons rfl opvs_nil)) (Cal.mono (c_s_UsableIn p_aR p_aServer (RdS.up h22 good_Clock) (RdS.up h23 good_VLease) ((szok_Renew pre0 (by decide) (dec_f hb14)).1)) ?_))
    rintro v27 w26 ⟨rfl, hE28⟩
    have hE28z := Ex.size hE28
    refine SeqR.d1 rfl rfl rfl (yl_move rfl rfl ?_)
    refine SeqR.d1 rfl rfl rfl (yl_extract rfl rfl rfl ?_)
    refine SeqR.d1 rfl rfl rfl (yl_extract rfl rfl rfl ?_)
    refine SeqR.d1 rfl rfl rfl (yl_extract rfl rfl rfl ?_)
    refine SeqR.d1 rfl rfl rfl (yl_assign rfl rfl ?_)
    refine SeqR.d1 rfl rfl rfl (yl_assign rfl rfl ?_)
    refine SeqR.d1 rfl rfl rfl (yl_assign rfl rfl ?_)
    refine SeqR.done ?_
    refine tn ?_
    refine CW.seq ?_
    refine CW.region ?_
    have q29 := Box.ex q18 hE25
    have q30 := Box.ex q29 hE28
    refine SeqR.d1 rfl rfl rfl (yl_loadN (cs := [.int .i64 (p_aR.Now), .int .i64 (p_aR.Master.Off), .slice A1 p_aR.Clocks.length c1, .int .i64 (p_aR.Ver), .slice A2 p_aR.Leases.length c2]) Try.ty46 rfl rfl (q30.cells (n := 5) rfl) rfl ?_)
    have q31 := RdS.ex good_Clock q19 hE25
    have q32 := RdS.ex good_Clock q31 hE28
    have q33 := RdS.ex good_VLease q20 hE25
    have q34 := RdS.ex good_VLease q33 hE28
    refine SeqR.d1 rfl rfl rfl (yl_call Try.en26 rfl (opvs_cons rfl opvs_nil) (Cal.mono (c_l_toRenew p_aR (RdS.up q32 good_Clock) (RdS.up q34 good_VLease) ((szok_Renew pre0 (by decide) (dec_f hb14)).1)) ?_))
    rintro v38 w35 ⟨A36, c36, A37, c37, rfl, h36, h37, hE39⟩
    have hE39z := Ex.size hE39
    refine SeqR.d1 rfl rfl rfl (yl_alloc Try.ty37 (cs := [.int .i64 (0), .int .i64 (0), .slice none 0 0, .int .i64 (0), .slice none 0 0]) rfl rfl ?_)
    intro b40 w41 hs42 hz43 hB44 hE45
    refine SeqR.u rfl rfl (yl_store (vs := [.int .i64 (p_aR.Now), .int .i64 (p_aR.Master.Off), .slice A36 p_aR.Clocks.length c36, .int .i64 (p_aR.Ver), .slice A37 p_aR.Leases.length c37]) Try.ty37 rfl rfl rfl rfl rfl rfl hB44 (Nat.le_of_ble_eq_true rfl) ?_)
    intro w46 hB47 hO48
    have hB47 : Box w46 b40 37 [.int .i64 (p_aR.Now), .int .i64 (p_aR.Master.Off), .slice A36 p_aR.Clocks.length c36, .int .i64 (p_aR.Ver), .slice A37 p_aR.Leases.length c37] := hB47
    have hO48z := hO48.size
    refine SeqR.done ?_
    refine tn ?_
    refine CW.seq ?_
    refine CW.region ?_
    refine SeqR.d1 rfl rfl rfl (yl_loadN (cs := [.int .i64 (p_aR.Now), .int .i64 (p_aR.Master.Off), .slice A36 p_aR.Clocks.length c36, .int .i64 (p_aR.Ver), .slice A37 p_aR.Leases.length c37]) Try.ty37 rfl rfl (hB47.cells (n := 5) rfl) rfl ?_)
    refine SeqR.d1 rfl rfl rfl (yl_move rfl rfl ?_)
    have q49 := RdS.ex good_Clock h36 hE45
    have q50 := RdS.only good_Clock q49 hO48 (by simp only [Iv]; omega)
    have q51 := RdS.ex good_VLease h37 hE45
    have q52 := RdS.only good_VLease q51 hO48 (by simp only [Iv]; omega)
    refine SeqR.d1 rfl rfl rfl (yl_call Try.en31 rfl (opvs_cons rfl (opvs_cons rfl opvs_nil)) (Cal.mono (c_i_UsableIn p_aR p_aServer (RdS.up q50 good_Clock) (RdS.up q52 good_VLease) ((szok_Renew pre0 (by decide) (dec_f hb14)).1)) ?_))
    rintro v54 w53 ⟨rfl, hE55⟩
    have hE55z := Ex.size hE55
    refine SeqR.d1 rfl rfl rfl (yl_move rfl rfl ?_)
    refine SeqR.d1 rfl rfl rfl (yl_extract rfl rfl rfl ?_)
    refine SeqR.d1 rfl rfl rfl (yl_extract rfl rfl rfl ?_)
    refine SeqR.d1 rfl rfl rfl (yl_extract rfl rfl rfl ?_)
    refine SeqR.d1 rfl rfl rfl (yl_assign rfl rfl ?_)
    refine SeqR.d1 rfl rfl rfl (yl_assign rfl rfl ?_)
    refine SeqR.d1 rfl rfl rfl (yl_assign rfl rfl ?_)
    refine SeqR.done ?_
    refine tn ?_
    refine CW.seq ?_
    refine CW.seq ?_
    refine CW.region ?_
    refine SeqR.d1 rfl rfl rfl (yl_move rfl rfl ?_)
    refine SeqR.d1 rfl rfl rfl (yl_move rfl rfl ?_)
    refine SeqR.d1 rfl rfl rfl (yl_neq rfl rfl rfl ?_)
    refine SeqR.d1 rfl rfl rfl (yl_move rfl rfl ?_)
    refine bcase (decide (((i_UsableIn p_aR p_aServer).1) = ((s_UsableIn p_aR p_aServer).1))) (fun hb56 => ?_) (fun hb56 => ?_)
    · have hb56p := dec_t hb56
      refine SeqR.y rfl rfl rfl rfl rfl (not_t hb56) (yl_move rfl rfl ?_)
      refine SeqR.y rfl rfl rfl rfl rfl (not_t hb56) (yl_move rfl rfl ?_)
      refine SeqR.y rfl rfl rfl rfl rfl (not_t hb56) (yl_bneq Try.un4 rfl rfl rfl ?_)
      refine SeqR.d1 rfl rfl rfl (yl_pick_f rfl rfl (not_t hb56) rfl ?_)
      refine SeqR.d1 rfl rfl rfl (yl_move rfl rfl ?_)
      refine bcase (((i_UsableIn p_aR p_aServer).2.1) == ((s_UsableIn p_aR p_aServer).2.1)) (fun hb57 => ?_) (fun hb57 => ?_)
      · skip
        refine SeqR.y rfl rfl rfl rfl rfl (not_t hb57) (yl_move rfl rfl ?_)
        refine SeqR.y rfl rfl rfl rfl rfl (not_t hb57) (yl_move rfl rfl ?_)
        refine SeqR.y rfl rfl rfl rfl rfl (not_t hb57) (yl_bneq Try.un4 rfl rfl rfl ?_)
        refine SeqR.d1 rfl rfl rfl (yl_pick_f rfl rfl (not_t hb57) rfl ?_)
        refine SeqR.done ?_
        refine tn ?_
        refine bcase (((i_UsableIn p_aR p_aServer).2.2) == ((s_UsableIn p_aR p_aServer).2.2)) (fun hb58 => ?_) (fun hb58 => ?_)
        · skip
          refine CW.cond_f rfl (not_t hb58) ?_
          refine CW.skip ?_
          refine tn ?_
          refine CW.seq ?_
          refine CW.seq ?_
          have q59 := Box.ex hB47 hE55
          have q60 := Box.ex q30 hE39
          have q61 := Box.ex q60 hE45
          have q62 := Box.only q61 hO48 (by omega)
          have q63 := Box.ex q62 hE55
          have q64 := RdS.ex good_Clock q32 hE39
          have q65 := RdS.ex good_Clock q64 hE45
          have q66 := RdS.only good_Clock q65 hO48 (by simp only [Iv]; omega)
          have q67 := RdS.ex good_Clock q66 hE55
          have q68 := RdS.ex good_VLease q34 hE39
          have q69 := RdS.ex good_VLease q68 hE45
          have q70 := RdS.only good_VLease q69 hO48 (by simp only [Iv]; omega)
          have q71 := RdS.ex good_VLease q70 hE55
          have q75 := RdS.ex good_Clock q50 hE55
          have q76 := RdS.ex good_VLease q52 hE55
          refine CW.draws (vget [Det (.agg #[.int .i64 (p_aR.Now), .int .i64 (p_aR.Master.Off), .slice A36 p_aR.Clocks.length c36, .int .i64 (p_aR.Ver), .slice A37 p_aR.Leases.length c37]), Det (.agg #[.int .i64 (p_aR.Now), .int .i64 (p_aR.Master.Off), .slice A1 p_aR.Clocks.length c1, .int .i64 (p_aR.Ver), .slice A2 p_aR.Leases.length c2]), fun v w => ∃ A73 c73 A74 c74, v = .agg #[.int .i64 (p_aR.Now), .int .i64 (p_aR.Master.Off), .slice A73 p_aR.Clocks.length c73, .int .i64 (p_aR.Ver), .slice A74 p_aR.Leases.length c74] ∧ RdS w (Ge w53.heap.size) (RF e_Clock) 1 A73 p_aR.Clocks.length c73 p_aR.Clocks ∧ RdS w (Ge w53.heap.size) (RF e_VLease) 2 A74 p_aR.Leases.length c74 p_aR.Leases, Det (.bool ((l_eqRenew p_aR p_aR))), Det (.bool (!(l_eqRenew p_aR p_aR)))]) Try.follows rfl rfl rfl rfl (vget_stable ⟨Stable.det _, Stable.det _, (fun _ _ _ ⟨A73, c73, A74, c74, hv, h73, h74⟩ e => ⟨A73, c73, A74, c74, hv, RdS.ex good_Clock h73 e, RdS.ex good_VLease h74 e⟩), Stable.det _, Stable.det _, trivial⟩) ⟨?_, ?_, ?_, ?_, ?_, trivial⟩ ?_
          · intro L78 w79 hi80
            have hE81 := hi80.ex
            have hE81z := Ex.size hE81
            have hx82 := hi80.old 9 _ rfl rfl
            have q83 := Box.ex q59 hE81
            exact OpR.op' rfl (Yl.same (yl_loadN (cs := [.int .i64 (p_aR.Now), .int .i64 (p_aR.Master.Off), .slice A36 p_aR.Clocks.length c36, .int .i64 (p_aR.Ver), .slice A37 p_aR.Leases.length c37]) Try.ty37 rfl hx82 (q83.cells (n := 5) rfl) rfl ⟨rfl, rfl⟩))
          · intro L84 w85 hi86
            have hE87 := hi86.ex
            have hE87z := Ex.size hE87
            have hx88 := hi86.old 2 _ rfl rfl
            have q89 := Box.ex q63 hE87
            exact OpR.op' rfl (Yl.same (yl_loadN (cs := [.int .i64 (p_aR.Now), .int .i64 (p_aR.Master.Off), .slice A1 p_aR.Clocks.length c1, .int .i64 (p_aR.Ver), .slice A2 p_aR.Leases.length c2]) Try.ty46 rfl hx88 (q89.cells (n := 5) rfl) rfl ⟨rfl, rfl⟩))
          · intro L90 w91 hi92
            have hE93 := hi92.ex
            have hE93z := Ex.size hE93
            obtain ⟨_, hx94, rfl⟩ := hi92.dep 1 49 rfl rfl
            have q95 := RdS.ex good_Clock q67 hE93
            have q96 := RdS.ex good_VLease q71 hE93
            refine OpR.op' rfl (yl_call Try.en26 rfl (opvs_cons hx94 opvs_nil) (Cal.mono (c_l_toRenew p_aR (RdS.up q95 good_Clock) (RdS.up q96 good_VLease) ((szok_Renew pre0 (by decide) (dec_f hb14)).1)) ?_))
            rintro v100 w97 ⟨A98, c98, A99, c99, rfl, h98, h99, hE101⟩
            exact ⟨⟨A98, c98, A99, c99, rfl, RdS.wide good_Clock h98 (fun _ hh _ => Nat.le_trans hE93z hh.1), RdS.wide good_VLease h99 (fun _ hh _ => Nat.le_trans hE93z hh.1)⟩, hE101⟩
          · intro L102 w103 hi104
            have hE105 := hi104.ex
            have hE105z := Ex.size hE105
            obtain ⟨_, hx106, rfl⟩ := hi104.dep 0 48 rfl rfl
            obtain ⟨_, hx107, A73_108, c73_109, A74_110, c74_111, rfl, h112, h113⟩ := hi104.dep 2 50 rfl rfl
            have q114 := RdS.ex good_Clock q75 hE105
            have q115 := RdS.ex good_VLease q76 hE105
            refine OpR.op' rfl (yl_call Try.en21 rfl (opvs_cons hx106 (opvs_cons hx107 opvs_nil)) (Cal.mono (c_l_eqRenew p_aR p_aR (RdS.up q114 good_Clock) (RdS.up q115 good_VLease) (RdS.up h112 good_Clock) (RdS.up h113 good_VLease)) ?_))
            rintro v117 w116 ⟨rfl, hE118⟩
            exact ⟨rfl, hE118⟩
          · intro L119 w120 hi121
            have hE122 := hi121.ex
            have hE122z := Ex.size hE122
            obtain ⟨_, hx123, rfl⟩ := hi121.dep 3 51 rfl rfl
            exact OpR.op' rfl (Yl.same (yl_not rfl hx123 ⟨rfl, rfl⟩))
          · intro L124 w125 hp126
            have hE127 := hp126.ex
            have hE127z := Ex.size hE127
            obtain ⟨_, hx128, rfl⟩ := hp126.new 4 52 rfl
            refine tn ?_
            refine CW.sub (Sub.cons hx128 (Sub.nil _)) ?_
            refine bcase (l_eqRenew p_aR p_aR) (fun hb129 => ?_) (fun hb129 => ?_)
            · skip
              refine CW.cond_f rfl (not_t hb129) ?_
              refine CW.skip ?_
              refine tn ?_
              refine CW.seq ?_
              refine CW.region ?_
              refine SeqR.d1 rfl rfl rfl (yl_assign rfl rfl ?_)
              refine SeqR.done ?_
              refine tn ?_
              refine CW.ret ?_
              refine rr rfl (.cons rfl .nil) ?_
              have hM130 : (l_FnExactUsableIn p_aR p_aServer) = (true) := by simp only [l_FnExactUsableIn, hb14, hb56, hb57, hb58, hb129, cond_true, cond_false, loopE_done, loopE_ret]
              rw [hM130]
              have q131 := Ex.trans (Ex.refl w) hE8
              have q132 := Ex.trans q131 hE13
              have q133 := Ex.trans q132 hE25
              have q134 := Ex.trans q133 hE28
              have q135 := Ex.trans q134 hE39
              have q136 := Ex.trans q135 hE45
              have q137 := Below.only q136 hO48 (by omega)
              have q138 := Ex.trans q137 hE55
              have q139 := Ex.trans q138 hE127
              exact ⟨rfl, q139⟩
            · skip
              refine CW.cond_t rfl (not_f hb129) ?_
              refine CW.seq ?_
              refine CW.region ?_
              refine SeqR.d1 rfl rfl rfl (yl_assign rfl rfl ?_)
              refine SeqR.done ?_
              refine tn ?_
              refine CW.ret ?_
              refine tr ?_
              refine rr rfl (.cons rfl .nil) ?_
              have hM140 : (l_FnExactUsableIn p_aR p_aServer) = (false) := by simp only [l_FnExactUsableIn, hb14, hb56, hb57, hb58, hb129, cond_true, cond_false, loopE_done, loopE_ret]
              rw [hM140]
              have q141 := Ex.trans (Ex.refl w) hE8
              have q142 := Ex.trans q141 hE13
              have q143 := Ex.trans q142 hE25
              have q144 := Ex.trans q143 hE28
              have q145 := Ex.trans q144 hE39
              have q146 := Ex.trans q145 hE45
              have q147 := Below.only q146 hO48 (by omega)
              have q148 := Ex.trans q147 hE55
              have q149 := Ex.trans q148 hE127
              exact ⟨rfl, q149⟩
        · skip
          refine CW.cond_t rfl (not_f hb58) ?_
          refine CW.seq ?_
          refine CW.region ?_
          refine SeqR.d1 rfl rfl rfl (yl_assign rfl rfl ?_)
          refine SeqR.done ?_
          refine tn ?_
          refine CW.ret ?_
          refine tr ?_
          refine rr rfl (.cons rfl .nil) ?_
          have hM150 : (l_FnExactUsableIn p_aR p_aServer) = (false) := by simp only [l_FnExactUsableIn, hb14, hb56, hb57, hb58, cond_true, cond_false, loopE_done, loopE_ret]
          rw [hM150]
          have q151 := Ex.trans (Ex.refl w) hE8
          have q152 := Ex.trans q151 hE13
          have q153 := Ex.trans q152 hE25
          have q154 := Ex.trans q153 hE28
          have q155 := Ex.trans q154 hE39
          have q156 := Ex.trans q155 hE45
          have q157 := Below.only q156 hO48 (by omega)
          have q158 := Ex.trans q157 hE55
          exact ⟨rfl, q158⟩
      · skip
        refine SeqR.z rfl rfl rfl rfl rfl (not_f hb57) ?_
        refine SeqR.z rfl rfl rfl rfl rfl (not_f hb57) ?_
        refine SeqR.z rfl rfl rfl rfl rfl (not_f hb57) ?_
        refine SeqR.d1 rfl rfl rfl (yl_pick_t rfl rfl (not_f hb57) rfl ?_)
        refine SeqR.done ?_
        refine tn ?_
        refine CW.cond_t rfl rfl ?_
        refine CW.seq ?_
        refine CW.region ?_
        refine SeqR.d1 rfl rfl rfl (yl_assign rfl rfl ?_)
        refine SeqR.done ?_
        refine tn ?_
        refine CW.ret ?_
        refine tr ?_
        refine rr rfl (.cons rfl .nil) ?_
        have hM159 : (l_FnExactUsableIn p_aR p_aServer) = (false) := by simp only [l_FnExactUsableIn, hb14, hb56, hb57, cond_true, cond_false, loopE_done, loopE_ret]
        rw [hM159]
        have q160 := Ex.trans (Ex.refl w) hE8
        have q161 := Ex.trans q160 hE13
        have q162 := Ex.trans q161 hE25
        have q163 := Ex.trans q162 hE28
        have q164 := Ex.trans q163 hE39
        have q165 := Ex.trans q164 hE45
        have q166 := Below.only q165 hO48 (by omega)
        have q167 := Ex.trans q166 hE55
        exact ⟨rfl, q167⟩
    · have hb56p := dec_f hb56
      refine SeqR.z rfl rfl rfl rfl rfl (not_f hb56) ?_
      refine SeqR.z rfl rfl rfl rfl rfl (not_f hb56) ?_
      refine SeqR.z rfl rfl rfl rfl rfl (not_f hb56) ?_
      refine SeqR.d1 rfl rfl rfl (yl_pick_t rfl rfl (not_f hb56) rfl ?_)
      refine SeqR.d1 rfl rfl rfl (yl_move rfl rfl ?_)
      refine SeqR.z rfl rfl rfl rfl rfl rfl ?_
      refine SeqR.z rfl rfl rfl rfl rfl rfl ?_
      refine SeqR.z rfl rfl rfl rfl rfl rfl ?_
      refine SeqR.d1 rfl rfl rfl (yl_pick_t rfl rfl rfl rfl ?_)
      refine SeqR.done ?_
      refine tn ?_
      refine CW.cond_t rfl rfl ?_
      refine CW.seq ?_
      refine CW.region ?_
      refine SeqR.d1 rfl rfl rfl (yl_assign rfl rfl ?_)
      refine SeqR.done ?_
      refine tn ?_
      refine CW.ret ?_
      refine tr ?_
      refine rr rfl (.cons rfl .nil) ?_
      have hM168 : (l_FnExactUsableIn p_aR p_aServer) = (false) := by simp only [l_FnExactUsableIn, hb14, hb56, cond_true, cond_false, loopE_done, loopE_ret]
      rw [hM168]
      have q169 := Ex.trans (Ex.refl w) hE8
      have q170 := Ex.trans q169 hE13
      have q171 := Ex.trans q170 hE25
      have q172 := Ex.trans q171 hE28
      have q173 := Ex.trans q172 hE39
      have q174 := Ex.trans q173 hE45
      have q175 := Below.only q174 hO48 (by omega)
      have q176 := Ex.trans q175 hE55
      exact ⟨rfl, q176⟩
end Go.Proofs.Ytnfjabkdlkejkaa
