/- Are Near: what each call returns, part 2. -/
import Derived.Test.YtnfjabkdlkejkaaAreNearC1
set_option linter.unusedVariables false
set_option linter.unusedSimpArgs false
namespace Go.Proofs.Ytnfjabkdlkejkaa
open Go.RowKit Go.X
set_option maxRecDepth 100000 in
set_option maxHeartbeats 2000000 in
theorem c_l_FnExactAreNear {A1 : Option Addr} {c1 : Nat} {A2 : Option Addr} {c2 : Nat} {w : World} (p_aR : DRenew) (h1 : RdS w (Iv 0 w.heap.size) (RF e_Clock) 1 A1 p_aR.Clocks.length c1 p_aR.Clocks) (h2 : RdS w (Iv 0 w.heap.size) (RF e_VLease) 2 A2 p_aR.Leases.length c2 p_aR.Leases) (pre0 : wf_Renew p_aR) : Cal Try.prog 10 #[.agg #[.int .i64 (p_aR.Now), .int .i64 (p_aR.Master.Off), .slice A1 p_aR.Clocks.length c1, .int .i64 (p_aR.Ver), .slice A2 p_aR.Leases.length c2]] w fun v w' => v = .bool ((l_FnExactAreNear p_aR)) ∧ Ex w w' := by
  refine Cal.of (vs := [.agg #[.int .i64 (p_aR.Now), .int .i64 (p_aR.Master.Off), .slice A1 p_aR.Clocks.length c1, .int .i64 (p_aR.Ver), .slice A2 p_aR.Leases.length c2]]) Try.func10 rfl Try.ntmps10 rfl ?_
  refine CW.seq ?_
  refine CW.region ?_
  refine SeqR.d1 rfl rfl rfl (yl_box (cs := [.int .i64 (p_aR.Now), .int .i64 (p_aR.Master.Off), .slice A1 p_aR.Clocks.length c1, .int .i64 (p_aR.Ver), .slice A2 p_aR.Leases.length c2]) rfl rfl rfl ?_)
  intro b3 w4 hs5 hz6 hB7 hE8
  refine SeqR.d1 rfl rfl rfl (yl_assign rfl rfl ?_)
  refine SeqR.done ?_
  refine tn ?_
  refine CW.seq ?_
  refine CW.region ?_
  refine SeqR.d1 rfl rfl rfl (yl_assign rfl rfl ?_)
  refine SeqR.done ?_
  refine tn ?_
  refine CW.seq ?_
  refine CW.region ?_
  refine SeqR.d1 rfl rfl rfl (yl_loadN (cs := [.int .i64 (p_aR.Now), .int .i64 (p_aR.Master.Off), .slice A1 p_aR.Clocks.length c1, .int .i64 (p_aR.Ver), .slice A2 p_aR.Leases.length c2]) Try.ty46 rfl rfl (hB7.cells (n := 5) rfl) rfl ?_)
  refine SeqR.d1 rfl rfl rfl (yl_move rfl rfl ?_)
  have q9 := RdS.ex good_Clock h1 hE8
  have q10 := RdS.ex good_VLease h2 hE8
  refine SeqR.d1 rfl rfl rfl (yl_call Try.en24 rfl (opvs_cons rfl (opvs_cons rfl opvs_nil)) (Cal.mono (c_l_szRenew p_aR 1048576 (RdS.up q9 good_Clock) (RdS.up q10 good_VLease)) ?_))
  rintro v12 w11 ⟨rfl, hE13⟩
  have hE13z := Ex.size hE13
  refine SeqR.d1 rfl rfl rfl (yl_assign rfl rfl ?_)
  refine SeqR.done ?_
  refine tn ?_
  refine CW.seq ?_
  refine CW.seq ?_
  refine CW.region ?_
  refine SeqR.d1 rfl rfl rfl (yl_move rfl rfl ?_)
  refine SeqR.d1 rfl rfl rfl (yl_lss rfl rfl rfl ?_)
  refine SeqR.done ?_
  refine tn ?_
  refine bcase (decide ((l_szRenew p_aR 1048576) < 0)) (fun hb14 => ?_) (fun hb14 => ?_)
  · have hb14p := dec_t hb14
    refine CW.cond_t rfl hb14 ?_
    refine CW.seq ?_
    refine CW.region ?_
    refine SeqR.d1 rfl rfl rfl (yl_assign rfl rfl ?_)
    refine SeqR.done ?_
    refine tn ?_
    refine CW.ret ?_
    refine tr ?_
    refine rr rfl (.cons rfl .nil) ?_
    have hM15 : (l_FnExactAreNear p_aR) = (true) := by simp only [l_FnExactAreNear, hb14, cond_true, cond_false, loopE_done, loopE_ret]
    rw [hM15]
    have q16 := Ex.trans (Ex.refl w) hE8
    have q17 := Ex.trans q16 hE13
    exact ⟨rfl, q17⟩
  · have hb14p := dec_f hb14
    refine CW.cond_f rfl hb14 ?_
    refine CW.skip ?_
    refine tn ?_
    refine CW.seq ?_
    refine CW.region ?_
    have q18 := Box.ex hB7 hE13
    refine SeqR.d1 rfl rfl rfl (yl_loadN (cs := [.int .i64 (p_aR.Now), .int .i64 (p_aR.Master.Off), .slice A1 p_aR.Clocks.length c1, .int .i64 (p_aR.Ver), .slice A2 p_aR.Leases.length c2]) Try.ty46 rfl rfl (q18.cells (n := 5) rfl) rfl ?_)
    have q19 := RdS.ex good_Clock q9 hE13
    have q20 := RdS.ex good_VLease q10 hE13
    refine SeqR.d1 rfl rfl rfl (yl_call Try.en26 rfl (opvs_cons rfl opvs_nil) (Cal.mono (c_l_toRenew p_aR (RdS.up q19 good_Clock) (RdS.up q20 good_VLease) ((szok_Renew pre0 (by decide) (dec_f hb14)).1)) ?_))
    rintro v24 w21 ⟨A22, c22, A23, c23, rfl, h22, h23, hE25⟩
    have hE25z := Ex.size hE25
    refine SeqR.d1 rfl rfl rfl (yl_call Try.en35 rfl (opvs_cons rfl opvs_nil) (Cal.mono (c_s_AreNear p_aR (RdS.up h22 good_Clock) (RdS.up h23 good_VLease) ((szok_Renew pre0 (by decide) (dec_f hb14)).1)) ?_))
    rintro v27 w26 ⟨rfl, hE28⟩
    have hE28z := Ex.size hE28
    refine SeqR.d1 rfl rfl rfl (yl_move rfl rfl ?_)
    refine SeqR.d1 rfl rfl rfl (yl_extract rfl rfl rfl ?_)
    refine SeqR.d1 rfl rfl rfl (yl_extract rfl rfl rfl ?_)
    refine SeqR.d1 rfl rfl rfl (yl_assign rfl rfl ?_)
    refine SeqR.d1 rfl rfl rfl (yl_assign rfl rfl ?_)
    refine SeqR.done ?_
    refine tn ?_
    refine CW.seq ?_
    refine CW.region ?_
    have q29 := Box.ex q18 hE25
    have q30 := Box.ex q29 hE28
    refine SeqR.d1 rfl rfl rfl (yl_loadN (cs := [.int .i64 (p_aR.Now), .int .i64 (p_aR.Master.Off), .slice A1 p_aR.Clocks.length c1, .int .i64 (p_aR.Ver), .slice A2 p_aR.Leases.length c2]) Try.ty46 rfl rfl (q30.cells (n := 5) rfl) rfl ?_)
    have q31 := RdS.ex good_Clock q19 hE25
    have q32 := RdS.ex good_Clock q31 hE28
    have q33 := RdS.ex good_VLease q20 hE25
    have q34 := RdS.ex good_VLease q33 hE28
    refine SeqR.d1 rfl rfl rfl (yl_call Try.en26 rfl (opvs_cons rfl opvs_nil) (Cal.mono (c_l_toRenew p_aR (RdS.up q32 good_Clock) (RdS.up q34 good_VLease) ((szok_Renew pre0 (by decide) (dec_f hb14)).1)) ?_))
    rintro v38 w35 ⟨A36, c36, A37, c37, rfl, h36, h37, hE39⟩
    have hE39z := Ex.size hE39
    refine SeqR.d1 rfl rfl rfl (yl_alloc Try.ty37 (cs := [.int .i64 (0), .int .i64 (0), .slice none 0 0, .int .i64 (0), .slice none 0 0]) rfl rfl ?_)
    intro b40 w41 hs42 hz43 hB44 hE45
    refine SeqR.u rfl rfl (yl_store (vs := [.int .i64 (p_aR.Now), .int .i64 (p_aR.Master.Off), .slice A36 p_aR.Clocks.length c36, .int .i64 (p_aR.Ver), .slice A37 p_aR.Leases.length c37]) Try.ty37 rfl rfl rfl rfl rfl rfl hB44 (Nat.le_of_ble_eq_true rfl) ?_)
    intro w46 hB47 hO48
    have hB47 : Box w46 b40 37 [.int .i64 (p_aR.Now), .int .i64 (p_aR.Master.Off), .slice A36 p_aR.Clocks.length c36, .int .i64 (p_aR.Ver), .slice A37 p_aR.Leases.length c37] := hB47
    have hO48z := hO48.size
    refine SeqR.done ?_
    refine tn ?_
    refine CW.seq ?_
    refine CW.region ?_
    refine SeqR.d1 rfl rfl rfl (yl_loadN (cs := [.int .i64 (p_aR.Now), .int .i64 (p_aR.Master.Off), .slice A36 p_aR.Clocks.length c36, .int .i64 (p_aR.Ver), .slice A37 p_aR.Leases.length c37]) Try.ty37 rfl rfl (hB47.cells (n := 5) rfl) rfl ?_)
    have q49 := RdS.ex good_Clock h36 hE45
    have q50 := RdS.only good_Clock q49 hO48 (by simp only [Iv]; omega)
    have q51 := RdS.ex good_VLease h37 hE45
    have q52 := RdS.only good_VLease q51 hO48 (by simp only [Iv]; omega)
    refine SeqR.d1 rfl rfl rfl (yl_call Try.en36 rfl (opvs_cons rfl opvs_nil) (Cal.mono (c_i_AreNear p_aR (RdS.up q50 good_Clock) (RdS.up q52 good_VLease) ((szok_Renew pre0 (by decide) (dec_f hb14)).1)) ?_))
    rintro v54 w53 ⟨rfl, hE55⟩
    have hE55z := Ex.size hE55
    refine SeqR.d1 rfl rfl rfl (yl_move rfl rfl ?_)
    refine SeqR.d1 rfl rfl rfl (yl_extract rfl rfl rfl ?_)
    refine SeqR.d1 rfl rfl rfl (yl_extract rfl rfl rfl ?_)
    refine SeqR.d1 rfl rfl rfl (yl_assign rfl rfl ?_)
    refine SeqR.d1 rfl rfl rfl (yl_assign rfl rfl ?_)
    refine SeqR.done ?_
    refine tn ?_
    refine CW.seq ?_
    refine CW.seq ?_
    refine CW.region ?_
    refine SeqR.d1 rfl rfl rfl (yl_move rfl rfl ?_)
    refine SeqR.d1 rfl rfl rfl (yl_move rfl rfl ?_)
    refine SeqR.d1 rfl rfl rfl (yl_bneq Try.un4 rfl rfl rfl ?_)
    refine SeqR.d1 rfl rfl rfl (yl_move rfl rfl ?_)
    refine bcase (((i_AreNear p_aR).1) == ((s_AreNear p_aR).1)) (fun hb56 => ?_) (fun hb56 => ?_)
    · skip
      refine SeqR.y rfl rfl rfl rfl rfl (not_t hb56) (yl_move rfl rfl ?_)
      refine SeqR.y rfl rfl rfl rfl rfl (not_t hb56) (yl_move rfl rfl ?_)
      refine SeqR.y rfl rfl rfl rfl rfl (not_t hb56) (yl_bneq Try.un4 rfl rfl rfl ?_)
      refine SeqR.d1 rfl rfl rfl (yl_pick_f rfl rfl (not_t hb56) rfl ?_)
      refine SeqR.done ?_
      refine tn ?_
      refine bcase (((i_AreNear p_aR).2) == ((s_AreNear p_aR).2)) (fun hb57 => ?_) (fun hb57 => ?_)
      · skip
        refine CW.cond_f rfl (not_t hb57) ?_
        refine CW.skip ?_
        refine tn ?_
        refine CW.seq ?_
        refine CW.seq ?_
        have q58 := Box.ex hB47 hE55
        have q59 := Box.ex q30 hE39
        have q60 := Box.ex q59 hE45
        have q61 := Box.only q60 hO48 (by omega)
        have q62 := Box.ex q61 hE55
        have q63 := RdS.ex good_Clock q32 hE39
        have q64 := RdS.ex good_Clock q63 hE45
        have q65 := RdS.only good_Clock q64 hO48 (by simp only [Iv]; omega)
        have q66 := RdS.ex good_Clock q65 hE55
        have q67 := RdS.ex good_VLease q34 hE39
        have q68 := RdS.ex good_VLease q67 hE45
        have q69 := RdS.only good_VLease q68 hO48 (by simp only [Iv]; omega)
        have q70 := RdS.ex good_VLease q69 hE55
        have q74 := RdS.ex good_Clock q50 hE55
        have q75 := RdS.ex good_VLease q52 hE55
        refine CW.drawsI 5 (vgetI [DetI (.agg #[.int .i64 (p_aR.Now), .int .i64 (p_aR.Master.Off), .slice A36 p_aR.Clocks.length c36, .int .i64 (p_aR.Ver), .slice A37 p_aR.Leases.length c37]), DetI (.agg #[.int .i64 (p_aR.Now), .int .i64 (p_aR.Master.Off), .slice A1 p_aR.Clocks.length c1, .int .i64 (p_aR.Ver), .slice A2 p_aR.Leases.length c2]), OpqI fun v w => ∃ A72 c72 A73 c73, v = .agg #[.int .i64 (p_aR.Now), .int .i64 (p_aR.Master.Off), .slice A72 p_aR.Clocks.length c72, .int .i64 (p_aR.Ver), .slice A73 p_aR.Leases.length c73] ∧ RdS w (Ge w53.heap.size) (RF e_Clock) 1 A72 p_aR.Clocks.length c72 p_aR.Clocks ∧ RdS w (Ge w53.heap.size) (RF e_VLease) 2 A73 p_aR.Leases.length c73 p_aR.Leases, DetI (.bool ((l_eqRenew p_aR p_aR))), DetI (.bool (!(l_eqRenew p_aR p_aR)))]) Try.follows rfl rfl rfl rfl rfl rfl (vgetI_stable ⟨StableI.det _, StableI.det _, (fun _ _ _ _ _ ⟨A72, c72, A73, c73, hv, h72, h73⟩ e => ⟨A72, c72, A73, c73, hv, RdS.ex good_Clock h72 e, RdS.ex good_VLease h73 e⟩), StableI.det _, StableI.det _, trivial⟩) ⟨?_, ?_, ?_, ?_, ?_, trivial⟩ ?_
        · intro L77 w78 hi79
          have hE80 := hi79.ex
          have hE80z := Ex.size hE80
          have hx81 := hi79.old 6 _ rfl rfl
          have q82 := Box.ex q58 hE80
          exact OpR.op' rfl (Yl.sameI (yl_loadN (cs := [.int .i64 (p_aR.Now), .int .i64 (p_aR.Master.Off), .slice A36 p_aR.Clocks.length c36, .int .i64 (p_aR.Ver), .slice A37 p_aR.Leases.length c37]) Try.ty37 rfl hx81 (q82.cells (n := 5) rfl) rfl ⟨fun _ _ => rfl, rfl⟩))
        · intro L83 w84 hi85
          have hE86 := hi85.ex
          have hE86z := Ex.size hE86
          have hx87 := hi85.old 1 _ rfl rfl
          have q88 := Box.ex q62 hE86
          exact OpR.op' rfl (Yl.sameI (yl_loadN (cs := [.int .i64 (p_aR.Now), .int .i64 (p_aR.Master.Off), .slice A1 p_aR.Clocks.length c1, .int .i64 (p_aR.Ver), .slice A2 p_aR.Leases.length c2]) Try.ty46 rfl hx87 (q88.cells (n := 5) rfl) rfl ⟨fun _ _ => rfl, rfl⟩))
        · intro L89 w90 hi91
          have hE92 := hi91.ex
          have hE92z := Ex.size hE92
          obtain ⟨_, _, _, hx93, -, -, -, rfl⟩ := hi91.dep 1 36 rfl rfl
          have q94 := RdS.ex good_Clock q66 hE92
          have q95 := RdS.ex good_VLease q70 hE92
          refine OpR.op' rfl (yl_call Try.en26 rfl (opvs_cons hx93 opvs_nil) (Cal.mono (c_l_toRenew p_aR (RdS.up q94 good_Clock) (RdS.up q95 good_VLease) ((szok_Renew pre0 (by decide) (dec_f hb14)).1)) ?_))
          rintro v99 w96 ⟨A97, c97, A98, c98, rfl, h97, h98, hE100⟩
          exact ⟨⟨A97, c97, A98, c98, rfl, RdS.wide good_Clock h97 (fun _ hh _ => Nat.le_trans hE92z hh.1), RdS.wide good_VLease h98 (fun _ hh _ => Nat.le_trans hE92z hh.1)⟩, hE100⟩
        · intro L101 w102 hi103
          have hE104 := hi103.ex
          have hE104z := Ex.size hE104
          obtain ⟨_, _, _, hx105, -, -, -, rfl⟩ := hi103.dep 0 35 rfl rfl
          obtain ⟨_, _, _, hx106, -, -, -, A72_107, c72_108, A73_109, c73_110, rfl, h111, h112⟩ := hi103.dep 2 37 rfl rfl
          have q113 := RdS.ex good_Clock q74 hE104
          have q114 := RdS.ex good_VLease q75 hE104
          refine OpR.op' rfl (yl_call Try.en21 rfl (opvs_cons hx105 (opvs_cons hx106 opvs_nil)) (Cal.mono (c_l_eqRenew p_aR p_aR (RdS.up q113 good_Clock) (RdS.up q114 good_VLease) (RdS.up h111 good_Clock) (RdS.up h112 good_VLease)) ?_))
          rintro v116 w115 ⟨rfl, hE117⟩
          exact ⟨rfl, hE117⟩
        · intro L118 w119 hi120
          have hE121 := hi120.ex
          have hE121z := Ex.size hE121
          obtain ⟨_, _, _, hx122, -, -, -, rfl⟩ := hi120.dep 3 38 rfl rfl
          exact OpR.op' rfl (Yl.sameI (yl_not rfl hx122 ⟨fun _ _ => rfl, rfl⟩))
        · intro fl126 fh127 L123 w124 hp125
          have hE128 := hp125.ex
          have hE128z := Ex.size hE128
          obtain ⟨_, hx129, rfl⟩ := hp125.new 4 39 rfl rfl
          refine SeqR.done ?_
          refine tn ?_
          refine CW.sub (Sub.cons (d := 39) hx129 (Sub.nil _)) ?_
          refine bcase (l_eqRenew p_aR p_aR) (fun hb130 => ?_) (fun hb130 => ?_)
          · skip
            refine CW.cond_f rfl (not_t hb130) ?_
            refine CW.skip ?_
            refine tn ?_
            refine CW.seq ?_
            refine CW.region ?_
            refine SeqR.d1 rfl rfl rfl (yl_assign rfl rfl ?_)
            refine SeqR.done ?_
            refine tn ?_
            refine CW.ret ?_
            refine rr rfl (.cons rfl .nil) ?_
            have hM131 : (l_FnExactAreNear p_aR) = (true) := by simp only [l_FnExactAreNear, hb14, hb56, hb57, hb130, cond_true, cond_false, loopE_done, loopE_ret]
            rw [hM131]
            have q132 := Ex.trans (Ex.refl w) hE8
            have q133 := Ex.trans q132 hE13
            have q134 := Ex.trans q133 hE25
            have q135 := Ex.trans q134 hE28
            have q136 := Ex.trans q135 hE39
            have q137 := Ex.trans q136 hE45
            have q138 := Below.only q137 hO48 (by omega)
            have q139 := Ex.trans q138 hE55
            have q140 := Ex.trans q139 hE128
            exact ⟨rfl, q140⟩
          · skip
            refine CW.cond_t rfl (not_f hb130) ?_
            refine CW.seq ?_
            refine CW.region ?_
            refine SeqR.d1 rfl rfl rfl (yl_assign rfl rfl ?_)
            refine SeqR.done ?_
            refine tn ?_
            refine CW.ret ?_
            refine tr ?_
            refine rr rfl (.cons rfl .nil) ?_
            have hM141 : (l_FnExactAreNear p_aR) = (false) := by simp only [l_FnExactAreNear, hb14, hb56, hb57, hb130, cond_true, cond_false, loopE_done, loopE_ret]
            rw [hM141]
            have q142 := Ex.trans (Ex.refl w) hE8
            have q143 := Ex.trans q142 hE13
            have q144 := Ex.trans q143 hE25
            have q145 := Ex.trans q144 hE28
            have q146 := Ex.trans q145 hE39
            have q147 := Ex.trans q146 hE45
            have q148 := Below.only q147 hO48 (by omega)
            have q149 := Ex.trans q148 hE55
            have q150 := Ex.trans q149 hE128
            exact ⟨rfl, q150⟩
      · skip
        refine CW.cond_t rfl (not_f hb57) ?_
        refine CW.seq ?_
        refine CW.region ?_
        refine SeqR.d1 rfl rfl rfl (yl_assign rfl rfl ?_)
        refine SeqR.done ?_
        refine tn ?_
        refine CW.ret ?_
        refine tr ?_
        refine rr rfl (.cons rfl .nil) ?_
        have hM151 : (l_FnExactAreNear p_aR) = (false) := by simp only [l_FnExactAreNear, hb14, hb56, hb57, cond_true, cond_false, loopE_done, loopE_ret]
        rw [hM151]
        have q152 := Ex.trans (Ex.refl w) hE8
        have q153 := Ex.trans q152 hE13
        have q154 := Ex.trans q153 hE25
        have q155 := Ex.trans q154 hE28
        have q156 := Ex.trans q155 hE39
        have q157 := Ex.trans q156 hE45
        have q158 := Below.only q157 hO48 (by omega)
        have q159 := Ex.trans q158 hE55
        exact ⟨rfl, q159⟩
    · skip
      refine SeqR.z rfl rfl rfl rfl rfl (not_f hb56) ?_
      refine SeqR.z rfl rfl rfl rfl rfl (not_f hb56) ?_
      refine SeqR.z rfl rfl rfl rfl rfl (not_f hb56) ?_
      refine SeqR.d1 rfl rfl rfl (yl_pick_t rfl rfl (not_f hb56) rfl ?_)
      refine SeqR.done ?_
      refine tn ?_
      refine CW.cond_t rfl rfl ?_
      refine CW.seq ?_
      refine CW.region ?_
      refine SeqR.d1 rfl rfl rfl (yl_assign rfl rfl ?_)
      refine SeqR.done ?_
      refine tn ?_
      refine CW.ret ?_
      refine tr ?_
      refine rr rfl (.cons rfl .nil) ?_
      have hM160 : (l_FnExactAreNear p_aR) = (false) := by simp only [l_FnExactAreNear, hb14, hb56, cond_true, cond_false, loopE_done, loopE_ret]
      rw [hM160]
      have q161 := Ex.trans (Ex.refl w) hE8
      have q162 := Ex.trans q161 hE13
      have q163 := Ex.trans q162 hE25
      have q164 := Ex.trans q163 hE28
      have q165 := Ex.trans q164 hE39
      have q166 := Ex.trans q165 hE45
      have q167 := Below.only q166 hO48 (by omega)
      have q168 := Ex.trans q167 hE55
      exact ⟨rfl, q168⟩
end Go.Proofs.Ytnfjabkdlkejkaa
