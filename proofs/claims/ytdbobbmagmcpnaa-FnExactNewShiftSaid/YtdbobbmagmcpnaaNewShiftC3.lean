/- New Shift: what each call returns, part 3. -/
import Derived.Test.YtdbobbmagmcpnaaNewShiftC2
set_option linter.unusedVariables false
set_option linter.unusedSimpArgs false
namespace Go.Proofs.Ytdbobbmagmcpnaa
open Go.RowKit Go.X
set_option maxRecDepth 100000 in
set_option maxHeartbeats 2000000 in
theorem c_i_writeKeys {A1 : Option Addr} {c1 : Nat} {w : World} (p_l : List DWrite) (h1 : RdS w (Iv 0 w.heap.size) (RF e_Write) 3 A1 p_l.length c1 p_l) (o2 : (okL ok_Write) p_l) : Cal Try.prog 184 #[.slice A1 p_l.length c1] w fun v w' => ∃ A_1 c_1 lo_1 hi_1, v = .slice A_1 ((i_writeKeys p_l).length) c_1 ∧ OwnL w' lo_1 hi_1 9 1 (RF e_Str) A_1 ((i_writeKeys p_l).length) c_1 (i_writeKeys p_l) ∧ (okL okS) (i_writeKeys p_l) ∧ (w.heap.size ≤ lo_1 ∧ lo_1 ≤ hi_1 ∧ hi_1 ≤ w'.heap.size) ∧ Ex w w' := by
 have hol3 := o2.1
 refine Cal.of (vs := [.slice A1 p_l.length c1]) Try.func184 rfl Try.ntmps184 rfl (CW.seq (CW.region (sd rfl (yl_assign rfl rfl (SeqR.done (tn (CW.seq (CW.region (sd rfl (yl_buildSlice (cs := []) Try.un22 Try.ty9 (by decide) rfl opvs_nil (by kernel_rfl) ?_))))))))))
 intro b4 w5 hs6 hz7 hB8 hE9
 have hO10 : OwnL w5 b4 (b4 + 1) 9 1 (RF e_Str) (some ⟨b4, 0, none⟩) 0 0 ([] : List Str) := OwnL.of_box (S := fun _ => False) hB8 (Nat.le_refl _) (Nat.lt_succ_self _) EncL.nil (Nat.le_of_ble_eq_true rfl) (fun h => h) (fun _ h => False.elim h)
 refine sd rfl (yl_assign rfl rfl (SeqR.done (tn (CW.seq (CW.seq (CW.region (sd rfl (yl_move rfl rfl (sd rfl (yl_len Try.un48 rfl rfl (sd rfl (yl_move rfl rfl ?_))))))))))))
 refine SeqR.done (tn (CW.block (CW.loop (fun m65 L66 w67 => ∃ (k11 : Nat) (x61 : List Str) (A62 : Option Addr) (c63 : Nat) (u64 : Nat), m65 = p_l.length - k11 ∧ k11 ≤ p_l.length ∧ w5.heap.size ≤ w67.heap.size ∧ lkp L66 3 = some (.slice A62 x61.length c63) ∧ lkp L66 7 = some (.slice A1 p_l.length c1) ∧ lkp L66 8 = some (.int .i64 ((p_l.length : Int))) ∧ lkp L66 9 = some (.int .i64 ((k11 : Int))) ∧ OwnL w67 b4 u64 9 1 (RF e_Str) A62 x61.length c63 x61 ∧ RdS w67 (Iv 0 w.heap.size) (RF e_Write) 3 A1 p_l.length c1 p_l ∧ Ex w w67 ∧ (b4 ≤ u64 ∧ u64 ≤ w67.heap.size) ∧ x61.length ≤ 0 + 1 * (k11 - 0) ∧ (∀ y ∈ x61, okS y) ∧ loopM (B_i_writeKeys_0 p_l) (p_l.length - k11) k11 (x61) = loopM (B_i_writeKeys_0 p_l) (p_l.length - 0) 0 (([] : List Str))) (p_l.length - 0) ?_ ?_)))
 ·exact ⟨0, ([] : List Str), (some ⟨b4, 0, none⟩), 0, (b4 + 1), rfl, (by omega), Nat.le_refl _, rfl, rfl, rfl, rfl, hO10, (RdS.ex good_Write h1 hE9), (Ex.trans (Ex.refl w) hE9), (by omega), (by first | (simp; done) | (first | omega | (simp only [List.length_append, List.length_cons, List.length_nil, List.length_set, toS_length]; omega))), okE.nil, rfl⟩
 ·rintro m70 L71 w72 ⟨k11, x61, A62, c63, u64, rfl, hk73, hsz75, hl76, hl77, hl78, hl79, hf80, hf81, hf82, hu83, hln84, hok85, hI74⟩
  refine CW.sub (Sub.cons hl76 (Sub.cons hl77 (Sub.cons hl78 (Sub.cons hl79 (Sub.nil _))))) ?_
  have hf82z := Ex.size hf82
  have hbg86 := RdS.big hf81
  rcases Nat.lt_or_ge k11 p_l.length with hlt87 | hlt87
  ·refine CW.seq (CW.region (sd rfl (yl_lss rfl rfl rfl (SeqR.done (tn (CW.seq (CW.cond_t rfl (lt_t hlt87) (CW.skip (tn ?_)))))))))
   refine CW.seq (CW.block (CW.seq (CW.region ?_)))
   obtain ⟨eb88, eo88, ec88, eA88, eS88, ebl88, el88, eR88, eC88⟩ := RdS.atD hf81 d_Write (i := k11) (by first | omega | assumption)
   obtain rfl := eR88
   have eC88 : Cells w72 eb88 (eo88 + k11 * 3) [.string (bs ((p_l.getD k11 d_Write).Key)), .string (bs ((p_l.getD k11 d_Write).Val)), .bool ((p_l.getD k11 d_Write).Gone)] := eC88
   refine sd rfl (yl_indexAddrN Try.un48 Try.ty31 rfl rfl rfl eA88 (by first | omega | assumption | (simp only [IntKind.wrap_i64] at *; omega)) (sd rfl (yl_loadN (cs := [.string (bs ((p_l.getD k11 d_Write).Key)), .string (bs ((p_l.getD k11 d_Write).Val)), .bool ((p_l.getD k11 d_Write).Gone)]) Try.ty31 rfl rfl eC88 rfl (sd rfl (yl_alloc Try.ty31 (cs := [.string (bs (([] : Str))), .string (bs (([] : Str))), .bool (false)]) rfl rfl ?_)))))
   intro b89 w90 hs91 hz92 hB93 hE94
   refine SeqR.u rfl rfl (yl_store (vs := [.string (bs ((p_l.getD k11 d_Write).Key)), .string (bs ((p_l.getD k11 d_Write).Val)), .bool ((p_l.getD k11 d_Write).Gone)]) Try.ty31 rfl rfl rfl rfl rfl rfl hB93 (Nat.le_of_ble_eq_true rfl) ?_)
   intro w95 hB96 hO97
   have hB96 : Box w95 b89 31 [.string (bs ((p_l.getD k11 d_Write).Key)), .string (bs ((p_l.getD k11 d_Write).Val)), .bool ((p_l.getD k11 d_Write).Gone)] := hB96
   have hO97z := hO97.size
   refine SeqR.done (tn (CW.region (sd rfl (yl_move rfl rfl (sd rfl (yl_fieldAddr Try.fd31_0 rfl rfl (sd rfl (yl_load1 Try.ty9 rfl rfl ((hB96.cell 0).trans rfl) (sd rfl (yl_buildSlice (cs := [.string (bs ((p_l.getD k11 d_Write).Key))]) Try.un22 Try.ty9 (by decide) rfl (opvs_cons rfl opvs_nil) (by kernel_rfl) ?_))))))))))
   intro b98 w99 hs100 hz101 hB102 hE103
   have hO104 : OwnL w99 b98 (b98 + 1) 9 1 (RF e_Str) (some ⟨b98, 0, none⟩) 1 1 ([(p_l.getD k11 d_Write).Key] : List Str) := OwnL.of_box (S := fun _ => False) hB102 (Nat.le_refl _) (Nat.lt_succ_self _) (EncL.cons (c := [.string (bs ((p_l.getD k11 d_Write).Key))]) rfl rfl EncL.nil) (Nat.le_of_ble_eq_true rfl) (fun h => h) (fun _ h => False.elim h)
   refine sd rfl (yl_appendL (S := (fun _ => False)) (lo := b4) (hi := u64) (xs := x61) (ys := ([(p_l.getD k11 d_Write).Key] : List Str)) good_Str Try.un22 Try.ty9 rfl (Nat.le_of_ble_eq_true rfl) rfl rfl rfl (OwnL.ex good_Str (OwnL.only good_Str (OwnL.ex good_Str hf80 hE94) hO97 (by omega)) hE103) (EncL.cons (c := [.string (bs ((p_l.getD k11 d_Write).Key))]) rfl rfl EncL.nil) (Or.inr ⟨_, _, rfl, rfl, hB102.cells (o := 0) (n := 1) rfl⟩) rfl (by first | omega | (simp only [List.length_append, List.length_cons, List.length_nil, List.length_take, List.length_drop, List.length_replicate, List.length_set, toS_length]; omega)) (by first | omega | (simp only [List.length_append, List.length_cons, List.length_nil, List.length_take, List.length_drop, List.length_replicate, List.length_set, toS_length]; omega)) (by omega) (by omega) (fun _ h _ => False.elim h) (by omega) ?_)
   intro A108 c109 w110 row111 hO112 hG113 hrg114
   have hG113z := hG113.size
   refine sd rfl (yl_assign rfl rfl (SeqR.done (bn (tn (CW.region (sd rfl (yl_inc rfl rfl rfl (by omega) (sd rfl (yl_move rfl rfl (SeqR.done (tn ?_)))))))))))
   have hB115 : B_i_writeKeys_0 p_l k11 (x61) = .cont ((x61 ++ ([(p_l.getD k11 d_Write).Key] : List Str))) := by simp only [B_i_writeKeys_0, cond_true, cond_false, loopE_done, loopE_ret]
   exact ⟨p_l.length - (k11 + 1), by omega, k11 + 1, (x61 ++ ([(p_l.getD k11 d_Write).Key] : List Str)), A108, c109, w110.heap.size, rfl, hlt87, (by omega), rfl, rfl, rfl, rfl, hO112, (RdS.grown good_Write (RdS.ex good_Write (RdS.only good_Write (RdS.ex good_Write hf81 hE94) hO97 (by simp only [Iv]; omega)) hE103) hG113 (fun k hk => by have := hrg114 k hk; simp only [Iv]; omega)), (Below.grown (Ex.trans (Below.only (Ex.trans hf82 hE94) hO97 (by omega)) hE103) hG113 (by omega) (fun k hk => by have := hrg114 k hk; omega)), (by omega), (by first | omega | (simp only [List.length_append, List.length_cons, List.length_nil, List.length_set, toS_length]; omega)), (okE.append hok85 ((okL.mk (Nat.le_of_ble_eq_true rfl) (okE.cons (okL.getD o2 ok_d_Write _).1 okE.nil))).2), (loopM.cont hlt87 hB115).symm.trans hI74⟩
  ·refine CW.seq (CW.region (sd rfl (yl_lss rfl rfl rfl (SeqR.done (tn (CW.seq (CW.cond_f rfl (lt_f hlt87) (CW.exit (tx ?_)))))))))
   refine tx ?_
   have hL124 : loopM (B_i_writeKeys_0 p_l) (p_l.length - 0) 0 (([] : List Str)) = .done (x61) := hI74.symm.trans (loopM.stop hlt87)
   refine bx (tn (CW.seq (CW.region (sd rfl (yl_move rfl rfl (sd rfl (yl_assign rfl rfl (SeqR.done (tn (CW.ret ?_))))))))))
   refine rr rfl (.cons rfl .nil) ?_
   have hM125 : (i_writeKeys p_l) = (x61) := by simp only [i_writeKeys, hL124, cond_true, cond_false, loopE_done, loopE_ret]
   rw [hM125]
   exact ⟨A62, c63, b4, u64, rfl, hf80, (okL.mk (xs := x61) (by first | omega | (simp only [List.length_append, List.length_cons, List.length_nil, List.length_take, List.length_drop, List.length_replicate, List.length_set, toS_length]; omega)) hok85), (by omega), hf82⟩
set_option maxRecDepth 100000 in
set_option maxHeartbeats 2000000 in
theorem c_i_GoodVal {w : World} (p_s : Str) (o1 : okS p_s) : Cal Try.prog 218 #[.string (bs (p_s))] w fun v w' => v = .bool ((i_GoodVal p_s)) ∧ Ex w w' := by
 have hol2 : p_s.length ≤ 1073741824 := o1
 refine Cal.of (vs := [.string (bs (p_s))]) Try.func218 rfl Try.ntmps218 rfl (CW.seq (CW.region (sd rfl (yl_assign rfl rfl (SeqR.done (tn (CW.seq (CW.region (sd rfl (yl_move rfl rfl ?_))))))))))
 refine sd rfl (yl_slen Try.un9 (a := p_s) rfl rfl (sd rfl (yl_leq rfl rfl rfl (sd rfl (yl_move rfl rfl (bcase (decide ((p_s.length : Int) ≤ 24)) (fun hb3 => ?_) (fun hb3 => ?_)))))))
 ·have hb3p := dec_t hb3
  refine sy rfl rfl hb3 (yl_move rfl rfl (sy rfl rfl hb3 (yl_call Try.en213 rfl (opvs_cons rfl (opvs_cons rfl opvs_nil)) (Cal.mono (c_i_hasBytes p_s ([46, 45, 44, 95] : Str) o1 (okS.lit rfl)) ?_))))
  rintro v5 w4 ⟨rfl, hE6⟩
  have hE6z := Ex.size hE6
  refine sd rfl (yl_pick_t rfl rfl hb3 rfl (sd rfl (yl_assign rfl rfl (SeqR.done (tn (CW.ret (rr rfl (.cons rfl .nil) ?_)))))))
  have hM7 : (i_GoodVal p_s) = ((i_hasBytes p_s ([46, 45, 44, 95] : Str))) := by simp only [i_GoodVal, hb3, cond_true, cond_false, loopE_done, loopE_ret]
  rw [hM7]
  exact ⟨rfl, (Ex.trans (Ex.refl w) hE6)⟩
 ·have hb3p := dec_f hb3
  refine sz rfl rfl hb3 (sz rfl rfl hb3 (sd rfl (yl_pick_f rfl rfl hb3 rfl (sd rfl (yl_assign rfl rfl (SeqR.done (tn (CW.ret (rr rfl (.cons rfl .nil) ?_)))))))))
  have hM9 : (i_GoodVal p_s) = (false) := by simp only [i_GoodVal, hb3, cond_true, cond_false, loopE_done, loopE_ret]
  rw [hM9]
  exact ⟨rfl, (Ex.refl w)⟩
set_option maxRecDepth 100000 in
set_option maxHeartbeats 2000000 in
theorem c_i_isStored {w : World} (p_val : Str) (p_gone : Bool) (o1 : okS p_val) : Cal Try.prog 186 #[.string (bs (p_val)), .bool (p_gone)] w fun v w' => v = .bool ((i_isStored p_val p_gone)) ∧ Ex w w' := by
 have hol2 : p_val.length ≤ 1073741824 := o1
 refine Cal.of (vs := [.string (bs (p_val)), .bool (p_gone)]) Try.func186 rfl Try.ntmps186 rfl (CW.seq (CW.region (sd rfl (yl_assign rfl rfl (SeqR.done (tn (CW.seq (CW.region (sd rfl (yl_move rfl rfl ?_))))))))))
 refine sd rfl (yl_call Try.en218 rfl (opvs_cons rfl opvs_nil) (Cal.mono (c_i_GoodVal p_val o1) ?_))
 rintro v4 w3 ⟨rfl, hE5⟩
 have hE5z := Ex.size hE5
 refine sd rfl (yl_move rfl rfl (bcase (i_GoodVal p_val) (fun hb6 => ?_) (fun hb6 => ?_)))
 ·refine sy rfl rfl hb6 (yl_move rfl rfl (sy rfl rfl hb6 (yl_move rfl rfl (bcase (p_gone) (fun hb7 => ?_) (fun hb7 => ?_)))))
  ·refine sy rfl rfl hb7 (yl_move rfl rfl (sy rfl rfl hb7 (yl_sneq (a := p_val) (b := ([] : Str)) rfl rfl rfl (sy rfl rfl hb6 (yl_pick_t rfl rfl hb7 rfl (sy rfl rfl hb6 (yl_not rfl rfl (sd rfl (yl_pick_t rfl rfl hb6 rfl (sd rfl (yl_assign rfl rfl (SeqR.done (tn (CW.ret ?_))))))))))))))
   refine rr rfl (.cons rfl .nil) ?_
   have hM8 : (i_isStored p_val p_gone) = (!(!(p_val == ([] : Str)))) := by simp only [i_isStored, hb6, hb7, cond_true, cond_false, loopE_done, loopE_ret]
   rw [hM8]
   exact ⟨rfl, (Ex.trans (Ex.refl w) hE5)⟩
  ·refine sz rfl rfl hb7 (sz rfl rfl hb7 (sy rfl rfl hb6 (yl_pick_f rfl rfl hb7 rfl (sy rfl rfl hb6 (yl_not rfl rfl (sd rfl (yl_pick_t rfl rfl hb6 rfl (sd rfl (yl_assign rfl rfl (SeqR.done (tn (CW.ret ?_))))))))))))
   refine rr rfl (.cons rfl .nil) ?_
   have hM10 : (i_isStored p_val p_gone) = (!false) := by simp only [i_isStored, hb6, hb7, cond_true, cond_false, loopE_done, loopE_ret]
   rw [hM10]
   exact ⟨rfl, (Ex.trans (Ex.refl w) hE5)⟩
 ·refine sz rfl rfl hb6 (sz rfl rfl hb6 (sq rfl rfl (sq rfl rfl (sz rfl rfl hb6 (sz rfl rfl hb6 (sd rfl (yl_pick_f rfl rfl hb6 rfl (sd rfl (yl_assign rfl rfl (SeqR.done ?_))))))))))
  refine tn (CW.ret (rr rfl (.cons rfl .nil) ?_))
  have hM12 : (i_isStored p_val p_gone) = (false) := by simp only [i_isStored, hb6, cond_true, cond_false, loopE_done, loopE_ret]
  rw [hM12]
  exact ⟨rfl, (Ex.trans (Ex.refl w) hE5)⟩
set_option maxRecDepth 100000 in
set_option maxHeartbeats 2000000 in
theorem c_i_GoodWrites_c1 {w : World} (p_w : DWrite) (o1 : ok_Write p_w) : Cal Try.prog 185 #[.agg #[.string (bs (p_w.Key)), .string (bs (p_w.Val)), .bool (p_w.Gone)]] w fun v w' => v = .bool ((i_GoodWrites_c1 p_w)) ∧ Ex w w' := by
 have hol2 : p_w.Key.length ≤ 1073741824 := o1.1
 have hol3 : p_w.Val.length ≤ 1073741824 := o1.2
 refine Cal.of (vs := [.agg #[.string (bs (p_w.Key)), .string (bs (p_w.Val)), .bool (p_w.Gone)]]) Try.func185 rfl Try.ntmps185 rfl (CW.seq (CW.region (sd rfl (yl_box (cs := [.string (bs (p_w.Key)), .string (bs (p_w.Val)), .bool (p_w.Gone)]) rfl rfl rfl ?_))))
 intro b4 w5 hs6 hz7 hB8 hE9
 refine sd rfl (yl_assign rfl rfl (SeqR.done (tn (CW.seq (CW.region (sd rfl (yl_fieldAddr Try.fd31_1 rfl rfl (sd rfl (yl_load1 Try.ty9 rfl rfl ((hB8.cell 1).trans rfl) (sd rfl (yl_fieldAddr Try.fd31_2 rfl rfl (sd rfl (yl_load1 Try.ty4 rfl rfl ((hB8.cell 2).trans rfl) ?_)))))))))))))
 refine sd rfl (yl_call Try.en186 rfl (opvs_cons rfl (opvs_cons rfl opvs_nil)) (Cal.mono (c_i_isStored p_w.Val p_w.Gone o1.2) ?_))
 rintro v11 w10 ⟨rfl, hE12⟩
 have hE12z := Ex.size hE12
 refine sd rfl (yl_not rfl rfl (sd rfl (yl_assign rfl rfl (SeqR.done (tn (CW.ret (rr rfl (.cons rfl .nil) ?_)))))))
 have hM13 : (i_GoodWrites_c1 p_w) = (!(i_isStored p_w.Val p_w.Gone)) := by simp only [i_GoodWrites_c1, cond_true, cond_false, loopE_done, loopE_ret]
 rw [hM13]
 exact ⟨rfl, (Ex.trans (Ex.trans (Ex.refl w) hE9) hE12)⟩
set_option maxRecDepth 100000 in
set_option maxHeartbeats 2000000 in
theorem c_i_GoodWrites {A1 : Option Addr} {c1 : Nat} {w : World} (p_l : List DWrite) (h1 : RdS w (Iv 0 w.heap.size) (RF e_Write) 3 A1 p_l.length c1 p_l) (o2 : (okL ok_Write) p_l) : Cal Try.prog 139 #[.slice A1 p_l.length c1] w fun v w' => v = .bool ((i_GoodWrites p_l)) ∧ Ex w w' := by
 have hol3 := o2.1
 refine Cal.of (vs := [.slice A1 p_l.length c1]) Try.func139 rfl Try.ntmps139 rfl (CW.seq (CW.region (sd rfl (yl_assign rfl rfl (SeqR.done (tn (CW.seq (CW.region (sd rfl (yl_move rfl rfl ?_))))))))))
 refine sd rfl (yl_len Try.un48 rfl rfl (sd rfl (yl_leq rfl rfl rfl (sd rfl (yl_move rfl rfl (bcase (decide ((p_l.length : Int) ≤ 24)) (fun hb4 => ?_) (fun hb4 => ?_)))))))
 ·have hb4p := dec_t hb4
  refine sy rfl rfl hb4 (yl_move rfl rfl (sy rfl rfl hb4 (yl_call Try.en184 rfl (opvs_cons rfl opvs_nil) (Cal.mono (c_i_writeKeys p_l (RdS.up h1 good_Write) o2) ?_))))
  rintro v8 w5 ⟨A6, c6, lo6, hi6, rfl, h6, ho7, hrn10, hE9⟩
  have hE9z := Ex.size hE9
  refine sy rfl rfl hb4 (yl_call Try.en168 rfl (opvs_cons rfl opvs_nil) (Cal.mono (c_i_areRising (i_writeKeys p_l) (RdS.up (OwnL.rd good_Str h6) good_Str) ho7) ?_))
  rintro v13 w12 ⟨rfl, hE14⟩
  have hE14z := Ex.size hE14
  refine sd rfl (yl_pick_t rfl rfl hb4 rfl (sd rfl (yl_move rfl rfl (bcase (i_areRising (i_writeKeys p_l)) (fun hb15 => ?_) (fun hb15 => ?_)))))
  ·refine sy rfl rfl hb15 (yl_move rfl rfl (sy rfl rfl hb15 (yl_call Try.en140 rfl (opvs_cons rfl (opvs_cons rfl opvs_nil)) (Cal.mono (c_g_slices_ContainsFunc_Write p_l (fun y0 => i_GoodWrites_c1 y0) (RdS.up (RdS.ex good_Write (RdS.ex good_Write h1 hE9) hE14) good_Write) Try.en185 (fun _ y0 => fun hE hm0 ov0 => c_i_GoodWrites_c1 y0 ov0) o2) ?_))))
   rintro v19 w18 ⟨rfl, hE20⟩
   have hE20z := Ex.size hE20
   refine sy rfl rfl hb15 (yl_not rfl rfl (sd rfl (yl_pick_t rfl rfl hb15 rfl (sd rfl (yl_assign rfl rfl (SeqR.done (tn (CW.ret (rr rfl (.cons rfl .nil) ?_)))))))))
   have hM21 : (i_GoodWrites p_l) = (!(g_slices_ContainsFunc_Write p_l (fun y0 => i_GoodWrites_c1 y0))) := by simp only [i_GoodWrites, hb4, hb15, cond_true, cond_false, loopE_done, loopE_ret]
   rw [hM21]
   exact ⟨rfl, (Ex.trans (Ex.trans (Ex.trans (Ex.refl w) hE9) hE14) hE20)⟩
  ·refine sz rfl rfl hb15 (sz rfl rfl hb15 (sz rfl rfl hb15 (sd rfl (yl_pick_f rfl rfl hb15 rfl (sd rfl (yl_assign rfl rfl (SeqR.done (tn (CW.ret (rr rfl (.cons rfl .nil) ?_))))))))))
   have hM25 : (i_GoodWrites p_l) = (false) := by simp only [i_GoodWrites, hb4, hb15, cond_true, cond_false, loopE_done, loopE_ret]
   rw [hM25]
   exact ⟨rfl, (Ex.trans (Ex.trans (Ex.refl w) hE9) hE14)⟩
 ·have hb4p := dec_f hb4
  refine sz rfl rfl hb4 (sz rfl rfl hb4 (sz rfl rfl hb4 (sd rfl (yl_pick_f rfl rfl hb4 rfl (sd rfl (yl_move rfl rfl (sz rfl rfl rfl (sz rfl rfl rfl (sz rfl rfl rfl (sd rfl (yl_pick_f rfl rfl rfl rfl ?_)))))))))))
  refine sd rfl (yl_assign rfl rfl (SeqR.done (tn (CW.ret (rr rfl (.cons rfl .nil) ?_)))))
  have hM28 : (i_GoodWrites p_l) = (false) := by simp only [i_GoodWrites, hb4, cond_true, cond_false, loopE_done, loopE_ret]
  rw [hM28]
  exact ⟨rfl, (Ex.refl w)⟩
set_option maxRecDepth 100000 in
set_option maxHeartbeats 2000000 in
theorem c_i_isRows_c1 {w : World} (p_w : DWrite) (o1 : ok_Write p_w) : Cal Try.prog 141 #[.agg #[.string (bs (p_w.Key)), .string (bs (p_w.Val)), .bool (p_w.Gone)]] w fun v w' => v = .bool ((i_isRows_c1 p_w)) ∧ Ex w w' := by
 have hol2 : p_w.Key.length ≤ 1073741824 := o1.1
 have hol3 : p_w.Val.length ≤ 1073741824 := o1.2
 refine Cal.of (vs := [.agg #[.string (bs (p_w.Key)), .string (bs (p_w.Val)), .bool (p_w.Gone)]]) Try.func141 rfl Try.ntmps141 rfl (CW.seq (CW.region (sd rfl (yl_box (cs := [.string (bs (p_w.Key)), .string (bs (p_w.Val)), .bool (p_w.Gone)]) rfl rfl rfl ?_))))
 intro b4 w5 hs6 hz7 hB8 hE9
 refine sd rfl (yl_assign rfl rfl (SeqR.done (tn (CW.seq (CW.region (sd rfl (yl_fieldAddr Try.fd31_2 rfl rfl (sd rfl (yl_load1 Try.ty4 rfl rfl ((hB8.cell 2).trans rfl) (sd rfl (yl_assign rfl rfl (SeqR.done ?_))))))))))))
 refine tn (CW.ret (rr rfl (.cons rfl .nil) ?_))
 have hM10 : (i_isRows_c1 p_w) = (p_w.Gone) := by simp only [i_isRows_c1, cond_true, cond_false, loopE_done, loopE_ret]
 rw [hM10]
 exact ⟨rfl, (Ex.trans (Ex.refl w) hE9)⟩
set_option maxRecDepth 100000 in
set_option maxHeartbeats 2000000 in
theorem c_i_isRows {A1 : Option Addr} {c1 : Nat} {w : World} (p_rows : List DWrite) (h1 : RdS w (Iv 0 w.heap.size) (RF e_Write) 3 A1 p_rows.length c1 p_rows) (o2 : (okL ok_Write) p_rows) : Cal Try.prog 78 #[.slice A1 p_rows.length c1] w fun v w' => v = .bool ((i_isRows p_rows)) ∧ Ex w w' := by
 have hol3 := o2.1
 refine Cal.of (vs := [.slice A1 p_rows.length c1]) Try.func78 rfl Try.ntmps78 rfl (CW.seq (CW.region (sd rfl (yl_assign rfl rfl (SeqR.done (tn (CW.seq (CW.region (sd rfl (yl_move rfl rfl ?_))))))))))
 refine sd rfl (yl_call Try.en139 rfl (opvs_cons rfl opvs_nil) (Cal.mono (c_i_GoodWrites p_rows (RdS.up h1 good_Write) o2) ?_))
 rintro v5 w4 ⟨rfl, hE6⟩
 have hE6z := Ex.size hE6
 refine sd rfl (yl_move rfl rfl (bcase (i_GoodWrites p_rows) (fun hb7 => ?_) (fun hb7 => ?_)))
 ·refine sy rfl rfl hb7 (yl_move rfl rfl (sy rfl rfl hb7 (yl_call Try.en140 rfl (opvs_cons rfl (opvs_cons rfl opvs_nil)) (Cal.mono (c_g_slices_ContainsFunc_Write p_rows (fun y0 => i_isRows_c1 y0) (RdS.up (RdS.ex good_Write h1 hE6) good_Write) Try.en141 (fun _ y0 => fun hE hm0 ov0 => c_i_isRows_c1 y0 ov0) o2) ?_))))
  rintro v10 w9 ⟨rfl, hE11⟩
  have hE11z := Ex.size hE11
  refine sy rfl rfl hb7 (yl_not rfl rfl (sd rfl (yl_pick_t rfl rfl hb7 rfl (sd rfl (yl_assign rfl rfl (SeqR.done (tn (CW.ret (rr rfl (.cons rfl .nil) ?_)))))))))
  have hM12 : (i_isRows p_rows) = (!(g_slices_ContainsFunc_Write p_rows (fun y0 => i_isRows_c1 y0))) := by simp only [i_isRows, hb7, cond_true, cond_false, loopE_done, loopE_ret]
  rw [hM12]
  exact ⟨rfl, (Ex.trans (Ex.trans (Ex.refl w) hE6) hE11)⟩
 ·refine sz rfl rfl hb7 (sz rfl rfl hb7 (sz rfl rfl hb7 (sd rfl (yl_pick_f rfl rfl hb7 rfl (sd rfl (yl_assign rfl rfl (SeqR.done (tn (CW.ret (rr rfl (.cons rfl .nil) ?_))))))))))
  have hM15 : (i_isRows p_rows) = (false) := by simp only [i_isRows, hb7, cond_true, cond_false, loopE_done, loopE_ret]
  rw [hM15]
  exact ⟨rfl, (Ex.trans (Ex.refl w) hE6)⟩
set_option maxRecDepth 100000 in
set_option maxHeartbeats 2000000 in
theorem c_g_slices_Clone_Write {A1 : Option Addr} {c1 : Nat} {w : World} (p_s : List DWrite) (h1 : RdS w (Iv 0 w.heap.size) (RF e_Write) 3 A1 p_s.length c1 p_s) (o2 : (okL ok_Write) p_s) : Cal Try.prog 79 #[.slice A1 p_s.length c1] w fun v w' => ∃ A_1 c_1 lo_1 hi_1, v = .slice A_1 ((g_slices_Clone_Write p_s).length) c_1 ∧ OwnL w' lo_1 hi_1 31 3 (RF e_Write) A_1 ((g_slices_Clone_Write p_s).length) c_1 (g_slices_Clone_Write p_s) ∧ (okL ok_Write) (g_slices_Clone_Write p_s) ∧ (w.heap.size ≤ lo_1 ∧ lo_1 ≤ hi_1 ∧ hi_1 ≤ w'.heap.size) ∧ Ex w w' := by
 have hol3 := o2.1
 refine Cal.of (vs := [.slice A1 p_s.length c1]) Try.func79 rfl Try.ntmps79 rfl (CW.seq (CW.region (sd rfl (yl_assign rfl rfl (SeqR.done (tn (CW.seq (CW.seq (CW.region ?_)))))))))
 refine sd rfl (yl_move rfl rfl (sd rfl (yl_snil Try.un48 rfl rfl rfl (SeqR.done (tn (bcase (A1.isNone) (fun hb4 => ?_) (fun hb4 => ?_)))))))
 ·have hnil5 : p_s = [] := RdS.nilA h1 hb4
  refine CW.cond_t rfl hb4 (CW.seq (CW.region (sd rfl (yl_assign rfl rfl (SeqR.done (tn (CW.ret (tr (rr rfl (.cons rfl .nil) ?_)))))))))
  have hM6 : (g_slices_Clone_Write p_s) = (([] : List DWrite)) := by simp only [g_slices_Clone_Write, hnil5, cond_true, cond_false, loopE_done, loopE_ret, List.append_nil]
  rw [hM6]
  exact ⟨none, 0, w.heap.size, w.heap.size, rfl, (OwnL.nil _ _ _ _ _ _), (okL.nil _), (by omega), (Ex.refl w)⟩
 ·refine CW.cond_f rfl hb4 (CW.skip (tn (CW.seq (CW.region (sd rfl (yl_buildSlice (cs := []) Try.un48 Try.ty31 (by decide) rfl opvs_nil (by kernel_rfl) ?_))))))
  intro b7 w8 hs9 hz10 hB11 hE12
  have hO13 : OwnL w8 b7 (b7 + 1) 31 3 (RF e_Write) (some ⟨b7, 0, none⟩) 0 0 ([] : List DWrite) := OwnL.of_box (S := fun _ => False) hB11 (Nat.le_refl _) (Nat.lt_succ_self _) EncL.nil (Nat.le_of_ble_eq_true rfl) (fun h => h) (fun _ h => False.elim h)
  refine sd rfl (yl_move rfl rfl ?_)
  obtain ⟨nw15, he16, hs17⟩ := RdS.src (RdS.ex good_Write h1 hE12)
  have hol18 : p_s.length ≤ 1073741824 := o2.1
  refine sd rfl (yl_appendL (S := (fun _ => False)) (lo := b7) (hi := (b7 + 1)) (xs := ([] : List DWrite)) (ys := p_s) good_Write Try.un48 Try.ty31 rfl (Nat.le_of_ble_eq_true rfl) rfl rfl rfl hO13 he16 hs17 rfl (by first | omega | (simp only [List.length_append, List.length_cons, List.length_nil, List.length_take, List.length_drop, List.length_replicate, List.length_set, toS_length]; omega)) (by first | omega | (simp only [List.length_append, List.length_cons, List.length_nil, List.length_take, List.length_drop, List.length_replicate, List.length_set, toS_length]; omega)) (by omega) (by omega) (fun _ h _ => False.elim h) (by omega) ?_)
  intro A19 c20 w21 row22 hO23 hG24 hrg25
  have hG24z := hG24.size
  refine sd rfl (yl_assign rfl rfl (SeqR.done (tn (CW.ret (rr rfl (.cons rfl .nil) ?_)))))
  have hM26 : (g_slices_Clone_Write p_s) = ((([] : List DWrite) ++ p_s)) := by simp only [g_slices_Clone_Write, cond_true, cond_false, loopE_done, loopE_ret]
  have hol27 : p_s.length ≤ 1073741824 := o2.1
  rw [hM26]
  exact ⟨A19, c20, b7, w21.heap.size, rfl, hO23, (okL.mk (xs := (([] : List DWrite) ++ p_s)) (by first | omega | (simp only [List.length_append, List.length_cons, List.length_nil, List.length_take, List.length_drop, List.length_replicate, List.length_set, toS_length]; omega)) (okE.append okE.nil (o2).2)), (by omega), (Below.grown (Ex.trans (Ex.refl w) hE12) hG24 (by omega) (fun k hk => by have := hrg25 k hk; omega))⟩
set_option maxRecDepth 100000 in
set_option maxHeartbeats 2000000 in
theorem c_i_NewShift {A1 : Option Addr} {c1 : Nat} {A2 : Option Addr} {c2 : Nat} {A5 : Option Addr} {c5 : Nat} {w : World} (p_t : DTable) (p_name : Str) (p_stage : Int) (p_servers : Int) (p_store : List DWrite) (h1 : RdS w (Iv 0 w.heap.size) (RF e_Str) 1 A1 p_t.Cols.length c1 p_t.Cols) (h2 : RdS w (Iv 0 w.heap.size) (RF e_Idx) 3 A2 p_t.Idxs.length c2 p_t.Idxs) (h5 : RdS w (Iv 0 w.heap.size) (RF e_Write) 3 A5 p_store.length c5 p_store) (o3 : ok_Table p_t) (o4 : okS p_name) (o6 : (okL ok_Write) p_store) : Cal Try.prog 23 #[.agg #[.string (bs (p_t.Name)), .slice A1 p_t.Cols.length c1, .slice A2 p_t.Idxs.length c2], .string (bs (p_name)), .int .i64 (p_stage), .int .i64 (p_servers), .slice A5 p_store.length c5] w fun v w' => ∃ A_1 c_1 lo_1 hi_1 A_2 c_2 lo_2 hi_2 A_3 c_3 lo_3 hi_3, v = .tuple #[.agg #[.string (bs ((i_NewShift p_t p_name p_stage p_servers p_store).1.Name)), .slice A_1 (((i_NewShift p_t p_name p_stage p_servers p_store).1.Ways).length) c_1, .slice A_2 (((i_NewShift p_t p_name p_stage p_servers p_store).1.At).length) c_2, .slice A_3 (((i_NewShift p_t p_name p_stage p_servers p_store).1.Store).length) c_3], .bool ((i_NewShift p_t p_name p_stage p_servers p_store).2)] ∧ OwnD w' lo_1 hi_1 36 3 RO_Table A_1 (((i_NewShift p_t p_name p_stage p_servers p_store).1.Ways).length) c_1 ((i_NewShift p_t p_name p_stage p_servers p_store).1.Ways) ∧ OwnL w' lo_2 hi_2 3 1 (RF e_Int) A_2 (((i_NewShift p_t p_name p_stage p_servers p_store).1.At).length) c_2 ((i_NewShift p_t p_name p_stage p_servers p_store).1.At) ∧ OwnL w' lo_3 hi_3 31 3 (RF e_Write) A_3 (((i_NewShift p_t p_name p_stage p_servers p_store).1.Store).length) c_3 ((i_NewShift p_t p_name p_stage p_servers p_store).1.Store) ∧ ok_Shift ((i_NewShift p_t p_name p_stage p_servers p_store).1) ∧ (w.heap.size ≤ lo_1 ∧ lo_1 ≤ hi_1 ∧ hi_1 ≤ w'.heap.size) ∧ (w.heap.size ≤ lo_2 ∧ lo_2 ≤ hi_2 ∧ hi_2 ≤ w'.heap.size) ∧ (w.heap.size ≤ lo_3 ∧ lo_3 ≤ hi_3 ∧ hi_3 ≤ w'.heap.size) ∧ (hi_1 ≤ lo_2 ∨ hi_2 ≤ lo_1) ∧ (hi_1 ≤ lo_3 ∨ hi_3 ≤ lo_1) ∧ (hi_2 ≤ lo_3 ∨ hi_3 ≤ lo_2) ∧ Ex w w' := by
 have hol7 : p_t.Name.length ≤ 1073741824 := o3.1
 have hol8 := o3.2.1.1
 have hol9 := o3.2.2.1
 have hol10 : p_name.length ≤ 1073741824 := o4
 have hol11 := o6.1
 refine Cal.of (vs := [.agg #[.string (bs (p_t.Name)), .slice A1 p_t.Cols.length c1, .slice A2 p_t.Idxs.length c2], .string (bs (p_name)), .int .i64 (p_stage), .int .i64 (p_servers), .slice A5 p_store.length c5]) Try.func23 rfl Try.ntmps23 rfl (CW.seq (CW.region (sd rfl (yl_box (cs := [.string (bs (p_t.Name)), .slice A1 p_t.Cols.length c1, .slice A2 p_t.Idxs.length c2]) rfl rfl rfl ?_))))
 intro b12 w13 hs14 hz15 hB16 hE17
 refine sd rfl (yl_alloc Try.ty50 (cs := [.string (bs (([] : Str))), .slice none 0 0, .slice none 0 0, .slice none 0 0]) rfl rfl ?_)
 intro b18 w19 hs20 hz21 hB22 hE23
 refine sd rfl (yl_assign rfl rfl (SeqR.done (tn (CW.seq (CW.region (sd rfl (yl_loadN (cs := [.string (bs (p_t.Name)), .slice A1 p_t.Cols.length c1, .slice A2 p_t.Idxs.length c2]) Try.ty36 rfl rfl ((Box.ex hB16 hE23).cells (n := 3) rfl) rfl (sd rfl (yl_move rfl rfl (sd rfl (yl_move rfl rfl (sd rfl (yl_call Try.en40 rfl (opvs_cons rfl (opvs_cons rfl (opvs_cons rfl opvs_nil))) (Cal.mono (c_i_WayTo p_t p_name p_stage (RdS.up (RdS.ex good_Str (RdS.ex good_Str h1 hE17) hE23) good_Str) (RdS.up (RdS.ex good_Idx (RdS.ex good_Idx h2 hE17) hE23) good_Idx) o3 o4) ?_))))))))))))))
 rintro v32 w29 ⟨A30, c30, lo30, hi30, rfl, h30, ho31, hrn34, hE33⟩
 have hE33z := Ex.size hE33
 refine sd rfl (yl_move rfl rfl (sd rfl (yl_extract rfl rfl rfl (sd rfl (yl_extract rfl rfl rfl (sd rfl (yl_assign rfl rfl (sd rfl (yl_assign rfl rfl (SeqR.done (tn (CW.seq (CW.seq ?_)))))))))))))
 refine CW.region (sd rfl (yl_move rfl rfl (sd rfl (yl_not rfl rfl (sd rfl (yl_move rfl rfl (bcase ((i_WayTo p_t p_name p_stage).2) (fun hb35 => ?_) (fun hb35 => ?_))))))))
 ·refine sy rfl rfl (not_t hb35) (yl_move rfl rfl (sy rfl rfl (not_t hb35) (yl_call Try.en77 rfl (opvs_cons rfl (opvs_cons rfl (opvs_cons rfl opvs_nil))) (Cal.mono (c_i_within p_servers 1 3) ?_))))
  rintro v37 w36 ⟨rfl, hE38⟩
  have hE38z := Ex.size hE38
  refine sy rfl rfl (not_t hb35) (yl_not rfl rfl (sd rfl (yl_pick_f rfl rfl (not_t hb35) rfl (sd rfl (yl_move rfl rfl (bcase (i_within p_servers 1 3) (fun hb39 => ?_) (fun hb39 => ?_)))))))
  ·have hb39p := f_within hb39
   refine sy rfl rfl (not_t hb39) (yl_move rfl rfl ?_)
   have q43 := RdS.ex good_Write (RdS.ex good_Write (RdS.ex good_Write (RdS.ex good_Write h5 hE17) hE23) hE33) hE38
   refine sy rfl rfl (not_t hb39) (yl_call Try.en78 rfl (opvs_cons rfl opvs_nil) (Cal.mono (c_i_isRows p_store (RdS.up q43 good_Write) o6) ?_))
   rintro v45 w44 ⟨rfl, hE46⟩
   have hE46z := Ex.size hE46
   refine sy rfl rfl (not_t hb39) (yl_not rfl rfl (sd rfl (yl_pick_f rfl rfl (not_t hb39) rfl (SeqR.done (tn (bcase (i_isRows p_store) (fun hb47 => ?_) (fun hb47 => ?_)))))))
   ·refine CW.cond_f rfl (not_t hb47) (CW.skip (tn (CW.seq (CW.drawsI 6 (vgetI [DetI (.string (bs (p_name))), DetI (.slice A30 (((i_WayTo p_t p_name p_stage).1).length) c30), DetI (.int .i64 (p_servers)), fun lo hi v wq => ∃ A48 c49, v = .slice A48 ((p_servers).toNat) c49 ∧ OwnL wq lo hi 3 1 (RF e_Int) A48 ((p_servers).toNat) c49 (List.replicate ((p_servers).toNat) d_Int), DetI (.slice A5 p_store.length c5), fun lo hi v wq => ∃ A53 c53 lo53 hi53, v = .slice A53 ((g_slices_Clone_Write p_store).length) c53 ∧ OwnL wq lo53 hi53 31 3 (RF e_Write) A53 ((g_slices_Clone_Write p_store).length) c53 (g_slices_Clone_Write p_store) ∧ (okL ok_Write) (g_slices_Clone_Write p_store) ∧ (lo ≤ lo53 ∧ lo53 ≤ hi53 ∧ hi53 ≤ hi)]) Try.follows rfl rfl rfl rfl rfl rfl (vgetI_stable ⟨StableI.det _, StableI.det _, StableI.det _, (fun _ _ _ _ _ ⟨A48, c49, hv, hO⟩ e => ⟨A48, c49, hv, OwnL.ex good_Int hO e⟩), StableI.det _, (fun _ _ _ _ _ ⟨A53, c53, lo53, hi53, hv, h53, ho54, hr0⟩ e => ⟨A53, c53, lo53, hi53, hv, OwnL.ex good_Write h53 e, ho54, hr0⟩), trivial⟩) ⟨?_, ?_, ?_, ?_, ?_, ?_, trivial⟩ ?_))))
    ·exact fun _ _ h => os rfl ((yl_move rfl (h.old 1 _ rfl rfl) kI))
    ·exact fun _ _ h => os rfl ((yl_move rfl (h.old 12 _ rfl rfl) kI))
    ·exact fun _ _ h => os rfl ((yl_move rfl (h.old 3 _ rfl rfl) kI))
    ·intro L70 w71 hi72
     have hE73 := hi72.ex
     have hE73z := Ex.size hE73
     have hx74 := hi72.dt 2 36 rfl rfl rfl
     refine OpR.op' rfl (yl_make (zs := [.int .i64 (0)]) (n := (p_servers).toNat) Try.un47 Try.ty3 rfl rfl (Nat.le_of_ble_eq_true rfl) rfl (toNat_op hx74 (by first | omega | assumption | (simp only [IntKind.wrap_i64] at *; omega))) (toNat_op hx74 (by first | omega | assumption | (simp only [IntKind.wrap_i64] at *; omega))) (by first | omega | assumption | (simp only [IntKind.wrap_i64] at *; omega)) (by first | omega | assumption | (simp only [IntKind.wrap_i64] at *; omega)) ?_)
     intro b75 w76 hs77 hz78 hB79 hE80
     have hO81 : OwnL w76 b75 (b75 + 1) 3 1 (RF e_Int) (some ⟨b75, 0, none⟩) ((p_servers).toNat) ((p_servers).toNat) (List.replicate ((p_servers).toNat) d_Int) := by have := OwnL.of_boxF (lo := b75) (hi := b75 + 1) (xs := (List.replicate ((p_servers).toNat) d_Int)) hB79 (Nat.le_refl _) (Nat.lt_succ_self _) (EncL.zerosF (enc := e_Int) (d := d_Int) rfl ((p_servers).toNat)) (by rw [List.length_replicate]; omega); rwa [List.length_replicate] at this
     exact ⟨⟨(some ⟨b75, 0, none⟩), (p_servers).toNat, rfl, OwnL.more hO81 (by omega) (by omega)⟩, hE80⟩
    ·exact fun _ _ h => os rfl ((yl_move rfl (h.old 4 _ rfl rfl) kI))
    ·intro L87 w88 hi89
     have hE90 := hi89.ex
     refine OpR.op' rfl (yl_call Try.en79 rfl (opvs_cons (hi89.dt 4 38 rfl rfl rfl) opvs_nil) (Cal.mono (c_g_slices_Clone_Write p_store (RdS.up (RdS.ex good_Write (RdS.ex good_Write q43 hE46) hE90) good_Write) o6) ?_))
     rintro v96 w93 ⟨A94, c94, lo94, hi94, rfl, h94, ho95, hrn98, hE97⟩
     exact ⟨⟨A94, c94, lo94, hi94, rfl, h94, ho95, hrn98⟩, hE97⟩
    ·intro fl102 fh103 L99 w100 hp101
     have hE104 := hp101.ex
     have hE104z := Ex.size hE104
     have hx105 := hp101.old 10 _ rfl rfl
     have hr109 := hp101.rng 3 rfl
     obtain ⟨_, hx108, A48_110, c49_111, rfl, h112⟩ := hp101.new 3 37 rfl rfl
     have hr114 := hp101.rng 5 rfl
     have hsp115 := hp101.sep 3 5 rfl rfl rfl
     obtain ⟨_, hx113, A53_116, c53_117, lo53_118, hi53_119, rfl, h120, h121, hrn122⟩ := hp101.new 5 39 rfl rfl
     refine sd rfl (yl_build (cs := [.string (bs (p_name)), .slice A30 (((i_WayTo p_t p_name p_stage).1).length) c30, .slice A48_110 ((p_servers).toNat) c49_111, .slice A53_116 ((g_slices_Clone_Write p_store).length) c53_117]) rfl (opvs_cons (hp101.nt 0 34 rfl rfl rfl) (opvs_cons (hp101.nt 1 35 rfl rfl rfl) (opvs_cons hx108 (opvs_cons hx113 opvs_nil)))) (by kernel_rfl) (SeqR.u rfl rfl (yl_store (vs := [.string (bs (p_name)), .slice A30 (((i_WayTo p_t p_name p_stage).1).length) c30, .slice A48_110 ((p_servers).toNat) c49_111, .slice A53_116 ((g_slices_Clone_Write p_store).length) c53_117]) Try.ty50 rfl hx105 rfl rfl rfl rfl (Box.ex (Box.ex (Box.ex (Box.ex hB22 hE33) hE38) hE46) hE104) (Nat.le_of_ble_eq_true rfl) ?_)))
     intro w127 hB128 hO129
     have hB128 : Box w127 b18 50 [.string (bs (p_name)), .slice A30 (((i_WayTo p_t p_name p_stage).1).length) c30, .slice A48_110 ((p_servers).toNat) c49_111, .slice A53_116 ((g_slices_Clone_Write p_store).length) c53_117] := hB128
     have hO129z := hO129.size
     refine sd rfl (yl_assign rfl rfl (SeqR.done (tn (CW.sub (Sub.cons (d := 10) hx105 (Sub.cons (d := 11) rfl (Sub.nil _))) (CW.ret (rr rfl (.cons ⟨_, rfl, run_loadN Try.ty50 (cs := [.string (bs (p_name)), .slice A30 (((i_WayTo p_t p_name p_stage).1).length) c30, .slice A48_110 ((p_servers).toNat) c49_111, .slice A53_116 ((g_slices_Clone_Write p_store).length) c53_117]) rfl (hB128.cells (n := 4) rfl)⟩ (.cons rfl .nil)) ?_))))))
     have hM130 : (i_NewShift p_t p_name p_stage p_servers p_store) = (((⟨p_name, (i_WayTo p_t p_name p_stage).1, (List.replicate ((p_servers).toNat) d_Int), (g_slices_Clone_Write p_store)⟩ : DShift), true)) := by simp only [i_NewShift, hb35, hb39, hb47, cond_true, cond_false, loopE_done, loopE_ret]
     have q135 := OwnL.only good_Int h112 hO129 (by omega)
     have hfx136 := (q135).1
     rw [hM130]
     exact ⟨A30, c30, lo30, hi30, A48_110, c49_111, (fl102 3), (fh103 3), A53_116, c53_117, lo53_118, hi53_119, (by first | rfl | (simp only [List.length_replicate, List.length_set]; done) | (simp only [List.length_replicate, List.length_set]; rfl) | rw [hfx136]), (OwnD.only goodO_Table (OwnD.ex goodO_Table (OwnD.ex goodO_Table (OwnD.ex goodO_Table h30 hE38) hE46) hE104) hO129 (by omega)), (OwnL.fix q135), (OwnL.only good_Write h120 hO129 (by omega)), ⟨o4, ho31, (okL.mk (xs := (List.replicate ((p_servers).toNat) d_Int)) (by first | omega | (simp only [List.length_append, List.length_cons, List.length_nil, List.length_take, List.length_drop, List.length_replicate, List.length_set]; omega)) fun _ _ => trivial), h121⟩, (by omega), (by omega), (by omega), (by omega), (by omega), (by omega), (Below.only (Ex.trans (Ex.trans (Ex.trans (Ex.trans (Ex.trans (Ex.trans (Ex.refl w) hE17) hE23) hE33) hE38) hE46) hE104) hO129 (by omega))⟩
   ·refine CW.cond_t rfl (not_f hb47) (CW.seq (CW.region (sd rfl (yl_build (cs := [.string (bs (([] : Str))), .slice none 0 0, .slice none 0 0, .slice none 0 0]) rfl opvs_nil (by kernel_rfl) (SeqR.u rfl rfl (yl_store (vs := [.string (bs (([] : Str))), .slice none 0 0, .slice none 0 0, .slice none 0 0]) Try.ty50 rfl rfl rfl rfl rfl rfl (Box.ex (Box.ex (Box.ex hB22 hE33) hE38) hE46) (Nat.le_of_ble_eq_true rfl) ?_))))))
    intro w148 hB149 hO150
    have hB149 : Box w148 b18 50 [.string (bs (([] : Str))), .slice none 0 0, .slice none 0 0, .slice none 0 0] := hB149
    have hO150z := hO150.size
    refine sd rfl (yl_assign rfl rfl (SeqR.done (tn (CW.ret (tr (rr rfl (.cons ⟨_, rfl, run_loadN Try.ty50 (cs := [.string (bs (([] : Str))), .slice none 0 0, .slice none 0 0, .slice none 0 0]) rfl (hB149.cells (n := 4) rfl)⟩ (.cons rfl .nil)) ?_))))))
    have hM151 : (i_NewShift p_t p_name p_stage p_servers p_store) = (((⟨([] : Str), [], [], []⟩ : DShift), false)) := by simp only [i_NewShift, hb35, hb39, hb47, cond_true, cond_false, loopE_done, loopE_ret]
    rw [hM151]
    exact ⟨none, 0, w148.heap.size, w148.heap.size, none, 0, w148.heap.size, w148.heap.size, none, 0, w148.heap.size, w148.heap.size, rfl, (OwnD.nil _ _ _ _ _ _), (OwnL.nil _ _ _ _ _ _), (OwnL.nil _ _ _ _ _ _), ⟨(okS.lit rfl), (okL.nil _), (okL.nil _), (okL.nil _)⟩, (by omega), (by omega), (by omega), (by omega), (by omega), (by omega), (Below.only (Ex.trans (Ex.trans (Ex.trans (Ex.trans (Ex.trans (Ex.refl w) hE17) hE23) hE33) hE38) hE46) hO150 (by omega))⟩
  ·refine sz rfl rfl (not_f hb39) (sz rfl rfl (not_f hb39) (sz rfl rfl (not_f hb39) (sd rfl (yl_pick_t rfl rfl (not_f hb39) rfl (SeqR.done (tn (CW.cond_t rfl rfl (CW.seq (CW.region ?_)))))))))
   refine sd rfl (yl_build (cs := [.string (bs (([] : Str))), .slice none 0 0, .slice none 0 0, .slice none 0 0]) rfl opvs_nil (by kernel_rfl) (SeqR.u rfl rfl (yl_store (vs := [.string (bs (([] : Str))), .slice none 0 0, .slice none 0 0, .slice none 0 0]) Try.ty50 rfl rfl rfl rfl rfl rfl (Box.ex (Box.ex hB22 hE33) hE38) (Nat.le_of_ble_eq_true rfl) ?_)))
   intro w160 hB161 hO162
   have hB161 : Box w160 b18 50 [.string (bs (([] : Str))), .slice none 0 0, .slice none 0 0, .slice none 0 0] := hB161
   have hO162z := hO162.size
   refine sd rfl (yl_assign rfl rfl (SeqR.done (tn (CW.ret (tr (rr rfl (.cons ⟨_, rfl, run_loadN Try.ty50 (cs := [.string (bs (([] : Str))), .slice none 0 0, .slice none 0 0, .slice none 0 0]) rfl (hB161.cells (n := 4) rfl)⟩ (.cons rfl .nil)) ?_))))))
   have hM163 : (i_NewShift p_t p_name p_stage p_servers p_store) = (((⟨([] : Str), [], [], []⟩ : DShift), false)) := by simp only [i_NewShift, hb35, hb39, cond_true, cond_false, loopE_done, loopE_ret]
   rw [hM163]
   exact ⟨none, 0, w160.heap.size, w160.heap.size, none, 0, w160.heap.size, w160.heap.size, none, 0, w160.heap.size, w160.heap.size, rfl, (OwnD.nil _ _ _ _ _ _), (OwnL.nil _ _ _ _ _ _), (OwnL.nil _ _ _ _ _ _), ⟨(okS.lit rfl), (okL.nil _), (okL.nil _), (okL.nil _)⟩, (by omega), (by omega), (by omega), (by omega), (by omega), (by omega), (Below.only (Ex.trans (Ex.trans (Ex.trans (Ex.trans (Ex.refl w) hE17) hE23) hE33) hE38) hO162 (by omega))⟩
 ·refine sz rfl rfl (not_f hb35) (sz rfl rfl (not_f hb35) (sz rfl rfl (not_f hb35) (sd rfl (yl_pick_t rfl rfl (not_f hb35) rfl (sd rfl (yl_move rfl rfl (sz rfl rfl rfl (sz rfl rfl rfl (sz rfl rfl rfl (sd rfl (yl_pick_t rfl rfl rfl rfl ?_)))))))))))
  refine SeqR.done (tn (CW.cond_t rfl rfl (CW.seq (CW.region (sd rfl (yl_build (cs := [.string (bs (([] : Str))), .slice none 0 0, .slice none 0 0, .slice none 0 0]) rfl opvs_nil (by kernel_rfl) (SeqR.u rfl rfl (yl_store (vs := [.string (bs (([] : Str))), .slice none 0 0, .slice none 0 0, .slice none 0 0]) Try.ty50 rfl rfl rfl rfl rfl rfl (Box.ex hB22 hE33) (Nat.le_of_ble_eq_true rfl) ?_))))))))
  intro w170 hB171 hO172
  have hB171 : Box w170 b18 50 [.string (bs (([] : Str))), .slice none 0 0, .slice none 0 0, .slice none 0 0] := hB171
  have hO172z := hO172.size
  refine sd rfl (yl_assign rfl rfl (SeqR.done (tn (CW.ret (tr (rr rfl (.cons ⟨_, rfl, run_loadN Try.ty50 (cs := [.string (bs (([] : Str))), .slice none 0 0, .slice none 0 0, .slice none 0 0]) rfl (hB171.cells (n := 4) rfl)⟩ (.cons rfl .nil)) ?_))))))
  have hM173 : (i_NewShift p_t p_name p_stage p_servers p_store) = (((⟨([] : Str), [], [], []⟩ : DShift), false)) := by simp only [i_NewShift, hb35, cond_true, cond_false, loopE_done, loopE_ret]
  rw [hM173]
  exact ⟨none, 0, w170.heap.size, w170.heap.size, none, 0, w170.heap.size, w170.heap.size, none, 0, w170.heap.size, w170.heap.size, rfl, (OwnD.nil _ _ _ _ _ _), (OwnL.nil _ _ _ _ _ _), (OwnL.nil _ _ _ _ _ _), ⟨(okS.lit rfl), (okL.nil _), (okL.nil _), (okL.nil _)⟩, (by omega), (by omega), (by omega), (by omega), (by omega), (by omega), (Below.only (Ex.trans (Ex.trans (Ex.trans (Ex.refl w) hE17) hE23) hE33) hO172 (by omega))⟩
set_option maxRecDepth 100000 in
set_option maxHeartbeats 2000000 in
theorem c_l_eqWrite {w : World} (p_a : DWrite) (p_b : DWrite) : Cal Try.prog 17 #[.agg #[.string (bs (p_a.Key)), .string (bs (p_a.Val)), .bool (p_a.Gone)], .agg #[.string (bs (p_b.Key)), .string (bs (p_b.Val)), .bool (p_b.Gone)]] w fun v w' => v = .bool ((l_eqWrite p_a p_b)) ∧ Ex w w' := by
 refine Cal.of (vs := [.agg #[.string (bs (p_a.Key)), .string (bs (p_a.Val)), .bool (p_a.Gone)], .agg #[.string (bs (p_b.Key)), .string (bs (p_b.Val)), .bool (p_b.Gone)]]) Try.func17 rfl Try.ntmps17 rfl (CW.seq (CW.region (sd rfl (yl_box (cs := [.string (bs (p_a.Key)), .string (bs (p_a.Val)), .bool (p_a.Gone)]) rfl rfl rfl ?_))))
 intro b1 w2 hs3 hz4 hB5 hE6
 refine sd rfl (yl_box (cs := [.string (bs (p_b.Key)), .string (bs (p_b.Val)), .bool (p_b.Gone)]) rfl rfl rfl ?_)
 intro b7 w8 hs9 hz10 hB11 hE12
 refine sd rfl (yl_assign rfl rfl (SeqR.done (tn (CW.seq (CW.seq (CW.region (sd rfl (yl_fieldAddr Try.fd31_0 rfl rfl ?_))))))))
 have q13 := Box.ex hB5 hE12
 refine sd rfl (yl_load1 Try.ty9 rfl rfl ((q13.cell 0).trans rfl) (sd rfl (yl_fieldAddr Try.fd31_0 rfl rfl (sd rfl (yl_load1 Try.ty9 rfl rfl ((hB11.cell 0).trans rfl) (sd rfl (yl_sneq (a := p_a.Key) (b := p_b.Key) rfl rfl rfl (SeqR.done (tn (bcase (p_a.Key == p_b.Key) (fun hb14 => ?_) (fun hb14 => ?_)))))))))))
 ·refine CW.cond_f rfl (not_t hb14) (CW.skip (tn (CW.seq (CW.seq (CW.region (sd rfl (yl_fieldAddr Try.fd31_1 rfl rfl (sd rfl (yl_load1 Try.ty9 rfl rfl ((q13.cell 1).trans rfl) (sd rfl (yl_fieldAddr Try.fd31_1 rfl rfl ?_)))))))))))
  refine sd rfl (yl_load1 Try.ty9 rfl rfl ((hB11.cell 1).trans rfl) (sd rfl (yl_sneq (a := p_a.Val) (b := p_b.Val) rfl rfl rfl (SeqR.done (tn (bcase (p_a.Val == p_b.Val) (fun hb15 => ?_) (fun hb15 => ?_)))))))
  ·refine CW.cond_f rfl (not_t hb15) (CW.skip (tn (CW.seq (CW.seq (CW.region (sd rfl (yl_fieldAddr Try.fd31_2 rfl rfl (sd rfl (yl_load1 Try.ty4 rfl rfl ((q13.cell 2).trans rfl) (sd rfl (yl_fieldAddr Try.fd31_2 rfl rfl ?_)))))))))))
   refine sd rfl (yl_load1 Try.ty4 rfl rfl ((hB11.cell 2).trans rfl) (sd rfl (yl_bneq Try.un4 rfl rfl rfl (SeqR.done (tn (bcase (p_a.Gone == p_b.Gone) (fun hb16 => ?_) (fun hb16 => ?_)))))))
   ·refine CW.cond_f rfl (not_t hb16) (CW.skip (tn (CW.seq (CW.region (sd rfl (yl_assign rfl rfl (SeqR.done (tn (CW.ret ?_)))))))))
    refine rr rfl (.cons rfl .nil) ?_
    have hM17 : (l_eqWrite p_a p_b) = (true) := by simp only [l_eqWrite, hb14, hb15, hb16, cond_true, cond_false, loopE_done, loopE_ret]
    rw [hM17]
    exact ⟨rfl, (Ex.trans (Ex.trans (Ex.refl w) hE6) hE12)⟩
   ·refine CW.cond_t rfl (not_f hb16) (CW.seq (CW.region (sd rfl (yl_assign rfl rfl (SeqR.done (tn (CW.ret (tr (rr rfl (.cons rfl .nil) ?_)))))))))
    have hM20 : (l_eqWrite p_a p_b) = (false) := by simp only [l_eqWrite, hb14, hb15, hb16, cond_true, cond_false, loopE_done, loopE_ret]
    rw [hM20]
    exact ⟨rfl, (Ex.trans (Ex.trans (Ex.refl w) hE6) hE12)⟩
  ·refine CW.cond_t rfl (not_f hb15) (CW.seq (CW.region (sd rfl (yl_assign rfl rfl (SeqR.done (tn (CW.ret (tr (rr rfl (.cons rfl .nil) ?_)))))))))
   have hM23 : (l_eqWrite p_a p_b) = (false) := by simp only [l_eqWrite, hb14, hb15, cond_true, cond_false, loopE_done, loopE_ret]
   rw [hM23]
   exact ⟨rfl, (Ex.trans (Ex.trans (Ex.refl w) hE6) hE12)⟩
 ·refine CW.cond_t rfl (not_f hb14) (CW.seq (CW.region (sd rfl (yl_assign rfl rfl (SeqR.done (tn (CW.ret (tr (rr rfl (.cons rfl .nil) ?_)))))))))
  have hM26 : (l_eqWrite p_a p_b) = (false) := by simp only [l_eqWrite, hb14, cond_true, cond_false, loopE_done, loopE_ret]
  rw [hM26]
  exact ⟨rfl, (Ex.trans (Ex.trans (Ex.refl w) hE6) hE12)⟩
set_option maxRecDepth 100000 in
set_option maxHeartbeats 2000000 in
theorem c_l_eqWriteS {A1 : Option Addr} {c1 : Nat} {A2 : Option Addr} {c2 : Nat} {w : World} (p_a : List DWrite) (p_b : List DWrite) (h1 : RdS w (Iv 0 w.heap.size) (RF e_Write) 3 A1 p_a.length c1 p_a) (h2 : RdS w (Iv 0 w.heap.size) (RF e_Write) 3 A2 p_b.length c2 p_b) : Cal Try.prog 25 #[.slice A1 p_a.length c1, .slice A2 p_b.length c2] w fun v w' => v = .bool ((l_eqWriteS p_a p_b)) ∧ Ex w w' := by
 refine Cal.of (vs := [.slice A1 p_a.length c1, .slice A2 p_b.length c2]) Try.func25 rfl Try.ntmps25 rfl (CW.seq (CW.region (sd rfl (yl_assign rfl rfl (SeqR.done (tn (CW.seq (CW.seq (CW.region ?_)))))))))
 refine sd rfl (yl_move rfl rfl (sd rfl (yl_len Try.un48 rfl rfl (sd rfl (yl_move rfl rfl (sd rfl (yl_len Try.un48 rfl rfl (sd rfl (yl_neq rfl rfl rfl (SeqR.done (tn (bcase (decide ((p_a.length : Int) = (p_b.length : Int))) (fun hb3 => ?_) (fun hb3 => ?_)))))))))))))
 ·have hb3p := dec_t hb3
  refine CW.cond_f rfl (not_t hb3) (CW.skip (tn (CW.seq (CW.seq (CW.region (sd rfl (yl_assign rfl rfl (SeqR.done (tn ?_)))))))))
  refine CW.block (CW.loop (fun m5 L6 w7 => ∃ (k4 : Nat), m5 = p_a.length - k4 ∧ k4 ≤ p_a.length ∧ w.heap.size ≤ w7.heap.size ∧ lkp L6 0 = some (.slice A1 p_a.length c1) ∧ lkp L6 1 = some (.slice A2 p_b.length c2) ∧ lkp L6 5 = some (.int .i64 ((k4 : Int))) ∧ RdS w7 (Iv 0 w.heap.size) (RF e_Write) 3 A1 p_a.length c1 p_a ∧ RdS w7 (Iv 0 w.heap.size) (RF e_Write) 3 A2 p_b.length c2 p_b ∧ Ex w w7 ∧ loopM (B_l_eqWriteS_0 p_a p_b) (p_a.length - k4) k4 () = loopM (B_l_eqWriteS_0 p_a p_b) (p_a.length - 0) 0 ()) (p_a.length - 0) ?_ ?_)
  ·exact ⟨0, rfl, (by omega), Nat.le_refl _, rfl, rfl, rfl, h1, h2, (Ex.refl w), rfl⟩
  ·rintro m8 L9 w10 ⟨k4, rfl, hk11, hsz13, hl14, hl15, hl16, hf17, hf18, hf19, hI12⟩
   refine CW.sub (Sub.cons hl14 (Sub.cons hl15 (Sub.cons hl16 (Sub.nil _)))) ?_
   have hf19z := Ex.size hf19
   have hbg20 := RdS.big hf17
   rcases Nat.lt_or_ge k4 p_a.length with hlt21 | hlt21
   ·refine CW.seq (CW.seq (CW.region (sd rfl (yl_move rfl rfl (sd rfl (yl_move rfl rfl (sd rfl (yl_len Try.un48 rfl rfl (sd rfl (yl_lss rfl rfl rfl (SeqR.done (tn ?_))))))))))))
    refine CW.cond_t rfl (lt_t hlt21) (CW.skip (tn (CW.seq (CW.block (CW.seq ?_)))))
    obtain ⟨eb22, eo22, ec22, eA22, eS22, ebl22, el22, eR22, eC22⟩ := RdS.atD hf17 d_Write (i := k4) (by first | omega | assumption)
    obtain rfl := eR22
    have eC22 : Cells w10 eb22 (eo22 + k4 * 3) [.string (bs ((p_a.getD k4 d_Write).Key)), .string (bs ((p_a.getD k4 d_Write).Val)), .bool ((p_a.getD k4 d_Write).Gone)] := eC22
    obtain ⟨eb23, eo23, ec23, eA23, eS23, ebl23, el23, eR23, eC23⟩ := RdS.atD hf18 d_Write (i := k4) (by first | omega | assumption)
    obtain rfl := eR23
    have eC23 : Cells w10 eb23 (eo23 + k4 * 3) [.string (bs ((p_b.getD k4 d_Write).Key)), .string (bs ((p_b.getD k4 d_Write).Val)), .bool ((p_b.getD k4 d_Write).Gone)] := eC23
    refine CW.drawsI 10 (vgetI [DetI (.slice A1 p_a.length c1), DetI (.int .i64 ((k4 : Int))), DetI (.pointer (some ⟨eb22, eo22 + k4 * 3, none⟩)), DetI (.agg #[.string (bs ((p_a.getD k4 d_Write).Key)), .string (bs ((p_a.getD k4 d_Write).Val)), .bool ((p_a.getD k4 d_Write).Gone)]), DetI (.slice A2 p_b.length c2), DetI (.int .i64 ((k4 : Int))), DetI (.pointer (some ⟨eb23, eo23 + k4 * 3, none⟩)), DetI (.agg #[.string (bs ((p_b.getD k4 d_Write).Key)), .string (bs ((p_b.getD k4 d_Write).Val)), .bool ((p_b.getD k4 d_Write).Gone)]), DetI (.bool ((l_eqWrite (p_a.getD k4 d_Write) (p_b.getD k4 d_Write)))), DetI (.bool (!(l_eqWrite (p_a.getD k4 d_Write) (p_b.getD k4 d_Write))))]) Try.follows rfl rfl rfl rfl rfl rfl (vgetI_stable ⟨StableI.det _, StableI.det _, StableI.det _, StableI.det _, StableI.det _, StableI.det _, StableI.det _, StableI.det _, StableI.det _, StableI.det _, trivial⟩) ⟨?_, ?_, ?_, ?_, ?_, ?_, ?_, ?_, ?_, ?_, trivial⟩ ?_
    ·exact fun _ _ h => os rfl ((yl_move rfl (h.old 0 _ rfl rfl) kI))
    ·exact fun _ _ h => os rfl ((yl_move rfl (h.old 5 _ rfl rfl) kI))
    ·intro L35 w36 hi37
     have hE38 := hi37.ex
     have hE38z := Ex.size hE38
     exact os rfl ((yl_indexAddrN Try.un48 Try.ty31 rfl (hi37.dt 0 17 rfl rfl rfl) (hi37.dt 1 18 rfl rfl rfl) eA22 (by first | omega | assumption | (simp only [IntKind.wrap_i64] at *; omega)) kI))
    ·exact fun _ _ h => os rfl ((yl_loadN (cs := [.string (bs ((p_a.getD k4 d_Write).Key)), .string (bs ((p_a.getD k4 d_Write).Val)), .bool ((p_a.getD k4 d_Write).Gone)]) Try.ty31 rfl (h.dt 2 19 rfl rfl rfl) (Cells.ex eC22 h.ex) rfl kI))
    ·exact fun _ _ h => os rfl ((yl_move rfl (h.old 1 _ rfl rfl) kI))
    ·exact fun _ _ h => os rfl ((yl_move rfl (h.old 5 _ rfl rfl) kI))
    ·intro L57 w58 hi59
     have hE60 := hi59.ex
     have hE60z := Ex.size hE60
     exact os rfl ((yl_indexAddrN Try.un48 Try.ty31 rfl (hi59.dt 4 21 rfl rfl rfl) (hi59.dt 5 22 rfl rfl rfl) eA23 (by first | omega | assumption | (simp only [IntKind.wrap_i64] at *; omega)) kI))
    ·exact fun _ _ h => os rfl ((yl_loadN (cs := [.string (bs ((p_b.getD k4 d_Write).Key)), .string (bs ((p_b.getD k4 d_Write).Val)), .bool ((p_b.getD k4 d_Write).Gone)]) Try.ty31 rfl (h.dt 6 23 rfl rfl rfl) (Cells.ex eC23 h.ex) rfl kI))
    ·intro L69 w70 hi71
     refine OpR.op' rfl (yl_call Try.en17 rfl (opvs_cons (hi71.dt 3 20 rfl rfl rfl) (opvs_cons (hi71.dt 7 24 rfl rfl rfl) opvs_nil)) (Cal.mono (c_l_eqWrite (p_a.getD k4 d_Write) (p_b.getD k4 d_Write)) ?_))
     rintro v76 w75 ⟨rfl, hE77⟩
     exact ⟨rfl, hE77⟩
    ·exact fun _ _ h => os rfl ((yl_not rfl (h.dt 8 25 rfl rfl rfl) kI))
    ·intro fl86 fh87 L83 w84 hp85
     have hE88 := hp85.ex
     have hE88z := Ex.size hE88
     refine SeqR.done (tn (CW.sub (Sub.cons (d := 0) (hp85.old 0 _ rfl rfl) (Sub.cons (d := 1) (hp85.old 1 _ rfl rfl) (Sub.cons (d := 5) (hp85.old 5 _ rfl rfl) (Sub.cons (d := 26) (hp85.nt 9 26 rfl rfl rfl) (Sub.nil _))))) (bcase (l_eqWrite (p_a.getD k4 d_Write) (p_b.getD k4 d_Write)) (fun hb93 => ?_) (fun hb93 => ?_))))
     ·refine CW.cond_f rfl (not_t hb93) (CW.skip (bn (tn (CW.region (sd rfl (yl_move rfl rfl (sd rfl (yl_inc rfl rfl rfl (by omega) (sd rfl (yl_assign rfl rfl (SeqR.done ?_)))))))))))
      refine tn ?_
      have hB94 : B_l_eqWriteS_0 p_a p_b k4 () = .cont () := by simp only [B_l_eqWriteS_0, hb3, hb93, cond_true, cond_false, loopE_done, loopE_ret]
      exact ⟨p_a.length - (k4 + 1), by omega, k4 + 1, rfl, hlt21, (by omega), rfl, rfl, rfl, (RdS.ex good_Write hf17 hE88), (RdS.ex good_Write hf18 hE88), (Ex.trans hf19 hE88), (loopM.cont hlt21 hB94).symm.trans hI12⟩
     ·refine CW.cond_t rfl (not_f hb93) (CW.seq (CW.region (sd rfl (yl_assign rfl rfl (SeqR.done (tn (CW.ret (br (tr ?_)))))))))
      refine tr ?_
      have hB99 : B_l_eqWriteS_0 p_a p_b k4 () = .ret false := by simp only [B_l_eqWriteS_0, hb3, hb93, cond_true, cond_false, loopE_done, loopE_ret]
      have hL98 : loopM (B_l_eqWriteS_0 p_a p_b) (p_a.length - 0) 0 () = .ret false := hI12.symm.trans (loopM.ret hlt21 hB99)
      refine br (tr (rr rfl (.cons rfl .nil) ?_))
      have hM100 : (l_eqWriteS p_a p_b) = (false) := by simp only [l_eqWriteS, hb3, hb93, hL98, cond_true, cond_false, loopE_done, loopE_ret]
      rw [hM100]
      exact ⟨rfl, (Ex.trans hf19 hE88)⟩
   ·refine CW.seq (CW.seq (CW.region (sd rfl (yl_move rfl rfl (sd rfl (yl_move rfl rfl (sd rfl (yl_len Try.un48 rfl rfl (sd rfl (yl_lss rfl rfl rfl (SeqR.done (tn ?_))))))))))))
    refine CW.cond_f rfl (lt_f hlt21) (CW.exit (tx (tx ?_)))
    have hL102 : loopM (B_l_eqWriteS_0 p_a p_b) (p_a.length - 0) 0 () = .done () := hI12.symm.trans (loopM.stop hlt21)
    refine bx (tn (CW.seq (CW.region (sd rfl (yl_assign rfl rfl (SeqR.done (tn (CW.ret (rr rfl (.cons rfl .nil) ?_)))))))))
    have hM103 : (l_eqWriteS p_a p_b) = (true) := by simp only [l_eqWriteS, hb3, hL102, cond_true, cond_false, loopE_done, loopE_ret]
    rw [hM103]
    exact ⟨rfl, hf19⟩
 ·have hb3p := dec_f hb3
  refine CW.cond_t rfl (not_f hb3) (CW.seq (CW.region (sd rfl (yl_assign rfl rfl (SeqR.done (tn (CW.ret (tr (rr rfl (.cons rfl .nil) ?_)))))))))
  have hM104 : (l_eqWriteS p_a p_b) = (false) := by simp only [l_eqWriteS, hb3, cond_true, cond_false, loopE_done, loopE_ret]
  rw [hM104]
  exact ⟨rfl, (Ex.refl w)⟩
set_option maxRecDepth 100000 in
set_option maxHeartbeats 2000000 in
theorem c_l_eqTableS {A1 : Option Addr} {c1 : Nat} {A2 : Option Addr} {c2 : Nat} {w : World} (p_a : List DTable) (p_b : List DTable) (h1 : RdS w (Iv 0 w.heap.size) R_Table 3 A1 p_a.length c1 p_a) (h2 : RdS w (Iv 0 w.heap.size) R_Table 3 A2 p_b.length c2 p_b) : Cal Try.prog 41 #[.slice A1 p_a.length c1, .slice A2 p_b.length c2] w fun v w' => v = .bool ((l_eqTableS p_a p_b)) ∧ Ex w w' := by
 refine Cal.of (vs := [.slice A1 p_a.length c1, .slice A2 p_b.length c2]) Try.func41 rfl Try.ntmps41 rfl (CW.seq (CW.region (sd rfl (yl_assign rfl rfl (SeqR.done (tn (CW.seq (CW.seq (CW.region ?_)))))))))
 refine sd rfl (yl_move rfl rfl (sd rfl (yl_len Try.un46 rfl rfl (sd rfl (yl_move rfl rfl (sd rfl (yl_len Try.un46 rfl rfl (sd rfl (yl_neq rfl rfl rfl (SeqR.done (tn (bcase (decide ((p_a.length : Int) = (p_b.length : Int))) (fun hb3 => ?_) (fun hb3 => ?_)))))))))))))
 ·have hb3p := dec_t hb3
  refine CW.cond_f rfl (not_t hb3) (CW.skip (tn (CW.seq (CW.seq (CW.region (sd rfl (yl_assign rfl rfl (SeqR.done (tn ?_)))))))))
  refine CW.block (CW.loop (fun m5 L6 w7 => ∃ (k4 : Nat), m5 = p_a.length - k4 ∧ k4 ≤ p_a.length ∧ w.heap.size ≤ w7.heap.size ∧ lkp L6 0 = some (.slice A1 p_a.length c1) ∧ lkp L6 1 = some (.slice A2 p_b.length c2) ∧ lkp L6 5 = some (.int .i64 ((k4 : Int))) ∧ RdS w7 (Iv 0 w.heap.size) R_Table 3 A1 p_a.length c1 p_a ∧ RdS w7 (Iv 0 w.heap.size) R_Table 3 A2 p_b.length c2 p_b ∧ Ex w w7 ∧ loopM (B_l_eqTableS_0 p_a p_b) (p_a.length - k4) k4 () = loopM (B_l_eqTableS_0 p_a p_b) (p_a.length - 0) 0 ()) (p_a.length - 0) ?_ ?_)
  ·exact ⟨0, rfl, (by omega), Nat.le_refl _, rfl, rfl, rfl, h1, h2, (Ex.refl w), rfl⟩
  ·rintro m8 L9 w10 ⟨k4, rfl, hk11, hsz13, hl14, hl15, hl16, hf17, hf18, hf19, hI12⟩
   refine CW.sub (Sub.cons hl14 (Sub.cons hl15 (Sub.cons hl16 (Sub.nil _)))) ?_
   have hf19z := Ex.size hf19
   have hbg20 := RdS.big hf17
   rcases Nat.lt_or_ge k4 p_a.length with hlt21 | hlt21
   ·refine CW.seq (CW.seq (CW.region (sd rfl (yl_move rfl rfl (sd rfl (yl_move rfl rfl (sd rfl (yl_len Try.un46 rfl rfl (sd rfl (yl_lss rfl rfl rfl (SeqR.done (tn ?_))))))))))))
    refine CW.cond_t rfl (lt_t hlt21) (CW.skip (tn (CW.seq (CW.block (CW.seq ?_)))))
    obtain ⟨eb22, eo22, ec22, eA22, eS22, ebl22, el22, eR22, eC22⟩ := RdS.atD hf17 d_Table (i := k4) (by first | omega | assumption)
    obtain ⟨A23, c23, A24, c24, rfl, h23, h24⟩ := eR22
    have eC22 : Cells w10 eb22 (eo22 + k4 * 3) [.string (bs ((p_a.getD k4 d_Table).Name)), .slice A23 (((p_a.getD k4 d_Table).Cols).length) c23, .slice A24 (((p_a.getD k4 d_Table).Idxs).length) c24] := eC22
    obtain ⟨eb25, eo25, ec25, eA25, eS25, ebl25, el25, eR25, eC25⟩ := RdS.atD hf18 d_Table (i := k4) (by first | omega | assumption)
    obtain ⟨A26, c26, A27, c27, rfl, h26, h27⟩ := eR25
    have eC25 : Cells w10 eb25 (eo25 + k4 * 3) [.string (bs ((p_b.getD k4 d_Table).Name)), .slice A26 (((p_b.getD k4 d_Table).Cols).length) c26, .slice A27 (((p_b.getD k4 d_Table).Idxs).length) c27] := eC25
    refine CW.drawsI 10 (vgetI [DetI (.slice A1 p_a.length c1), DetI (.int .i64 ((k4 : Int))), DetI (.pointer (some ⟨eb22, eo22 + k4 * 3, none⟩)), DetI (.agg #[.string (bs ((p_a.getD k4 d_Table).Name)), .slice A23 (((p_a.getD k4 d_Table).Cols).length) c23, .slice A24 (((p_a.getD k4 d_Table).Idxs).length) c24]), DetI (.slice A2 p_b.length c2), DetI (.int .i64 ((k4 : Int))), DetI (.pointer (some ⟨eb25, eo25 + k4 * 3, none⟩)), DetI (.agg #[.string (bs ((p_b.getD k4 d_Table).Name)), .slice A26 (((p_b.getD k4 d_Table).Cols).length) c26, .slice A27 (((p_b.getD k4 d_Table).Idxs).length) c27]), DetI (.bool ((l_eqTable (p_a.getD k4 d_Table) (p_b.getD k4 d_Table)))), DetI (.bool (!(l_eqTable (p_a.getD k4 d_Table) (p_b.getD k4 d_Table))))]) Try.follows rfl rfl rfl rfl rfl rfl (vgetI_stable ⟨StableI.det _, StableI.det _, StableI.det _, StableI.det _, StableI.det _, StableI.det _, StableI.det _, StableI.det _, StableI.det _, StableI.det _, trivial⟩) ⟨?_, ?_, ?_, ?_, ?_, ?_, ?_, ?_, ?_, ?_, trivial⟩ ?_
    ·exact fun _ _ h => os rfl ((yl_move rfl (h.old 0 _ rfl rfl) kI))
    ·exact fun _ _ h => os rfl ((yl_move rfl (h.old 5 _ rfl rfl) kI))
    ·intro L39 w40 hi41
     have hE42 := hi41.ex
     have hE42z := Ex.size hE42
     exact os rfl ((yl_indexAddrN Try.un46 Try.ty36 rfl (hi41.dt 0 17 rfl rfl rfl) (hi41.dt 1 18 rfl rfl rfl) eA22 (by first | omega | assumption | (simp only [IntKind.wrap_i64] at *; omega)) kI))
    ·exact fun _ _ h => os rfl ((yl_loadN (cs := [.string (bs ((p_a.getD k4 d_Table).Name)), .slice A23 (((p_a.getD k4 d_Table).Cols).length) c23, .slice A24 (((p_a.getD k4 d_Table).Idxs).length) c24]) Try.ty36 rfl (h.dt 2 19 rfl rfl rfl) (Cells.ex eC22 h.ex) rfl kI))
    ·exact fun _ _ h => os rfl ((yl_move rfl (h.old 1 _ rfl rfl) kI))
    ·exact fun _ _ h => os rfl ((yl_move rfl (h.old 5 _ rfl rfl) kI))
    ·intro L61 w62 hi63
     have hE64 := hi63.ex
     have hE64z := Ex.size hE64
     exact os rfl ((yl_indexAddrN Try.un46 Try.ty36 rfl (hi63.dt 4 21 rfl rfl rfl) (hi63.dt 5 22 rfl rfl rfl) eA25 (by first | omega | assumption | (simp only [IntKind.wrap_i64] at *; omega)) kI))
    ·exact fun _ _ h => os rfl ((yl_loadN (cs := [.string (bs ((p_b.getD k4 d_Table).Name)), .slice A26 (((p_b.getD k4 d_Table).Cols).length) c26, .slice A27 (((p_b.getD k4 d_Table).Idxs).length) c27]) Try.ty36 rfl (h.dt 6 23 rfl rfl rfl) (Cells.ex eC25 h.ex) rfl kI))
    ·intro L73 w74 hi75
     have hE76 := hi75.ex
     refine OpR.op' rfl (yl_call Try.en18 rfl (opvs_cons (hi75.dt 3 20 rfl rfl rfl) (opvs_cons (hi75.dt 7 24 rfl rfl rfl) opvs_nil)) (Cal.mono (c_l_eqTable (p_a.getD k4 d_Table) (p_b.getD k4 d_Table) (RdS.up (RdS.ex good_Str h23 hE76) good_Str) (RdS.up (RdS.ex good_Idx h24 hE76) good_Idx) (RdS.up (RdS.ex good_Str h26 hE76) good_Str) (RdS.up (RdS.ex good_Idx h27 hE76) good_Idx)) ?_))
     rintro v84 w83 ⟨rfl, hE85⟩
     exact ⟨rfl, hE85⟩
    ·exact fun _ _ h => os rfl ((yl_not rfl (h.dt 8 25 rfl rfl rfl) kI))
    ·intro fl94 fh95 L91 w92 hp93
     have hE96 := hp93.ex
     have hE96z := Ex.size hE96
     refine SeqR.done (tn (CW.sub (Sub.cons (d := 0) (hp93.old 0 _ rfl rfl) (Sub.cons (d := 1) (hp93.old 1 _ rfl rfl) (Sub.cons (d := 5) (hp93.old 5 _ rfl rfl) (Sub.cons (d := 26) (hp93.nt 9 26 rfl rfl rfl) (Sub.nil _))))) (bcase (l_eqTable (p_a.getD k4 d_Table) (p_b.getD k4 d_Table)) (fun hb101 => ?_) (fun hb101 => ?_))))
     ·refine CW.cond_f rfl (not_t hb101) (CW.skip (bn (tn (CW.region (sd rfl (yl_move rfl rfl (sd rfl (yl_inc rfl rfl rfl (by omega) (sd rfl (yl_assign rfl rfl (SeqR.done ?_)))))))))))
      refine tn ?_
      have hB102 : B_l_eqTableS_0 p_a p_b k4 () = .cont () := by simp only [B_l_eqTableS_0, hb3, hb101, cond_true, cond_false, loopE_done, loopE_ret]
      exact ⟨p_a.length - (k4 + 1), by omega, k4 + 1, rfl, hlt21, (by omega), rfl, rfl, rfl, (RdS.ex good_Table hf17 hE96), (RdS.ex good_Table hf18 hE96), (Ex.trans hf19 hE96), (loopM.cont hlt21 hB102).symm.trans hI12⟩
     ·refine CW.cond_t rfl (not_f hb101) (CW.seq (CW.region (sd rfl (yl_assign rfl rfl (SeqR.done (tn (CW.ret (br (tr ?_)))))))))
      refine tr ?_
      have hB107 : B_l_eqTableS_0 p_a p_b k4 () = .ret false := by simp only [B_l_eqTableS_0, hb3, hb101, cond_true, cond_false, loopE_done, loopE_ret]
      have hL106 : loopM (B_l_eqTableS_0 p_a p_b) (p_a.length - 0) 0 () = .ret false := hI12.symm.trans (loopM.ret hlt21 hB107)
      refine br (tr (rr rfl (.cons rfl .nil) ?_))
      have hM108 : (l_eqTableS p_a p_b) = (false) := by simp only [l_eqTableS, hb3, hb101, hL106, cond_true, cond_false, loopE_done, loopE_ret]
      rw [hM108]
      exact ⟨rfl, (Ex.trans hf19 hE96)⟩
   ·refine CW.seq (CW.seq (CW.region (sd rfl (yl_move rfl rfl (sd rfl (yl_move rfl rfl (sd rfl (yl_len Try.un46 rfl rfl (sd rfl (yl_lss rfl rfl rfl (SeqR.done (tn ?_))))))))))))
    refine CW.cond_f rfl (lt_f hlt21) (CW.exit (tx (tx ?_)))
    have hL110 : loopM (B_l_eqTableS_0 p_a p_b) (p_a.length - 0) 0 () = .done () := hI12.symm.trans (loopM.stop hlt21)
    refine bx (tn (CW.seq (CW.region (sd rfl (yl_assign rfl rfl (SeqR.done (tn (CW.ret (rr rfl (.cons rfl .nil) ?_)))))))))
    have hM111 : (l_eqTableS p_a p_b) = (true) := by simp only [l_eqTableS, hb3, hL110, cond_true, cond_false, loopE_done, loopE_ret]
    rw [hM111]
    exact ⟨rfl, hf19⟩
 ·have hb3p := dec_f hb3
  refine CW.cond_t rfl (not_f hb3) (CW.seq (CW.region (sd rfl (yl_assign rfl rfl (SeqR.done (tn (CW.ret (tr (rr rfl (.cons rfl .nil) ?_)))))))))
  have hM112 : (l_eqTableS p_a p_b) = (false) := by simp only [l_eqTableS, hb3, cond_true, cond_false, loopE_done, loopE_ret]
  rw [hM112]
  exact ⟨rfl, (Ex.refl w)⟩
set_option maxRecDepth 100000 in
set_option maxHeartbeats 2000000 in
theorem c_l_eqIntS {A1 : Option Addr} {c1 : Nat} {A2 : Option Addr} {c2 : Nat} {w : World} (p_a : List Int) (p_b : List Int) (h1 : RdS w (Iv 0 w.heap.size) (RF e_Int) 1 A1 p_a.length c1 p_a) (h2 : RdS w (Iv 0 w.heap.size) (RF e_Int) 1 A2 p_b.length c2 p_b) : Cal Try.prog 80 #[.slice A1 p_a.length c1, .slice A2 p_b.length c2] w fun v w' => v = .bool ((l_eqIntS p_a p_b)) ∧ Ex w w' := by
 refine Cal.of (vs := [.slice A1 p_a.length c1, .slice A2 p_b.length c2]) Try.func80 rfl Try.ntmps80 rfl (CW.seq (CW.region (sd rfl (yl_assign rfl rfl (SeqR.done (tn (CW.seq (CW.seq (CW.region ?_)))))))))
 refine sd rfl (yl_move rfl rfl (sd rfl (yl_len Try.un47 rfl rfl (sd rfl (yl_move rfl rfl (sd rfl (yl_len Try.un47 rfl rfl (sd rfl (yl_neq rfl rfl rfl (SeqR.done (tn (bcase (decide ((p_a.length : Int) = (p_b.length : Int))) (fun hb3 => ?_) (fun hb3 => ?_)))))))))))))
 ·have hb3p := dec_t hb3
  refine CW.cond_f rfl (not_t hb3) (CW.skip (tn (CW.seq (CW.seq (CW.region (sd rfl (yl_assign rfl rfl (SeqR.done (tn ?_)))))))))
  refine CW.block (CW.loop (fun m5 L6 w7 => ∃ (k4 : Nat), m5 = p_a.length - k4 ∧ k4 ≤ p_a.length ∧ w.heap.size ≤ w7.heap.size ∧ lkp L6 0 = some (.slice A1 p_a.length c1) ∧ lkp L6 1 = some (.slice A2 p_b.length c2) ∧ lkp L6 5 = some (.int .i64 ((k4 : Int))) ∧ RdS w7 (Iv 0 w.heap.size) (RF e_Int) 1 A1 p_a.length c1 p_a ∧ RdS w7 (Iv 0 w.heap.size) (RF e_Int) 1 A2 p_b.length c2 p_b ∧ Ex w w7 ∧ loopM (B_l_eqIntS_0 p_a p_b) (p_a.length - k4) k4 () = loopM (B_l_eqIntS_0 p_a p_b) (p_a.length - 0) 0 ()) (p_a.length - 0) ?_ ?_)
  ·exact ⟨0, rfl, (by omega), Nat.le_refl _, rfl, rfl, rfl, h1, h2, (Ex.refl w), rfl⟩
  ·rintro m8 L9 w10 ⟨k4, rfl, hk11, hsz13, hl14, hl15, hl16, hf17, hf18, hf19, hI12⟩
   refine CW.sub (Sub.cons hl14 (Sub.cons hl15 (Sub.cons hl16 (Sub.nil _)))) ?_
   have hf19z := Ex.size hf19
   have hbg20 := RdS.big hf17
   rcases Nat.lt_or_ge k4 p_a.length with hlt21 | hlt21
   ·refine CW.seq (CW.seq (CW.region (sd rfl (yl_move rfl rfl (sd rfl (yl_move rfl rfl (sd rfl (yl_len Try.un47 rfl rfl (sd rfl (yl_lss rfl rfl rfl (SeqR.done (tn ?_))))))))))))
    refine CW.cond_t rfl (lt_t hlt21) (CW.skip (tn (CW.seq (CW.block (CW.seq ?_)))))
    obtain ⟨eb22, eo22, ec22, eA22, eS22, ebl22, el22, eR22, eC22⟩ := RdS.atD hf17 d_Int (i := k4) (by first | omega | assumption)
    obtain rfl := eR22
    have eC22 : Cells w10 eb22 (eo22 + k4 * 1) [.int .i64 ((p_a.getD k4 d_Int))] := eC22
    obtain ⟨eb23, eo23, ec23, eA23, eS23, ebl23, el23, eR23, eC23⟩ := RdS.atD hf18 d_Int (i := k4) (by first | omega | assumption)
    obtain rfl := eR23
    have eC23 : Cells w10 eb23 (eo23 + k4 * 1) [.int .i64 ((p_b.getD k4 d_Int))] := eC23
    refine CW.drawsI 9 (vgetI [DetI (.slice A1 p_a.length c1), DetI (.int .i64 ((k4 : Int))), DetI (.pointer (some ⟨eb22, eo22 + k4 * 1, none⟩)), DetI (.int .i64 ((p_a.getD k4 d_Int))), DetI (.slice A2 p_b.length c2), DetI (.int .i64 ((k4 : Int))), DetI (.pointer (some ⟨eb23, eo23 + k4 * 1, none⟩)), DetI (.int .i64 ((p_b.getD k4 d_Int))), DetI (.bool (!(decide ((p_a.getD k4 d_Int) = (p_b.getD k4 d_Int)))))]) Try.follows rfl rfl rfl rfl rfl rfl (vgetI_stable ⟨StableI.det _, StableI.det _, StableI.det _, StableI.det _, StableI.det _, StableI.det _, StableI.det _, StableI.det _, StableI.det _, trivial⟩) ⟨?_, ?_, ?_, ?_, ?_, ?_, ?_, ?_, ?_, trivial⟩ ?_
    ·exact fun _ _ h => os rfl ((yl_move rfl (h.old 0 _ rfl rfl) kI))
    ·exact fun _ _ h => os rfl ((yl_move rfl (h.old 5 _ rfl rfl) kI))
    ·intro L34 w35 hi36
     have hE37 := hi36.ex
     have hE37z := Ex.size hE37
     exact os rfl ((yl_indexAddrN Try.un47 Try.ty3 rfl (hi36.dt 0 17 rfl rfl rfl) (hi36.dt 1 18 rfl rfl rfl) eA22 (by first | omega | assumption | (simp only [IntKind.wrap_i64] at *; omega)) kI))
    ·exact fun _ _ h => os rfl ((yl_load1 Try.ty3 rfl (h.dt 2 19 rfl rfl rfl) ((Cells.ex eC22 h.ex) 0 _ rfl) kI))
    ·exact fun _ _ h => os rfl ((yl_move rfl (h.old 1 _ rfl rfl) kI))
    ·exact fun _ _ h => os rfl ((yl_move rfl (h.old 5 _ rfl rfl) kI))
    ·intro L56 w57 hi58
     have hE59 := hi58.ex
     have hE59z := Ex.size hE59
     exact os rfl ((yl_indexAddrN Try.un47 Try.ty3 rfl (hi58.dt 4 21 rfl rfl rfl) (hi58.dt 5 22 rfl rfl rfl) eA23 (by first | omega | assumption | (simp only [IntKind.wrap_i64] at *; omega)) kI))
    ·exact fun _ _ h => os rfl ((yl_load1 Try.ty3 rfl (h.dt 6 23 rfl rfl rfl) ((Cells.ex eC23 h.ex) 0 _ rfl) kI))
    ·exact fun _ _ h => os rfl ((yl_neq rfl (h.dt 3 20 rfl rfl rfl) (h.dt 7 24 rfl rfl rfl) kI))
    ·intro fl77 fh78 L74 w75 hp76
     have hE79 := hp76.ex
     have hE79z := Ex.size hE79
     refine SeqR.done (tn (CW.sub (Sub.cons (d := 0) (hp76.old 0 _ rfl rfl) (Sub.cons (d := 1) (hp76.old 1 _ rfl rfl) (Sub.cons (d := 5) (hp76.old 5 _ rfl rfl) (Sub.cons (d := 25) (hp76.nt 8 25 rfl rfl rfl) (Sub.nil _))))) (bcase (decide ((p_a.getD k4 d_Int) = (p_b.getD k4 d_Int))) (fun hb84 => ?_) (fun hb84 => ?_))))
     ·have hb84p := dec_t hb84
      refine CW.cond_f rfl (not_t hb84) (CW.skip (bn (tn (CW.region (sd rfl (yl_move rfl rfl (sd rfl (yl_inc rfl rfl rfl (by omega) (sd rfl (yl_assign rfl rfl (SeqR.done ?_)))))))))))
      refine tn ?_
      have hB85 : B_l_eqIntS_0 p_a p_b k4 () = .cont () := by simp only [B_l_eqIntS_0, hb3, hb84, cond_true, cond_false, loopE_done, loopE_ret]
      exact ⟨p_a.length - (k4 + 1), by omega, k4 + 1, rfl, hlt21, (by omega), rfl, rfl, rfl, (RdS.ex good_Int hf17 hE79), (RdS.ex good_Int hf18 hE79), (Ex.trans hf19 hE79), (loopM.cont hlt21 hB85).symm.trans hI12⟩
     ·have hb84p := dec_f hb84
      refine CW.cond_t rfl (not_f hb84) (CW.seq (CW.region (sd rfl (yl_assign rfl rfl (SeqR.done (tn (CW.ret (br (tr ?_)))))))))
      refine tr ?_
      have hB90 : B_l_eqIntS_0 p_a p_b k4 () = .ret false := by simp only [B_l_eqIntS_0, hb3, hb84, cond_true, cond_false, loopE_done, loopE_ret]
      have hL89 : loopM (B_l_eqIntS_0 p_a p_b) (p_a.length - 0) 0 () = .ret false := hI12.symm.trans (loopM.ret hlt21 hB90)
      refine br (tr (rr rfl (.cons rfl .nil) ?_))
      have hM91 : (l_eqIntS p_a p_b) = (false) := by simp only [l_eqIntS, hb3, hb84, hL89, cond_true, cond_false, loopE_done, loopE_ret]
      rw [hM91]
      exact ⟨rfl, (Ex.trans hf19 hE79)⟩
   ·refine CW.seq (CW.seq (CW.region (sd rfl (yl_move rfl rfl (sd rfl (yl_move rfl rfl (sd rfl (yl_len Try.un47 rfl rfl (sd rfl (yl_lss rfl rfl rfl (SeqR.done (tn ?_))))))))))))
    refine CW.cond_f rfl (lt_f hlt21) (CW.exit (tx (tx ?_)))
    have hL93 : loopM (B_l_eqIntS_0 p_a p_b) (p_a.length - 0) 0 () = .done () := hI12.symm.trans (loopM.stop hlt21)
    refine bx (tn (CW.seq (CW.region (sd rfl (yl_assign rfl rfl (SeqR.done (tn (CW.ret (rr rfl (.cons rfl .nil) ?_)))))))))
    have hM94 : (l_eqIntS p_a p_b) = (true) := by simp only [l_eqIntS, hb3, hL93, cond_true, cond_false, loopE_done, loopE_ret]
    rw [hM94]
    exact ⟨rfl, hf19⟩
 ·have hb3p := dec_f hb3
  refine CW.cond_t rfl (not_f hb3) (CW.seq (CW.region (sd rfl (yl_assign rfl rfl (SeqR.done (tn (CW.ret (tr (rr rfl (.cons rfl .nil) ?_)))))))))
  have hM95 : (l_eqIntS p_a p_b) = (false) := by simp only [l_eqIntS, hb3, cond_true, cond_false, loopE_done, loopE_ret]
  rw [hM95]
  exact ⟨rfl, (Ex.refl w)⟩
set_option maxRecDepth 100000 in
set_option maxHeartbeats 2000000 in
theorem c_l_eqShift {A1 : Option Addr} {c1 : Nat} {A2 : Option Addr} {c2 : Nat} {A3 : Option Addr} {c3 : Nat} {A4 : Option Addr} {c4 : Nat} {A5 : Option Addr} {c5 : Nat} {A6 : Option Addr} {c6 : Nat} {w : World} (p_a : DShift) (p_b : DShift) (h1 : RdS w (Iv 0 w.heap.size) R_Table 3 A1 p_a.Ways.length c1 p_a.Ways) (h2 : RdS w (Iv 0 w.heap.size) (RF e_Int) 1 A2 p_a.At.length c2 p_a.At) (h3 : RdS w (Iv 0 w.heap.size) (RF e_Write) 3 A3 p_a.Store.length c3 p_a.Store) (h4 : RdS w (Iv 0 w.heap.size) R_Table 3 A4 p_b.Ways.length c4 p_b.Ways) (h5 : RdS w (Iv 0 w.heap.size) (RF e_Int) 1 A5 p_b.At.length c5 p_b.At) (h6 : RdS w (Iv 0 w.heap.size) (RF e_Write) 3 A6 p_b.Store.length c6 p_b.Store) : Cal Try.prog 24 #[.agg #[.string (bs (p_a.Name)), .slice A1 p_a.Ways.length c1, .slice A2 p_a.At.length c2, .slice A3 p_a.Store.length c3], .agg #[.string (bs (p_b.Name)), .slice A4 p_b.Ways.length c4, .slice A5 p_b.At.length c5, .slice A6 p_b.Store.length c6]] w fun v w' => v = .bool ((l_eqShift p_a p_b)) ∧ Ex w w' := by
 refine Cal.of (vs := [.agg #[.string (bs (p_a.Name)), .slice A1 p_a.Ways.length c1, .slice A2 p_a.At.length c2, .slice A3 p_a.Store.length c3], .agg #[.string (bs (p_b.Name)), .slice A4 p_b.Ways.length c4, .slice A5 p_b.At.length c5, .slice A6 p_b.Store.length c6]]) Try.func24 rfl Try.ntmps24 rfl (CW.seq (CW.region (sd rfl (yl_box (cs := [.string (bs (p_a.Name)), .slice A1 p_a.Ways.length c1, .slice A2 p_a.At.length c2, .slice A3 p_a.Store.length c3]) rfl rfl rfl ?_))))
 intro b7 w8 hs9 hz10 hB11 hE12
 refine sd rfl (yl_box (cs := [.string (bs (p_b.Name)), .slice A4 p_b.Ways.length c4, .slice A5 p_b.At.length c5, .slice A6 p_b.Store.length c6]) rfl rfl rfl ?_)
 intro b13 w14 hs15 hz16 hB17 hE18
 refine sd rfl (yl_assign rfl rfl (SeqR.done (tn (CW.seq (CW.seq (CW.region (sd rfl (yl_fieldAddr Try.fd50_0 rfl rfl ?_))))))))
 have q19 := Box.ex hB11 hE18
 refine sd rfl (yl_load1 Try.ty9 rfl rfl ((q19.cell 0).trans rfl) (sd rfl (yl_fieldAddr Try.fd50_0 rfl rfl (sd rfl (yl_load1 Try.ty9 rfl rfl ((hB17.cell 0).trans rfl) (sd rfl (yl_sneq (a := p_a.Name) (b := p_b.Name) rfl rfl rfl (SeqR.done (tn (bcase (p_a.Name == p_b.Name) (fun hb20 => ?_) (fun hb20 => ?_)))))))))))
 ·refine CW.cond_f rfl (not_t hb20) (CW.skip (tn (CW.seq (CW.seq (CW.region (sd rfl (yl_fieldAddr Try.fd50_1 rfl rfl (sd rfl (yl_load1 Try.ty46 rfl rfl ((q19.cell 1).trans rfl) (sd rfl (yl_fieldAddr Try.fd50_1 rfl rfl ?_)))))))))))
  refine sd rfl (yl_load1 Try.ty46 rfl rfl ((hB17.cell 1).trans rfl) (sd rfl (yl_call Try.en41 rfl (opvs_cons rfl (opvs_cons rfl opvs_nil)) (Cal.mono (c_l_eqTableS p_a.Ways p_b.Ways (RdS.up (RdS.ex good_Table (RdS.ex good_Table h1 hE12) hE18) good_Table) (RdS.up (RdS.ex good_Table (RdS.ex good_Table h4 hE12) hE18) good_Table)) ?_))))
  rintro v26 w25 ⟨rfl, hE27⟩
  have hE27z := Ex.size hE27
  refine sd rfl (yl_not rfl rfl (SeqR.done (tn (bcase (l_eqTableS p_a.Ways p_b.Ways) (fun hb28 => ?_) (fun hb28 => ?_)))))
  ·refine CW.cond_f rfl (not_t hb28) (CW.skip (tn (CW.seq (CW.seq (CW.region (sd rfl (yl_fieldAddr Try.fd50_2 rfl rfl ?_)))))))
   have q29 := Box.ex q19 hE27
   refine sd rfl (yl_load1 Try.ty47 rfl rfl ((q29.cell 2).trans rfl) (sd rfl (yl_fieldAddr Try.fd50_2 rfl rfl ?_)))
   have q30 := Box.ex hB17 hE27
   refine sd rfl (yl_load1 Try.ty47 rfl rfl ((q30.cell 2).trans rfl) (sd rfl (yl_call Try.en80 rfl (opvs_cons rfl (opvs_cons rfl opvs_nil)) (Cal.mono (c_l_eqIntS p_a.At p_b.At (RdS.up (RdS.ex good_Int (RdS.ex good_Int (RdS.ex good_Int h2 hE12) hE18) hE27) good_Int) (RdS.up (RdS.ex good_Int (RdS.ex good_Int (RdS.ex good_Int h5 hE12) hE18) hE27) good_Int)) ?_))))
   rintro v38 w37 ⟨rfl, hE39⟩
   have hE39z := Ex.size hE39
   refine sd rfl (yl_not rfl rfl (SeqR.done (tn (bcase (l_eqIntS p_a.At p_b.At) (fun hb40 => ?_) (fun hb40 => ?_)))))
   ·refine CW.cond_f rfl (not_t hb40) (CW.skip (tn (CW.seq (CW.seq (CW.region (sd rfl (yl_fieldAddr Try.fd50_3 rfl rfl (sd rfl (yl_load1 Try.ty48 rfl rfl (((Box.ex q29 hE39).cell 3).trans rfl) (sd rfl (yl_fieldAddr Try.fd50_3 rfl rfl ?_)))))))))))
    refine sd rfl (yl_load1 Try.ty48 rfl rfl (((Box.ex q30 hE39).cell 3).trans rfl) (sd rfl (yl_call Try.en25 rfl (opvs_cons rfl (opvs_cons rfl opvs_nil)) (Cal.mono (c_l_eqWriteS p_a.Store p_b.Store (RdS.up (RdS.ex good_Write (RdS.ex good_Write (RdS.ex good_Write (RdS.ex good_Write h3 hE12) hE18) hE27) hE39) good_Write) (RdS.up (RdS.ex good_Write (RdS.ex good_Write (RdS.ex good_Write (RdS.ex good_Write h6 hE12) hE18) hE27) hE39) good_Write)) ?_))))
    rintro v52 w51 ⟨rfl, hE53⟩
    have hE53z := Ex.size hE53
    refine sd rfl (yl_not rfl rfl (SeqR.done (tn (bcase (l_eqWriteS p_a.Store p_b.Store) (fun hb54 => ?_) (fun hb54 => ?_)))))
    ·refine CW.cond_f rfl (not_t hb54) (CW.skip (tn (CW.seq (CW.region (sd rfl (yl_assign rfl rfl (SeqR.done (tn (CW.ret ?_)))))))))
     refine rr rfl (.cons rfl .nil) ?_
     have hM55 : (l_eqShift p_a p_b) = (true) := by simp only [l_eqShift, hb20, hb28, hb40, hb54, cond_true, cond_false, loopE_done, loopE_ret]
     rw [hM55]
     exact ⟨rfl, (Ex.trans (Ex.trans (Ex.trans (Ex.trans (Ex.trans (Ex.refl w) hE12) hE18) hE27) hE39) hE53)⟩
    ·refine CW.cond_t rfl (not_f hb54) (CW.seq (CW.region (sd rfl (yl_assign rfl rfl (SeqR.done (tn (CW.ret (tr (rr rfl (.cons rfl .nil) ?_)))))))))
     have hM61 : (l_eqShift p_a p_b) = (false) := by simp only [l_eqShift, hb20, hb28, hb40, hb54, cond_true, cond_false, loopE_done, loopE_ret]
     rw [hM61]
     exact ⟨rfl, (Ex.trans (Ex.trans (Ex.trans (Ex.trans (Ex.trans (Ex.refl w) hE12) hE18) hE27) hE39) hE53)⟩
   ·refine CW.cond_t rfl (not_f hb40) (CW.seq (CW.region (sd rfl (yl_assign rfl rfl (SeqR.done (tn (CW.ret (tr (rr rfl (.cons rfl .nil) ?_)))))))))
    have hM67 : (l_eqShift p_a p_b) = (false) := by simp only [l_eqShift, hb20, hb28, hb40, cond_true, cond_false, loopE_done, loopE_ret]
    rw [hM67]
    exact ⟨rfl, (Ex.trans (Ex.trans (Ex.trans (Ex.trans (Ex.refl w) hE12) hE18) hE27) hE39)⟩
  ·refine CW.cond_t rfl (not_f hb28) (CW.seq (CW.region (sd rfl (yl_assign rfl rfl (SeqR.done (tn (CW.ret (tr (rr rfl (.cons rfl .nil) ?_)))))))))
   have hM72 : (l_eqShift p_a p_b) = (false) := by simp only [l_eqShift, hb20, hb28, cond_true, cond_false, loopE_done, loopE_ret]
   rw [hM72]
   exact ⟨rfl, (Ex.trans (Ex.trans (Ex.trans (Ex.refl w) hE12) hE18) hE27)⟩
 ·refine CW.cond_t rfl (not_f hb20) (CW.seq (CW.region (sd rfl (yl_assign rfl rfl (SeqR.done (tn (CW.ret (tr (rr rfl (.cons rfl .nil) ?_)))))))))
  have hM76 : (l_eqShift p_a p_b) = (false) := by simp only [l_eqShift, hb20, cond_true, cond_false, loopE_done, loopE_ret]
  rw [hM76]
  exact ⟨rfl, (Ex.trans (Ex.trans (Ex.refl w) hE12) hE18)⟩
set_option maxRecDepth 100000 in
set_option maxHeartbeats 2000000 in
theorem c_l_markText {w : World} (p_k : Int) (pre0 : p_k ≤ 9223372036854775807) : Cal Try.prog 83 #[.int .i64 (p_k)] w fun v w' => v = .string (bs ((l_markText p_k))) ∧ Ex w w' := by
 refine Cal.of (vs := [.int .i64 (p_k)]) Try.func83 rfl Try.ntmps83 rfl (CW.seq (CW.region (sd rfl (yl_assign rfl rfl (SeqR.done (tn (CW.seq (CW.seq (CW.region ?_)))))))))
 refine sd rfl (yl_move rfl rfl (sd rfl (yl_leq rfl rfl rfl (SeqR.done (tn (bcase (decide (p_k ≤ 0)) (fun hb1 => ?_) (fun hb1 => ?_)))))))
 ·have hb1p := dec_t hb1
  refine CW.cond_t rfl hb1 (CW.seq (CW.region (sd rfl (yl_assign rfl rfl (SeqR.done (tn (CW.ret (tr (rr rfl (.cons rfl .nil) ?_)))))))))
  have hM2 : (l_markText p_k) = (([109, 48] : Str)) := by simp only [l_markText, hb1, cond_true, cond_false, loopE_done, loopE_ret]
  rw [hM2]
  exact ⟨rfl, (Ex.refl w)⟩
 ·have hb1p := dec_f hb1
  refine CW.cond_f rfl hb1 (CW.skip (tn (CW.seq (CW.region (sd rfl (yl_assign rfl rfl (SeqR.done (tn (CW.seq ?_)))))))))
  refine CW.block (CW.loop (fun m18 L19 w20 => ∃ (x16 : Int) (x17 : Str), (((x16).toNat + 1) / 2) < m18 ∧ w.heap.size ≤ w20.heap.size ∧ lkp L19 0 = some (.int .i64 (x16)) ∧ lkp L19 3 = some (.string (bs (x17))) ∧ Ex w w20 ∧ x17.length + 1 * (((x16).toNat + 1) / 2) ≤ 0 + 1 * (((p_k).toNat + 1) / 2) ∧ x16 ≤ 9223372036854775807 ∧ loopW (B_l_markText_0 p_k) m18 (x16, x17) = loopW (B_l_markText_0 p_k) ((((p_k).toNat + 1) / 2) + 1) (p_k, ([] : Str))) ((((p_k).toNat + 1) / 2) + 1) ?_ ?_)
  ·exact ⟨p_k, ([] : Str), Nat.lt_succ_self _, Nat.le_refl _, rfl, rfl, (Ex.refl w), (by first | (simp; done) | (first | omega | (simp only [List.length_append, List.length_cons, List.length_nil, List.length_set, toS_length]; omega))), (by first | omega | assumption | (simp only [IntKind.wrap_i64] at *; omega)), rfl⟩
  ·rintro m21 L22 w23 ⟨x16, x17, hk24, hsz26, hl27, hl28, hf29, hln30, hv31, hI25⟩
   refine CW.sub (Sub.cons hl27 (Sub.cons hl28 (Sub.nil _))) ?_
   have hf29z := Ex.size hf29
   refine CW.seq (CW.seq (CW.region (sd rfl (yl_move rfl rfl (sd rfl (yl_gtr rfl rfl rfl (SeqR.done (tn (bcase (decide (0 < x16)) (fun hb32 => ?_) (fun hb32 => ?_))))))))))
   ·have hb32p := dec_t hb32
    refine CW.cond_t rfl hb32 (CW.skip (tn (CW.block (CW.seq (CW.region (sd rfl (yl_move rfl rfl (sd rfl (yl_rem rfl rfl rfl (by decide) (sd rfl (yl_add rfl rfl rfl ?_)))))))))))
    refine sd rfl (yl_conv Try.un3 Try.un5 rfl rfl (sd rfl (yl_buildSlice (cs := [.int .u8 (IntKind.wrap .u8 (IntKind.wrap .i64 (48 + (Int.tmod x16 10))))]) Try.un181 Try.ty5 (by decide) rfl (opvs_cons rfl opvs_nil) (by kernel_rfl) ?_)))
    intro b33 w34 hs35 hz36 hB37 hE38
    have hO39 : OwnL w34 b33 (b33 + 1) 5 1 (RF e_U8) (some ⟨b33, 0, none⟩) 1 1 ([IntKind.wrap .u8 (IntKind.wrap .i64 (48 + (Int.tmod x16 10)))] : List Int) := OwnL.of_box (S := fun _ => False) hB37 (Nat.le_refl _) (Nat.lt_succ_self _) (EncL.cons (c := [.int .u8 (IntKind.wrap .u8 (IntKind.wrap .i64 (48 + (Int.tmod x16 10))))]) rfl rfl EncL.nil) (Nat.le_of_ble_eq_true rfl) (fun h => h) (fun _ h => False.elim h)
    refine sd rfl (yl_toS Try.un181 Try.un5 Try.un9 rfl rfl (OwnL.rd good_U8 hO39) (sd rfl (yl_move rfl rfl ?_)))
    have hol41 : (toS ([IntKind.wrap .u8 (IntKind.wrap .i64 (48 + (Int.tmod x16 10)))] : List Int)).length ≤ 1073741824 := (okS_toS (Nat.le_of_ble_eq_true rfl))
    refine sd rfl (yl_sadd (a := (toS ([IntKind.wrap .u8 (IntKind.wrap .i64 (48 + (Int.tmod x16 10)))] : List Int))) (b := x17) rfl rfl rfl (by first | omega | (simp only [List.length_append, List.length_cons, List.length_nil, List.length_take, List.length_drop, toS_length]; omega)) (sd rfl (yl_assign rfl rfl (SeqR.done (tn (CW.region (sd rfl (yl_move rfl rfl (sd rfl (yl_quo rfl rfl rfl (by decide) (sd rfl (yl_assign rfl rfl (SeqR.done ?_)))))))))))))
    refine bn (tn ?_)
    have hB42 : B_l_markText_0 p_k (x16, x17) = .cont (IntKind.wrap .i64 (Int.tdiv x16 10), (toS ([IntKind.wrap .u8 (IntKind.wrap .i64 (48 + (Int.tmod x16 10)))] : List Int)) ++ x17) := by simp only [B_l_markText_0, hb1, hb32, cond_true, cond_false, loopE_done, loopE_ret]
    have hmu44 : (((IntKind.wrap .i64 (Int.tdiv x16 10)).toNat + 1) / 2) < (((x16).toNat + 1) / 2) := by (have hq := wtd (n := x16) (c := 10) (by decide) (by omega) (by omega); omega)
    exact ⟨m21 - 1, by omega, IntKind.wrap .i64 (Int.tdiv x16 10), (toS ([IntKind.wrap .u8 (IntKind.wrap .i64 (48 + (Int.tmod x16 10)))] : List Int)) ++ x17, (by omega), (by omega), rfl, rfl, (Ex.trans hf29 hE38), (by first | omega | (simp only [List.length_append, List.length_cons, List.length_nil, List.length_set, toS_length]; omega)), (by (have hq := wtd (n := x16) (c := 10) (by decide) (by omega) (by omega); omega)), (loopW.cont hk24 hB42).symm.trans hI25⟩
   ·have hb32p := dec_f hb32
    refine CW.cond_f rfl hb32 (CW.exit (tx (tx ?_)))
    have hB46 : B_l_markText_0 p_k (x16, x17) = .brk (x16, x17) := by simp only [B_l_markText_0, hb1, hb32, cond_true, cond_false, loopE_done, loopE_ret]
    have hL45 : loopW (B_l_markText_0 p_k) ((((p_k).toNat + 1) / 2) + 1) (p_k, ([] : Str)) = .done (x16, x17) := hI25.symm.trans (loopW.brk hk24 hB46)
    refine bx (tn (CW.seq (CW.region (sd rfl (yl_move rfl rfl (sd rfl (yl_sadd (a := ([109] : Str)) (b := x17) rfl rfl rfl (by first | omega | (simp only [List.length_append, List.length_cons, List.length_nil, List.length_take, List.length_drop, toS_length]; omega)) (sd rfl (yl_assign rfl rfl (SeqR.done (tn ?_)))))))))))
    refine CW.ret (rr rfl (.cons rfl .nil) ?_)
    have hM47 : (l_markText p_k) = (([109] : Str) ++ x17) := by simp only [l_markText, hb1, hb32, hL45, cond_true, cond_false, loopE_done, loopE_ret]
    rw [hM47]
    exact ⟨rfl, hf29⟩
set_option maxRecDepth 100000 in
set_option maxHeartbeats 2000000 in
theorem c_l_markStringS {A1 : Option Addr} {c1 : Nat} {lo1 hi1 : Nat} {w : World} (p_a : List Str) (p_k : Int) (h1 : OwnL w lo1 hi1 9 1 (RF e_Str) A1 p_a.length c1 p_a) (hrn2 : (0 ≤ lo1 ∧ lo1 ≤ hi1 ∧ hi1 ≤ w.heap.size)) (pre0 : p_k ≤ 9223372036854775807) : Cal Try.prog 81 #[.slice A1 p_a.length c1, .int .i64 (p_k)] w fun v w' => v = .int .i64 ((l_markStringS p_a p_k).1) ∧ OwnL w' lo1 hi1 9 1 (RF e_Str) A1 p_a.length c1 ((l_markStringS p_a p_k).2) ∧ Mut [(lo1, hi1)] w w' := by
 refine Cal.of (vs := [.slice A1 p_a.length c1, .int .i64 (p_k)]) Try.func81 rfl Try.ntmps81 rfl (CW.seq (CW.region (sd rfl (yl_assign rfl rfl (SeqR.done (tn (CW.seq (CW.seq (CW.region ?_)))))))))
 refine sd rfl (yl_assign rfl rfl (SeqR.done (tn (CW.block (CW.loop (fun m16 L17 w18 => ∃ (k3 : Nat) (x14 : Int) (x15 : List Str), m16 = p_a.length - k3 ∧ k3 ≤ p_a.length ∧ w.heap.size ≤ w18.heap.size ∧ lkp L17 0 = some (.slice A1 p_a.length c1) ∧ lkp L17 1 = some (.int .i64 (x14)) ∧ lkp L17 5 = some (.int .i64 ((k3 : Int))) ∧ OwnL w18 lo1 hi1 9 1 (RF e_Str) A1 p_a.length c1 x15 ∧ Mut [(lo1, hi1)] w w18 ∧ x14 ≤ 9223372036854775807 ∧ loopM (B_l_markStringS_0 p_a p_k) (p_a.length - k3) k3 (x14, x15) = loopM (B_l_markStringS_0 p_a p_k) (p_a.length - 0) 0 (p_k, p_a)) (p_a.length - 0) ?_ ?_)))))
 ·exact ⟨0, p_k, p_a, rfl, (by omega), Nat.le_refl _, rfl, rfl, rfl, h1, (Mut.refl (l := [(lo1, hi1)]) w), (by first | omega | assumption | (simp only [IntKind.wrap_i64] at *; omega)), rfl⟩
 ·rintro m19 L20 w21 ⟨k3, x14, x15, rfl, hk22, hsz24, hl25, hl26, hl27, hf28, hf29, hv30, hI23⟩
  refine CW.sub (Sub.cons hl25 (Sub.cons hl26 (Sub.cons hl27 (Sub.nil _)))) ?_
  have hf29z := Mut.size hf29
  have hbg31 := RdS.big (OwnL.rd good_Str hf28)
  rcases Nat.lt_or_ge k3 p_a.length with hlt33 | hlt33
  ·refine CW.seq (CW.seq (CW.region (sd rfl (yl_move rfl rfl (sd rfl (yl_move rfl rfl (sd rfl (yl_len Try.un22 rfl rfl (sd rfl (yl_lss rfl rfl rfl (SeqR.done (tn ?_))))))))))))
   refine CW.cond_t rfl (lt_t hlt33) (CW.skip (tn (CW.seq (CW.block (CW.seq (CW.region (sd rfl (yl_move rfl rfl (sd rfl (yl_move rfl rfl ?_))))))))))
   refine sd rfl (yl_move rfl rfl (sd rfl (yl_call Try.en83 rfl (opvs_cons rfl opvs_nil) (Cal.mono (c_l_markText x14 (by first | omega | assumption | (simp only [IntKind.wrap_i64] at *; omega))) ?_))))
   rintro v35 w34 ⟨rfl, hE36⟩
   have hE36z := Ex.size hE36
   have q38 := OwnL.ex good_Str hf28 hE36
   obtain ⟨eb39, eo39, ec39, eA39, eS39, ebl39, el39, eR39, eC39⟩ := RdS.atD (OwnL.rd good_Str q38) d_Str (i := k3) (by first | omega | assumption)
   obtain rfl := eR39
   have eC39 : Cells w34 eb39 (eo39 + k3 * 1) [.string (bs ((x15.getD k3 d_Str)))] := eC39
   refine sd rfl (yl_indexAddrN Try.un22 Try.ty9 rfl rfl rfl eA39 (by first | omega | assumption | (simp only [IntKind.wrap_i64] at *; omega)) ?_)
   have hrg40 := OwnL.rng q38 (i := k3) (by first | omega | assumption | (simp only [IntKind.wrap_i64] at *; omega)) eb39 (by rw [eA39]; rfl)
   refine SeqR.u rfl rfl (yl_storeF (off := eo39) (i := k3) (d := 0) (dx := d_Str) (x' := (l_markText x14)) (vs := [.string (bs ((l_markText x14)))]) Try.ty9 rfl q38 eA39 rfl rfl rfl rfl rfl (by first | omega | assumption | (simp only [IntKind.wrap_i64] at *; omega)) (Nat.le_of_ble_eq_true rfl) rfl rfl ?_)
   intro w41 hB42 hO43
   have hO43z := hO43.size
   refine SeqR.done (tn (CW.region (sd rfl (yl_move rfl rfl (sd rfl (yl_add rfl rfl rfl (sd rfl (yl_assign rfl rfl (SeqR.done (bn (tn ?_)))))))))))
   refine CW.region (sd rfl (yl_move rfl rfl (sd rfl (yl_inc rfl rfl rfl (by omega) (sd rfl (yl_assign rfl rfl (SeqR.done (tn ?_))))))))
   have hB44 : B_l_markStringS_0 p_a p_k k3 (x14, x15) = .cont (IntKind.wrap .i64 (x14 + 1), (x15.set k3 (l_markText x14))) := by simp only [B_l_markStringS_0, cond_true, cond_false, loopE_done, loopE_ret]
   exact ⟨p_a.length - (k3 + 1), by omega, k3 + 1, IntKind.wrap .i64 (x14 + 1), (x15.set k3 (l_markText x14)), rfl, hlt33, (by omega), rfl, rfl, rfl, hB42, (Mut.only (Mut.ex hf29 hE36) hO43 (by simp only [InR, or_false]; omega)), (by first | omega | assumption | (simp only [IntKind.wrap_i64] at *; omega)), (loopM.cont hlt33 hB44).symm.trans hI23⟩
  ·refine CW.seq (CW.seq (CW.region (sd rfl (yl_move rfl rfl (sd rfl (yl_move rfl rfl (sd rfl (yl_len Try.un22 rfl rfl (sd rfl (yl_lss rfl rfl rfl (SeqR.done (tn ?_))))))))))))
   refine CW.cond_f rfl (lt_f hlt33) (CW.exit (tx (tx ?_)))
   have hL47 : loopM (B_l_markStringS_0 p_a p_k) (p_a.length - 0) 0 (p_k, p_a) = .done (x14, x15) := hI23.symm.trans (loopM.stop hlt33)
   refine bx (tn (CW.seq (CW.region (sd rfl (yl_move rfl rfl (sd rfl (yl_assign rfl rfl (SeqR.done (tn (CW.ret ?_))))))))))
   refine rr rfl (.cons rfl .nil) ?_
   have hM48 : (l_markStringS p_a p_k) = ((x14, x15)) := by simp only [l_markStringS, hL47, cond_true, cond_false, loopE_done, loopE_ret]
   rw [hM48]
   exact ⟨rfl, hf28, hf29⟩
set_option maxRecDepth 100000 in
set_option maxHeartbeats 2000000 in
theorem c_l_markIdxS {A1 : Option Addr} {c1 : Nat} {lo1 hi1 : Nat} {w : World} (p_a : List DIdx) (p_k : Int) (h1 : OwnL w lo1 hi1 171 3 (RF e_Idx) A1 p_a.length c1 p_a) (hrn2 : (0 ≤ lo1 ∧ lo1 ≤ hi1 ∧ hi1 ≤ w.heap.size)) (pre0 : p_k ≤ 9223372036854775807) : Cal Try.prog 82 #[.slice A1 p_a.length c1, .int .i64 (p_k)] w fun v w' => v = .int .i64 ((l_markIdxS p_a p_k).1) ∧ OwnL w' lo1 hi1 171 3 (RF e_Idx) A1 p_a.length c1 ((l_markIdxS p_a p_k).2) ∧ Mut [(lo1, hi1)] w w' := by
 refine Cal.of (vs := [.slice A1 p_a.length c1, .int .i64 (p_k)]) Try.func82 rfl Try.ntmps82 rfl (CW.seq (CW.region (sd rfl (yl_assign rfl rfl (SeqR.done (tn (CW.seq (CW.seq (CW.region ?_)))))))))
 refine sd rfl (yl_assign rfl rfl (SeqR.done (tn (CW.block (CW.loop (fun m28 L29 w30 => ∃ (k3 : Nat) (x26 : Int) (x27 : List DIdx), m28 = p_a.length - k3 ∧ k3 ≤ p_a.length ∧ w.heap.size ≤ w30.heap.size ∧ lkp L29 0 = some (.slice A1 p_a.length c1) ∧ lkp L29 1 = some (.int .i64 (x26)) ∧ lkp L29 5 = some (.int .i64 ((k3 : Int))) ∧ OwnL w30 lo1 hi1 171 3 (RF e_Idx) A1 p_a.length c1 x27 ∧ Mut [(lo1, hi1)] w w30 ∧ x26 ≤ 9223372036854775807 ∧ loopM (B_l_markIdxS_0 p_a p_k) (p_a.length - k3) k3 (x26, x27) = loopM (B_l_markIdxS_0 p_a p_k) (p_a.length - 0) 0 (p_k, p_a)) (p_a.length - 0) ?_ ?_)))))
 ·exact ⟨0, p_k, p_a, rfl, (by omega), Nat.le_refl _, rfl, rfl, rfl, h1, (Mut.refl (l := [(lo1, hi1)]) w), (by first | omega | assumption | (simp only [IntKind.wrap_i64] at *; omega)), rfl⟩
 ·rintro m31 L32 w33 ⟨k3, x26, x27, rfl, hk34, hsz36, hl37, hl38, hl39, hf40, hf41, hv42, hI35⟩
  refine CW.sub (Sub.cons hl37 (Sub.cons hl38 (Sub.cons hl39 (Sub.nil _)))) ?_
  have hf41z := Mut.size hf41
  have hbg43 := RdS.big (OwnL.rd good_Idx hf40)
  rcases Nat.lt_or_ge k3 p_a.length with hlt45 | hlt45
  ·refine CW.seq (CW.seq (CW.region (sd rfl (yl_move rfl rfl (sd rfl (yl_move rfl rfl (sd rfl (yl_len Try.un34 rfl rfl (sd rfl (yl_lss rfl rfl rfl (SeqR.done (tn ?_))))))))))))
   refine CW.cond_t rfl (lt_t hlt45) (CW.skip (tn (CW.seq (CW.block (CW.seq (CW.region (sd rfl (yl_move rfl rfl (sd rfl (yl_move rfl rfl ?_))))))))))
   refine sd rfl (yl_move rfl rfl (sd rfl (yl_call Try.en83 rfl (opvs_cons rfl opvs_nil) (Cal.mono (c_l_markText x26 (by first | omega | assumption | (simp only [IntKind.wrap_i64] at *; omega))) ?_))))
   rintro v47 w46 ⟨rfl, hE48⟩
   have hE48z := Ex.size hE48
   have q50 := OwnL.ex good_Idx hf40 hE48
   obtain ⟨eb51, eo51, ec51, eA51, eS51, ebl51, el51, eR51, eC51⟩ := RdS.atD (OwnL.rd good_Idx q50) d_Idx (i := k3) (by first | omega | assumption)
   obtain rfl := eR51
   have eC51 : Cells w46 eb51 (eo51 + k3 * 3) [.string (bs ((x27.getD k3 d_Idx).Name)), .int .i64 ((x27.getD k3 d_Idx).Col), .int .i64 ((x27.getD k3 d_Idx).Stage)] := eC51
   refine sd rfl (yl_indexAddrN Try.un34 Try.ty171 rfl rfl rfl eA51 (by first | omega | assumption | (simp only [IntKind.wrap_i64] at *; omega)) (sd rfl (yl_fieldAddr Try.fd171_0 rfl rfl ?_)))
   have hrg52 := OwnL.rng q50 (i := k3) (by first | omega | assumption | (simp only [IntKind.wrap_i64] at *; omega)) eb51 (by rw [eA51]; rfl)
   refine SeqR.u rfl rfl (yl_storeF (off := eo51) (i := k3) (d := 0) (dx := d_Idx) (x' := (⟨(l_markText x26), (x27.getD k3 d_Idx).Col, (x27.getD k3 d_Idx).Stage⟩ : DIdx)) (vs := [.string (bs ((l_markText x26)))]) Try.ty9 rfl q50 eA51 rfl rfl rfl rfl rfl (by first | omega | assumption | (simp only [IntKind.wrap_i64] at *; omega)) (Nat.le_of_ble_eq_true rfl) rfl rfl ?_)
   intro w53 hB54 hO55
   have hO55z := hO55.size
   refine SeqR.done (tn (CW.seq (CW.region (sd rfl (yl_move rfl rfl (sd rfl (yl_add rfl rfl rfl (sd rfl (yl_assign rfl rfl (SeqR.done (tn ?_)))))))))))
   refine CW.seq (CW.region (sd rfl (yl_move rfl rfl (sd rfl (yl_move rfl rfl (sd rfl (yl_move rfl rfl ?_)))))))
   obtain ⟨eb57, eo57, ec57, eA57, eS57, ebl57, el57, eR57, eC57⟩ := RdS.atD (OwnL.rd good_Idx hB54) d_Idx (i := k3) (by first | omega | assumption)
   obtain rfl := eR57
   have eC57 : Cells w53 eb57 (eo57 + k3 * 3) [.string (bs (((x27.set k3 (⟨(l_markText x26), (x27.getD k3 d_Idx).Col, (x27.getD k3 d_Idx).Stage⟩ : DIdx)).getD k3 d_Idx).Name)), .int .i64 (((x27.set k3 (⟨(l_markText x26), (x27.getD k3 d_Idx).Col, (x27.getD k3 d_Idx).Stage⟩ : DIdx)).getD k3 d_Idx).Col), .int .i64 (((x27.set k3 (⟨(l_markText x26), (x27.getD k3 d_Idx).Col, (x27.getD k3 d_Idx).Stage⟩ : DIdx)).getD k3 d_Idx).Stage)] := eC57
   refine sd rfl (yl_indexAddrN Try.un34 Try.ty171 rfl rfl rfl eA57 (by first | omega | assumption | (simp only [IntKind.wrap_i64] at *; omega)) (sd rfl (yl_fieldAddr Try.fd171_1 rfl rfl ?_)))
   have hrg58 := OwnL.rng hB54 (i := k3) (by first | omega | assumption | (simp only [IntKind.wrap_i64] at *; omega)) eb57 (by rw [eA57]; rfl)
   refine SeqR.u rfl rfl (yl_storeF (off := eo57) (i := k3) (d := 1) (dx := d_Idx) (x' := (⟨((x27.set k3 (⟨(l_markText x26), (x27.getD k3 d_Idx).Col, (x27.getD k3 d_Idx).Stage⟩ : DIdx)).getD k3 d_Idx).Name, IntKind.wrap .i64 (x26 + 1), ((x27.set k3 (⟨(l_markText x26), (x27.getD k3 d_Idx).Col, (x27.getD k3 d_Idx).Stage⟩ : DIdx)).getD k3 d_Idx).Stage⟩ : DIdx)) (vs := [.int .i64 (IntKind.wrap .i64 (x26 + 1))]) Try.ty3 rfl hB54 eA57 rfl rfl rfl rfl rfl (by first | omega | assumption | (simp only [IntKind.wrap_i64] at *; omega)) (Nat.le_of_ble_eq_true rfl) rfl rfl ?_)
   intro w59 hB60 hO61
   have hO61z := hO61.size
   refine SeqR.done (tn (CW.seq (CW.region (sd rfl (yl_move rfl rfl (sd rfl (yl_add rfl rfl rfl (sd rfl (yl_assign rfl rfl (SeqR.done (tn ?_)))))))))))
   refine CW.seq (CW.region (sd rfl (yl_move rfl rfl (sd rfl (yl_move rfl rfl (sd rfl (yl_move rfl rfl ?_)))))))
   obtain ⟨eb63, eo63, ec63, eA63, eS63, ebl63, el63, eR63, eC63⟩ := RdS.atD (OwnL.rd good_Idx hB60) d_Idx (i := k3) (by first | omega | assumption)
   obtain rfl := eR63
   have eC63 : Cells w59 eb63 (eo63 + k3 * 3) [.string (bs ((((x27.set k3 (⟨(l_markText x26), (x27.getD k3 d_Idx).Col, (x27.getD k3 d_Idx).Stage⟩ : DIdx)).set k3 (⟨((x27.set k3 (⟨(l_markText x26), (x27.getD k3 d_Idx).Col, (x27.getD k3 d_Idx).Stage⟩ : DIdx)).getD k3 d_Idx).Name, IntKind.wrap .i64 (x26 + 1), ((x27.set k3 (⟨(l_markText x26), (x27.getD k3 d_Idx).Col, (x27.getD k3 d_Idx).Stage⟩ : DIdx)).getD k3 d_Idx).Stage⟩ : DIdx)).getD k3 d_Idx).Name)), .int .i64 ((((x27.set k3 (⟨(l_markText x26), (x27.getD k3 d_Idx).Col, (x27.getD k3 d_Idx).Stage⟩ : DIdx)).set k3 (⟨((x27.set k3 (⟨(l_markText x26), (x27.getD k3 d_Idx).Col, (x27.getD k3 d_Idx).Stage⟩ : DIdx)).getD k3 d_Idx).Name, IntKind.wrap .i64 (x26 + 1), ((x27.set k3 (⟨(l_markText x26), (x27.getD k3 d_Idx).Col, (x27.getD k3 d_Idx).Stage⟩ : DIdx)).getD k3 d_Idx).Stage⟩ : DIdx)).getD k3 d_Idx).Col), .int .i64 ((((x27.set k3 (⟨(l_markText x26), (x27.getD k3 d_Idx).Col, (x27.getD k3 d_Idx).Stage⟩ : DIdx)).set k3 (⟨((x27.set k3 (⟨(l_markText x26), (x27.getD k3 d_Idx).Col, (x27.getD k3 d_Idx).Stage⟩ : DIdx)).getD k3 d_Idx).Name, IntKind.wrap .i64 (x26 + 1), ((x27.set k3 (⟨(l_markText x26), (x27.getD k3 d_Idx).Col, (x27.getD k3 d_Idx).Stage⟩ : DIdx)).getD k3 d_Idx).Stage⟩ : DIdx)).getD k3 d_Idx).Stage)] := eC63
   refine sd rfl (yl_indexAddrN Try.un34 Try.ty171 rfl rfl rfl eA63 (by first | omega | assumption | (simp only [IntKind.wrap_i64] at *; omega)) (sd rfl (yl_fieldAddr Try.fd171_2 rfl rfl ?_)))
   have hrg64 := OwnL.rng hB60 (i := k3) (by first | omega | assumption | (simp only [IntKind.wrap_i64] at *; omega)) eb63 (by rw [eA63]; rfl)
   refine SeqR.u rfl rfl (yl_storeF (off := eo63) (i := k3) (d := 2) (dx := d_Idx) (x' := (⟨(((x27.set k3 (⟨(l_markText x26), (x27.getD k3 d_Idx).Col, (x27.getD k3 d_Idx).Stage⟩ : DIdx)).set k3 (⟨((x27.set k3 (⟨(l_markText x26), (x27.getD k3 d_Idx).Col, (x27.getD k3 d_Idx).Stage⟩ : DIdx)).getD k3 d_Idx).Name, IntKind.wrap .i64 (x26 + 1), ((x27.set k3 (⟨(l_markText x26), (x27.getD k3 d_Idx).Col, (x27.getD k3 d_Idx).Stage⟩ : DIdx)).getD k3 d_Idx).Stage⟩ : DIdx)).getD k3 d_Idx).Name, (((x27.set k3 (⟨(l_markText x26), (x27.getD k3 d_Idx).Col, (x27.getD k3 d_Idx).Stage⟩ : DIdx)).set k3 (⟨((x27.set k3 (⟨(l_markText x26), (x27.getD k3 d_Idx).Col, (x27.getD k3 d_Idx).Stage⟩ : DIdx)).getD k3 d_Idx).Name, IntKind.wrap .i64 (x26 + 1), ((x27.set k3 (⟨(l_markText x26), (x27.getD k3 d_Idx).Col, (x27.getD k3 d_Idx).Stage⟩ : DIdx)).getD k3 d_Idx).Stage⟩ : DIdx)).getD k3 d_Idx).Col, IntKind.wrap .i64 ((IntKind.wrap .i64 (x26 + 1)) + 1)⟩ : DIdx)) (vs := [.int .i64 (IntKind.wrap .i64 ((IntKind.wrap .i64 (x26 + 1)) + 1))]) Try.ty3 rfl hB60 eA63 rfl rfl rfl rfl rfl (by first | omega | assumption | (simp only [IntKind.wrap_i64] at *; omega)) (Nat.le_of_ble_eq_true rfl) rfl rfl ?_)
   intro w65 hB66 hO67
   have hO67z := hO67.size
   refine SeqR.done (tn (CW.region (sd rfl (yl_move rfl rfl (sd rfl (yl_add rfl rfl rfl (sd rfl (yl_assign rfl rfl (SeqR.done (bn (tn ?_)))))))))))
   refine CW.region (sd rfl (yl_move rfl rfl (sd rfl (yl_inc rfl rfl rfl (by omega) (sd rfl (yl_assign rfl rfl (SeqR.done (tn ?_))))))))
   have hB68 : B_l_markIdxS_0 p_a p_k k3 (x26, x27) = .cont (IntKind.wrap .i64 ((IntKind.wrap .i64 ((IntKind.wrap .i64 (x26 + 1)) + 1)) + 1), (((x27.set k3 (⟨(l_markText x26), (x27.getD k3 d_Idx).Col, (x27.getD k3 d_Idx).Stage⟩ : DIdx)).set k3 (⟨((x27.set k3 (⟨(l_markText x26), (x27.getD k3 d_Idx).Col, (x27.getD k3 d_Idx).Stage⟩ : DIdx)).getD k3 d_Idx).Name, IntKind.wrap .i64 (x26 + 1), ((x27.set k3 (⟨(l_markText x26), (x27.getD k3 d_Idx).Col, (x27.getD k3 d_Idx).Stage⟩ : DIdx)).getD k3 d_Idx).Stage⟩ : DIdx)).set k3 (⟨(((x27.set k3 (⟨(l_markText x26), (x27.getD k3 d_Idx).Col, (x27.getD k3 d_Idx).Stage⟩ : DIdx)).set k3 (⟨((x27.set k3 (⟨(l_markText x26), (x27.getD k3 d_Idx).Col, (x27.getD k3 d_Idx).Stage⟩ : DIdx)).getD k3 d_Idx).Name, IntKind.wrap .i64 (x26 + 1), ((x27.set k3 (⟨(l_markText x26), (x27.getD k3 d_Idx).Col, (x27.getD k3 d_Idx).Stage⟩ : DIdx)).getD k3 d_Idx).Stage⟩ : DIdx)).getD k3 d_Idx).Name, (((x27.set k3 (⟨(l_markText x26), (x27.getD k3 d_Idx).Col, (x27.getD k3 d_Idx).Stage⟩ : DIdx)).set k3 (⟨((x27.set k3 (⟨(l_markText x26), (x27.getD k3 d_Idx).Col, (x27.getD k3 d_Idx).Stage⟩ : DIdx)).getD k3 d_Idx).Name, IntKind.wrap .i64 (x26 + 1), ((x27.set k3 (⟨(l_markText x26), (x27.getD k3 d_Idx).Col, (x27.getD k3 d_Idx).Stage⟩ : DIdx)).getD k3 d_Idx).Stage⟩ : DIdx)).getD k3 d_Idx).Col, IntKind.wrap .i64 ((IntKind.wrap .i64 (x26 + 1)) + 1)⟩ : DIdx))) := by simp only [B_l_markIdxS_0, cond_true, cond_false, loopE_done, loopE_ret]
   exact ⟨p_a.length - (k3 + 1), by omega, k3 + 1, IntKind.wrap .i64 ((IntKind.wrap .i64 ((IntKind.wrap .i64 (x26 + 1)) + 1)) + 1), (((x27.set k3 (⟨(l_markText x26), (x27.getD k3 d_Idx).Col, (x27.getD k3 d_Idx).Stage⟩ : DIdx)).set k3 (⟨((x27.set k3 (⟨(l_markText x26), (x27.getD k3 d_Idx).Col, (x27.getD k3 d_Idx).Stage⟩ : DIdx)).getD k3 d_Idx).Name, IntKind.wrap .i64 (x26 + 1), ((x27.set k3 (⟨(l_markText x26), (x27.getD k3 d_Idx).Col, (x27.getD k3 d_Idx).Stage⟩ : DIdx)).getD k3 d_Idx).Stage⟩ : DIdx)).set k3 (⟨(((x27.set k3 (⟨(l_markText x26), (x27.getD k3 d_Idx).Col, (x27.getD k3 d_Idx).Stage⟩ : DIdx)).set k3 (⟨((x27.set k3 (⟨(l_markText x26), (x27.getD k3 d_Idx).Col, (x27.getD k3 d_Idx).Stage⟩ : DIdx)).getD k3 d_Idx).Name, IntKind.wrap .i64 (x26 + 1), ((x27.set k3 (⟨(l_markText x26), (x27.getD k3 d_Idx).Col, (x27.getD k3 d_Idx).Stage⟩ : DIdx)).getD k3 d_Idx).Stage⟩ : DIdx)).getD k3 d_Idx).Name, (((x27.set k3 (⟨(l_markText x26), (x27.getD k3 d_Idx).Col, (x27.getD k3 d_Idx).Stage⟩ : DIdx)).set k3 (⟨((x27.set k3 (⟨(l_markText x26), (x27.getD k3 d_Idx).Col, (x27.getD k3 d_Idx).Stage⟩ : DIdx)).getD k3 d_Idx).Name, IntKind.wrap .i64 (x26 + 1), ((x27.set k3 (⟨(l_markText x26), (x27.getD k3 d_Idx).Col, (x27.getD k3 d_Idx).Stage⟩ : DIdx)).getD k3 d_Idx).Stage⟩ : DIdx)).getD k3 d_Idx).Col, IntKind.wrap .i64 ((IntKind.wrap .i64 (x26 + 1)) + 1)⟩ : DIdx)), rfl, hlt45, (by omega), rfl, rfl, rfl, hB66, (Mut.only (Mut.only (Mut.only (Mut.ex hf41 hE48) hO55 (by simp only [InR, or_false]; omega)) hO61 (by simp only [InR, or_false]; omega)) hO67 (by simp only [InR, or_false]; omega)), (by first | omega | assumption | (simp only [IntKind.wrap_i64] at *; omega)), (loopM.cont hlt45 hB68).symm.trans hI35⟩
  ·refine CW.seq (CW.seq (CW.region (sd rfl (yl_move rfl rfl (sd rfl (yl_move rfl rfl (sd rfl (yl_len Try.un34 rfl rfl (sd rfl (yl_lss rfl rfl rfl (SeqR.done (tn ?_))))))))))))
   refine CW.cond_f rfl (lt_f hlt45) (CW.exit (tx (tx ?_)))
   have hL73 : loopM (B_l_markIdxS_0 p_a p_k) (p_a.length - 0) 0 (p_k, p_a) = .done (x26, x27) := hI35.symm.trans (loopM.stop hlt45)
   refine bx (tn (CW.seq (CW.region (sd rfl (yl_move rfl rfl (sd rfl (yl_assign rfl rfl (SeqR.done (tn (CW.ret ?_))))))))))
   refine rr rfl (.cons rfl .nil) ?_
   have hM74 : (l_markIdxS p_a p_k) = ((x26, x27)) := by simp only [l_markIdxS, hL73, cond_true, cond_false, loopE_done, loopE_ret]
   rw [hM74]
   exact ⟨rfl, hf40, hf41⟩
set_option maxRecDepth 100000 in
set_option maxHeartbeats 2000000 in
theorem c_l_markTable {A1 : Option Addr} {c1 : Nat} {lo1 hi1 : Nat} {A2 : Option Addr} {c2 : Nat} {lo2 hi2 : Nat} {w : World} (p_a : DTable) (p_k : Int) (h1 : OwnL w lo1 hi1 9 1 (RF e_Str) A1 p_a.Cols.length c1 p_a.Cols) (h2 : OwnL w lo2 hi2 171 3 (RF e_Idx) A2 p_a.Idxs.length c2 p_a.Idxs) (hrn3 : (0 ≤ lo1 ∧ lo1 ≤ hi1 ∧ hi1 ≤ w.heap.size)) (hrn4 : (0 ≤ lo2 ∧ lo2 ≤ hi2 ∧ hi2 ≤ w.heap.size)) (hrn5 : (hi1 ≤ lo2 ∨ hi2 ≤ lo1)) (pre0 : p_k ≤ 9223372036854775807) : Cal Try.prog 26 #[.agg #[.string (bs (p_a.Name)), .slice A1 p_a.Cols.length c1, .slice A2 p_a.Idxs.length c2], .int .i64 (p_k)] w fun v w' => v = .int .i64 ((l_markTable p_a p_k).1) ∧ OwnL w' lo1 hi1 9 1 (RF e_Str) A1 p_a.Cols.length c1 ((l_markTable p_a p_k).2.Cols) ∧ OwnL w' lo2 hi2 171 3 (RF e_Idx) A2 p_a.Idxs.length c2 ((l_markTable p_a p_k).2.Idxs) ∧ Mut [(lo1, hi1), (lo2, hi2)] w w' := by
 refine Cal.of (vs := [.agg #[.string (bs (p_a.Name)), .slice A1 p_a.Cols.length c1, .slice A2 p_a.Idxs.length c2], .int .i64 (p_k)]) Try.func26 rfl Try.ntmps26 rfl (CW.seq (CW.region (sd rfl (yl_box (cs := [.string (bs (p_a.Name)), .slice A1 p_a.Cols.length c1, .slice A2 p_a.Idxs.length c2]) rfl rfl rfl ?_))))
 intro b6 w7 hs8 hz9 hB10 hE11
 refine sd rfl (yl_assign rfl rfl (SeqR.done (tn (CW.seq (CW.region (sd rfl (yl_fieldAddr Try.fd36_1 rfl rfl (sd rfl (yl_load1 Try.ty22 rfl rfl ((hB10.cell 1).trans rfl) (sd rfl (yl_move rfl rfl (sd rfl (yl_call Try.en81 rfl (opvs_cons rfl (opvs_cons rfl opvs_nil)) (Cal.mono (c_l_markStringS p_a.Cols p_k (OwnL.ex good_Str h1 hE11) (by omega) (by first | omega | assumption | (simp only [IntKind.wrap_i64] at *; omega))) ?_))))))))))))))
 rintro v14 w13 ⟨rfl, h16, hm15⟩
 have hm15z := Mut.size hm15
 have hrf17 := rf_markStringS p_a.Cols p_k (by first | omega | assumption | (simp only [IntKind.wrap_i64] at *; omega))
 refine sd rfl (yl_assign rfl rfl (SeqR.done (tn (CW.seq (CW.region (sd rfl (yl_fieldAddr Try.fd36_2 rfl rfl (sd rfl (yl_load1 Try.ty34 rfl rfl (((Box.mut hB10 hm15 (fun k hk => by simp only [InR, or_false] at hk; omega)).cell 2).trans rfl) (sd rfl (yl_move rfl rfl (sd rfl (yl_call Try.en82 rfl (opvs_cons rfl (opvs_cons rfl opvs_nil)) (Cal.mono (c_l_markIdxS p_a.Idxs ((l_markStringS p_a.Cols p_k).1) (OwnL.mut good_Idx (OwnL.ex good_Idx h2 hE11) hm15 (fun k hk => by simp only [InR, or_false] at hk; omega)) (by omega) (by first | omega | assumption | (simp only [IntKind.wrap_i64] at *; omega))) ?_))))))))))))))
 rintro v22 w21 ⟨rfl, h24, hm23⟩
 have hm23z := Mut.size hm23
 have hrf25 := rf_markIdxS p_a.Idxs ((l_markStringS p_a.Cols p_k).1) (by first | omega | assumption | (simp only [IntKind.wrap_i64] at *; omega))
 refine sd rfl (yl_assign rfl rfl (SeqR.done (tn (CW.seq (CW.region (sd rfl (yl_move rfl rfl (sd rfl (yl_assign rfl rfl (SeqR.done (tn ?_)))))))))))
 refine CW.ret (rr rfl (.cons rfl .nil) ?_)
 have hM26 : (l_markTable p_a p_k) = (((l_markIdxS p_a.Idxs ((l_markStringS p_a.Cols p_k).1)).1, (⟨p_a.Name, (l_markStringS p_a.Cols p_k).2, (l_markIdxS p_a.Idxs ((l_markStringS p_a.Cols p_k).1)).2⟩ : DTable))) := by simp only [l_markTable, cond_true, cond_false, loopE_done, loopE_ret]
 rw [hM26]
 exact ⟨rfl, (OwnL.mut good_Str h16 hm23 (fun k hk => by simp only [InR, or_false] at hk; omega)), h24, (Mut.mut (Mut.mut (Mut.ex (Mut.refl (l := [(lo1, hi1), (lo2, hi2)]) w) hE11) hm15 (fun k hk => by simp only [InR, or_false] at hk ⊢; omega)) hm23 (fun k hk => by simp only [InR, or_false] at hk ⊢; omega))⟩
set_option maxRecDepth 100000 in
set_option maxHeartbeats 2000000 in
theorem c_l_markWriteS {A1 : Option Addr} {c1 : Nat} {lo1 hi1 : Nat} {w : World} (p_a : List DWrite) (p_k : Int) (h1 : OwnL w lo1 hi1 31 3 (RF e_Write) A1 p_a.length c1 p_a) (hrn2 : (0 ≤ lo1 ∧ lo1 ≤ hi1 ∧ hi1 ≤ w.heap.size)) (pre0 : p_k ≤ 9223372036854775807) : Cal Try.prog 27 #[.slice A1 p_a.length c1, .int .i64 (p_k)] w fun v w' => v = .int .i64 ((l_markWriteS p_a p_k).1) ∧ OwnL w' lo1 hi1 31 3 (RF e_Write) A1 p_a.length c1 ((l_markWriteS p_a p_k).2) ∧ Mut [(lo1, hi1)] w w' := by
 refine Cal.of (vs := [.slice A1 p_a.length c1, .int .i64 (p_k)]) Try.func27 rfl Try.ntmps27 rfl (CW.seq (CW.region (sd rfl (yl_assign rfl rfl (SeqR.done (tn (CW.seq (CW.seq (CW.region ?_)))))))))
 refine sd rfl (yl_assign rfl rfl (SeqR.done (tn (CW.block (CW.loop (fun m31 L32 w33 => ∃ (k3 : Nat) (x29 : Int) (x30 : List DWrite), m31 = p_a.length - k3 ∧ k3 ≤ p_a.length ∧ w.heap.size ≤ w33.heap.size ∧ lkp L32 0 = some (.slice A1 p_a.length c1) ∧ lkp L32 1 = some (.int .i64 (x29)) ∧ lkp L32 5 = some (.int .i64 ((k3 : Int))) ∧ OwnL w33 lo1 hi1 31 3 (RF e_Write) A1 p_a.length c1 x30 ∧ Mut [(lo1, hi1)] w w33 ∧ x29 ≤ 9223372036854775807 ∧ loopM (B_l_markWriteS_0 p_a p_k) (p_a.length - k3) k3 (x29, x30) = loopM (B_l_markWriteS_0 p_a p_k) (p_a.length - 0) 0 (p_k, p_a)) (p_a.length - 0) ?_ ?_)))))
 ·exact ⟨0, p_k, p_a, rfl, (by omega), Nat.le_refl _, rfl, rfl, rfl, h1, (Mut.refl (l := [(lo1, hi1)]) w), (by first | omega | assumption | (simp only [IntKind.wrap_i64] at *; omega)), rfl⟩
 ·rintro m34 L35 w36 ⟨k3, x29, x30, rfl, hk37, hsz39, hl40, hl41, hl42, hf43, hf44, hv45, hI38⟩
  refine CW.sub (Sub.cons hl40 (Sub.cons hl41 (Sub.cons hl42 (Sub.nil _)))) ?_
  have hf44z := Mut.size hf44
  have hbg46 := RdS.big (OwnL.rd good_Write hf43)
  rcases Nat.lt_or_ge k3 p_a.length with hlt48 | hlt48
  ·refine CW.seq (CW.seq (CW.region (sd rfl (yl_move rfl rfl (sd rfl (yl_move rfl rfl (sd rfl (yl_len Try.un48 rfl rfl (sd rfl (yl_lss rfl rfl rfl (SeqR.done (tn ?_))))))))))))
   refine CW.cond_t rfl (lt_t hlt48) (CW.skip (tn (CW.seq (CW.block (CW.seq (CW.region (sd rfl (yl_move rfl rfl (sd rfl (yl_move rfl rfl ?_))))))))))
   refine sd rfl (yl_move rfl rfl (sd rfl (yl_call Try.en83 rfl (opvs_cons rfl opvs_nil) (Cal.mono (c_l_markText x29 (by first | omega | assumption | (simp only [IntKind.wrap_i64] at *; omega))) ?_))))
   rintro v50 w49 ⟨rfl, hE51⟩
   have hE51z := Ex.size hE51
   have q53 := OwnL.ex good_Write hf43 hE51
   obtain ⟨eb54, eo54, ec54, eA54, eS54, ebl54, el54, eR54, eC54⟩ := RdS.atD (OwnL.rd good_Write q53) d_Write (i := k3) (by first | omega | assumption)
   obtain rfl := eR54
   have eC54 : Cells w49 eb54 (eo54 + k3 * 3) [.string (bs ((x30.getD k3 d_Write).Key)), .string (bs ((x30.getD k3 d_Write).Val)), .bool ((x30.getD k3 d_Write).Gone)] := eC54
   refine sd rfl (yl_indexAddrN Try.un48 Try.ty31 rfl rfl rfl eA54 (by first | omega | assumption | (simp only [IntKind.wrap_i64] at *; omega)) (sd rfl (yl_fieldAddr Try.fd31_0 rfl rfl ?_)))
   have hrg55 := OwnL.rng q53 (i := k3) (by first | omega | assumption | (simp only [IntKind.wrap_i64] at *; omega)) eb54 (by rw [eA54]; rfl)
   refine SeqR.u rfl rfl (yl_storeF (off := eo54) (i := k3) (d := 0) (dx := d_Write) (x' := (⟨(l_markText x29), (x30.getD k3 d_Write).Val, (x30.getD k3 d_Write).Gone⟩ : DWrite)) (vs := [.string (bs ((l_markText x29)))]) Try.ty9 rfl q53 eA54 rfl rfl rfl rfl rfl (by first | omega | assumption | (simp only [IntKind.wrap_i64] at *; omega)) (Nat.le_of_ble_eq_true rfl) rfl rfl ?_)
   intro w56 hB57 hO58
   have hO58z := hO58.size
   refine SeqR.done (tn (CW.seq (CW.region (sd rfl (yl_move rfl rfl (sd rfl (yl_add rfl rfl rfl (sd rfl (yl_assign rfl rfl (SeqR.done (tn ?_)))))))))))
   refine CW.seq (CW.region (sd rfl (yl_move rfl rfl (sd rfl (yl_move rfl rfl (sd rfl (yl_move rfl rfl (sd rfl (yl_call Try.en83 rfl (opvs_cons rfl opvs_nil) (Cal.mono (c_l_markText (IntKind.wrap .i64 (x29 + 1)) (by first | omega | assumption | (simp only [IntKind.wrap_i64] at *; omega))) ?_))))))))))
   rintro v60 w59 ⟨rfl, hE61⟩
   have hE61z := Ex.size hE61
   have q63 := OwnL.ex good_Write hB57 hE61
   obtain ⟨eb64, eo64, ec64, eA64, eS64, ebl64, el64, eR64, eC64⟩ := RdS.atD (OwnL.rd good_Write q63) d_Write (i := k3) (by first | omega | assumption)
   obtain rfl := eR64
   have eC64 : Cells w59 eb64 (eo64 + k3 * 3) [.string (bs (((x30.set k3 (⟨(l_markText x29), (x30.getD k3 d_Write).Val, (x30.getD k3 d_Write).Gone⟩ : DWrite)).getD k3 d_Write).Key)), .string (bs (((x30.set k3 (⟨(l_markText x29), (x30.getD k3 d_Write).Val, (x30.getD k3 d_Write).Gone⟩ : DWrite)).getD k3 d_Write).Val)), .bool (((x30.set k3 (⟨(l_markText x29), (x30.getD k3 d_Write).Val, (x30.getD k3 d_Write).Gone⟩ : DWrite)).getD k3 d_Write).Gone)] := eC64
   refine sd rfl (yl_indexAddrN Try.un48 Try.ty31 rfl rfl rfl eA64 (by first | omega | assumption | (simp only [IntKind.wrap_i64] at *; omega)) (sd rfl (yl_fieldAddr Try.fd31_1 rfl rfl ?_)))
   have hrg65 := OwnL.rng q63 (i := k3) (by first | omega | assumption | (simp only [IntKind.wrap_i64] at *; omega)) eb64 (by rw [eA64]; rfl)
   refine SeqR.u rfl rfl (yl_storeF (off := eo64) (i := k3) (d := 1) (dx := d_Write) (x' := (⟨((x30.set k3 (⟨(l_markText x29), (x30.getD k3 d_Write).Val, (x30.getD k3 d_Write).Gone⟩ : DWrite)).getD k3 d_Write).Key, (l_markText (IntKind.wrap .i64 (x29 + 1))), ((x30.set k3 (⟨(l_markText x29), (x30.getD k3 d_Write).Val, (x30.getD k3 d_Write).Gone⟩ : DWrite)).getD k3 d_Write).Gone⟩ : DWrite)) (vs := [.string (bs ((l_markText (IntKind.wrap .i64 (x29 + 1)))))]) Try.ty9 rfl q63 eA64 rfl rfl rfl rfl rfl (by first | omega | assumption | (simp only [IntKind.wrap_i64] at *; omega)) (Nat.le_of_ble_eq_true rfl) rfl rfl ?_)
   intro w66 hB67 hO68
   have hO68z := hO68.size
   refine SeqR.done (tn (CW.seq (CW.region (sd rfl (yl_move rfl rfl (sd rfl (yl_add rfl rfl rfl (sd rfl (yl_assign rfl rfl (SeqR.done (tn ?_)))))))))))
   refine CW.seq (CW.region (sd rfl (yl_move rfl rfl (sd rfl (yl_move rfl rfl (sd rfl (yl_move rfl rfl (sd rfl (yl_rem rfl rfl rfl (by decide) (sd rfl (yl_eql rfl rfl rfl ?_)))))))))))
   obtain ⟨eb70, eo70, ec70, eA70, eS70, ebl70, el70, eR70, eC70⟩ := RdS.atD (OwnL.rd good_Write hB67) d_Write (i := k3) (by first | omega | assumption)
   obtain rfl := eR70
   have eC70 : Cells w66 eb70 (eo70 + k3 * 3) [.string (bs ((((x30.set k3 (⟨(l_markText x29), (x30.getD k3 d_Write).Val, (x30.getD k3 d_Write).Gone⟩ : DWrite)).set k3 (⟨((x30.set k3 (⟨(l_markText x29), (x30.getD k3 d_Write).Val, (x30.getD k3 d_Write).Gone⟩ : DWrite)).getD k3 d_Write).Key, (l_markText (IntKind.wrap .i64 (x29 + 1))), ((x30.set k3 (⟨(l_markText x29), (x30.getD k3 d_Write).Val, (x30.getD k3 d_Write).Gone⟩ : DWrite)).getD k3 d_Write).Gone⟩ : DWrite)).getD k3 d_Write).Key)), .string (bs ((((x30.set k3 (⟨(l_markText x29), (x30.getD k3 d_Write).Val, (x30.getD k3 d_Write).Gone⟩ : DWrite)).set k3 (⟨((x30.set k3 (⟨(l_markText x29), (x30.getD k3 d_Write).Val, (x30.getD k3 d_Write).Gone⟩ : DWrite)).getD k3 d_Write).Key, (l_markText (IntKind.wrap .i64 (x29 + 1))), ((x30.set k3 (⟨(l_markText x29), (x30.getD k3 d_Write).Val, (x30.getD k3 d_Write).Gone⟩ : DWrite)).getD k3 d_Write).Gone⟩ : DWrite)).getD k3 d_Write).Val)), .bool ((((x30.set k3 (⟨(l_markText x29), (x30.getD k3 d_Write).Val, (x30.getD k3 d_Write).Gone⟩ : DWrite)).set k3 (⟨((x30.set k3 (⟨(l_markText x29), (x30.getD k3 d_Write).Val, (x30.getD k3 d_Write).Gone⟩ : DWrite)).getD k3 d_Write).Key, (l_markText (IntKind.wrap .i64 (x29 + 1))), ((x30.set k3 (⟨(l_markText x29), (x30.getD k3 d_Write).Val, (x30.getD k3 d_Write).Gone⟩ : DWrite)).getD k3 d_Write).Gone⟩ : DWrite)).getD k3 d_Write).Gone)] := eC70
   refine sd rfl (yl_indexAddrN Try.un48 Try.ty31 rfl rfl rfl eA70 (by first | omega | assumption | (simp only [IntKind.wrap_i64] at *; omega)) (sd rfl (yl_fieldAddr Try.fd31_2 rfl rfl ?_)))
   have hrg71 := OwnL.rng hB67 (i := k3) (by first | omega | assumption | (simp only [IntKind.wrap_i64] at *; omega)) eb70 (by rw [eA70]; rfl)
   refine SeqR.u rfl rfl (yl_storeF (off := eo70) (i := k3) (d := 2) (dx := d_Write) (x' := (⟨(((x30.set k3 (⟨(l_markText x29), (x30.getD k3 d_Write).Val, (x30.getD k3 d_Write).Gone⟩ : DWrite)).set k3 (⟨((x30.set k3 (⟨(l_markText x29), (x30.getD k3 d_Write).Val, (x30.getD k3 d_Write).Gone⟩ : DWrite)).getD k3 d_Write).Key, (l_markText (IntKind.wrap .i64 (x29 + 1))), ((x30.set k3 (⟨(l_markText x29), (x30.getD k3 d_Write).Val, (x30.getD k3 d_Write).Gone⟩ : DWrite)).getD k3 d_Write).Gone⟩ : DWrite)).getD k3 d_Write).Key, (((x30.set k3 (⟨(l_markText x29), (x30.getD k3 d_Write).Val, (x30.getD k3 d_Write).Gone⟩ : DWrite)).set k3 (⟨((x30.set k3 (⟨(l_markText x29), (x30.getD k3 d_Write).Val, (x30.getD k3 d_Write).Gone⟩ : DWrite)).getD k3 d_Write).Key, (l_markText (IntKind.wrap .i64 (x29 + 1))), ((x30.set k3 (⟨(l_markText x29), (x30.getD k3 d_Write).Val, (x30.getD k3 d_Write).Gone⟩ : DWrite)).getD k3 d_Write).Gone⟩ : DWrite)).getD k3 d_Write).Val, decide ((Int.tmod (IntKind.wrap .i64 ((IntKind.wrap .i64 (x29 + 1)) + 1)) 3) = 0)⟩ : DWrite)) (vs := [.bool (decide ((Int.tmod (IntKind.wrap .i64 ((IntKind.wrap .i64 (x29 + 1)) + 1)) 3) = 0))]) Try.ty4 rfl hB67 eA70 rfl rfl rfl rfl rfl (by first | omega | assumption | (simp only [IntKind.wrap_i64] at *; omega)) (Nat.le_of_ble_eq_true rfl) rfl rfl ?_)
   intro w72 hB73 hO74
   have hO74z := hO74.size
   refine SeqR.done (tn (CW.region (sd rfl (yl_move rfl rfl (sd rfl (yl_add rfl rfl rfl (sd rfl (yl_assign rfl rfl (SeqR.done (bn (tn ?_)))))))))))
   refine CW.region (sd rfl (yl_move rfl rfl (sd rfl (yl_inc rfl rfl rfl (by omega) (sd rfl (yl_assign rfl rfl (SeqR.done (tn ?_))))))))
   have hB75 : B_l_markWriteS_0 p_a p_k k3 (x29, x30) = .cont (IntKind.wrap .i64 ((IntKind.wrap .i64 ((IntKind.wrap .i64 (x29 + 1)) + 1)) + 1), (((x30.set k3 (⟨(l_markText x29), (x30.getD k3 d_Write).Val, (x30.getD k3 d_Write).Gone⟩ : DWrite)).set k3 (⟨((x30.set k3 (⟨(l_markText x29), (x30.getD k3 d_Write).Val, (x30.getD k3 d_Write).Gone⟩ : DWrite)).getD k3 d_Write).Key, (l_markText (IntKind.wrap .i64 (x29 + 1))), ((x30.set k3 (⟨(l_markText x29), (x30.getD k3 d_Write).Val, (x30.getD k3 d_Write).Gone⟩ : DWrite)).getD k3 d_Write).Gone⟩ : DWrite)).set k3 (⟨(((x30.set k3 (⟨(l_markText x29), (x30.getD k3 d_Write).Val, (x30.getD k3 d_Write).Gone⟩ : DWrite)).set k3 (⟨((x30.set k3 (⟨(l_markText x29), (x30.getD k3 d_Write).Val, (x30.getD k3 d_Write).Gone⟩ : DWrite)).getD k3 d_Write).Key, (l_markText (IntKind.wrap .i64 (x29 + 1))), ((x30.set k3 (⟨(l_markText x29), (x30.getD k3 d_Write).Val, (x30.getD k3 d_Write).Gone⟩ : DWrite)).getD k3 d_Write).Gone⟩ : DWrite)).getD k3 d_Write).Key, (((x30.set k3 (⟨(l_markText x29), (x30.getD k3 d_Write).Val, (x30.getD k3 d_Write).Gone⟩ : DWrite)).set k3 (⟨((x30.set k3 (⟨(l_markText x29), (x30.getD k3 d_Write).Val, (x30.getD k3 d_Write).Gone⟩ : DWrite)).getD k3 d_Write).Key, (l_markText (IntKind.wrap .i64 (x29 + 1))), ((x30.set k3 (⟨(l_markText x29), (x30.getD k3 d_Write).Val, (x30.getD k3 d_Write).Gone⟩ : DWrite)).getD k3 d_Write).Gone⟩ : DWrite)).getD k3 d_Write).Val, decide ((Int.tmod (IntKind.wrap .i64 ((IntKind.wrap .i64 (x29 + 1)) + 1)) 3) = 0)⟩ : DWrite))) := by simp only [B_l_markWriteS_0, cond_true, cond_false, loopE_done, loopE_ret]
   exact ⟨p_a.length - (k3 + 1), by omega, k3 + 1, IntKind.wrap .i64 ((IntKind.wrap .i64 ((IntKind.wrap .i64 (x29 + 1)) + 1)) + 1), (((x30.set k3 (⟨(l_markText x29), (x30.getD k3 d_Write).Val, (x30.getD k3 d_Write).Gone⟩ : DWrite)).set k3 (⟨((x30.set k3 (⟨(l_markText x29), (x30.getD k3 d_Write).Val, (x30.getD k3 d_Write).Gone⟩ : DWrite)).getD k3 d_Write).Key, (l_markText (IntKind.wrap .i64 (x29 + 1))), ((x30.set k3 (⟨(l_markText x29), (x30.getD k3 d_Write).Val, (x30.getD k3 d_Write).Gone⟩ : DWrite)).getD k3 d_Write).Gone⟩ : DWrite)).set k3 (⟨(((x30.set k3 (⟨(l_markText x29), (x30.getD k3 d_Write).Val, (x30.getD k3 d_Write).Gone⟩ : DWrite)).set k3 (⟨((x30.set k3 (⟨(l_markText x29), (x30.getD k3 d_Write).Val, (x30.getD k3 d_Write).Gone⟩ : DWrite)).getD k3 d_Write).Key, (l_markText (IntKind.wrap .i64 (x29 + 1))), ((x30.set k3 (⟨(l_markText x29), (x30.getD k3 d_Write).Val, (x30.getD k3 d_Write).Gone⟩ : DWrite)).getD k3 d_Write).Gone⟩ : DWrite)).getD k3 d_Write).Key, (((x30.set k3 (⟨(l_markText x29), (x30.getD k3 d_Write).Val, (x30.getD k3 d_Write).Gone⟩ : DWrite)).set k3 (⟨((x30.set k3 (⟨(l_markText x29), (x30.getD k3 d_Write).Val, (x30.getD k3 d_Write).Gone⟩ : DWrite)).getD k3 d_Write).Key, (l_markText (IntKind.wrap .i64 (x29 + 1))), ((x30.set k3 (⟨(l_markText x29), (x30.getD k3 d_Write).Val, (x30.getD k3 d_Write).Gone⟩ : DWrite)).getD k3 d_Write).Gone⟩ : DWrite)).getD k3 d_Write).Val, decide ((Int.tmod (IntKind.wrap .i64 ((IntKind.wrap .i64 (x29 + 1)) + 1)) 3) = 0)⟩ : DWrite)), rfl, hlt48, (by omega), rfl, rfl, rfl, hB73, (Mut.only (Mut.only (Mut.ex (Mut.only (Mut.ex hf44 hE51) hO58 (by simp only [InR, or_false]; omega)) hE61) hO68 (by simp only [InR, or_false]; omega)) hO74 (by simp only [InR, or_false]; omega)), (by first | omega | assumption | (simp only [IntKind.wrap_i64] at *; omega)), (loopM.cont hlt48 hB75).symm.trans hI38⟩
  ·refine CW.seq (CW.seq (CW.region (sd rfl (yl_move rfl rfl (sd rfl (yl_move rfl rfl (sd rfl (yl_len Try.un48 rfl rfl (sd rfl (yl_lss rfl rfl rfl (SeqR.done (tn ?_))))))))))))
   refine CW.cond_f rfl (lt_f hlt48) (CW.exit (tx (tx ?_)))
   have hL81 : loopM (B_l_markWriteS_0 p_a p_k) (p_a.length - 0) 0 (p_k, p_a) = .done (x29, x30) := hI38.symm.trans (loopM.stop hlt48)
   refine bx (tn (CW.seq (CW.region (sd rfl (yl_move rfl rfl (sd rfl (yl_assign rfl rfl (SeqR.done (tn (CW.ret ?_))))))))))
   refine rr rfl (.cons rfl .nil) ?_
   have hM82 : (l_markWriteS p_a p_k) = ((x29, x30)) := by simp only [l_markWriteS, hL81, cond_true, cond_false, loopE_done, loopE_ret]
   rw [hM82]
   exact ⟨rfl, hf43, hf44⟩
set_option maxRecDepth 100000 in
set_option maxHeartbeats 2000000 in
theorem c_l_markTableS {A1 : Option Addr} {c1 : Nat} {lo1 hi1 : Nat} {w : World} (p_a : List DTable) (p_k : Int) (h1 : OwnD w lo1 hi1 36 3 RO_Table A1 p_a.length c1 p_a) (hrn2 : (0 ≤ lo1 ∧ lo1 ≤ hi1 ∧ hi1 ≤ w.heap.size)) (pre0 : p_k ≤ 9223372036854775807) : Cal Try.prog 42 #[.slice A1 p_a.length c1, .int .i64 (p_k)] w fun v w' => v = .int .i64 ((l_markTableS p_a p_k).1) ∧ OwnD w' lo1 hi1 36 3 RO_Table A1 p_a.length c1 ((l_markTableS p_a p_k).2) ∧ Mut [(lo1, hi1)] w w' := by
 refine Cal.of (vs := [.slice A1 p_a.length c1, .int .i64 (p_k)]) Try.func42 rfl Try.ntmps42 rfl (CW.seq (CW.region (sd rfl (yl_assign rfl rfl (SeqR.done (tn (CW.seq (CW.seq (CW.region ?_)))))))))
 refine sd rfl (yl_assign rfl rfl (SeqR.done (tn (CW.block (CW.loop (fun m29 L30 w31 => ∃ (k3 : Nat) (x27 : Int) (x28 : List DTable), m29 = p_a.length - k3 ∧ k3 ≤ p_a.length ∧ w.heap.size ≤ w31.heap.size ∧ lkp L30 0 = some (.slice A1 p_a.length c1) ∧ lkp L30 1 = some (.int .i64 (x27)) ∧ lkp L30 5 = some (.int .i64 ((k3 : Int))) ∧ OwnD w31 lo1 hi1 36 3 RO_Table A1 p_a.length c1 x28 ∧ Mut [(lo1, hi1)] w w31 ∧ x27 ≤ 9223372036854775807 ∧ loopM (B_l_markTableS_0 p_a p_k) (p_a.length - k3) k3 (x27, x28) = loopM (B_l_markTableS_0 p_a p_k) (p_a.length - 0) 0 (p_k, p_a)) (p_a.length - 0) ?_ ?_)))))
 ·exact ⟨0, p_k, p_a, rfl, (by omega), Nat.le_refl _, rfl, rfl, rfl, h1, (Mut.refl (l := [(lo1, hi1)]) w), (by first | omega | assumption | (simp only [IntKind.wrap_i64] at *; omega)), rfl⟩
 ·rintro m32 L33 w34 ⟨k3, x27, x28, rfl, hk35, hsz37, hl38, hl39, hl40, hf41, hf42, hv43, hI36⟩
  refine CW.sub (Sub.cons hl38 (Sub.cons hl39 (Sub.cons hl40 (Sub.nil _)))) ?_
  have hf42z := Mut.size hf42
  have hbg44 := RdS.big (OwnL.rd good_Table (OwnD.own goodO_Table good_Table hf41))
  rcases Nat.lt_or_ge k3 p_a.length with hlt46 | hlt46
  ·refine CW.seq (CW.seq (CW.region (sd rfl (yl_move rfl rfl (sd rfl (yl_move rfl rfl (sd rfl (yl_len Try.un46 rfl rfl (sd rfl (yl_lss rfl rfl rfl (SeqR.done (tn ?_))))))))))))
   refine CW.cond_t rfl (lt_t hlt46) (CW.skip (tn (CW.seq (CW.block (CW.seq (CW.region (sd rfl (yl_move rfl rfl (sd rfl (yl_move rfl rfl ?_))))))))))
   refine sd rfl (yl_move rfl rfl (sd rfl (yl_call Try.en83 rfl (opvs_cons rfl opvs_nil) (Cal.mono (c_l_markText x27 (by first | omega | assumption | (simp only [IntKind.wrap_i64] at *; omega))) ?_))))
   rintro v48 w47 ⟨rfl, hE49⟩
   have hE49z := Ex.size hE49
   obtain ⟨dg51, dl51, dh51, _, dA51, dr51, ds51, dx51, dlh51, ⟨A52, c52, lo52, hi52, A53, c53, lo53, hi53, rfl, h52, h53, hrn54, hrn55, hrn56⟩, dR51⟩ := OwnD.open d_Table (i := k3) (OwnD.ex goodO_Table hf41 hE49) (by first | omega | assumption | (simp only [IntKind.wrap_i64] at *; omega))
   refine sd rfl (yl_indexAddrN Try.un46 Try.ty36 rfl rfl rfl dA51 (by first | omega | assumption | (simp only [IntKind.wrap_i64] at *; omega)) (sd rfl (yl_fieldAddr Try.fd36_0 rfl rfl (SeqR.u rfl rfl (yl_storeR (vs := [.string (bs ((l_markText x27)))]) (d := 0) Try.ty9 rfl dR51 dA51 goodO_Table rfl rfl rfl rfl rfl (Nat.le_of_ble_eq_true rfl) ?_)))))
   intro w57 hB58 hO59
   have hO59z := hO59.size
   refine SeqR.done (tn (CW.seq (CW.region (sd rfl (yl_move rfl rfl (sd rfl (yl_add rfl rfl rfl (sd rfl (yl_assign rfl rfl (SeqR.done (tn ?_)))))))))))
   refine CW.seq (CW.region (sd rfl (yl_move rfl rfl (sd rfl (yl_move rfl rfl (sd rfl (yl_indexAddrN Try.un46 Try.ty36 rfl rfl rfl dA51 (by first | omega | assumption | (simp only [IntKind.wrap_i64] at *; omega)) (sd rfl (yl_fieldAddr Try.fd36_1 rfl rfl (sd rfl (yl_load1 Try.ty22 rfl rfl ((OwnR.cells' dA51 hB58) 1 _ rfl) (sd rfl (yl_move rfl rfl (sd rfl (yl_call Try.en81 rfl (opvs_cons rfl (opvs_cons rfl opvs_nil)) (Cal.mono (c_l_markStringS ((x28.getD k3 d_Table).Cols) (IntKind.wrap .i64 (x27 + 1)) (OwnL.only good_Str h52 hO59 (by omega)) (by omega) (by first | omega | assumption | (simp only [IntKind.wrap_i64] at *; omega))) ?_))))))))))))))))
   rintro v62 w61 ⟨rfl, h64, hm63⟩
   have hm63z := Mut.size hm63
   have hrf65 := rf_markStringS ((x28.getD k3 d_Table).Cols) (IntKind.wrap .i64 (x27 + 1)) (by first | omega | assumption | (simp only [IntKind.wrap_i64] at *; omega))
   refine sd rfl (yl_assign rfl rfl (SeqR.done (tn (CW.region (sd rfl (yl_move rfl rfl (sd rfl (yl_move rfl rfl (sd rfl (yl_indexAddrN Try.un46 Try.ty36 rfl rfl rfl dA51 (by first | omega | assumption | (simp only [IntKind.wrap_i64] at *; omega)) (sd rfl (yl_fieldAddr Try.fd36_2 rfl rfl ?_))))))))))))
   have q66 := OwnR.mut goodO_Table hB58 hm63 (fun k hk => by simp only [InR, or_false] at hk; omega)
   refine sd rfl (yl_load1 Try.ty34 rfl rfl ((OwnR.cells' dA51 q66) 2 _ rfl) (sd rfl (yl_move rfl rfl (sd rfl (yl_call Try.en82 rfl (opvs_cons rfl (opvs_cons rfl opvs_nil)) (Cal.mono (c_l_markIdxS ((x28.getD k3 d_Table).Idxs) ((l_markStringS ((x28.getD k3 d_Table).Cols) (IntKind.wrap .i64 (x27 + 1))).1) (OwnL.mut good_Idx (OwnL.only good_Idx h53 hO59 (by omega)) hm63 (fun k hk => by simp only [InR, or_false] at hk; omega)) (by omega) (by first | omega | assumption | (simp only [IntKind.wrap_i64] at *; omega))) ?_))))))
   rintro v70 w69 ⟨rfl, h72, hm71⟩
   have hm71z := Mut.size hm71
   have hrf73 := rf_markIdxS ((x28.getD k3 d_Table).Idxs) ((l_markStringS ((x28.getD k3 d_Table).Cols) (IntKind.wrap .i64 (x27 + 1))).1) (by first | omega | assumption | (simp only [IntKind.wrap_i64] at *; omega))
   refine sd rfl (yl_assign rfl rfl (SeqR.done (bn (tn (CW.region (sd rfl (yl_move rfl rfl (sd rfl (yl_inc rfl rfl rfl (by omega) (sd rfl (yl_assign rfl rfl (SeqR.done ?_))))))))))))
   refine tn ?_
   have hB74 : B_l_markTableS_0 p_a p_k k3 (x27, x28) = .cont ((l_markIdxS ((x28.getD k3 d_Table).Idxs) ((l_markStringS ((x28.getD k3 d_Table).Cols) (IntKind.wrap .i64 (x27 + 1))).1)).1, (x28.set k3 (⟨(l_markText x27), (l_markStringS ((x28.getD k3 d_Table).Cols) (IntKind.wrap .i64 (x27 + 1))).2, (l_markIdxS ((x28.getD k3 d_Table).Idxs) ((l_markStringS ((x28.getD k3 d_Table).Cols) (IntKind.wrap .i64 (x27 + 1))).1)).2⟩ : DTable))) := by simp only [B_l_markTableS_0, cond_true, cond_false, loopE_done, loopE_ret]
   exact ⟨p_a.length - (k3 + 1), by omega, k3 + 1, (l_markIdxS ((x28.getD k3 d_Table).Idxs) ((l_markStringS ((x28.getD k3 d_Table).Cols) (IntKind.wrap .i64 (x27 + 1))).1)).1, (x28.set k3 (⟨(l_markText x27), (l_markStringS ((x28.getD k3 d_Table).Cols) (IntKind.wrap .i64 (x27 + 1))).2, (l_markIdxS ((x28.getD k3 d_Table).Idxs) ((l_markStringS ((x28.getD k3 d_Table).Cols) (IntKind.wrap .i64 (x27 + 1))).1)).2⟩ : DTable)), rfl, hlt46, (by omega), rfl, rfl, rfl, (OwnR.close (OwnR.mut goodO_Table q66 hm71 (fun k hk => by simp only [InR, or_false] at hk; omega)) (mkO_Table (l := dl51) (h := dh51) (OwnL.mut good_Str h64 hm71 (fun k hk => by simp only [InR, or_false] at hk; omega)) h72 (by omega) (by omega) (by omega))), (Mut.mut (Mut.mut (Mut.only (Mut.ex hf42 hE49) hO59 (by simp only [InR, or_false]; omega)) hm63 (fun k hk => by simp only [InR, or_false] at hk ⊢; omega)) hm71 (fun k hk => by simp only [InR, or_false] at hk ⊢; omega)), (by first | omega | assumption | (simp only [IntKind.wrap_i64] at *; omega)), (loopM.cont hlt46 hB74).symm.trans hI36⟩
  ·refine CW.seq (CW.seq (CW.region (sd rfl (yl_move rfl rfl (sd rfl (yl_move rfl rfl (sd rfl (yl_len Try.un46 rfl rfl (sd rfl (yl_lss rfl rfl rfl (SeqR.done (tn ?_))))))))))))
   refine CW.cond_f rfl (lt_f hlt46) (CW.exit (tx (tx ?_)))
   have hL81 : loopM (B_l_markTableS_0 p_a p_k) (p_a.length - 0) 0 (p_k, p_a) = .done (x27, x28) := hI36.symm.trans (loopM.stop hlt46)
   refine bx (tn (CW.seq (CW.region (sd rfl (yl_move rfl rfl (sd rfl (yl_assign rfl rfl (SeqR.done (tn (CW.ret ?_))))))))))
   refine rr rfl (.cons rfl .nil) ?_
   have hM82 : (l_markTableS p_a p_k) = ((x27, x28)) := by simp only [l_markTableS, hL81, cond_true, cond_false, loopE_done, loopE_ret]
   rw [hM82]
   exact ⟨rfl, hf41, hf42⟩
set_option maxRecDepth 100000 in
set_option maxHeartbeats 2000000 in
theorem c_l_markIntS {A1 : Option Addr} {c1 : Nat} {lo1 hi1 : Nat} {w : World} (p_a : List Int) (p_k : Int) (h1 : OwnL w lo1 hi1 3 1 (RF e_Int) A1 p_a.length c1 p_a) (hrn2 : (0 ≤ lo1 ∧ lo1 ≤ hi1 ∧ hi1 ≤ w.heap.size)) : Cal Try.prog 84 #[.slice A1 p_a.length c1, .int .i64 (p_k)] w fun v w' => v = .int .i64 ((l_markIntS p_a p_k).1) ∧ OwnL w' lo1 hi1 3 1 (RF e_Int) A1 p_a.length c1 ((l_markIntS p_a p_k).2) ∧ Mut [(lo1, hi1)] w w' := by
 refine Cal.of (vs := [.slice A1 p_a.length c1, .int .i64 (p_k)]) Try.func84 rfl Try.ntmps84 rfl (CW.seq (CW.region (sd rfl (yl_assign rfl rfl (SeqR.done (tn (CW.seq (CW.seq (CW.region ?_)))))))))
 refine sd rfl (yl_assign rfl rfl (SeqR.done (tn (CW.block (CW.loop (fun m13 L14 w15 => ∃ (k3 : Nat) (x11 : Int) (x12 : List Int), m13 = p_a.length - k3 ∧ k3 ≤ p_a.length ∧ w.heap.size ≤ w15.heap.size ∧ lkp L14 0 = some (.slice A1 p_a.length c1) ∧ lkp L14 1 = some (.int .i64 (x11)) ∧ lkp L14 5 = some (.int .i64 ((k3 : Int))) ∧ OwnL w15 lo1 hi1 3 1 (RF e_Int) A1 p_a.length c1 x12 ∧ Mut [(lo1, hi1)] w w15 ∧ loopM (B_l_markIntS_0 p_a p_k) (p_a.length - k3) k3 (x11, x12) = loopM (B_l_markIntS_0 p_a p_k) (p_a.length - 0) 0 (p_k, p_a)) (p_a.length - 0) ?_ ?_)))))
 ·exact ⟨0, p_k, p_a, rfl, (by omega), Nat.le_refl _, rfl, rfl, rfl, h1, (Mut.refl (l := [(lo1, hi1)]) w), rfl⟩
 ·rintro m16 L17 w18 ⟨k3, x11, x12, rfl, hk19, hsz21, hl22, hl23, hl24, hf25, hf26, hI20⟩
  refine CW.sub (Sub.cons hl22 (Sub.cons hl23 (Sub.cons hl24 (Sub.nil _)))) ?_
  have hf26z := Mut.size hf26
  have hbg27 := RdS.big (OwnL.rd good_Int hf25)
  rcases Nat.lt_or_ge k3 p_a.length with hlt29 | hlt29
  ·refine CW.seq (CW.seq (CW.region (sd rfl (yl_move rfl rfl (sd rfl (yl_move rfl rfl (sd rfl (yl_len Try.un47 rfl rfl (sd rfl (yl_lss rfl rfl rfl (SeqR.done (tn ?_))))))))))))
   refine CW.cond_t rfl (lt_t hlt29) (CW.skip (tn (CW.seq (CW.block (CW.seq (CW.region (sd rfl (yl_move rfl rfl (sd rfl (yl_move rfl rfl ?_))))))))))
   refine sd rfl (yl_move rfl rfl ?_)
   obtain ⟨eb31, eo31, ec31, eA31, eS31, ebl31, el31, eR31, eC31⟩ := RdS.atD (OwnL.rd good_Int hf25) d_Int (i := k3) (by first | omega | assumption)
   obtain rfl := eR31
   have eC31 : Cells w18 eb31 (eo31 + k3 * 1) [.int .i64 ((x12.getD k3 d_Int))] := eC31
   refine sd rfl (yl_indexAddrN Try.un47 Try.ty3 rfl rfl rfl eA31 (by first | omega | assumption | (simp only [IntKind.wrap_i64] at *; omega)) ?_)
   have hrg32 := OwnL.rng hf25 (i := k3) (by first | omega | assumption | (simp only [IntKind.wrap_i64] at *; omega)) eb31 (by rw [eA31]; rfl)
   refine SeqR.u rfl rfl (yl_storeF (off := eo31) (i := k3) (d := 0) (dx := d_Int) (x' := x11) (vs := [.int .i64 (x11)]) Try.ty3 rfl hf25 eA31 rfl rfl rfl rfl rfl (by first | omega | assumption | (simp only [IntKind.wrap_i64] at *; omega)) (Nat.le_of_ble_eq_true rfl) rfl rfl ?_)
   intro w33 hB34 hO35
   have hO35z := hO35.size
   refine SeqR.done (tn (CW.region (sd rfl (yl_move rfl rfl (sd rfl (yl_add rfl rfl rfl (sd rfl (yl_assign rfl rfl (SeqR.done (bn (tn ?_)))))))))))
   refine CW.region (sd rfl (yl_move rfl rfl (sd rfl (yl_inc rfl rfl rfl (by omega) (sd rfl (yl_assign rfl rfl (SeqR.done (tn ?_))))))))
   have hB36 : B_l_markIntS_0 p_a p_k k3 (x11, x12) = .cont (IntKind.wrap .i64 (x11 + 1), (x12.set k3 x11)) := by simp only [B_l_markIntS_0, cond_true, cond_false, loopE_done, loopE_ret]
   exact ⟨p_a.length - (k3 + 1), by omega, k3 + 1, IntKind.wrap .i64 (x11 + 1), (x12.set k3 x11), rfl, hlt29, (by omega), rfl, rfl, rfl, hB34, (Mut.only hf26 hO35 (by simp only [InR, or_false]; omega)), (loopM.cont hlt29 hB36).symm.trans hI20⟩
  ·refine CW.seq (CW.seq (CW.region (sd rfl (yl_move rfl rfl (sd rfl (yl_move rfl rfl (sd rfl (yl_len Try.un47 rfl rfl (sd rfl (yl_lss rfl rfl rfl (SeqR.done (tn ?_))))))))))))
   refine CW.cond_f rfl (lt_f hlt29) (CW.exit (tx (tx ?_)))
   have hL38 : loopM (B_l_markIntS_0 p_a p_k) (p_a.length - 0) 0 (p_k, p_a) = .done (x11, x12) := hI20.symm.trans (loopM.stop hlt29)
   refine bx (tn (CW.seq (CW.region (sd rfl (yl_move rfl rfl (sd rfl (yl_assign rfl rfl (SeqR.done (tn (CW.ret ?_))))))))))
   refine rr rfl (.cons rfl .nil) ?_
   have hM39 : (l_markIntS p_a p_k) = ((x11, x12)) := by simp only [l_markIntS, hL38, cond_true, cond_false, loopE_done, loopE_ret]
   rw [hM39]
   exact ⟨rfl, hf25, hf26⟩
set_option maxRecDepth 100000 in
set_option maxHeartbeats 2000000 in
theorem c_l_markShift {A1 : Option Addr} {c1 : Nat} {lo1 hi1 : Nat} {A2 : Option Addr} {c2 : Nat} {lo2 hi2 : Nat} {A3 : Option Addr} {c3 : Nat} {lo3 hi3 : Nat} {w : World} (p_a : DShift) (p_k : Int) (h1 : OwnD w lo1 hi1 36 3 RO_Table A1 p_a.Ways.length c1 p_a.Ways) (h2 : OwnL w lo2 hi2 3 1 (RF e_Int) A2 p_a.At.length c2 p_a.At) (h3 : OwnL w lo3 hi3 31 3 (RF e_Write) A3 p_a.Store.length c3 p_a.Store) (hrn4 : (0 ≤ lo1 ∧ lo1 ≤ hi1 ∧ hi1 ≤ w.heap.size)) (hrn5 : (0 ≤ lo2 ∧ lo2 ≤ hi2 ∧ hi2 ≤ w.heap.size)) (hrn6 : (0 ≤ lo3 ∧ lo3 ≤ hi3 ∧ hi3 ≤ w.heap.size)) (hrn7 : (hi1 ≤ lo2 ∨ hi2 ≤ lo1)) (hrn8 : (hi1 ≤ lo3 ∨ hi3 ≤ lo1)) (hrn9 : (hi2 ≤ lo3 ∨ hi3 ≤ lo2)) (pre0 : p_k ≤ 9223372036854775807) : Cal Try.prog 28 #[.agg #[.string (bs (p_a.Name)), .slice A1 p_a.Ways.length c1, .slice A2 p_a.At.length c2, .slice A3 p_a.Store.length c3], .int .i64 (p_k)] w fun v w' => v = .int .i64 ((l_markShift p_a p_k).1) ∧ OwnD w' lo1 hi1 36 3 RO_Table A1 p_a.Ways.length c1 ((l_markShift p_a p_k).2.Ways) ∧ OwnL w' lo2 hi2 3 1 (RF e_Int) A2 p_a.At.length c2 ((l_markShift p_a p_k).2.At) ∧ OwnL w' lo3 hi3 31 3 (RF e_Write) A3 p_a.Store.length c3 ((l_markShift p_a p_k).2.Store) ∧ Mut [(lo1, hi1), (lo2, hi2), (lo3, hi3)] w w' := by
 refine Cal.of (vs := [.agg #[.string (bs (p_a.Name)), .slice A1 p_a.Ways.length c1, .slice A2 p_a.At.length c2, .slice A3 p_a.Store.length c3], .int .i64 (p_k)]) Try.func28 rfl Try.ntmps28 rfl (CW.seq (CW.region (sd rfl (yl_box (cs := [.string (bs (p_a.Name)), .slice A1 p_a.Ways.length c1, .slice A2 p_a.At.length c2, .slice A3 p_a.Store.length c3]) rfl rfl rfl ?_))))
 intro b10 w11 hs12 hz13 hB14 hE15
 refine sd rfl (yl_assign rfl rfl (SeqR.done (tn (CW.seq (CW.region (sd rfl (yl_fieldAddr Try.fd50_1 rfl rfl (sd rfl (yl_load1 Try.ty46 rfl rfl ((hB14.cell 1).trans rfl) (sd rfl (yl_move rfl rfl (sd rfl (yl_call Try.en42 rfl (opvs_cons rfl (opvs_cons rfl opvs_nil)) (Cal.mono (c_l_markTableS p_a.Ways p_k (OwnD.ex goodO_Table h1 hE15) (by omega) (by first | omega | assumption | (simp only [IntKind.wrap_i64] at *; omega))) ?_))))))))))))))
 rintro v18 w17 ⟨rfl, h20, hm19⟩
 have hm19z := Mut.size hm19
 have hrf21 := rf_markTableS p_a.Ways p_k (by first | omega | assumption | (simp only [IntKind.wrap_i64] at *; omega))
 refine sd rfl (yl_assign rfl rfl (SeqR.done (tn (CW.seq (CW.region (sd rfl (yl_fieldAddr Try.fd50_2 rfl rfl ?_)))))))
 have q22 := Box.mut hB14 hm19 (fun k hk => by simp only [InR, or_false] at hk; omega)
 refine sd rfl (yl_load1 Try.ty47 rfl rfl ((q22.cell 2).trans rfl) (sd rfl (yl_move rfl rfl (sd rfl (yl_call Try.en84 rfl (opvs_cons rfl (opvs_cons rfl opvs_nil)) (Cal.mono (c_l_markIntS p_a.At ((l_markTableS p_a.Ways p_k).1) (OwnL.mut good_Int (OwnL.ex good_Int h2 hE15) hm19 (fun k hk => by simp only [InR, or_false] at hk; omega)) (by omega)) ?_))))))
 rintro v26 w25 ⟨rfl, h28, hm27⟩
 have hm27z := Mut.size hm27
 have hrf29 := rf_markIntS p_a.At ((l_markTableS p_a.Ways p_k).1) (by first | omega | assumption | (simp only [IntKind.wrap_i64] at *; omega))
 refine sd rfl (yl_assign rfl rfl (SeqR.done (tn (CW.seq (CW.region (sd rfl (yl_fieldAddr Try.fd50_3 rfl rfl (sd rfl (yl_load1 Try.ty48 rfl rfl (((Box.mut q22 hm27 (fun k hk => by simp only [InR, or_false] at hk; omega)).cell 3).trans rfl) (sd rfl (yl_move rfl rfl (sd rfl (yl_call Try.en27 rfl (opvs_cons rfl (opvs_cons rfl opvs_nil)) (Cal.mono (c_l_markWriteS p_a.Store ((l_markIntS p_a.At ((l_markTableS p_a.Ways p_k).1)).1) (OwnL.mut good_Write (OwnL.mut good_Write (OwnL.ex good_Write h3 hE15) hm19 (fun k hk => by simp only [InR, or_false] at hk; omega)) hm27 (fun k hk => by simp only [InR, or_false] at hk; omega)) (by omega) (by first | omega | assumption | (simp only [IntKind.wrap_i64] at *; omega))) ?_))))))))))))))
 rintro v35 w34 ⟨rfl, h37, hm36⟩
 have hm36z := Mut.size hm36
 have hrf38 := rf_markWriteS p_a.Store ((l_markIntS p_a.At ((l_markTableS p_a.Ways p_k).1)).1) (by first | omega | assumption | (simp only [IntKind.wrap_i64] at *; omega))
 refine sd rfl (yl_assign rfl rfl (SeqR.done (tn (CW.seq (CW.region (sd rfl (yl_move rfl rfl (sd rfl (yl_assign rfl rfl (SeqR.done (tn ?_)))))))))))
 refine CW.ret (rr rfl (.cons rfl .nil) ?_)
 have hM39 : (l_markShift p_a p_k) = (((l_markWriteS p_a.Store ((l_markIntS p_a.At ((l_markTableS p_a.Ways p_k).1)).1)).1, (⟨p_a.Name, (l_markTableS p_a.Ways p_k).2, (l_markIntS p_a.At ((l_markTableS p_a.Ways p_k).1)).2, (l_markWriteS p_a.Store ((l_markIntS p_a.At ((l_markTableS p_a.Ways p_k).1)).1)).2⟩ : DShift))) := by simp only [l_markShift, cond_true, cond_false, loopE_done, loopE_ret]
 rw [hM39]
 exact ⟨rfl, (OwnD.mut goodO_Table (OwnD.mut goodO_Table h20 hm27 (fun k hk => by simp only [InR, or_false] at hk; omega)) hm36 (fun k hk => by simp only [InR, or_false] at hk; omega)), (OwnL.mut good_Int h28 hm36 (fun k hk => by simp only [InR, or_false] at hk; omega)), h37, (Mut.mut (Mut.mut (Mut.mut (Mut.ex (Mut.refl (l := [(lo1, hi1), (lo2, hi2), (lo3, hi3)]) w) hE15) hm19 (fun k hk => by simp only [InR, or_false] at hk ⊢; omega)) hm27 (fun k hk => by simp only [InR, or_false] at hk ⊢; omega)) hm36 (fun k hk => by simp only [InR, or_false] at hk ⊢; omega))⟩
set_option maxRecDepth 100000 in
set_option maxHeartbeats 2000000 in
theorem c_l_heldStringS {A1 : Option Addr} {c1 : Nat} {w : World} (p_a : List Str) (p_k : Int) (h1 : RdS w (Iv 0 w.heap.size) (RF e_Str) 1 A1 p_a.length c1 p_a) (pre0 : p_k ≤ 9223372036854775807) : Cal Try.prog 95 #[.slice A1 p_a.length c1, .int .i64 (p_k)] w fun v w' => v = .int .i64 ((l_heldStringS p_a p_k)) ∧ Ex w w' := by
 refine Cal.of (vs := [.slice A1 p_a.length c1, .int .i64 (p_k)]) Try.func95 rfl Try.ntmps95 rfl (CW.seq (CW.region (sd rfl (yl_assign rfl rfl (SeqR.done (tn (CW.seq (CW.seq (CW.region ?_)))))))))
 refine sd rfl (yl_assign rfl rfl (SeqR.done (tn (CW.block (CW.loop (fun m4 L5 w6 => ∃ (k2 : Nat) (x3 : Int), m4 = p_a.length - k2 ∧ k2 ≤ p_a.length ∧ w.heap.size ≤ w6.heap.size ∧ lkp L5 0 = some (.slice A1 p_a.length c1) ∧ lkp L5 1 = some (.int .i64 (x3)) ∧ lkp L5 5 = some (.int .i64 ((k2 : Int))) ∧ RdS w6 (Iv 0 w.heap.size) (RF e_Str) 1 A1 p_a.length c1 p_a ∧ Ex w w6 ∧ x3 ≤ 9223372036854775807 ∧ loopM (B_l_heldStringS_0 p_a p_k) (p_a.length - k2) k2 (x3) = loopM (B_l_heldStringS_0 p_a p_k) (p_a.length - 0) 0 (p_k)) (p_a.length - 0) ?_ ?_)))))
 ·exact ⟨0, p_k, rfl, (by omega), Nat.le_refl _, rfl, rfl, rfl, h1, (Ex.refl w), (by first | omega | assumption | (simp only [IntKind.wrap_i64] at *; omega)), rfl⟩
 ·rintro m7 L8 w9 ⟨k2, x3, rfl, hk10, hsz12, hl13, hl14, hl15, hf16, hf17, hv18, hI11⟩
  refine CW.sub (Sub.cons hl13 (Sub.cons hl14 (Sub.cons hl15 (Sub.nil _)))) ?_
  have hf17z := Ex.size hf17
  have hbg19 := RdS.big hf16
  rcases Nat.lt_or_ge k2 p_a.length with hlt20 | hlt20
  ·refine CW.seq (CW.seq (CW.region (sd rfl (yl_move rfl rfl (sd rfl (yl_move rfl rfl (sd rfl (yl_len Try.un22 rfl rfl (sd rfl (yl_lss rfl rfl rfl (SeqR.done (tn ?_))))))))))))
   refine CW.cond_t rfl (lt_t hlt20) (CW.skip (tn (CW.seq (CW.block (CW.seq (CW.seq ?_))))))
   obtain ⟨eb21, eo21, ec21, eA21, eS21, ebl21, el21, eR21, eC21⟩ := RdS.atD hf16 d_Str (i := k2) (by first | omega | assumption)
   obtain rfl := eR21
   have eC21 : Cells w9 eb21 (eo21 + k2 * 1) [.string (bs ((p_a.getD k2 d_Str)))] := eC21
   refine CW.drawsI 7 (vgetI [DetI (.slice A1 p_a.length c1), DetI (.int .i64 ((k2 : Int))), DetI (.pointer (some ⟨eb21, eo21 + k2 * 1, none⟩)), DetI (.string (bs ((p_a.getD k2 d_Str)))), DetI (.int .i64 (x3)), DetI (.string (bs ((l_markText x3)))), DetI (.bool (!((p_a.getD k2 d_Str) == (l_markText x3))))]) Try.follows rfl rfl rfl rfl rfl rfl (vgetI_stable ⟨StableI.det _, StableI.det _, StableI.det _, StableI.det _, StableI.det _, StableI.det _, StableI.det _, trivial⟩) ⟨?_, ?_, ?_, ?_, ?_, ?_, ?_, trivial⟩ ?_
   ·exact fun _ _ h => os rfl ((yl_move rfl (h.old 0 _ rfl rfl) kI))
   ·exact fun _ _ h => os rfl ((yl_move rfl (h.old 5 _ rfl rfl) kI))
   ·intro L33 w34 hi35
    have hE36 := hi35.ex
    have hE36z := Ex.size hE36
    exact os rfl ((yl_indexAddrN Try.un22 Try.ty9 rfl (hi35.dt 0 12 rfl rfl rfl) (hi35.dt 1 13 rfl rfl rfl) eA21 (by first | omega | assumption | (simp only [IntKind.wrap_i64] at *; omega)) kI))
   ·exact fun _ _ h => os rfl ((yl_load1 Try.ty9 rfl (h.dt 2 14 rfl rfl rfl) ((Cells.ex eC21 h.ex) 0 _ rfl) kI))
   ·exact fun _ _ h => os rfl ((yl_move rfl (h.old 1 _ rfl rfl) kI))
   ·intro L50 w51 hi52
    have hE53 := hi52.ex
    have hE53z := Ex.size hE53
    refine OpR.op' rfl (yl_call Try.en83 rfl (opvs_cons (hi52.dt 4 16 rfl rfl rfl) opvs_nil) (Cal.mono (c_l_markText x3 (by first | omega | assumption | (simp only [IntKind.wrap_i64] at *; omega))) ?_))
    rintro v56 w55 ⟨rfl, hE57⟩
    exact ⟨rfl, hE57⟩
   ·exact fun _ _ h => os rfl ((yl_sneq (a := (p_a.getD k2 d_Str)) (b := (l_markText x3)) rfl (h.dt 3 15 rfl rfl rfl) (h.dt 5 17 rfl rfl rfl) kI))
   ·intro fl67 fh68 L64 w65 hp66
    have hE69 := hp66.ex
    have hE69z := Ex.size hE69
    refine SeqR.done (tn (CW.sub (Sub.cons (d := 0) (hp66.old 0 _ rfl rfl) (Sub.cons (d := 1) (hp66.old 1 _ rfl rfl) (Sub.cons (d := 5) (hp66.old 5 _ rfl rfl) (Sub.cons (d := 18) (hp66.nt 6 18 rfl rfl rfl) (Sub.nil _))))) (bcase ((p_a.getD k2 d_Str) == (l_markText x3)) (fun hb74 => ?_) (fun hb74 => ?_))))
    ·refine CW.cond_f rfl (not_t hb74) (CW.skip (tn (CW.region (sd rfl (yl_move rfl rfl (sd rfl (yl_add rfl rfl rfl (sd rfl (yl_assign rfl rfl (SeqR.done (bn ?_)))))))))))
     refine tn (CW.region (sd rfl (yl_move rfl rfl (sd rfl (yl_inc rfl rfl rfl (by omega) (sd rfl (yl_assign rfl rfl (SeqR.done (tn ?_)))))))))
     have hB75 : B_l_heldStringS_0 p_a p_k k2 (x3) = .cont (IntKind.wrap .i64 (x3 + 1)) := by simp only [B_l_heldStringS_0, hb74, cond_true, cond_false, loopE_done, loopE_ret]
     exact ⟨p_a.length - (k2 + 1), by omega, k2 + 1, IntKind.wrap .i64 (x3 + 1), rfl, hlt20, (by omega), rfl, rfl, rfl, (RdS.ex good_Str hf16 hE69), (Ex.trans hf17 hE69), (by first | omega | assumption | (simp only [IntKind.wrap_i64] at *; omega)), (loopM.cont hlt20 hB75).symm.trans hI11⟩
    ·refine CW.cond_t rfl (not_f hb74) (CW.seq (CW.region (sd rfl (yl_assign rfl rfl (SeqR.done (tn (CW.ret (tr (br ?_)))))))))
     refine tr (tr ?_)
     have hB79 : B_l_heldStringS_0 p_a p_k k2 (x3) = .ret (-1) := by simp only [B_l_heldStringS_0, hb74, cond_true, cond_false, loopE_done, loopE_ret]
     have hL78 : loopM (B_l_heldStringS_0 p_a p_k) (p_a.length - 0) 0 (p_k) = .ret (-1) := hI11.symm.trans (loopM.ret hlt20 hB79)
     refine br (tr (rr rfl (.cons rfl .nil) ?_))
     have hM80 : (l_heldStringS p_a p_k) = (-1) := by simp only [l_heldStringS, hb74, hL78, cond_true, cond_false, loopE_done, loopE_ret]
     rw [hM80]
     exact ⟨rfl, (Ex.trans hf17 hE69)⟩
  ·refine CW.seq (CW.seq (CW.region (sd rfl (yl_move rfl rfl (sd rfl (yl_move rfl rfl (sd rfl (yl_len Try.un22 rfl rfl (sd rfl (yl_lss rfl rfl rfl (SeqR.done (tn ?_))))))))))))
   refine CW.cond_f rfl (lt_f hlt20) (CW.exit (tx (tx ?_)))
   have hL82 : loopM (B_l_heldStringS_0 p_a p_k) (p_a.length - 0) 0 (p_k) = .done (x3) := hI11.symm.trans (loopM.stop hlt20)
   refine bx (tn (CW.seq (CW.region (sd rfl (yl_move rfl rfl (sd rfl (yl_assign rfl rfl (SeqR.done (tn (CW.ret ?_))))))))))
   refine rr rfl (.cons rfl .nil) ?_
   have hM83 : (l_heldStringS p_a p_k) = (x3) := by simp only [l_heldStringS, hL82, cond_true, cond_false, loopE_done, loopE_ret]
   rw [hM83]
   exact ⟨rfl, hf17⟩
set_option maxRecDepth 100000 in
set_option maxHeartbeats 2000000 in
theorem c_l_heldIdxS {A1 : Option Addr} {c1 : Nat} {w : World} (p_a : List DIdx) (p_k : Int) (h1 : RdS w (Iv 0 w.heap.size) (RF e_Idx) 3 A1 p_a.length c1 p_a) (pre0 : p_k ≤ 9223372036854775807) : Cal Try.prog 96 #[.slice A1 p_a.length c1, .int .i64 (p_k)] w fun v w' => v = .int .i64 ((l_heldIdxS p_a p_k)) ∧ Ex w w' := by
 refine Cal.of (vs := [.slice A1 p_a.length c1, .int .i64 (p_k)]) Try.func96 rfl Try.ntmps96 rfl (CW.seq (CW.region (sd rfl (yl_assign rfl rfl (SeqR.done (tn (CW.seq (CW.seq (CW.region ?_)))))))))
 refine sd rfl (yl_assign rfl rfl (SeqR.done (tn (CW.block (CW.loop (fun m4 L5 w6 => ∃ (k2 : Nat) (x3 : Int), m4 = p_a.length - k2 ∧ k2 ≤ p_a.length ∧ w.heap.size ≤ w6.heap.size ∧ lkp L5 0 = some (.slice A1 p_a.length c1) ∧ lkp L5 1 = some (.int .i64 (x3)) ∧ lkp L5 5 = some (.int .i64 ((k2 : Int))) ∧ RdS w6 (Iv 0 w.heap.size) (RF e_Idx) 3 A1 p_a.length c1 p_a ∧ Ex w w6 ∧ x3 ≤ 9223372036854775807 ∧ loopM (B_l_heldIdxS_0 p_a p_k) (p_a.length - k2) k2 (x3) = loopM (B_l_heldIdxS_0 p_a p_k) (p_a.length - 0) 0 (p_k)) (p_a.length - 0) ?_ ?_)))))
 ·exact ⟨0, p_k, rfl, (by omega), Nat.le_refl _, rfl, rfl, rfl, h1, (Ex.refl w), (by first | omega | assumption | (simp only [IntKind.wrap_i64] at *; omega)), rfl⟩
 ·rintro m7 L8 w9 ⟨k2, x3, rfl, hk10, hsz12, hl13, hl14, hl15, hf16, hf17, hv18, hI11⟩
  refine CW.sub (Sub.cons hl13 (Sub.cons hl14 (Sub.cons hl15 (Sub.nil _)))) ?_
  have hf17z := Ex.size hf17
  have hbg19 := RdS.big hf16
  rcases Nat.lt_or_ge k2 p_a.length with hlt20 | hlt20
  ·refine CW.seq (CW.seq (CW.region (sd rfl (yl_move rfl rfl (sd rfl (yl_move rfl rfl (sd rfl (yl_len Try.un34 rfl rfl (sd rfl (yl_lss rfl rfl rfl (SeqR.done (tn ?_))))))))))))
   refine CW.cond_t rfl (lt_t hlt20) (CW.skip (tn (CW.seq (CW.block (CW.seq (CW.seq ?_))))))
   obtain ⟨eb21, eo21, ec21, eA21, eS21, ebl21, el21, eR21, eC21⟩ := RdS.atD hf16 d_Idx (i := k2) (by first | omega | assumption)
   obtain rfl := eR21
   have eC21 : Cells w9 eb21 (eo21 + k2 * 3) [.string (bs ((p_a.getD k2 d_Idx).Name)), .int .i64 ((p_a.getD k2 d_Idx).Col), .int .i64 ((p_a.getD k2 d_Idx).Stage)] := eC21
   refine CW.drawsI 8 (vgetI [DetI (.slice A1 p_a.length c1), DetI (.int .i64 ((k2 : Int))), DetI (.pointer (some ⟨eb21, eo21 + k2 * 3, none⟩)), DetI (.pointer (some ⟨eb21, eo21 + k2 * 3 + 0, none⟩)), DetI (.string (bs ((p_a.getD k2 d_Idx).Name))), DetI (.int .i64 (x3)), DetI (.string (bs ((l_markText x3)))), DetI (.bool (!(((p_a.getD k2 d_Idx).Name) == (l_markText x3))))]) Try.follows rfl rfl rfl rfl rfl rfl (vgetI_stable ⟨StableI.det _, StableI.det _, StableI.det _, StableI.det _, StableI.det _, StableI.det _, StableI.det _, StableI.det _, trivial⟩) ⟨?_, ?_, ?_, ?_, ?_, ?_, ?_, ?_, trivial⟩ ?_
   ·exact fun _ _ h => os rfl ((yl_move rfl (h.old 0 _ rfl rfl) kI))
   ·exact fun _ _ h => os rfl ((yl_move rfl (h.old 5 _ rfl rfl) kI))
   ·intro L33 w34 hi35
    have hE36 := hi35.ex
    have hE36z := Ex.size hE36
    exact os rfl ((yl_indexAddrN Try.un34 Try.ty171 rfl (hi35.dt 0 12 rfl rfl rfl) (hi35.dt 1 13 rfl rfl rfl) eA21 (by first | omega | assumption | (simp only [IntKind.wrap_i64] at *; omega)) kI))
   ·exact fun _ _ h => os rfl ((yl_fieldAddr Try.fd171_0 rfl (h.dt 2 14 rfl rfl rfl) kI))
   ·exact fun _ _ h => os rfl ((yl_load1 Try.ty9 rfl (h.dt 3 15 rfl rfl rfl) ((Cells.ex eC21 h.ex) 0 _ rfl) kI))
   ·exact fun _ _ h => os rfl ((yl_move rfl (h.old 1 _ rfl rfl) kI))
   ·intro L55 w56 hi57
    have hE58 := hi57.ex
    have hE58z := Ex.size hE58
    refine OpR.op' rfl (yl_call Try.en83 rfl (opvs_cons (hi57.dt 5 17 rfl rfl rfl) opvs_nil) (Cal.mono (c_l_markText x3 (by first | omega | assumption | (simp only [IntKind.wrap_i64] at *; omega))) ?_))
    rintro v61 w60 ⟨rfl, hE62⟩
    exact ⟨rfl, hE62⟩
   ·exact fun _ _ h => os rfl ((yl_sneq (a := ((p_a.getD k2 d_Idx).Name)) (b := (l_markText x3)) rfl (h.dt 4 16 rfl rfl rfl) (h.dt 6 18 rfl rfl rfl) kI))
   ·intro fl72 fh73 L69 w70 hp71
    have hE74 := hp71.ex
    have hE74z := Ex.size hE74
    refine SeqR.done (tn (CW.sub (Sub.cons (d := 0) (hp71.old 0 _ rfl rfl) (Sub.cons (d := 1) (hp71.old 1 _ rfl rfl) (Sub.cons (d := 5) (hp71.old 5 _ rfl rfl) (Sub.cons (d := 19) (hp71.nt 7 19 rfl rfl rfl) (Sub.nil _))))) (bcase (((p_a.getD k2 d_Idx).Name) == (l_markText x3)) (fun hb79 => ?_) (fun hb79 => ?_))))
    ·refine CW.cond_f rfl (not_t hb79) (CW.skip (tn (CW.seq (CW.region (sd rfl (yl_move rfl rfl (sd rfl (yl_add rfl rfl rfl (sd rfl (yl_assign rfl rfl (SeqR.done ?_)))))))))))
     refine tn (CW.seq (CW.seq (CW.region (sd rfl (yl_move rfl rfl (sd rfl (yl_move rfl rfl (sd rfl (yl_indexAddrN Try.un34 Try.ty171 rfl rfl rfl eA21 (by first | omega | assumption | (simp only [IntKind.wrap_i64] at *; omega)) (sd rfl (yl_fieldAddr Try.fd171_1 rfl rfl ?_)))))))))))
     have q80 := Cells.ex eC21 hE74
     refine sd rfl (yl_load1 Try.ty3 rfl rfl (q80 1 _ rfl) (sd rfl (yl_move rfl rfl (sd rfl (yl_neq rfl rfl rfl (SeqR.done (tn (bcase (decide (((p_a.getD k2 d_Idx).Col) = (IntKind.wrap .i64 (x3 + 1)))) (fun hb81 => ?_) (fun hb81 => ?_)))))))))
     ·have hb81p := dec_t hb81
      refine CW.cond_f rfl (not_t hb81) (CW.skip (tn (CW.seq (CW.region (sd rfl (yl_move rfl rfl (sd rfl (yl_add rfl rfl rfl (sd rfl (yl_assign rfl rfl (SeqR.done ?_)))))))))))
      refine tn (CW.seq (CW.seq (CW.region (sd rfl (yl_move rfl rfl (sd rfl (yl_move rfl rfl (sd rfl (yl_indexAddrN Try.un34 Try.ty171 rfl rfl rfl eA21 (by first | omega | assumption | (simp only [IntKind.wrap_i64] at *; omega)) (sd rfl (yl_fieldAddr Try.fd171_2 rfl rfl (sd rfl (yl_load1 Try.ty3 rfl rfl (q80 2 _ rfl) ?_)))))))))))))
      refine sd rfl (yl_move rfl rfl (sd rfl (yl_neq rfl rfl rfl (SeqR.done (tn (bcase (decide (((p_a.getD k2 d_Idx).Stage) = (IntKind.wrap .i64 ((IntKind.wrap .i64 (x3 + 1)) + 1)))) (fun hb82 => ?_) (fun hb82 => ?_)))))))
      ·have hb82p := dec_t hb82
       refine CW.cond_f rfl (not_t hb82) (CW.skip (tn (CW.region (sd rfl (yl_move rfl rfl (sd rfl (yl_add rfl rfl rfl (sd rfl (yl_assign rfl rfl (SeqR.done (bn ?_)))))))))))
       refine tn (CW.region (sd rfl (yl_move rfl rfl (sd rfl (yl_inc rfl rfl rfl (by omega) (sd rfl (yl_assign rfl rfl (SeqR.done (tn ?_)))))))))
       have hB83 : B_l_heldIdxS_0 p_a p_k k2 (x3) = .cont (IntKind.wrap .i64 ((IntKind.wrap .i64 ((IntKind.wrap .i64 (x3 + 1)) + 1)) + 1)) := by simp only [B_l_heldIdxS_0, hb79, hb81, hb82, cond_true, cond_false, loopE_done, loopE_ret]
       exact ⟨p_a.length - (k2 + 1), by omega, k2 + 1, IntKind.wrap .i64 ((IntKind.wrap .i64 ((IntKind.wrap .i64 (x3 + 1)) + 1)) + 1), rfl, hlt20, (by omega), rfl, rfl, rfl, (RdS.ex good_Idx hf16 hE74), (Ex.trans hf17 hE74), (by first | omega | assumption | (simp only [IntKind.wrap_i64] at *; omega)), (loopM.cont hlt20 hB83).symm.trans hI11⟩
      ·have hb82p := dec_f hb82
       refine CW.cond_t rfl (not_f hb82) (CW.seq (CW.region (sd rfl (yl_assign rfl rfl (SeqR.done (tn (CW.ret (tr (br ?_)))))))))
       refine tr (tr ?_)
       have hB87 : B_l_heldIdxS_0 p_a p_k k2 (x3) = .ret (-1) := by simp only [B_l_heldIdxS_0, hb79, hb81, hb82, cond_true, cond_false, loopE_done, loopE_ret]
       have hL86 : loopM (B_l_heldIdxS_0 p_a p_k) (p_a.length - 0) 0 (p_k) = .ret (-1) := hI11.symm.trans (loopM.ret hlt20 hB87)
       refine br (tr (rr rfl (.cons rfl .nil) ?_))
       have hM88 : (l_heldIdxS p_a p_k) = (-1) := by simp only [l_heldIdxS, hb79, hb81, hb82, hL86, cond_true, cond_false, loopE_done, loopE_ret]
       rw [hM88]
       exact ⟨rfl, (Ex.trans hf17 hE74)⟩
     ·have hb81p := dec_f hb81
      refine CW.cond_t rfl (not_f hb81) (CW.seq (CW.region (sd rfl (yl_assign rfl rfl (SeqR.done (tn (CW.ret (tr (br ?_)))))))))
      refine tr (tr ?_)
      have hB91 : B_l_heldIdxS_0 p_a p_k k2 (x3) = .ret (-1) := by simp only [B_l_heldIdxS_0, hb79, hb81, cond_true, cond_false, loopE_done, loopE_ret]
      have hL90 : loopM (B_l_heldIdxS_0 p_a p_k) (p_a.length - 0) 0 (p_k) = .ret (-1) := hI11.symm.trans (loopM.ret hlt20 hB91)
      refine br (tr (rr rfl (.cons rfl .nil) ?_))
      have hM92 : (l_heldIdxS p_a p_k) = (-1) := by simp only [l_heldIdxS, hb79, hb81, hL90, cond_true, cond_false, loopE_done, loopE_ret]
      rw [hM92]
      exact ⟨rfl, (Ex.trans hf17 hE74)⟩
    ·refine CW.cond_t rfl (not_f hb79) (CW.seq (CW.region (sd rfl (yl_assign rfl rfl (SeqR.done (tn (CW.ret (tr (br ?_)))))))))
     refine tr (tr ?_)
     have hB95 : B_l_heldIdxS_0 p_a p_k k2 (x3) = .ret (-1) := by simp only [B_l_heldIdxS_0, hb79, cond_true, cond_false, loopE_done, loopE_ret]
     have hL94 : loopM (B_l_heldIdxS_0 p_a p_k) (p_a.length - 0) 0 (p_k) = .ret (-1) := hI11.symm.trans (loopM.ret hlt20 hB95)
     refine br (tr (rr rfl (.cons rfl .nil) ?_))
     have hM96 : (l_heldIdxS p_a p_k) = (-1) := by simp only [l_heldIdxS, hb79, hL94, cond_true, cond_false, loopE_done, loopE_ret]
     rw [hM96]
     exact ⟨rfl, (Ex.trans hf17 hE74)⟩
  ·refine CW.seq (CW.seq (CW.region (sd rfl (yl_move rfl rfl (sd rfl (yl_move rfl rfl (sd rfl (yl_len Try.un34 rfl rfl (sd rfl (yl_lss rfl rfl rfl (SeqR.done (tn ?_))))))))))))
   refine CW.cond_f rfl (lt_f hlt20) (CW.exit (tx (tx ?_)))
   have hL98 : loopM (B_l_heldIdxS_0 p_a p_k) (p_a.length - 0) 0 (p_k) = .done (x3) := hI11.symm.trans (loopM.stop hlt20)
   refine bx (tn (CW.seq (CW.region (sd rfl (yl_move rfl rfl (sd rfl (yl_assign rfl rfl (SeqR.done (tn (CW.ret ?_))))))))))
   refine rr rfl (.cons rfl .nil) ?_
   have hM99 : (l_heldIdxS p_a p_k) = (x3) := by simp only [l_heldIdxS, hL98, cond_true, cond_false, loopE_done, loopE_ret]
   rw [hM99]
   exact ⟨rfl, hf17⟩
set_option maxRecDepth 100000 in
set_option maxHeartbeats 2000000 in
theorem c_l_heldTableS {A1 : Option Addr} {c1 : Nat} {w : World} (p_a : List DTable) (p_k : Int) (h1 : RdS w (Iv 0 w.heap.size) R_Table 3 A1 p_a.length c1 p_a) (pre0 : p_k ≤ 9223372036854775807) : Cal Try.prog 43 #[.slice A1 p_a.length c1, .int .i64 (p_k)] w fun v w' => v = .int .i64 ((l_heldTableS p_a p_k)) ∧ Ex w w' := by
 refine Cal.of (vs := [.slice A1 p_a.length c1, .int .i64 (p_k)]) Try.func43 rfl Try.ntmps43 rfl (CW.seq (CW.region (sd rfl (yl_assign rfl rfl (SeqR.done (tn (CW.seq (CW.seq (CW.region ?_)))))))))
 refine sd rfl (yl_assign rfl rfl (SeqR.done (tn (CW.block (CW.loop (fun m4 L5 w6 => ∃ (k2 : Nat) (x3 : Int), m4 = p_a.length - k2 ∧ k2 ≤ p_a.length ∧ w.heap.size ≤ w6.heap.size ∧ lkp L5 0 = some (.slice A1 p_a.length c1) ∧ lkp L5 1 = some (.int .i64 (x3)) ∧ lkp L5 5 = some (.int .i64 ((k2 : Int))) ∧ RdS w6 (Iv 0 w.heap.size) R_Table 3 A1 p_a.length c1 p_a ∧ Ex w w6 ∧ x3 ≤ 9223372036854775807 ∧ loopM (B_l_heldTableS_0 p_a p_k) (p_a.length - k2) k2 (x3) = loopM (B_l_heldTableS_0 p_a p_k) (p_a.length - 0) 0 (p_k)) (p_a.length - 0) ?_ ?_)))))
 ·exact ⟨0, p_k, rfl, (by omega), Nat.le_refl _, rfl, rfl, rfl, h1, (Ex.refl w), (by first | omega | assumption | (simp only [IntKind.wrap_i64] at *; omega)), rfl⟩
 ·rintro m7 L8 w9 ⟨k2, x3, rfl, hk10, hsz12, hl13, hl14, hl15, hf16, hf17, hv18, hI11⟩
  refine CW.sub (Sub.cons hl13 (Sub.cons hl14 (Sub.cons hl15 (Sub.nil _)))) ?_
  have hf17z := Ex.size hf17
  have hbg19 := RdS.big hf16
  rcases Nat.lt_or_ge k2 p_a.length with hlt20 | hlt20
  ·refine CW.seq (CW.seq (CW.region (sd rfl (yl_move rfl rfl (sd rfl (yl_move rfl rfl (sd rfl (yl_len Try.un46 rfl rfl (sd rfl (yl_lss rfl rfl rfl (SeqR.done (tn ?_))))))))))))
   refine CW.cond_t rfl (lt_t hlt20) (CW.skip (tn (CW.seq (CW.block (CW.seq (CW.seq ?_))))))
   obtain ⟨eb21, eo21, ec21, eA21, eS21, ebl21, el21, eR21, eC21⟩ := RdS.atD hf16 d_Table (i := k2) (by first | omega | assumption)
   obtain ⟨A22, c22, A23, c23, rfl, h22, h23⟩ := eR21
   have eC21 : Cells w9 eb21 (eo21 + k2 * 3) [.string (bs ((p_a.getD k2 d_Table).Name)), .slice A22 (((p_a.getD k2 d_Table).Cols).length) c22, .slice A23 (((p_a.getD k2 d_Table).Idxs).length) c23] := eC21
   refine CW.drawsI 8 (vgetI [DetI (.slice A1 p_a.length c1), DetI (.int .i64 ((k2 : Int))), DetI (.pointer (some ⟨eb21, eo21 + k2 * 3, none⟩)), DetI (.pointer (some ⟨eb21, eo21 + k2 * 3 + 0, none⟩)), DetI (.string (bs ((p_a.getD k2 d_Table).Name))), DetI (.int .i64 (x3)), DetI (.string (bs ((l_markText x3)))), DetI (.bool (!(((p_a.getD k2 d_Table).Name) == (l_markText x3))))]) Try.follows rfl rfl rfl rfl rfl rfl (vgetI_stable ⟨StableI.det _, StableI.det _, StableI.det _, StableI.det _, StableI.det _, StableI.det _, StableI.det _, StableI.det _, trivial⟩) ⟨?_, ?_, ?_, ?_, ?_, ?_, ?_, ?_, trivial⟩ ?_
   ·exact fun _ _ h => os rfl ((yl_move rfl (h.old 0 _ rfl rfl) kI))
   ·exact fun _ _ h => os rfl ((yl_move rfl (h.old 5 _ rfl rfl) kI))
   ·intro L35 w36 hi37
    have hE38 := hi37.ex
    have hE38z := Ex.size hE38
    exact os rfl ((yl_indexAddrN Try.un46 Try.ty36 rfl (hi37.dt 0 12 rfl rfl rfl) (hi37.dt 1 13 rfl rfl rfl) eA21 (by first | omega | assumption | (simp only [IntKind.wrap_i64] at *; omega)) kI))
   ·exact fun _ _ h => os rfl ((yl_fieldAddr Try.fd36_0 rfl (h.dt 2 14 rfl rfl rfl) kI))
   ·exact fun _ _ h => os rfl ((yl_load1 Try.ty9 rfl (h.dt 3 15 rfl rfl rfl) ((Cells.ex eC21 h.ex) 0 _ rfl) kI))
   ·exact fun _ _ h => os rfl ((yl_move rfl (h.old 1 _ rfl rfl) kI))
   ·intro L57 w58 hi59
    have hE60 := hi59.ex
    have hE60z := Ex.size hE60
    refine OpR.op' rfl (yl_call Try.en83 rfl (opvs_cons (hi59.dt 5 17 rfl rfl rfl) opvs_nil) (Cal.mono (c_l_markText x3 (by first | omega | assumption | (simp only [IntKind.wrap_i64] at *; omega))) ?_))
    rintro v63 w62 ⟨rfl, hE64⟩
    exact ⟨rfl, hE64⟩
   ·exact fun _ _ h => os rfl ((yl_sneq (a := ((p_a.getD k2 d_Table).Name)) (b := (l_markText x3)) rfl (h.dt 4 16 rfl rfl rfl) (h.dt 6 18 rfl rfl rfl) kI))
   ·intro fl74 fh75 L71 w72 hp73
    have hE76 := hp73.ex
    have hE76z := Ex.size hE76
    refine SeqR.done (tn (CW.sub (Sub.cons (d := 0) (hp73.old 0 _ rfl rfl) (Sub.cons (d := 1) (hp73.old 1 _ rfl rfl) (Sub.cons (d := 5) (hp73.old 5 _ rfl rfl) (Sub.cons (d := 19) (hp73.nt 7 19 rfl rfl rfl) (Sub.nil _))))) (bcase (((p_a.getD k2 d_Table).Name) == (l_markText x3)) (fun hb81 => ?_) (fun hb81 => ?_))))
    ·refine CW.cond_f rfl (not_t hb81) (CW.skip (tn (CW.seq (CW.region (sd rfl (yl_move rfl rfl (sd rfl (yl_add rfl rfl rfl (sd rfl (yl_assign rfl rfl (SeqR.done ?_)))))))))))
     refine tn (CW.seq (CW.region (sd rfl (yl_move rfl rfl (sd rfl (yl_move rfl rfl (sd rfl (yl_indexAddrN Try.un46 Try.ty36 rfl rfl rfl eA21 (by first | omega | assumption | (simp only [IntKind.wrap_i64] at *; omega)) (sd rfl (yl_fieldAddr Try.fd36_1 rfl rfl ?_))))))))))
     have q82 := Cells.ex eC21 hE76
     refine sd rfl (yl_load1 Try.ty22 rfl rfl (q82 1 _ rfl) (sd rfl (yl_move rfl rfl (sd rfl (yl_call Try.en95 rfl (opvs_cons rfl (opvs_cons rfl opvs_nil)) (Cal.mono (c_l_heldStringS ((p_a.getD k2 d_Table).Cols) (IntKind.wrap .i64 (x3 + 1)) (RdS.up (RdS.ex good_Str h22 hE76) good_Str) (by first | omega | assumption | (simp only [IntKind.wrap_i64] at *; omega))) ?_))))))
     rintro v85 w84 ⟨rfl, hE86⟩
     have hE86z := Ex.size hE86
     have hrf87 := rf_heldStringS ((p_a.getD k2 d_Table).Cols) (IntKind.wrap .i64 (x3 + 1)) (by first | omega | assumption | (simp only [IntKind.wrap_i64] at *; omega))
     refine sd rfl (yl_assign rfl rfl (SeqR.done (tn (CW.seq (CW.seq (CW.region (sd rfl (yl_move rfl rfl (sd rfl (yl_lss rfl rfl rfl (SeqR.done ?_)))))))))))
     refine tn (bcase (decide ((l_heldStringS ((p_a.getD k2 d_Table).Cols) (IntKind.wrap .i64 (x3 + 1))) < 0)) (fun hb88 => ?_) (fun hb88 => ?_))
     ·have hb88p := dec_t hb88
      refine CW.cond_t rfl hb88 (CW.seq (CW.region (sd rfl (yl_assign rfl rfl (SeqR.done (tn (CW.ret (tr (br ?_)))))))))
      refine tr (tr ?_)
      have hB90 : B_l_heldTableS_0 p_a p_k k2 (x3) = .ret (-1) := by simp only [B_l_heldTableS_0, hb81, hb88, cond_true, cond_false, loopE_done, loopE_ret]
      have hL89 : loopM (B_l_heldTableS_0 p_a p_k) (p_a.length - 0) 0 (p_k) = .ret (-1) := hI11.symm.trans (loopM.ret hlt20 hB90)
      refine br (tr (rr rfl (.cons rfl .nil) ?_))
      have hM91 : (l_heldTableS p_a p_k) = (-1) := by simp only [l_heldTableS, hb81, hb88, hL89, cond_true, cond_false, loopE_done, loopE_ret]
      rw [hM91]
      exact ⟨rfl, (Ex.trans (Ex.trans hf17 hE76) hE86)⟩
     ·have hb88p := dec_f hb88
      refine CW.cond_f rfl hb88 (CW.skip (tn (CW.seq (CW.region (sd rfl (yl_move rfl rfl (sd rfl (yl_move rfl rfl (sd rfl (yl_indexAddrN Try.un46 Try.ty36 rfl rfl rfl eA21 (by first | omega | assumption | (simp only [IntKind.wrap_i64] at *; omega)) (sd rfl (yl_fieldAddr Try.fd36_2 rfl rfl ?_))))))))))))
      refine sd rfl (yl_load1 Try.ty34 rfl rfl ((Cells.ex q82 hE86) 2 _ rfl) (sd rfl (yl_move rfl rfl (sd rfl (yl_call Try.en96 rfl (opvs_cons rfl (opvs_cons rfl opvs_nil)) (Cal.mono (c_l_heldIdxS ((p_a.getD k2 d_Table).Idxs) (l_heldStringS ((p_a.getD k2 d_Table).Cols) (IntKind.wrap .i64 (x3 + 1))) (RdS.up (RdS.ex good_Idx (RdS.ex good_Idx h23 hE76) hE86) good_Idx) (by first | omega | assumption | (simp only [IntKind.wrap_i64] at *; omega))) ?_))))))
      rintro v98 w97 ⟨rfl, hE99⟩
      have hE99z := Ex.size hE99
      have hrf100 := rf_heldIdxS ((p_a.getD k2 d_Table).Idxs) (l_heldStringS ((p_a.getD k2 d_Table).Cols) (IntKind.wrap .i64 (x3 + 1))) (by first | omega | assumption | (simp only [IntKind.wrap_i64] at *; omega))
      refine sd rfl (yl_assign rfl rfl (SeqR.done (tn (CW.seq (CW.region (sd rfl (yl_move rfl rfl (sd rfl (yl_lss rfl rfl rfl (SeqR.done (tn ?_)))))))))))
      refine bcase (decide ((l_heldIdxS ((p_a.getD k2 d_Table).Idxs) (l_heldStringS ((p_a.getD k2 d_Table).Cols) (IntKind.wrap .i64 (x3 + 1)))) < 0)) (fun hb101 => ?_) (fun hb101 => ?_)
      ·have hb101p := dec_t hb101
       refine CW.cond_t rfl hb101 (CW.seq (CW.region (sd rfl (yl_assign rfl rfl (SeqR.done (tn (CW.ret (br (tr ?_)))))))))
       refine tr ?_
       have hB103 : B_l_heldTableS_0 p_a p_k k2 (x3) = .ret (-1) := by simp only [B_l_heldTableS_0, hb81, hb88, hb101, cond_true, cond_false, loopE_done, loopE_ret]
       have hL102 : loopM (B_l_heldTableS_0 p_a p_k) (p_a.length - 0) 0 (p_k) = .ret (-1) := hI11.symm.trans (loopM.ret hlt20 hB103)
       refine br (tr (rr rfl (.cons rfl .nil) ?_))
       have hM104 : (l_heldTableS p_a p_k) = (-1) := by simp only [l_heldTableS, hb81, hb88, hb101, hL102, cond_true, cond_false, loopE_done, loopE_ret]
       rw [hM104]
       exact ⟨rfl, (Ex.trans (Ex.trans (Ex.trans hf17 hE76) hE86) hE99)⟩
      ·have hb101p := dec_f hb101
       refine CW.cond_f rfl hb101 (CW.skip (bn (tn (CW.region (sd rfl (yl_move rfl rfl (sd rfl (yl_inc rfl rfl rfl (by omega) (sd rfl (yl_assign rfl rfl (SeqR.done ?_)))))))))))
       refine tn ?_
       have hB108 : B_l_heldTableS_0 p_a p_k k2 (x3) = .cont ((l_heldIdxS ((p_a.getD k2 d_Table).Idxs) (l_heldStringS ((p_a.getD k2 d_Table).Cols) (IntKind.wrap .i64 (x3 + 1))))) := by simp only [B_l_heldTableS_0, hb81, hb88, hb101, cond_true, cond_false, loopE_done, loopE_ret]
       exact ⟨p_a.length - (k2 + 1), by omega, k2 + 1, (l_heldIdxS ((p_a.getD k2 d_Table).Idxs) (l_heldStringS ((p_a.getD k2 d_Table).Cols) (IntKind.wrap .i64 (x3 + 1)))), rfl, hlt20, (by omega), rfl, rfl, rfl, (RdS.ex good_Table (RdS.ex good_Table (RdS.ex good_Table hf16 hE76) hE86) hE99), (Ex.trans (Ex.trans (Ex.trans hf17 hE76) hE86) hE99), (by first | omega | assumption | (simp only [IntKind.wrap_i64] at *; omega)), (loopM.cont hlt20 hB108).symm.trans hI11⟩
    ·refine CW.cond_t rfl (not_f hb81) (CW.seq (CW.region (sd rfl (yl_assign rfl rfl (SeqR.done (tn (CW.ret (tr (br ?_)))))))))
     refine tr (tr ?_)
     have hB116 : B_l_heldTableS_0 p_a p_k k2 (x3) = .ret (-1) := by simp only [B_l_heldTableS_0, hb81, cond_true, cond_false, loopE_done, loopE_ret]
     have hL115 : loopM (B_l_heldTableS_0 p_a p_k) (p_a.length - 0) 0 (p_k) = .ret (-1) := hI11.symm.trans (loopM.ret hlt20 hB116)
     refine br (tr (rr rfl (.cons rfl .nil) ?_))
     have hM117 : (l_heldTableS p_a p_k) = (-1) := by simp only [l_heldTableS, hb81, hL115, cond_true, cond_false, loopE_done, loopE_ret]
     rw [hM117]
     exact ⟨rfl, (Ex.trans hf17 hE76)⟩
  ·refine CW.seq (CW.seq (CW.region (sd rfl (yl_move rfl rfl (sd rfl (yl_move rfl rfl (sd rfl (yl_len Try.un46 rfl rfl (sd rfl (yl_lss rfl rfl rfl (SeqR.done (tn ?_))))))))))))
   refine CW.cond_f rfl (lt_f hlt20) (CW.exit (tx (tx ?_)))
   have hL119 : loopM (B_l_heldTableS_0 p_a p_k) (p_a.length - 0) 0 (p_k) = .done (x3) := hI11.symm.trans (loopM.stop hlt20)
   refine bx (tn (CW.seq (CW.region (sd rfl (yl_move rfl rfl (sd rfl (yl_assign rfl rfl (SeqR.done (tn (CW.ret ?_))))))))))
   refine rr rfl (.cons rfl .nil) ?_
   have hM120 : (l_heldTableS p_a p_k) = (x3) := by simp only [l_heldTableS, hL119, cond_true, cond_false, loopE_done, loopE_ret]
   rw [hM120]
   exact ⟨rfl, hf17⟩
set_option maxRecDepth 100000 in
set_option maxHeartbeats 2000000 in
theorem c_l_heldIntS {A1 : Option Addr} {c1 : Nat} {w : World} (p_a : List Int) (p_k : Int) (h1 : RdS w (Iv 0 w.heap.size) (RF e_Int) 1 A1 p_a.length c1 p_a) : Cal Try.prog 85 #[.slice A1 p_a.length c1, .int .i64 (p_k)] w fun v w' => v = .int .i64 ((l_heldIntS p_a p_k)) ∧ Ex w w' := by
 refine Cal.of (vs := [.slice A1 p_a.length c1, .int .i64 (p_k)]) Try.func85 rfl Try.ntmps85 rfl (CW.seq (CW.region (sd rfl (yl_assign rfl rfl (SeqR.done (tn (CW.seq (CW.seq (CW.region ?_)))))))))
 refine sd rfl (yl_assign rfl rfl (SeqR.done (tn (CW.block (CW.loop (fun m4 L5 w6 => ∃ (k2 : Nat) (x3 : Int), m4 = p_a.length - k2 ∧ k2 ≤ p_a.length ∧ w.heap.size ≤ w6.heap.size ∧ lkp L5 0 = some (.slice A1 p_a.length c1) ∧ lkp L5 1 = some (.int .i64 (x3)) ∧ lkp L5 5 = some (.int .i64 ((k2 : Int))) ∧ RdS w6 (Iv 0 w.heap.size) (RF e_Int) 1 A1 p_a.length c1 p_a ∧ Ex w w6 ∧ loopM (B_l_heldIntS_0 p_a p_k) (p_a.length - k2) k2 (x3) = loopM (B_l_heldIntS_0 p_a p_k) (p_a.length - 0) 0 (p_k)) (p_a.length - 0) ?_ ?_)))))
 ·exact ⟨0, p_k, rfl, (by omega), Nat.le_refl _, rfl, rfl, rfl, h1, (Ex.refl w), rfl⟩
 ·rintro m7 L8 w9 ⟨k2, x3, rfl, hk10, hsz12, hl13, hl14, hl15, hf16, hf17, hI11⟩
  refine CW.sub (Sub.cons hl13 (Sub.cons hl14 (Sub.cons hl15 (Sub.nil _)))) ?_
  have hf17z := Ex.size hf17
  have hbg18 := RdS.big hf16
  rcases Nat.lt_or_ge k2 p_a.length with hlt19 | hlt19
  ·refine CW.seq (CW.seq (CW.region (sd rfl (yl_move rfl rfl (sd rfl (yl_move rfl rfl (sd rfl (yl_len Try.un47 rfl rfl (sd rfl (yl_lss rfl rfl rfl (SeqR.done (tn ?_))))))))))))
   refine CW.cond_t rfl (lt_t hlt19) (CW.skip (tn (CW.seq (CW.block (CW.seq (CW.seq (CW.region (sd rfl (yl_move rfl rfl ?_)))))))))
   refine sd rfl (yl_move rfl rfl ?_)
   obtain ⟨eb20, eo20, ec20, eA20, eS20, ebl20, el20, eR20, eC20⟩ := RdS.atD hf16 d_Int (i := k2) (by first | omega | assumption)
   obtain rfl := eR20
   have eC20 : Cells w9 eb20 (eo20 + k2 * 1) [.int .i64 ((p_a.getD k2 d_Int))] := eC20
   refine sd rfl (yl_indexAddrN Try.un47 Try.ty3 rfl rfl rfl eA20 (by first | omega | assumption | (simp only [IntKind.wrap_i64] at *; omega)) (sd rfl (yl_load1 Try.ty3 rfl rfl (eC20 0 _ rfl) (sd rfl (yl_move rfl rfl (sd rfl (yl_neq rfl rfl rfl (SeqR.done (tn (bcase (decide ((p_a.getD k2 d_Int) = x3)) (fun hb21 => ?_) (fun hb21 => ?_)))))))))))
   ·have hb21p := dec_t hb21
    refine CW.cond_f rfl (not_t hb21) (CW.skip (tn (CW.region (sd rfl (yl_move rfl rfl (sd rfl (yl_add rfl rfl rfl (sd rfl (yl_assign rfl rfl (SeqR.done (bn ?_)))))))))))
    refine tn (CW.region (sd rfl (yl_move rfl rfl (sd rfl (yl_inc rfl rfl rfl (by omega) (sd rfl (yl_assign rfl rfl (SeqR.done (tn ?_)))))))))
    have hB22 : B_l_heldIntS_0 p_a p_k k2 (x3) = .cont (IntKind.wrap .i64 (x3 + 1)) := by simp only [B_l_heldIntS_0, hb21, cond_true, cond_false, loopE_done, loopE_ret]
    exact ⟨p_a.length - (k2 + 1), by omega, k2 + 1, IntKind.wrap .i64 (x3 + 1), rfl, hlt19, (by omega), rfl, rfl, rfl, hf16, hf17, (loopM.cont hlt19 hB22).symm.trans hI11⟩
   ·have hb21p := dec_f hb21
    refine CW.cond_t rfl (not_f hb21) (CW.seq (CW.region (sd rfl (yl_assign rfl rfl (SeqR.done (tn (CW.ret (tr (br ?_)))))))))
    refine tr (tr ?_)
    have hB24 : B_l_heldIntS_0 p_a p_k k2 (x3) = .ret (-1) := by simp only [B_l_heldIntS_0, hb21, cond_true, cond_false, loopE_done, loopE_ret]
    have hL23 : loopM (B_l_heldIntS_0 p_a p_k) (p_a.length - 0) 0 (p_k) = .ret (-1) := hI11.symm.trans (loopM.ret hlt19 hB24)
    refine br (tr (rr rfl (.cons rfl .nil) ?_))
    have hM25 : (l_heldIntS p_a p_k) = (-1) := by simp only [l_heldIntS, hb21, hL23, cond_true, cond_false, loopE_done, loopE_ret]
    rw [hM25]
    exact ⟨rfl, hf17⟩
  ·refine CW.seq (CW.seq (CW.region (sd rfl (yl_move rfl rfl (sd rfl (yl_move rfl rfl (sd rfl (yl_len Try.un47 rfl rfl (sd rfl (yl_lss rfl rfl rfl (SeqR.done (tn ?_))))))))))))
   refine CW.cond_f rfl (lt_f hlt19) (CW.exit (tx (tx ?_)))
   have hL26 : loopM (B_l_heldIntS_0 p_a p_k) (p_a.length - 0) 0 (p_k) = .done (x3) := hI11.symm.trans (loopM.stop hlt19)
   refine bx (tn (CW.seq (CW.region (sd rfl (yl_move rfl rfl (sd rfl (yl_assign rfl rfl (SeqR.done (tn (CW.ret ?_))))))))))
   refine rr rfl (.cons rfl .nil) ?_
   have hM27 : (l_heldIntS p_a p_k) = (x3) := by simp only [l_heldIntS, hL26, cond_true, cond_false, loopE_done, loopE_ret]
   rw [hM27]
   exact ⟨rfl, hf17⟩
set_option maxRecDepth 100000 in
set_option maxHeartbeats 2000000 in
theorem c_l_heldWriteS {A1 : Option Addr} {c1 : Nat} {w : World} (p_a : List DWrite) (p_k : Int) (h1 : RdS w (Iv 0 w.heap.size) (RF e_Write) 3 A1 p_a.length c1 p_a) (pre0 : p_k ≤ 9223372036854775807) : Cal Try.prog 86 #[.slice A1 p_a.length c1, .int .i64 (p_k)] w fun v w' => v = .int .i64 ((l_heldWriteS p_a p_k)) ∧ Ex w w' := by
 refine Cal.of (vs := [.slice A1 p_a.length c1, .int .i64 (p_k)]) Try.func86 rfl Try.ntmps86 rfl (CW.seq (CW.region (sd rfl (yl_assign rfl rfl (SeqR.done (tn (CW.seq (CW.seq (CW.region ?_)))))))))
 refine sd rfl (yl_assign rfl rfl (SeqR.done (tn (CW.block (CW.loop (fun m4 L5 w6 => ∃ (k2 : Nat) (x3 : Int), m4 = p_a.length - k2 ∧ k2 ≤ p_a.length ∧ w.heap.size ≤ w6.heap.size ∧ lkp L5 0 = some (.slice A1 p_a.length c1) ∧ lkp L5 1 = some (.int .i64 (x3)) ∧ lkp L5 5 = some (.int .i64 ((k2 : Int))) ∧ RdS w6 (Iv 0 w.heap.size) (RF e_Write) 3 A1 p_a.length c1 p_a ∧ Ex w w6 ∧ x3 ≤ 9223372036854775807 ∧ loopM (B_l_heldWriteS_0 p_a p_k) (p_a.length - k2) k2 (x3) = loopM (B_l_heldWriteS_0 p_a p_k) (p_a.length - 0) 0 (p_k)) (p_a.length - 0) ?_ ?_)))))
 ·exact ⟨0, p_k, rfl, (by omega), Nat.le_refl _, rfl, rfl, rfl, h1, (Ex.refl w), (by first | omega | assumption | (simp only [IntKind.wrap_i64] at *; omega)), rfl⟩
 ·rintro m7 L8 w9 ⟨k2, x3, rfl, hk10, hsz12, hl13, hl14, hl15, hf16, hf17, hv18, hI11⟩
  refine CW.sub (Sub.cons hl13 (Sub.cons hl14 (Sub.cons hl15 (Sub.nil _)))) ?_
  have hf17z := Ex.size hf17
  have hbg19 := RdS.big hf16
  rcases Nat.lt_or_ge k2 p_a.length with hlt20 | hlt20
  ·refine CW.seq (CW.seq (CW.region (sd rfl (yl_move rfl rfl (sd rfl (yl_move rfl rfl (sd rfl (yl_len Try.un48 rfl rfl (sd rfl (yl_lss rfl rfl rfl (SeqR.done (tn ?_))))))))))))
   refine CW.cond_t rfl (lt_t hlt20) (CW.skip (tn (CW.seq (CW.block (CW.seq (CW.seq ?_))))))
   obtain ⟨eb21, eo21, ec21, eA21, eS21, ebl21, el21, eR21, eC21⟩ := RdS.atD hf16 d_Write (i := k2) (by first | omega | assumption)
   obtain rfl := eR21
   have eC21 : Cells w9 eb21 (eo21 + k2 * 3) [.string (bs ((p_a.getD k2 d_Write).Key)), .string (bs ((p_a.getD k2 d_Write).Val)), .bool ((p_a.getD k2 d_Write).Gone)] := eC21
   refine CW.drawsI 8 (vgetI [DetI (.slice A1 p_a.length c1), DetI (.int .i64 ((k2 : Int))), DetI (.pointer (some ⟨eb21, eo21 + k2 * 3, none⟩)), DetI (.pointer (some ⟨eb21, eo21 + k2 * 3 + 0, none⟩)), DetI (.string (bs ((p_a.getD k2 d_Write).Key))), DetI (.int .i64 (x3)), DetI (.string (bs ((l_markText x3)))), DetI (.bool (!(((p_a.getD k2 d_Write).Key) == (l_markText x3))))]) Try.follows rfl rfl rfl rfl rfl rfl (vgetI_stable ⟨StableI.det _, StableI.det _, StableI.det _, StableI.det _, StableI.det _, StableI.det _, StableI.det _, StableI.det _, trivial⟩) ⟨?_, ?_, ?_, ?_, ?_, ?_, ?_, ?_, trivial⟩ ?_
   ·exact fun _ _ h => os rfl ((yl_move rfl (h.old 0 _ rfl rfl) kI))
   ·exact fun _ _ h => os rfl ((yl_move rfl (h.old 5 _ rfl rfl) kI))
   ·intro L33 w34 hi35
    have hE36 := hi35.ex
    have hE36z := Ex.size hE36
    exact os rfl ((yl_indexAddrN Try.un48 Try.ty31 rfl (hi35.dt 0 12 rfl rfl rfl) (hi35.dt 1 13 rfl rfl rfl) eA21 (by first | omega | assumption | (simp only [IntKind.wrap_i64] at *; omega)) kI))
   ·exact fun _ _ h => os rfl ((yl_fieldAddr Try.fd31_0 rfl (h.dt 2 14 rfl rfl rfl) kI))
   ·exact fun _ _ h => os rfl ((yl_load1 Try.ty9 rfl (h.dt 3 15 rfl rfl rfl) ((Cells.ex eC21 h.ex) 0 _ rfl) kI))
   ·exact fun _ _ h => os rfl ((yl_move rfl (h.old 1 _ rfl rfl) kI))
   ·intro L55 w56 hi57
    have hE58 := hi57.ex
    have hE58z := Ex.size hE58
    refine OpR.op' rfl (yl_call Try.en83 rfl (opvs_cons (hi57.dt 5 17 rfl rfl rfl) opvs_nil) (Cal.mono (c_l_markText x3 (by first | omega | assumption | (simp only [IntKind.wrap_i64] at *; omega))) ?_))
    rintro v61 w60 ⟨rfl, hE62⟩
    exact ⟨rfl, hE62⟩
   ·exact fun _ _ h => os rfl ((yl_sneq (a := ((p_a.getD k2 d_Write).Key)) (b := (l_markText x3)) rfl (h.dt 4 16 rfl rfl rfl) (h.dt 6 18 rfl rfl rfl) kI))
   ·intro fl72 fh73 L69 w70 hp71
    have hE74 := hp71.ex
    have hE74z := Ex.size hE74
    refine SeqR.done (tn (CW.sub (Sub.cons (d := 0) (hp71.old 0 _ rfl rfl) (Sub.cons (d := 1) (hp71.old 1 _ rfl rfl) (Sub.cons (d := 5) (hp71.old 5 _ rfl rfl) (Sub.cons (d := 19) (hp71.nt 7 19 rfl rfl rfl) (Sub.nil _))))) (bcase (((p_a.getD k2 d_Write).Key) == (l_markText x3)) (fun hb79 => ?_) (fun hb79 => ?_))))
    ·refine CW.cond_f rfl (not_t hb79) (CW.skip (tn (CW.seq (CW.region (sd rfl (yl_move rfl rfl (sd rfl (yl_add rfl rfl rfl (sd rfl (yl_assign rfl rfl (SeqR.done ?_)))))))))))
     refine tn (CW.seq (CW.seq ?_))
     have q80 := Cells.ex eC21 hE74
     refine CW.drawsI 8 (vgetI [DetI (.slice A1 p_a.length c1), DetI (.int .i64 ((k2 : Int))), DetI (.pointer (some ⟨eb21, eo21 + k2 * 3, none⟩)), DetI (.pointer (some ⟨eb21, eo21 + k2 * 3 + 1, none⟩)), DetI (.string (bs ((p_a.getD k2 d_Write).Val))), DetI (.int .i64 (IntKind.wrap .i64 (x3 + 1))), DetI (.string (bs ((l_markText (IntKind.wrap .i64 (x3 + 1)))))), DetI (.bool (!(((p_a.getD k2 d_Write).Val) == (l_markText (IntKind.wrap .i64 (x3 + 1))))))]) Try.follows rfl rfl rfl rfl rfl rfl (vgetI_stable ⟨StableI.det _, StableI.det _, StableI.det _, StableI.det _, StableI.det _, StableI.det _, StableI.det _, StableI.det _, trivial⟩) ⟨?_, ?_, ?_, ?_, ?_, ?_, ?_, ?_, trivial⟩ ?_
     ·exact fun _ _ h => os rfl ((yl_move rfl (h.old 0 _ rfl rfl) kI))
     ·exact fun _ _ h => os rfl ((yl_move rfl (h.old 5 _ rfl rfl) kI))
     ·intro L92 w93 hi94
      have hE95 := hi94.ex
      have hE95z := Ex.size hE95
      exact os rfl ((yl_indexAddrN Try.un48 Try.ty31 rfl (hi94.dt 0 22 rfl rfl rfl) (hi94.dt 1 23 rfl rfl rfl) eA21 (by first | omega | assumption | (simp only [IntKind.wrap_i64] at *; omega)) kI))
     ·exact fun _ _ h => os rfl ((yl_fieldAddr Try.fd31_1 rfl (h.dt 2 24 rfl rfl rfl) kI))
     ·exact fun _ _ h => os rfl ((yl_load1 Try.ty9 rfl (h.dt 3 25 rfl rfl rfl) ((Cells.ex q80 h.ex) 1 _ rfl) kI))
     ·exact fun _ _ h => os rfl ((yl_move rfl (h.old 1 _ rfl rfl) kI))
     ·intro L114 w115 hi116
      have hE117 := hi116.ex
      have hE117z := Ex.size hE117
      refine OpR.op' rfl (yl_call Try.en83 rfl (opvs_cons (hi116.dt 5 27 rfl rfl rfl) opvs_nil) (Cal.mono (c_l_markText (IntKind.wrap .i64 (x3 + 1)) (by first | omega | assumption | (simp only [IntKind.wrap_i64] at *; omega))) ?_))
      rintro v120 w119 ⟨rfl, hE121⟩
      exact ⟨rfl, hE121⟩
     ·exact fun _ _ h => os rfl ((yl_sneq (a := ((p_a.getD k2 d_Write).Val)) (b := (l_markText (IntKind.wrap .i64 (x3 + 1)))) rfl (h.dt 4 26 rfl rfl rfl) (h.dt 6 28 rfl rfl rfl) kI))
     ·intro fl131 fh132 L128 w129 hp130
      have hE133 := hp130.ex
      have hE133z := Ex.size hE133
      refine SeqR.done (tn (CW.sub (Sub.cons (d := 0) (hp130.old 0 _ rfl rfl) (Sub.cons (d := 1) (hp130.old 1 _ rfl rfl) (Sub.cons (d := 5) (hp130.old 5 _ rfl rfl) (Sub.cons (d := 29) (hp130.nt 7 29 rfl rfl rfl) (Sub.nil _))))) (bcase (((p_a.getD k2 d_Write).Val) == (l_markText (IntKind.wrap .i64 (x3 + 1)))) (fun hb138 => ?_) (fun hb138 => ?_))))
      ·refine CW.cond_f rfl (not_t hb138) (CW.skip (tn (CW.seq (CW.region (sd rfl (yl_move rfl rfl (sd rfl (yl_add rfl rfl rfl (sd rfl (yl_assign rfl rfl (SeqR.done ?_)))))))))))
       refine tn (CW.seq (CW.seq (CW.region (sd rfl (yl_move rfl rfl (sd rfl (yl_move rfl rfl (sd rfl (yl_indexAddrN Try.un48 Try.ty31 rfl rfl rfl eA21 (by first | omega | assumption | (simp only [IntKind.wrap_i64] at *; omega)) (sd rfl (yl_fieldAddr Try.fd31_2 rfl rfl (sd rfl (yl_load1 Try.ty4 rfl rfl ((Cells.ex q80 hE133) 2 _ rfl) ?_)))))))))))))
       refine sd rfl (yl_move rfl rfl (sd rfl (yl_rem rfl rfl rfl (by decide) (sd rfl (yl_eql rfl rfl rfl (sd rfl (yl_bneq Try.un4 rfl rfl rfl (SeqR.done (tn (bcase (((p_a.getD k2 d_Write).Gone) == (decide ((Int.tmod (IntKind.wrap .i64 ((IntKind.wrap .i64 (x3 + 1)) + 1)) 3) = 0))) (fun hb140 => ?_) (fun hb140 => ?_)))))))))))
       ·refine CW.cond_f rfl (not_t hb140) (CW.skip (tn (CW.region (sd rfl (yl_move rfl rfl (sd rfl (yl_add rfl rfl rfl (sd rfl (yl_assign rfl rfl (SeqR.done (bn ?_)))))))))))
        refine tn (CW.region (sd rfl (yl_move rfl rfl (sd rfl (yl_inc rfl rfl rfl (by omega) (sd rfl (yl_assign rfl rfl (SeqR.done (tn ?_)))))))))
        have hB141 : B_l_heldWriteS_0 p_a p_k k2 (x3) = .cont (IntKind.wrap .i64 ((IntKind.wrap .i64 ((IntKind.wrap .i64 (x3 + 1)) + 1)) + 1)) := by simp only [B_l_heldWriteS_0, hb79, hb138, hb140, cond_true, cond_false, loopE_done, loopE_ret]
        exact ⟨p_a.length - (k2 + 1), by omega, k2 + 1, IntKind.wrap .i64 ((IntKind.wrap .i64 ((IntKind.wrap .i64 (x3 + 1)) + 1)) + 1), rfl, hlt20, (by omega), rfl, rfl, rfl, (RdS.ex good_Write (RdS.ex good_Write hf16 hE74) hE133), (Ex.trans (Ex.trans hf17 hE74) hE133), (by first | omega | assumption | (simp only [IntKind.wrap_i64] at *; omega)), (loopM.cont hlt20 hB141).symm.trans hI11⟩
       ·refine CW.cond_t rfl (not_f hb140) (CW.seq (CW.region (sd rfl (yl_assign rfl rfl (SeqR.done (tn (CW.ret (tr (br ?_)))))))))
        refine tr (tr ?_)
        have hB147 : B_l_heldWriteS_0 p_a p_k k2 (x3) = .ret (-1) := by simp only [B_l_heldWriteS_0, hb79, hb138, hb140, cond_true, cond_false, loopE_done, loopE_ret]
        have hL146 : loopM (B_l_heldWriteS_0 p_a p_k) (p_a.length - 0) 0 (p_k) = .ret (-1) := hI11.symm.trans (loopM.ret hlt20 hB147)
        refine br (tr (rr rfl (.cons rfl .nil) ?_))
        have hM148 : (l_heldWriteS p_a p_k) = (-1) := by simp only [l_heldWriteS, hb79, hb138, hb140, hL146, cond_true, cond_false, loopE_done, loopE_ret]
        rw [hM148]
        exact ⟨rfl, (Ex.trans (Ex.trans hf17 hE74) hE133)⟩
      ·refine CW.cond_t rfl (not_f hb138) (CW.seq (CW.region (sd rfl (yl_assign rfl rfl (SeqR.done (tn (CW.ret (tr (br ?_)))))))))
       refine tr (tr ?_)
       have hB152 : B_l_heldWriteS_0 p_a p_k k2 (x3) = .ret (-1) := by simp only [B_l_heldWriteS_0, hb79, hb138, cond_true, cond_false, loopE_done, loopE_ret]
       have hL151 : loopM (B_l_heldWriteS_0 p_a p_k) (p_a.length - 0) 0 (p_k) = .ret (-1) := hI11.symm.trans (loopM.ret hlt20 hB152)
       refine br (tr (rr rfl (.cons rfl .nil) ?_))
       have hM153 : (l_heldWriteS p_a p_k) = (-1) := by simp only [l_heldWriteS, hb79, hb138, hL151, cond_true, cond_false, loopE_done, loopE_ret]
       rw [hM153]
       exact ⟨rfl, (Ex.trans (Ex.trans hf17 hE74) hE133)⟩
    ·refine CW.cond_t rfl (not_f hb79) (CW.seq (CW.region (sd rfl (yl_assign rfl rfl (SeqR.done (tn (CW.ret (tr (br ?_)))))))))
     refine tr (tr ?_)
     have hB157 : B_l_heldWriteS_0 p_a p_k k2 (x3) = .ret (-1) := by simp only [B_l_heldWriteS_0, hb79, cond_true, cond_false, loopE_done, loopE_ret]
     have hL156 : loopM (B_l_heldWriteS_0 p_a p_k) (p_a.length - 0) 0 (p_k) = .ret (-1) := hI11.symm.trans (loopM.ret hlt20 hB157)
     refine br (tr (rr rfl (.cons rfl .nil) ?_))
     have hM158 : (l_heldWriteS p_a p_k) = (-1) := by simp only [l_heldWriteS, hb79, hL156, cond_true, cond_false, loopE_done, loopE_ret]
     rw [hM158]
     exact ⟨rfl, (Ex.trans hf17 hE74)⟩
  ·refine CW.seq (CW.seq (CW.region (sd rfl (yl_move rfl rfl (sd rfl (yl_move rfl rfl (sd rfl (yl_len Try.un48 rfl rfl (sd rfl (yl_lss rfl rfl rfl (SeqR.done (tn ?_))))))))))))
   refine CW.cond_f rfl (lt_f hlt20) (CW.exit (tx (tx ?_)))
   have hL160 : loopM (B_l_heldWriteS_0 p_a p_k) (p_a.length - 0) 0 (p_k) = .done (x3) := hI11.symm.trans (loopM.stop hlt20)
   refine bx (tn (CW.seq (CW.region (sd rfl (yl_move rfl rfl (sd rfl (yl_assign rfl rfl (SeqR.done (tn (CW.ret ?_))))))))))
   refine rr rfl (.cons rfl .nil) ?_
   have hM161 : (l_heldWriteS p_a p_k) = (x3) := by simp only [l_heldWriteS, hL160, cond_true, cond_false, loopE_done, loopE_ret]
   rw [hM161]
   exact ⟨rfl, hf17⟩
set_option maxRecDepth 100000 in
set_option maxHeartbeats 2000000 in
theorem c_l_heldShift {A1 : Option Addr} {c1 : Nat} {A2 : Option Addr} {c2 : Nat} {A3 : Option Addr} {c3 : Nat} {w : World} (p_a : DShift) (p_k : Int) (h1 : RdS w (Iv 0 w.heap.size) R_Table 3 A1 p_a.Ways.length c1 p_a.Ways) (h2 : RdS w (Iv 0 w.heap.size) (RF e_Int) 1 A2 p_a.At.length c2 p_a.At) (h3 : RdS w (Iv 0 w.heap.size) (RF e_Write) 3 A3 p_a.Store.length c3 p_a.Store) (pre0 : p_k ≤ 9223372036854775807) : Cal Try.prog 29 #[.agg #[.string (bs (p_a.Name)), .slice A1 p_a.Ways.length c1, .slice A2 p_a.At.length c2, .slice A3 p_a.Store.length c3], .int .i64 (p_k)] w fun v w' => v = .int .i64 ((l_heldShift p_a p_k)) ∧ Ex w w' := by
 refine Cal.of (vs := [.agg #[.string (bs (p_a.Name)), .slice A1 p_a.Ways.length c1, .slice A2 p_a.At.length c2, .slice A3 p_a.Store.length c3], .int .i64 (p_k)]) Try.func29 rfl Try.ntmps29 rfl (CW.seq (CW.region (sd rfl (yl_box (cs := [.string (bs (p_a.Name)), .slice A1 p_a.Ways.length c1, .slice A2 p_a.At.length c2, .slice A3 p_a.Store.length c3]) rfl rfl rfl ?_))))
 intro b4 w5 hs6 hz7 hB8 hE9
 refine sd rfl (yl_assign rfl rfl (SeqR.done (tn (CW.seq (CW.region (sd rfl (yl_fieldAddr Try.fd50_1 rfl rfl (sd rfl (yl_load1 Try.ty46 rfl rfl ((hB8.cell 1).trans rfl) (sd rfl (yl_move rfl rfl (sd rfl (yl_call Try.en43 rfl (opvs_cons rfl (opvs_cons rfl opvs_nil)) (Cal.mono (c_l_heldTableS p_a.Ways p_k (RdS.up (RdS.ex good_Table h1 hE9) good_Table) (by first | omega | assumption | (simp only [IntKind.wrap_i64] at *; omega))) ?_))))))))))))))
 rintro v12 w11 ⟨rfl, hE13⟩
 have hE13z := Ex.size hE13
 have hrf14 := rf_heldTableS p_a.Ways p_k (by first | omega | assumption | (simp only [IntKind.wrap_i64] at *; omega))
 refine sd rfl (yl_assign rfl rfl (SeqR.done (tn (CW.seq (CW.seq (CW.region (sd rfl (yl_move rfl rfl (sd rfl (yl_lss rfl rfl rfl (SeqR.done ?_)))))))))))
 refine tn (bcase (decide ((l_heldTableS p_a.Ways p_k) < 0)) (fun hb15 => ?_) (fun hb15 => ?_))
 ·have hb15p := dec_t hb15
  refine CW.cond_t rfl hb15 (CW.seq (CW.region (sd rfl (yl_assign rfl rfl (SeqR.done (tn (CW.ret (tr (rr rfl (.cons rfl .nil) ?_)))))))))
  have hM16 : (l_heldShift p_a p_k) = (-1) := by simp only [l_heldShift, hb15, cond_true, cond_false, loopE_done, loopE_ret]
  rw [hM16]
  exact ⟨rfl, (Ex.trans (Ex.trans (Ex.refl w) hE9) hE13)⟩
 ·have hb15p := dec_f hb15
  refine CW.cond_f rfl hb15 (CW.skip (tn (CW.seq (CW.region (sd rfl (yl_fieldAddr Try.fd50_2 rfl rfl ?_))))))
  have q19 := Box.ex hB8 hE13
  refine sd rfl (yl_load1 Try.ty47 rfl rfl ((q19.cell 2).trans rfl) (sd rfl (yl_move rfl rfl (sd rfl (yl_call Try.en85 rfl (opvs_cons rfl (opvs_cons rfl opvs_nil)) (Cal.mono (c_l_heldIntS p_a.At (l_heldTableS p_a.Ways p_k) (RdS.up (RdS.ex good_Int (RdS.ex good_Int h2 hE9) hE13) good_Int)) ?_))))))
  rintro v23 w22 ⟨rfl, hE24⟩
  have hE24z := Ex.size hE24
  have hrf25 := rf_heldIntS p_a.At (l_heldTableS p_a.Ways p_k) (by first | omega | assumption | (simp only [IntKind.wrap_i64] at *; omega))
  refine sd rfl (yl_assign rfl rfl (SeqR.done (tn (CW.seq (CW.seq (CW.region (sd rfl (yl_move rfl rfl (sd rfl (yl_lss rfl rfl rfl (SeqR.done ?_)))))))))))
  refine tn (bcase (decide ((l_heldIntS p_a.At (l_heldTableS p_a.Ways p_k)) < 0)) (fun hb26 => ?_) (fun hb26 => ?_))
  ·have hb26p := dec_t hb26
   refine CW.cond_t rfl hb26 (CW.seq (CW.region (sd rfl (yl_assign rfl rfl (SeqR.done (tn (CW.ret (tr (rr rfl (.cons rfl .nil) ?_)))))))))
   have hM27 : (l_heldShift p_a p_k) = (-1) := by simp only [l_heldShift, hb15, hb26, cond_true, cond_false, loopE_done, loopE_ret]
   rw [hM27]
   exact ⟨rfl, (Ex.trans (Ex.trans (Ex.trans (Ex.refl w) hE9) hE13) hE24)⟩
  ·have hb26p := dec_f hb26
   refine CW.cond_f rfl hb26 (CW.skip (tn (CW.seq (CW.region (sd rfl (yl_fieldAddr Try.fd50_3 rfl rfl (sd rfl (yl_load1 Try.ty48 rfl rfl (((Box.ex q19 hE24).cell 3).trans rfl) (sd rfl (yl_move rfl rfl (sd rfl (yl_call Try.en86 rfl (opvs_cons rfl (opvs_cons rfl opvs_nil)) (Cal.mono (c_l_heldWriteS p_a.Store (l_heldIntS p_a.At (l_heldTableS p_a.Ways p_k)) (RdS.up (RdS.ex good_Write (RdS.ex good_Write (RdS.ex good_Write h3 hE9) hE13) hE24) good_Write) (by first | omega | assumption | (simp only [IntKind.wrap_i64] at *; omega))) ?_)))))))))))))
   rintro v36 w35 ⟨rfl, hE37⟩
   have hE37z := Ex.size hE37
   have hrf38 := rf_heldWriteS p_a.Store (l_heldIntS p_a.At (l_heldTableS p_a.Ways p_k)) (by first | omega | assumption | (simp only [IntKind.wrap_i64] at *; omega))
   refine sd rfl (yl_assign rfl rfl (SeqR.done (tn (CW.seq (CW.seq (CW.region (sd rfl (yl_move rfl rfl (sd rfl (yl_lss rfl rfl rfl (SeqR.done ?_)))))))))))
   refine tn (bcase (decide ((l_heldWriteS p_a.Store (l_heldIntS p_a.At (l_heldTableS p_a.Ways p_k))) < 0)) (fun hb39 => ?_) (fun hb39 => ?_))
   ·have hb39p := dec_t hb39
    refine CW.cond_t rfl hb39 (CW.seq (CW.region (sd rfl (yl_assign rfl rfl (SeqR.done (tn (CW.ret (tr (rr rfl (.cons rfl .nil) ?_)))))))))
    have hM40 : (l_heldShift p_a p_k) = (-1) := by simp only [l_heldShift, hb15, hb26, hb39, cond_true, cond_false, loopE_done, loopE_ret]
    rw [hM40]
    exact ⟨rfl, (Ex.trans (Ex.trans (Ex.trans (Ex.trans (Ex.refl w) hE9) hE13) hE24) hE37)⟩
   ·have hb39p := dec_f hb39
    refine CW.cond_f rfl hb39 (CW.skip (tn (CW.seq (CW.region (sd rfl (yl_move rfl rfl (sd rfl (yl_assign rfl rfl (SeqR.done (tn ?_))))))))))
    refine CW.ret (rr rfl (.cons rfl .nil) ?_)
    have hM45 : (l_heldShift p_a p_k) = ((l_heldWriteS p_a.Store (l_heldIntS p_a.At (l_heldTableS p_a.Ways p_k)))) := by simp only [l_heldShift, hb15, hb26, hb39, cond_true, cond_false, loopE_done, loopE_ret]
    rw [hM45]
    exact ⟨rfl, (Ex.trans (Ex.trans (Ex.trans (Ex.trans (Ex.refl w) hE9) hE13) hE24) hE37)⟩
set_option maxRecDepth 100000 in
set_option maxHeartbeats 2000000 in
theorem c_l_FnExactNewShift {A1 : Option Addr} {c1 : Nat} {A2 : Option Addr} {c2 : Nat} {A3 : Option Addr} {c3 : Nat} {w : World} (p_0 : DTable) (p_1 : Str) (p_2 : Int) (p_3 : Int) (p_4 : List DWrite) (h1 : RdS w (Iv 0 w.heap.size) (RF e_Str) 1 A1 p_0.Cols.length c1 p_0.Cols) (h2 : RdS w (Iv 0 w.heap.size) (RF e_Idx) 3 A2 p_0.Idxs.length c2 p_0.Idxs) (h3 : RdS w (Iv 0 w.heap.size) (RF e_Write) 3 A3 p_4.length c3 p_4) (pre0 : wf_Table p_0) (pre1 : wfS p_1) (pre2 : wfI p_2) (pre3 : wfI p_3) (pre4 : (wfL wf_Write) p_4) : Cal Try.prog 4 #[.agg #[.string (bs (p_0.Name)), .slice A1 p_0.Cols.length c1, .slice A2 p_0.Idxs.length c2], .string (bs (p_1)), .int .i64 (p_2), .int .i64 (p_3), .slice A3 p_4.length c3] w fun v w' => v = .bool ((l_FnExactNewShift p_0 p_1 p_2 p_3 p_4)) ∧ Ex w w' := by
 refine Cal.of (vs := [.agg #[.string (bs (p_0.Name)), .slice A1 p_0.Cols.length c1, .slice A2 p_0.Idxs.length c2], .string (bs (p_1)), .int .i64 (p_2), .int .i64 (p_3), .slice A3 p_4.length c3]) Try.func4 rfl Try.ntmps4 rfl (CW.seq (CW.region (sd rfl (yl_box (cs := [.string (bs (p_0.Name)), .slice A1 p_0.Cols.length c1, .slice A2 p_0.Idxs.length c2]) rfl rfl rfl ?_))))
 intro b4 w5 hs6 hz7 hB8 hE9
 refine sd rfl (yl_assign rfl rfl (SeqR.done (tn (CW.seq (CW.seq (CW.region (sd rfl (yl_move rfl rfl (sd rfl (yl_slen Try.un9 (a := p_1) rfl rfl (sd rfl (yl_gtr rfl rfl rfl ?_))))))))))))
 refine SeqR.done (tn (bcase (decide (1048576 < (p_1.length : Int))) (fun hb10 => ?_) (fun hb10 => ?_)))
 ·have hb10p := dec_t hb10
  refine CW.cond_t rfl hb10 (CW.seq (CW.region (sd rfl (yl_assign rfl rfl (SeqR.done (tn (CW.ret (tr (rr rfl (.cons rfl .nil) ?_)))))))))
  have hM11 : (l_FnExactNewShift p_0 p_1 p_2 p_3 p_4) = (true) := by simp only [l_FnExactNewShift, hb10, cond_true, cond_false, loopE_done, loopE_ret]
  rw [hM11]
  exact ⟨rfl, (Ex.trans (Ex.refl w) hE9)⟩
 ·have hb10p := dec_f hb10
  refine CW.cond_f rfl hb10 (CW.skip (tn (CW.seq (CW.region (sd rfl (yl_assign rfl rfl (SeqR.done (tn (CW.seq ?_)))))))))
  refine CW.region (sd rfl (yl_loadN (cs := [.string (bs (p_0.Name)), .slice A1 p_0.Cols.length c1, .slice A2 p_0.Idxs.length c2]) Try.ty25 rfl rfl (hB8.cells (n := 3) rfl) rfl (sd rfl (yl_move rfl rfl ?_))))
  have q13 := RdS.ex good_Str h1 hE9
  have q14 := RdS.ex good_Idx h2 hE9
  refine sd rfl (yl_call Try.en11 rfl (opvs_cons rfl (opvs_cons rfl opvs_nil)) (Cal.mono (c_l_szTable p_0 1048576 (RdS.up q13 good_Str) (RdS.up q14 good_Idx)) ?_))
  rintro v16 w15 ⟨rfl, hE17⟩
  have hE17z := Ex.size hE17
  refine sd rfl (yl_assign rfl rfl (SeqR.done (tn (CW.seq (CW.seq (CW.region (sd rfl (yl_move rfl rfl (sd rfl (yl_lss rfl rfl rfl (SeqR.done ?_)))))))))))
  refine tn (bcase (decide ((l_szTable p_0 1048576) < 0)) (fun hb18 => ?_) (fun hb18 => ?_))
  ·have hb18p := dec_t hb18
   refine CW.cond_t rfl hb18 (CW.seq (CW.region (sd rfl (yl_assign rfl rfl (SeqR.done (tn (CW.ret (tr (rr rfl (.cons rfl .nil) ?_)))))))))
   have hM19 : (l_FnExactNewShift p_0 p_1 p_2 p_3 p_4) = (true) := by simp only [l_FnExactNewShift, hb10, hb18, cond_true, cond_false, loopE_done, loopE_ret]
   rw [hM19]
   exact ⟨rfl, (Ex.trans (Ex.trans (Ex.refl w) hE9) hE17)⟩
  ·have hb18p := dec_f hb18
   refine CW.cond_f rfl hb18 (CW.skip (tn (CW.seq (CW.region (sd rfl (yl_move rfl rfl (sd rfl (yl_move rfl rfl ?_))))))))
   have q23 := RdS.ex good_Write (RdS.ex good_Write h3 hE9) hE17
   refine sd rfl (yl_call Try.en20 rfl (opvs_cons rfl (opvs_cons rfl opvs_nil)) (Cal.mono (c_l_szWriteS p_4 (l_szTable p_0 1048576) (RdS.up q23 good_Write)) ?_))
   rintro v25 w24 ⟨rfl, hE26⟩
   have hE26z := Ex.size hE26
   refine sd rfl (yl_assign rfl rfl (SeqR.done (tn (CW.seq (CW.seq (CW.region (sd rfl (yl_move rfl rfl (sd rfl (yl_lss rfl rfl rfl (SeqR.done ?_)))))))))))
   refine tn (bcase (decide ((l_szWriteS p_4 (l_szTable p_0 1048576)) < 0)) (fun hb27 => ?_) (fun hb27 => ?_))
   ·have hb27p := dec_t hb27
    refine CW.cond_t rfl hb27 (CW.seq (CW.region (sd rfl (yl_assign rfl rfl (SeqR.done (tn (CW.ret (tr (rr rfl (.cons rfl .nil) ?_)))))))))
    have hM28 : (l_FnExactNewShift p_0 p_1 p_2 p_3 p_4) = (true) := by simp only [l_FnExactNewShift, hb10, hb18, hb27, cond_true, cond_false, loopE_done, loopE_ret]
    rw [hM28]
    exact ⟨rfl, (Ex.trans (Ex.trans (Ex.trans (Ex.refl w) hE9) hE17) hE26)⟩
   ·have hb27p := dec_f hb27
    refine CW.cond_f rfl hb27 (CW.skip (tn (CW.seq (CW.region ?_))))
    have q33 := Box.ex (Box.ex hB8 hE17) hE26
    refine sd rfl (yl_loadN (cs := [.string (bs (p_0.Name)), .slice A1 p_0.Cols.length c1, .slice A2 p_0.Idxs.length c2]) Try.ty25 rfl rfl (q33.cells (n := 3) rfl) rfl ?_)
    have q35 := RdS.ex good_Str (RdS.ex good_Str q13 hE17) hE26
    have q37 := RdS.ex good_Idx (RdS.ex good_Idx q14 hE17) hE26
    refine sd rfl (yl_call Try.en14 rfl (opvs_cons rfl opvs_nil) (Cal.mono (c_l_toTable p_0 (RdS.up q35 good_Str) (RdS.up q37 good_Idx) ((szok_Table pre0 (by decide) (dec_f hb18)).1)) ?_))
    rintro v41 w38 ⟨A39, c39, lo39, hi39, A40, c40, lo40, hi40, rfl, h39, h40, hrn43, hrn44, hrn45, hE42⟩
    have hE42z := Ex.size hE42
    refine sd rfl (yl_move rfl rfl (sd rfl (yl_move rfl rfl (sd rfl (yl_move rfl rfl (sd rfl (yl_move rfl rfl ?_)))))))
    have q47 := RdS.ex good_Write (RdS.ex good_Write q23 hE26) hE42
    refine sd rfl (yl_call Try.en22 rfl (opvs_cons rfl opvs_nil) (Cal.mono (c_l_toWriteS p_4 (RdS.up q47 good_Write) ((szok_WriteS pre4 (szok_Table pre0 (by decide) (dec_f hb18)).2 (dec_f hb27)).1)) ?_))
    rintro v50 w48 ⟨A49, c49, lo49, hi49, rfl, h49, hrn52, hE51⟩
    have hE51z := Ex.size hE51
    refine sd rfl (yl_call Try.en21 rfl (opvs_cons rfl (opvs_cons rfl (opvs_cons rfl (opvs_cons rfl (opvs_cons rfl opvs_nil))))) (Cal.mono (c_s_NewShift p_0 p_1 p_2 p_3 p_4 (RdS.up (OwnL.rd good_Str (OwnL.ex good_Str h39 hE51)) good_Str) (RdS.up (OwnL.rd good_Idx (OwnL.ex good_Idx h40 hE51)) good_Idx) (RdS.up (OwnL.rd good_Write h49) good_Write) ((szok_Table pre0 (by decide) (dec_f hb18)).1) (by unfold okS; omega) ((szok_WriteS pre4 (szok_Table pre0 (by decide) (dec_f hb18)).2 (dec_f hb27)).1)) ?_))
    rintro v63 w58 ⟨A59, c59, lo59, hi59, A60, c60, A61, c61, rfl, h59, h60, h61, ho62, hrn65, hE64⟩
    have hE64z := Ex.size hE64
    refine sd rfl (yl_move rfl rfl (sd rfl (yl_extract rfl rfl rfl (sd rfl (yl_extract rfl rfl rfl (sd rfl (yl_alloc Try.ty50 (cs := [.string (bs (([] : Str))), .slice none 0 0, .slice none 0 0, .slice none 0 0]) rfl rfl ?_)))))))
    intro b66 w67 hs68 hz69 hB70 hE71
    refine SeqR.u rfl rfl (yl_store (vs := [.string (bs ((s_NewShift p_0 p_1 p_2 p_3 p_4).1.Name)), .slice A59 (((s_NewShift p_0 p_1 p_2 p_3 p_4).1.Ways).length) c59, .slice A60 (((s_NewShift p_0 p_1 p_2 p_3 p_4).1.At).length) c60, .slice A61 (((s_NewShift p_0 p_1 p_2 p_3 p_4).1.Store).length) c61]) Try.ty50 rfl rfl rfl rfl rfl rfl hB70 (Nat.le_of_ble_eq_true rfl) ?_)
    intro w72 hB73 hO74
    have hB73 : Box w72 b66 50 [.string (bs ((s_NewShift p_0 p_1 p_2 p_3 p_4).1.Name)), .slice A59 (((s_NewShift p_0 p_1 p_2 p_3 p_4).1.Ways).length) c59, .slice A60 (((s_NewShift p_0 p_1 p_2 p_3 p_4).1.At).length) c60, .slice A61 (((s_NewShift p_0 p_1 p_2 p_3 p_4).1.Store).length) c61] := hB73
    have hO74z := hO74.size
    refine sd rfl (yl_assign rfl rfl (SeqR.done (tn (CW.seq (CW.region ?_)))))
    have q79 := Box.only (Box.ex (Box.ex (Box.ex (Box.ex q33 hE42) hE51) hE64) hE71) hO74 (by omega)
    refine sd rfl (yl_loadN (cs := [.string (bs (p_0.Name)), .slice A1 p_0.Cols.length c1, .slice A2 p_0.Idxs.length c2]) Try.ty25 rfl rfl (q79.cells (n := 3) rfl) rfl ?_)
    have q84 := RdS.only good_Str (RdS.ex good_Str (RdS.ex good_Str (RdS.ex good_Str (RdS.ex good_Str q35 hE42) hE51) hE64) hE71) hO74 (by simp only [Iv]; omega)
    have q89 := RdS.only good_Idx (RdS.ex good_Idx (RdS.ex good_Idx (RdS.ex good_Idx (RdS.ex good_Idx q37 hE42) hE51) hE64) hE71) hO74 (by simp only [Iv]; omega)
    refine sd rfl (yl_call Try.en14 rfl (opvs_cons rfl opvs_nil) (Cal.mono (c_l_toTable p_0 (RdS.up q84 good_Str) (RdS.up q89 good_Idx) ((szok_Table pre0 (by decide) (dec_f hb18)).1)) ?_))
    rintro v93 w90 ⟨A91, c91, lo91, hi91, A92, c92, lo92, hi92, rfl, h91, h92, hrn95, hrn96, hrn97, hE94⟩
    have hE94z := Ex.size hE94
    refine sd rfl (yl_alloc Try.ty36 (cs := [.string (bs (([] : Str))), .slice none 0 0, .slice none 0 0]) rfl rfl ?_)
    intro b98 w99 hs100 hz101 hB102 hE103
    refine SeqR.u rfl rfl (yl_store (vs := [.string (bs (p_0.Name)), .slice A91 p_0.Cols.length c91, .slice A92 p_0.Idxs.length c92]) Try.ty36 rfl rfl rfl rfl rfl rfl hB102 (Nat.le_of_ble_eq_true rfl) ?_)
    intro w104 hB105 hO106
    have hB105 : Box w104 b98 36 [.string (bs (p_0.Name)), .slice A91 p_0.Cols.length c91, .slice A92 p_0.Idxs.length c92] := hB105
    have hO106z := hO106.size
    refine SeqR.done (tn (CW.seq (CW.region (sd rfl (yl_move rfl rfl ?_)))))
    have q113 := RdS.only good_Write (RdS.ex good_Write (RdS.ex good_Write (RdS.only good_Write (RdS.ex good_Write (RdS.ex good_Write (RdS.ex good_Write q47 hE51) hE64) hE71) hO74 (by simp only [Iv]; omega)) hE94) hE103) hO106 (by simp only [Iv]; omega)
    refine sd rfl (yl_call Try.en22 rfl (opvs_cons rfl opvs_nil) (Cal.mono (c_l_toWriteS p_4 (RdS.up q113 good_Write) ((szok_WriteS pre4 (szok_Table pre0 (by decide) (dec_f hb18)).2 (dec_f hb27)).1)) ?_))
    rintro v116 w114 ⟨A115, c115, lo115, hi115, rfl, h115, hrn118, hE117⟩
    have hE117z := Ex.size hE117
    refine sd rfl (yl_assign rfl rfl (SeqR.done (tn (CW.seq (CW.region ?_)))))
    have q119 := Box.ex hB105 hE117
    refine sd rfl (yl_loadN (cs := [.string (bs (p_0.Name)), .slice A91 p_0.Cols.length c91, .slice A92 p_0.Idxs.length c92]) Try.ty36 rfl rfl (q119.cells (n := 3) rfl) rfl (sd rfl (yl_move rfl rfl (sd rfl (yl_move rfl rfl (sd rfl (yl_move rfl rfl (sd rfl (yl_move rfl rfl ?_)))))))))
    have q123 := OwnL.ex good_Str (OwnL.only good_Str (OwnL.ex good_Str h91 hE103) hO106 (by omega)) hE117
    have q127 := OwnL.ex good_Idx (OwnL.only good_Idx (OwnL.ex good_Idx h92 hE103) hO106 (by omega)) hE117
    refine sd rfl (yl_call Try.en23 rfl (opvs_cons rfl (opvs_cons rfl (opvs_cons rfl (opvs_cons rfl (opvs_cons rfl opvs_nil))))) (Cal.mono (c_i_NewShift p_0 p_1 p_2 p_3 p_4 (RdS.up (OwnL.rd good_Str q123) good_Str) (RdS.up (OwnL.rd good_Idx q127) good_Idx) (RdS.up (OwnL.rd good_Write h115) good_Write) ((szok_Table pre0 (by decide) (dec_f hb18)).1) (by unfold okS; omega) ((szok_WriteS pre4 (szok_Table pre0 (by decide) (dec_f hb18)).2 (dec_f hb27)).1)) ?_))
    rintro v134 w129 ⟨A130, c130, lo130, hi130, A131, c131, lo131, hi131, A132, c132, lo132, hi132, rfl, h130, h131, h132, ho133, hrn136, hrn137, hrn138, hrn139, hrn140, hrn141, hE135⟩
    have hE135z := Ex.size hE135
    refine sd rfl (yl_move rfl rfl (sd rfl (yl_extract rfl rfl rfl (sd rfl (yl_extract rfl rfl rfl (sd rfl (yl_alloc Try.ty50 (cs := [.string (bs (([] : Str))), .slice none 0 0, .slice none 0 0, .slice none 0 0]) rfl rfl ?_)))))))
    intro b142 w143 hs144 hz145 hB146 hE147
    refine SeqR.u rfl rfl (yl_store (vs := [.string (bs ((i_NewShift p_0 p_1 p_2 p_3 p_4).1.Name)), .slice A130 (((i_NewShift p_0 p_1 p_2 p_3 p_4).1.Ways).length) c130, .slice A131 (((i_NewShift p_0 p_1 p_2 p_3 p_4).1.At).length) c131, .slice A132 (((i_NewShift p_0 p_1 p_2 p_3 p_4).1.Store).length) c132]) Try.ty50 rfl rfl rfl rfl rfl rfl hB146 (Nat.le_of_ble_eq_true rfl) ?_)
    intro w148 hB149 hO150
    have hB149 : Box w148 b142 50 [.string (bs ((i_NewShift p_0 p_1 p_2 p_3 p_4).1.Name)), .slice A130 (((i_NewShift p_0 p_1 p_2 p_3 p_4).1.Ways).length) c130, .slice A131 (((i_NewShift p_0 p_1 p_2 p_3 p_4).1.At).length) c131, .slice A132 (((i_NewShift p_0 p_1 p_2 p_3 p_4).1.Store).length) c132] := hB149
    have hO150z := hO150.size
    refine sd rfl (yl_assign rfl rfl (SeqR.done (tn (CW.seq (CW.seq (CW.region (sd rfl (yl_loadN (cs := [.string (bs ((i_NewShift p_0 p_1 p_2 p_3 p_4).1.Name)), .slice A130 (((i_NewShift p_0 p_1 p_2 p_3 p_4).1.Ways).length) c130, .slice A131 (((i_NewShift p_0 p_1 p_2 p_3 p_4).1.At).length) c131, .slice A132 (((i_NewShift p_0 p_1 p_2 p_3 p_4).1.Store).length) c132]) Try.ty50 rfl rfl (hB149.cells (n := 4) rfl) rfl ?_))))))))
    have q157 := Box.only (Box.ex (Box.ex (Box.ex (Box.only (Box.ex (Box.ex hB73 hE94) hE103) hO106 (by omega)) hE117) hE135) hE147) hO150 (by omega)
    refine sd rfl (yl_loadN (cs := [.string (bs ((s_NewShift p_0 p_1 p_2 p_3 p_4).1.Name)), .slice A59 (((s_NewShift p_0 p_1 p_2 p_3 p_4).1.Ways).length) c59, .slice A60 (((s_NewShift p_0 p_1 p_2 p_3 p_4).1.At).length) c60, .slice A61 (((s_NewShift p_0 p_1 p_2 p_3 p_4).1.Store).length) c61]) Try.ty50 rfl rfl (q157.cells (n := 4) rfl) rfl ?_)
    have q160 := OwnD.only goodO_Table (OwnD.ex goodO_Table h130 hE147) hO150 (by omega)
    have q163 := OwnL.only good_Int (OwnL.ex good_Int h131 hE147) hO150 (by omega)
    have q166 := OwnL.only good_Write (OwnL.ex good_Write h132 hE147) hO150 (by omega)
    have q176 := OwnD.only goodO_Table (OwnD.ex goodO_Table (OwnD.ex goodO_Table (OwnD.ex goodO_Table (OwnD.only goodO_Table (OwnD.ex goodO_Table (OwnD.ex goodO_Table (OwnD.only goodO_Table (OwnD.ex goodO_Table h59 hE71) hO74 (by omega)) hE94) hE103) hO106 (by omega)) hE117) hE135) hE147) hO150 (by omega)
    have q185 := RdS.only good_Int (RdS.ex good_Int (RdS.ex good_Int (RdS.ex good_Int (RdS.only good_Int (RdS.ex good_Int (RdS.ex good_Int (RdS.only good_Int (RdS.ex good_Int h60 hE71) hO74 (by simp only [Iv]; omega)) hE94) hE103) hO106 (by simp only [Iv]; omega)) hE117) hE135) hE147) hO150 (by simp only [Iv]; omega)
    have q194 := RdS.only good_Write (RdS.ex good_Write (RdS.ex good_Write (RdS.ex good_Write (RdS.only good_Write (RdS.ex good_Write (RdS.ex good_Write (RdS.only good_Write (RdS.ex good_Write h61 hE71) hO74 (by simp only [Iv]; omega)) hE94) hE103) hO106 (by simp only [Iv]; omega)) hE117) hE135) hE147) hO150 (by simp only [Iv]; omega)
    refine sd rfl (yl_call Try.en24 rfl (opvs_cons rfl (opvs_cons rfl opvs_nil)) (Cal.mono (c_l_eqShift ((i_NewShift p_0 p_1 p_2 p_3 p_4).1) ((s_NewShift p_0 p_1 p_2 p_3 p_4).1) (RdS.up (OwnL.rd good_Table (OwnD.own goodO_Table good_Table q160)) good_Table) (RdS.up (OwnL.rd good_Int q163) good_Int) (RdS.up (OwnL.rd good_Write q166) good_Write) (RdS.up (OwnL.rd good_Table (OwnD.own goodO_Table good_Table q176)) good_Table) (RdS.up q185 good_Int) (RdS.up q194 good_Write)) ?_))
    rintro v196 w195 ⟨rfl, hE197⟩
    have hE197z := Ex.size hE197
    refine sd rfl (yl_not rfl rfl (sd rfl (yl_move rfl rfl (bcase (l_eqShift ((i_NewShift p_0 p_1 p_2 p_3 p_4).1) ((s_NewShift p_0 p_1 p_2 p_3 p_4).1)) (fun hb198 => ?_) (fun hb198 => ?_)))))
    ·refine sy rfl rfl (not_t hb198) (yl_move rfl rfl (sy rfl rfl (not_t hb198) (yl_move rfl rfl (sy rfl rfl (not_t hb198) (yl_bneq Try.un4 rfl rfl rfl (sd rfl (yl_pick_f rfl rfl (not_t hb198) rfl (SeqR.done (tn (bcase (((i_NewShift p_0 p_1 p_2 p_3 p_4).2) == ((s_NewShift p_0 p_1 p_2 p_3 p_4).2)) (fun hb199 => ?_) (fun hb199 => ?_)))))))))))
     ·refine CW.cond_f rfl (not_t hb199) (CW.skip (tn (CW.seq (CW.seq ?_))))
      have q203 := Box.ex (Box.only (Box.ex (Box.ex q119 hE135) hE147) hO150 (by omega)) hE197
      have q211 := Box.ex (Box.only (Box.ex (Box.ex (Box.ex (Box.only (Box.ex (Box.ex q79 hE94) hE103) hO106 (by omega)) hE117) hE135) hE147) hO150 (by omega)) hE197
      have q219 := RdS.ex good_Str (RdS.only good_Str (RdS.ex good_Str (RdS.ex good_Str (RdS.ex good_Str (RdS.only good_Str (RdS.ex good_Str (RdS.ex good_Str q84 hE94) hE103) hO106 (by simp only [Iv]; omega)) hE117) hE135) hE147) hO150 (by simp only [Iv]; omega)) hE197
      have q227 := RdS.ex good_Idx (RdS.only good_Idx (RdS.ex good_Idx (RdS.ex good_Idx (RdS.ex good_Idx (RdS.only good_Idx (RdS.ex good_Idx (RdS.ex good_Idx q89 hE94) hE103) hO106 (by simp only [Iv]; omega)) hE117) hE135) hE147) hO150 (by simp only [Iv]; omega)) hE197
      have q235 := OwnL.ex good_Str (OwnL.only good_Str (OwnL.ex good_Str (OwnL.ex good_Str q123 hE135) hE147) hO150 (by omega)) hE197
      have q240 := OwnL.ex good_Idx (OwnL.only good_Idx (OwnL.ex good_Idx (OwnL.ex good_Idx q127 hE135) hE147) hO150 (by omega)) hE197
      refine CW.drawsI 5 (vgetI [DetI (.agg #[.string (bs (p_0.Name)), .slice A91 p_0.Cols.length c91, .slice A92 p_0.Idxs.length c92]), DetI (.agg #[.string (bs (p_0.Name)), .slice A1 p_0.Cols.length c1, .slice A2 p_0.Idxs.length c2]), fun lo hi v wq => ∃ A229 c229 lo229 hi229 A230 c230 lo230 hi230, v = .agg #[.string (bs (p_0.Name)), .slice A229 p_0.Cols.length c229, .slice A230 p_0.Idxs.length c230] ∧ OwnL wq lo229 hi229 9 1 (RF e_Str) A229 p_0.Cols.length c229 p_0.Cols ∧ OwnL wq lo230 hi230 171 3 (RF e_Idx) A230 p_0.Idxs.length c230 p_0.Idxs ∧ (lo ≤ lo229 ∧ lo229 ≤ hi229 ∧ hi229 ≤ hi) ∧ (lo ≤ lo230 ∧ lo230 ≤ hi230 ∧ hi230 ≤ hi) ∧ (hi229 ≤ lo230 ∨ hi230 ≤ lo229), DetI (.bool ((l_eqTable p_0 p_0))), DetI (.bool (!(l_eqTable p_0 p_0)))]) Try.follows rfl rfl rfl rfl rfl rfl (vgetI_stable ⟨StableI.det _, StableI.det _, (fun _ _ _ _ _ ⟨A229, c229, lo229, hi229, A230, c230, lo230, hi230, hv, h229, h230, hr0, hr1, hr2⟩ e => ⟨A229, c229, lo229, hi229, A230, c230, lo230, hi230, hv, OwnL.ex good_Str h229 e, OwnL.ex good_Idx h230 e, hr0, hr1, hr2⟩), StableI.det _, StableI.det _, trivial⟩) ⟨?_, ?_, ?_, ?_, ?_, trivial⟩ ?_
      ·exact fun _ _ h => os rfl ((yl_loadN (cs := [.string (bs (p_0.Name)), .slice A91 p_0.Cols.length c91, .slice A92 p_0.Idxs.length c92]) Try.ty36 rfl (h.old 14 _ rfl rfl) ((Box.ex q203 h.ex).cells (n := 3) rfl) rfl kI))
      ·exact fun _ _ h => os rfl ((yl_loadN (cs := [.string (bs (p_0.Name)), .slice A1 p_0.Cols.length c1, .slice A2 p_0.Idxs.length c2]) Try.ty25 rfl (h.old 5 _ rfl rfl) ((Box.ex q211 h.ex).cells (n := 3) rfl) rfl kI))
      ·intro L254 w255 hi256
       have hE257 := hi256.ex
       refine OpR.op' rfl (yl_call Try.en14 rfl (opvs_cons (hi256.dt 1 70 rfl rfl rfl) opvs_nil) (Cal.mono (c_l_toTable p_0 (RdS.up (RdS.ex good_Str q219 hE257) good_Str) (RdS.up (RdS.ex good_Idx q227 hE257) good_Idx) ((szok_Table pre0 (by decide) (dec_f hb18)).1)) ?_))
       rintro v264 w261 ⟨A262, c262, lo262, hi262, A263, c263, lo263, hi263, rfl, h262, h263, hrn266, hrn267, hrn268, hE265⟩
       exact ⟨⟨A262, c262, lo262, hi262, A263, c263, lo263, hi263, rfl, h262, h263, hrn266, hrn267, hrn268⟩, hE265⟩
      ·intro L269 w270 hi271
       have hE272 := hi271.ex
       obtain ⟨lo275, hh276, _, hx274, hr277, hr278, hr279, A229_280, c229_281, lo229_282, hi229_283, A230_284, c230_285, lo230_286, hi230_287, rfl, h288, h289, hrn290, hrn291, hrn292⟩ := hi271.dep 2 71 rfl rfl
       refine OpR.op' rfl (yl_call Try.en18 rfl (opvs_cons (hi271.dt 0 69 rfl rfl rfl) (opvs_cons hx274 opvs_nil)) (Cal.mono (c_l_eqTable p_0 p_0 (RdS.up (OwnL.rd good_Str (OwnL.ex good_Str q235 hE272)) good_Str) (RdS.up (OwnL.rd good_Idx (OwnL.ex good_Idx q240 hE272)) good_Idx) (RdS.up (OwnL.rd good_Str h288) good_Str) (RdS.up (OwnL.rd good_Idx h289) good_Idx)) ?_))
       rintro v300 w299 ⟨rfl, hE301⟩
       exact ⟨rfl, hE301⟩
      ·exact fun _ _ h => os rfl ((yl_not rfl (h.dt 3 72 rfl rfl rfl) kI))
      ·intro fl310 fh311 L307 w308 hp309
       have hE312 := hp309.ex
       have hE312z := Ex.size hE312
       have hr325 := hp309.rng 2 rfl
       obtain ⟨_, hx324, A229_326, c229_327, lo229_328, hi229_329, A230_330, c230_331, lo230_332, hi230_333, rfl, h334, h335, hrn336, hrn337, hrn338⟩ := hp309.new 2 71 rfl rfl
       refine SeqR.done (tn (CW.sub (Sub.cons (d := 1) (hp309.old 1 _ rfl rfl) (Sub.cons (d := 2) (hp309.old 2 _ rfl rfl) (Sub.cons (d := 3) (hp309.old 3 _ rfl rfl) (Sub.cons (d := 4) (hp309.old 4 _ rfl rfl) (Sub.cons (d := 5) (hp309.old 5 _ rfl rfl) (Sub.cons (d := 12) (hp309.old 12 _ rfl rfl) (Sub.cons (d := 13) (hp309.old 13 _ rfl rfl) (Sub.cons (d := 14) (hp309.old 14 _ rfl rfl) (Sub.cons (d := 15) (hp309.old 15 _ rfl rfl) (Sub.cons (d := 16) (hp309.old 16 _ rfl rfl) (Sub.cons (d := 17) (hp309.old 17 _ rfl rfl) (Sub.cons (d := 73) (hp309.nt 4 73 rfl rfl rfl) (Sub.nil _))))))))))))) (bcase (l_eqTable p_0 p_0) (fun hb340 => ?_) (fun hb340 => ?_))))
       ·refine CW.cond_f rfl (not_t hb340) (CW.skip (tn (CW.seq (CW.seq (CW.region (sd rfl (yl_move rfl rfl (sd rfl (yl_move rfl rfl ?_)))))))))
        have q346 := RdS.ex good_Write (RdS.ex good_Write (RdS.only good_Write (RdS.ex good_Write (RdS.ex good_Write (RdS.ex good_Write q113 hE117) hE135) hE147) hO150 (by simp only [Iv]; omega)) hE197) hE312
        refine sd rfl (yl_call Try.en22 rfl (opvs_cons rfl opvs_nil) (Cal.mono (c_l_toWriteS p_4 (RdS.up q346 good_Write) ((szok_WriteS pre4 (szok_Table pre0 (by decide) (dec_f hb18)).2 (dec_f hb27)).1)) ?_))
        rintro v349 w347 ⟨A348, c348, lo348, hi348, rfl, h348, hrn351, hE350⟩
        have hE350z := Ex.size hE350
        have q358 := OwnL.ex good_Write (OwnL.ex good_Write (OwnL.ex good_Write (OwnL.only good_Write (OwnL.ex good_Write (OwnL.ex good_Write h115 hE135) hE147) hO150 (by omega)) hE197) hE312) hE350
        refine sd rfl (yl_call Try.en25 rfl (opvs_cons rfl (opvs_cons rfl opvs_nil)) (Cal.mono (c_l_eqWriteS p_4 p_4 (RdS.up (OwnL.rd good_Write q358) good_Write) (RdS.up (OwnL.rd good_Write h348) good_Write)) ?_))
        rintro v361 w360 ⟨rfl, hE362⟩
        have hE362z := Ex.size hE362
        refine sd rfl (yl_not rfl rfl (SeqR.done (tn (bcase (l_eqWriteS p_4 p_4) (fun hb363 => ?_) (fun hb363 => ?_)))))
        ·refine CW.cond_f rfl (not_t hb363) (CW.skip (tn (CW.seq (CW.region (sd rfl (yl_assign rfl rfl (SeqR.done (tn (CW.seq ?_)))))))))
         refine CW.region (sd rfl (yl_loadN (cs := [.string (bs (p_0.Name)), .slice A91 p_0.Cols.length c91, .slice A92 p_0.Idxs.length c92]) Try.ty36 rfl rfl ((Box.ex (Box.ex (Box.ex q203 hE312) hE350) hE362).cells (n := 3) rfl) rfl (sd rfl (yl_move rfl rfl (sd rfl (yl_call Try.en26 rfl (opvs_cons rfl (opvs_cons rfl opvs_nil)) (Cal.mono (c_l_markTable p_0 1 (OwnL.ex good_Str (OwnL.ex good_Str (OwnL.ex good_Str q235 hE312) hE350) hE362) (OwnL.ex good_Idx (OwnL.ex good_Idx (OwnL.ex good_Idx q240 hE312) hE350) hE362) (by omega) (by omega) (by omega) (by first | omega | assumption | (simp only [IntKind.wrap_i64] at *; omega))) ?_)))))))
         rintro v374 w373 ⟨rfl, h376, h377, hm375⟩
         have hm375z := Mut.size hm375
         have hrf378 := rf_markTable p_0 1 (by first | omega | assumption | (simp only [IntKind.wrap_i64] at *; omega))
         refine sd rfl (yl_assign rfl rfl (SeqR.done (tn (CW.seq (CW.region (sd rfl (yl_move rfl rfl (sd rfl (yl_move rfl rfl (sd rfl (yl_call Try.en27 rfl (opvs_cons rfl (opvs_cons rfl opvs_nil)) (Cal.mono (c_l_markWriteS p_4 ((l_markTable p_0 1).1) (OwnL.mut good_Write (OwnL.ex good_Write q358 hE362) hm375 (fun k hk => by simp only [InR, or_false] at hk; omega)) (by omega) (by first | omega | assumption | (simp only [IntKind.wrap_i64] at *; omega))) ?_))))))))))))
         rintro v382 w381 ⟨rfl, h384, hm383⟩
         have hm383z := Mut.size hm383
         have hrf385 := rf_markWriteS p_4 ((l_markTable p_0 1).1) (by first | omega | assumption | (simp only [IntKind.wrap_i64] at *; omega))
         refine sd rfl (yl_assign rfl rfl (SeqR.done (tn (CW.seq (CW.seq (CW.region (sd rfl (yl_move rfl rfl (sd rfl (yl_lss rfl rfl rfl (sd rfl (yl_move rfl rfl ?_))))))))))))
         refine bcase (decide (((l_markWriteS p_4 ((l_markTable p_0 1).1)).1) < 0)) (fun hb386 => ?_) (fun hb386 => ?_)
         ·have hb386p := dec_t hb386
          refine sz rfl rfl hb386 (sz rfl rfl hb386 (sz rfl rfl hb386 (sz rfl rfl hb386 (sd rfl (yl_pick_t rfl rfl hb386 rfl (sd rfl (yl_move rfl rfl (sz rfl rfl rfl (sz rfl rfl rfl (sz rfl rfl rfl ?_))))))))))
          refine sd rfl (yl_pick_t rfl rfl rfl rfl (SeqR.done (tn (CW.cond_t rfl rfl (CW.seq (CW.region (sd rfl (yl_assign rfl rfl (SeqR.done (tn ?_))))))))))
          refine CW.ret (tr (rr rfl (.cons rfl .nil) ?_))
          have hM387 : (l_FnExactNewShift p_0 p_1 p_2 p_3 p_4) = (false) := by simp only [l_FnExactNewShift, hb10, hb18, hb27, hb198, hb199, hb340, hb363, hb386, cond_true, cond_false, loopE_done, loopE_ret]
          rw [hM387]
          have q407 := Ex.mut (Ex.trans (Ex.trans (Ex.trans (Ex.trans (Below.only (Ex.trans (Ex.trans (Ex.trans (Below.only (Ex.trans (Ex.trans (Below.only (Ex.trans (Ex.trans (Ex.trans (Ex.trans (Ex.trans (Ex.trans (Ex.trans (Ex.refl w) hE9) hE17) hE26) hE42) hE51) hE64) hE71) hO74 (by omega)) hE94) hE103) hO106 (by omega)) hE117) hE135) hE147) hO150 (by omega)) hE197) hE312) hE350) hE362) hm375 (fun k hk => by simp only [InR, or_false] at hk; omega)
          exact ⟨rfl, (Ex.mut q407 hm383 (fun k hk => by simp only [InR, or_false] at hk; omega))⟩
         ·have hb386p := dec_f hb386
          have q414 := Box.mut (Box.mut (Box.ex (Box.ex (Box.ex (Box.ex hB149 hE197) hE312) hE350) hE362) hm375 (fun k hk => by simp only [InR, or_false] at hk; omega)) hm383 (fun k hk => by simp only [InR, or_false] at hk; omega)
          refine sy rfl rfl hb386 (yl_loadN (cs := [.string (bs ((i_NewShift p_0 p_1 p_2 p_3 p_4).1.Name)), .slice A130 (((i_NewShift p_0 p_1 p_2 p_3 p_4).1.Ways).length) c130, .slice A131 (((i_NewShift p_0 p_1 p_2 p_3 p_4).1.At).length) c131, .slice A132 (((i_NewShift p_0 p_1 p_2 p_3 p_4).1.Store).length) c132]) Try.ty50 rfl rfl (q414.cells (n := 4) rfl) rfl ?_)
          have q420 := Box.mut (Box.mut (Box.ex (Box.ex (Box.ex (Box.ex q157 hE197) hE312) hE350) hE362) hm375 (fun k hk => by simp only [InR, or_false] at hk; omega)) hm383 (fun k hk => by simp only [InR, or_false] at hk; omega)
          refine sy rfl rfl hb386 (yl_loadN (cs := [.string (bs ((s_NewShift p_0 p_1 p_2 p_3 p_4).1.Name)), .slice A59 (((s_NewShift p_0 p_1 p_2 p_3 p_4).1.Ways).length) c59, .slice A60 (((s_NewShift p_0 p_1 p_2 p_3 p_4).1.At).length) c60, .slice A61 (((s_NewShift p_0 p_1 p_2 p_3 p_4).1.Store).length) c61]) Try.ty50 rfl rfl (q420.cells (n := 4) rfl) rfl ?_)
          have q427 := OwnD.mut goodO_Table (OwnD.mut goodO_Table (OwnD.ex goodO_Table (OwnD.ex goodO_Table (OwnD.ex goodO_Table (OwnD.ex goodO_Table q160 hE197) hE312) hE350) hE362) hm375 (fun k hk => by simp only [InR, or_false] at hk; omega)) hm383 (fun k hk => by simp only [InR, or_false] at hk; omega)
          have q434 := OwnL.mut good_Int (OwnL.mut good_Int (OwnL.ex good_Int (OwnL.ex good_Int (OwnL.ex good_Int (OwnL.ex good_Int q163 hE197) hE312) hE350) hE362) hm375 (fun k hk => by simp only [InR, or_false] at hk; omega)) hm383 (fun k hk => by simp only [InR, or_false] at hk; omega)
          have q441 := OwnL.mut good_Write (OwnL.mut good_Write (OwnL.ex good_Write (OwnL.ex good_Write (OwnL.ex good_Write (OwnL.ex good_Write q166 hE197) hE312) hE350) hE362) hm375 (fun k hk => by simp only [InR, or_false] at hk; omega)) hm383 (fun k hk => by simp only [InR, or_false] at hk; omega)
          have q448 := OwnD.mut goodO_Table (OwnD.mut goodO_Table (OwnD.ex goodO_Table (OwnD.ex goodO_Table (OwnD.ex goodO_Table (OwnD.ex goodO_Table q176 hE197) hE312) hE350) hE362) hm375 (fun k hk => by simp only [InR, or_false] at hk; omega)) hm383 (fun k hk => by simp only [InR, or_false] at hk; omega)
          have q454 := RdS.mut good_Int (RdS.mut good_Int (RdS.ex good_Int (RdS.ex good_Int (RdS.ex good_Int (RdS.ex good_Int q185 hE197) hE312) hE350) hE362) hm375 (fun k hk => by simp only [InR, or_false, Iv, Ge] at hk ⊢; omega)) hm383 (fun k hk => by simp only [InR, or_false, Iv, Ge] at hk ⊢; omega)
          have q460 := RdS.mut good_Write (RdS.mut good_Write (RdS.ex good_Write (RdS.ex good_Write (RdS.ex good_Write (RdS.ex good_Write q194 hE197) hE312) hE350) hE362) hm375 (fun k hk => by simp only [InR, or_false, Iv, Ge] at hk ⊢; omega)) hm383 (fun k hk => by simp only [InR, or_false, Iv, Ge] at hk ⊢; omega)
          refine sy rfl rfl hb386 (yl_call Try.en24 rfl (opvs_cons rfl (opvs_cons rfl opvs_nil)) (Cal.mono (c_l_eqShift ((i_NewShift p_0 p_1 p_2 p_3 p_4).1) ((s_NewShift p_0 p_1 p_2 p_3 p_4).1) (RdS.up (OwnL.rd good_Table (OwnD.own goodO_Table good_Table q427)) good_Table) (RdS.up (OwnL.rd good_Int q434) good_Int) (RdS.up (OwnL.rd good_Write q441) good_Write) (RdS.up (OwnL.rd good_Table (OwnD.own goodO_Table good_Table q448)) good_Table) (RdS.up q454 good_Int) (RdS.up q460 good_Write)) ?_))
          rintro v462 w461 ⟨rfl, hE463⟩
          have hE463z := Ex.size hE463
          refine sy rfl rfl hb386 (yl_not rfl rfl (sd rfl (yl_pick_f rfl rfl hb386 rfl (sd rfl (yl_move rfl rfl (sy rfl rfl (not_t hb198) (yl_move rfl rfl (sy rfl rfl (not_t hb198) (yl_move rfl rfl (sy rfl rfl (not_t hb198) (yl_bneq Try.un4 rfl rfl rfl (sd rfl (yl_pick_f rfl rfl (not_t hb198) rfl (SeqR.done (tn ?_)))))))))))))))
          refine CW.cond_f rfl (not_t hb199) (CW.skip (tn (CW.seq (CW.region (sd rfl (yl_assign rfl rfl (SeqR.done (tn (CW.seq ?_)))))))))
          refine CW.region ?_
          have q464 := Box.ex q414 hE463
          refine sd rfl (yl_loadN (cs := [.string (bs ((i_NewShift p_0 p_1 p_2 p_3 p_4).1.Name)), .slice A130 (((i_NewShift p_0 p_1 p_2 p_3 p_4).1.Ways).length) c130, .slice A131 (((i_NewShift p_0 p_1 p_2 p_3 p_4).1.At).length) c131, .slice A132 (((i_NewShift p_0 p_1 p_2 p_3 p_4).1.Store).length) c132]) Try.ty50 rfl rfl (q464.cells (n := 4) rfl) rfl (sd rfl (yl_move rfl rfl (sd rfl (yl_call Try.en28 rfl (opvs_cons rfl (opvs_cons rfl opvs_nil)) (Cal.mono (c_l_markShift ((i_NewShift p_0 p_1 p_2 p_3 p_4).1) 1 (OwnD.ex goodO_Table q427 hE463) (OwnL.ex good_Int q434 hE463) (OwnL.ex good_Write q441 hE463) (by omega) (by omega) (by omega) (by omega) (by omega) (by omega) (by first | omega | assumption | (simp only [IntKind.wrap_i64] at *; omega))) ?_))))))
          rintro v469 w468 ⟨rfl, h471, h472, h473, hm470⟩
          have hm470z := Mut.size hm470
          have hrf474 := rf_markShift ((i_NewShift p_0 p_1 p_2 p_3 p_4).1) 1 (by first | omega | assumption | (simp only [IntKind.wrap_i64] at *; omega))
          refine sd rfl (yl_assign rfl rfl (SeqR.done (tn (CW.seq (CW.region (sd rfl (yl_assign rfl rfl (SeqR.done (tn (CW.seq ?_))))))))))
          refine CW.region ?_
          have q475 := Box.mut q464 hm470 (fun k hk => by simp only [InR, or_false] at hk; omega)
          refine sd rfl (yl_loadN (cs := [.string (bs ((i_NewShift p_0 p_1 p_2 p_3 p_4).1.Name)), .slice A130 (((i_NewShift p_0 p_1 p_2 p_3 p_4).1.Ways).length) c130, .slice A131 (((i_NewShift p_0 p_1 p_2 p_3 p_4).1.At).length) c131, .slice A132 (((i_NewShift p_0 p_1 p_2 p_3 p_4).1.Store).length) c132]) Try.ty50 rfl rfl (q475.cells (n := 4) rfl) rfl (sd rfl (yl_move rfl rfl ?_)))
          have hle476 := OwnD.len h471
          have hle478 := OwnL.len h472
          have hle480 := OwnL.len h473
          refine sd rfl (yl_call Try.en29 rfl (opvs_cons rfl (opvs_cons rfl opvs_nil)) (Cal.mono (Cal.args (by rw [← hle476, ← hle478, ← hle480] <;> rfl) (c_l_heldShift (⟨(i_NewShift p_0 p_1 p_2 p_3 p_4).1.Name, (l_markShift ((i_NewShift p_0 p_1 p_2 p_3 p_4).1) 1).2.Ways, (l_markShift ((i_NewShift p_0 p_1 p_2 p_3 p_4).1) 1).2.At, (l_markShift ((i_NewShift p_0 p_1 p_2 p_3 p_4).1) 1).2.Store⟩ : DShift) 1 (RdS.fix (RdS.up (OwnL.rd good_Table (OwnD.own goodO_Table good_Table h471)) good_Table)) (RdS.fix (RdS.up (OwnL.rd good_Int h472) good_Int)) (RdS.fix (RdS.up (OwnL.rd good_Write h473) good_Write)) (by first | omega | assumption | (simp only [IntKind.wrap_i64] at *; omega)))) ?_))
          rintro v483 w482 ⟨rfl, hE484⟩
          have hE484z := Ex.size hE484
          have hrf485 := rf_heldShift (⟨(i_NewShift p_0 p_1 p_2 p_3 p_4).1.Name, (l_markShift ((i_NewShift p_0 p_1 p_2 p_3 p_4).1) 1).2.Ways, (l_markShift ((i_NewShift p_0 p_1 p_2 p_3 p_4).1) 1).2.At, (l_markShift ((i_NewShift p_0 p_1 p_2 p_3 p_4).1) 1).2.Store⟩ : DShift) 1 (by first | omega | assumption | (simp only [IntKind.wrap_i64] at *; omega))
          refine sd rfl (yl_assign rfl rfl (SeqR.done (tn (CW.seq (CW.seq (CW.region (sd rfl (yl_move rfl rfl (sd rfl (yl_lss rfl rfl rfl (SeqR.done ?_)))))))))))
          refine tn (bcase (decide ((l_heldShift (⟨(i_NewShift p_0 p_1 p_2 p_3 p_4).1.Name, (l_markShift ((i_NewShift p_0 p_1 p_2 p_3 p_4).1) 1).2.Ways, (l_markShift ((i_NewShift p_0 p_1 p_2 p_3 p_4).1) 1).2.At, (l_markShift ((i_NewShift p_0 p_1 p_2 p_3 p_4).1) 1).2.Store⟩ : DShift) 1) < 0)) (fun hb486 => ?_) (fun hb486 => ?_))
          ·have hb486p := dec_t hb486
           refine CW.cond_t rfl hb486 (CW.seq (CW.region (sd rfl (yl_assign rfl rfl (SeqR.done (tn (CW.ret (tr (rr rfl (.cons rfl .nil) ?_)))))))))
           have hM487 : (l_FnExactNewShift p_0 p_1 p_2 p_3 p_4) = (false) := by simp only [l_FnExactNewShift, hb10, hb18, hb27, hb198, hb199, hb340, hb363, hb386, hb486, cond_true, cond_false, loopE_done, loopE_ret]
           rw [hM487]
           have q507 := Ex.mut (Ex.trans (Ex.trans (Ex.trans (Ex.trans (Below.only (Ex.trans (Ex.trans (Ex.trans (Below.only (Ex.trans (Ex.trans (Below.only (Ex.trans (Ex.trans (Ex.trans (Ex.trans (Ex.trans (Ex.trans (Ex.trans (Ex.refl w) hE9) hE17) hE26) hE42) hE51) hE64) hE71) hO74 (by omega)) hE94) hE103) hO106 (by omega)) hE117) hE135) hE147) hO150 (by omega)) hE197) hE312) hE350) hE362) hm375 (fun k hk => by simp only [InR, or_false] at hk; omega)
           exact ⟨rfl, (Ex.trans (Ex.mut (Ex.trans (Ex.mut q507 hm383 (fun k hk => by simp only [InR, or_false] at hk; omega)) hE463) hm470 (fun k hk => by simp only [InR, or_false] at hk; omega)) hE484)⟩
          ·have hb486p := dec_f hb486
           refine CW.cond_f rfl hb486 (CW.skip (tn (CW.seq (CW.seq (CW.region (sd rfl (yl_move rfl rfl (sd rfl (yl_move rfl rfl (sd rfl (yl_neq rfl rfl rfl ?_)))))))))))
           refine SeqR.done (tn (bcase (decide ((l_heldShift (⟨(i_NewShift p_0 p_1 p_2 p_3 p_4).1.Name, (l_markShift ((i_NewShift p_0 p_1 p_2 p_3 p_4).1) 1).2.Ways, (l_markShift ((i_NewShift p_0 p_1 p_2 p_3 p_4).1) 1).2.At, (l_markShift ((i_NewShift p_0 p_1 p_2 p_3 p_4).1) 1).2.Store⟩ : DShift) 1) = ((l_markShift ((i_NewShift p_0 p_1 p_2 p_3 p_4).1) 1).1))) (fun hb512 => ?_) (fun hb512 => ?_)))
           ·have hb512p := dec_t hb512
            refine CW.cond_f rfl (not_t hb512) (CW.skip (tn (CW.seq (CW.region (sd rfl (yl_loadN (cs := [.string (bs (p_0.Name)), .slice A1 p_0.Cols.length c1, .slice A2 p_0.Idxs.length c2]) Try.ty25 rfl rfl ((Box.ex (Box.mut (Box.ex (Box.mut (Box.mut (Box.ex (Box.ex (Box.ex q211 hE312) hE350) hE362) hm375 (fun k hk => by simp only [InR, or_false] at hk; omega)) hm383 (fun k hk => by simp only [InR, or_false] at hk; omega)) hE463) hm470 (fun k hk => by simp only [InR, or_false] at hk; omega)) hE484).cells (n := 3) rfl) rfl (sd rfl (yl_call Try.en14 rfl (opvs_cons rfl opvs_nil) (Cal.mono (c_l_toTable p_0 (RdS.up (RdS.ex good_Str (RdS.mut good_Str (RdS.ex good_Str (RdS.mut good_Str (RdS.mut good_Str (RdS.ex good_Str (RdS.ex good_Str (RdS.ex good_Str q219 hE312) hE350) hE362) hm375 (fun k hk => by simp only [InR, or_false, Iv, Ge] at hk ⊢; omega)) hm383 (fun k hk => by simp only [InR, or_false, Iv, Ge] at hk ⊢; omega)) hE463) hm470 (fun k hk => by simp only [InR, or_false, Iv, Ge] at hk ⊢; omega)) hE484) good_Str) (RdS.up (RdS.ex good_Idx (RdS.mut good_Idx (RdS.ex good_Idx (RdS.mut good_Idx (RdS.mut good_Idx (RdS.ex good_Idx (RdS.ex good_Idx (RdS.ex good_Idx q227 hE312) hE350) hE362) hm375 (fun k hk => by simp only [InR, or_false, Iv, Ge] at hk ⊢; omega)) hm383 (fun k hk => by simp only [InR, or_false, Iv, Ge] at hk ⊢; omega)) hE463) hm470 (fun k hk => by simp only [InR, or_false, Iv, Ge] at hk ⊢; omega)) hE484) good_Idx) ((szok_Table pre0 (by decide) (dec_f hb18)).1)) ?_)))))))))
            rintro v540 w537 ⟨A538, c538, lo538, hi538, A539, c539, lo539, hi539, rfl, h538, h539, hrn542, hrn543, hrn544, hE541⟩
            have hE541z := Ex.size hE541
            refine sd rfl (yl_move rfl rfl (sd rfl (yl_move rfl rfl (sd rfl (yl_move rfl rfl (sd rfl (yl_move rfl rfl ?_)))))))
            have q552 := RdS.ex good_Write (RdS.ex good_Write (RdS.mut good_Write (RdS.ex good_Write (RdS.mut good_Write (RdS.mut good_Write (RdS.ex good_Write (RdS.ex good_Write q346 hE350) hE362) hm375 (fun k hk => by simp only [InR, or_false, Iv, Ge] at hk ⊢; omega)) hm383 (fun k hk => by simp only [InR, or_false, Iv, Ge] at hk ⊢; omega)) hE463) hm470 (fun k hk => by simp only [InR, or_false, Iv, Ge] at hk ⊢; omega)) hE484) hE541
            refine sd rfl (yl_call Try.en22 rfl (opvs_cons rfl opvs_nil) (Cal.mono (c_l_toWriteS p_4 (RdS.up q552 good_Write) ((szok_WriteS pre4 (szok_Table pre0 (by decide) (dec_f hb18)).2 (dec_f hb27)).1)) ?_))
            rintro v555 w553 ⟨A554, c554, lo554, hi554, rfl, h554, hrn557, hE556⟩
            have hE556z := Ex.size hE556
            refine sd rfl (yl_call Try.en23 rfl (opvs_cons rfl (opvs_cons rfl (opvs_cons rfl (opvs_cons rfl (opvs_cons rfl opvs_nil))))) (Cal.mono (c_i_NewShift p_0 p_1 p_2 p_3 p_4 (RdS.up (OwnL.rd good_Str (OwnL.ex good_Str h538 hE556)) good_Str) (RdS.up (OwnL.rd good_Idx (OwnL.ex good_Idx h539 hE556)) good_Idx) (RdS.up (OwnL.rd good_Write h554) good_Write) ((szok_Table pre0 (by decide) (dec_f hb18)).1) (by unfold okS; omega) ((szok_WriteS pre4 (szok_Table pre0 (by decide) (dec_f hb18)).2 (dec_f hb27)).1)) ?_))
            rintro v568 w563 ⟨A564, c564, lo564, hi564, A565, c565, lo565, hi565, A566, c566, lo566, hi566, rfl, h564, h565, h566, ho567, hrn570, hrn571, hrn572, hrn573, hrn574, hrn575, hE569⟩
            have hE569z := Ex.size hE569
            refine sd rfl (yl_move rfl rfl (sd rfl (yl_extract rfl rfl rfl (sd rfl (yl_extract rfl rfl rfl (sd rfl (yl_alloc Try.ty50 (cs := [.string (bs (([] : Str))), .slice none 0 0, .slice none 0 0, .slice none 0 0]) rfl rfl ?_)))))))
            intro b576 w577 hs578 hz579 hB580 hE581
            refine SeqR.u rfl rfl (yl_store (vs := [.string (bs ((i_NewShift p_0 p_1 p_2 p_3 p_4).1.Name)), .slice A564 (((i_NewShift p_0 p_1 p_2 p_3 p_4).1.Ways).length) c564, .slice A565 (((i_NewShift p_0 p_1 p_2 p_3 p_4).1.At).length) c565, .slice A566 (((i_NewShift p_0 p_1 p_2 p_3 p_4).1.Store).length) c566]) Try.ty50 rfl rfl rfl rfl rfl rfl hB580 (Nat.le_of_ble_eq_true rfl) ?_)
            intro w582 hB583 hO584
            have hB583 : Box w582 b576 50 [.string (bs ((i_NewShift p_0 p_1 p_2 p_3 p_4).1.Name)), .slice A564 (((i_NewShift p_0 p_1 p_2 p_3 p_4).1.Ways).length) c564, .slice A565 (((i_NewShift p_0 p_1 p_2 p_3 p_4).1.At).length) c565, .slice A566 (((i_NewShift p_0 p_1 p_2 p_3 p_4).1.Store).length) c566] := hB583
            have hO584z := hO584.size
            refine sd rfl (yl_assign rfl rfl (SeqR.done (tn (CW.seq (CW.seq (CW.region (sd rfl (yl_loadN (cs := [.string (bs ((i_NewShift p_0 p_1 p_2 p_3 p_4).1.Name)), .slice A564 (((i_NewShift p_0 p_1 p_2 p_3 p_4).1.Ways).length) c564, .slice A565 (((i_NewShift p_0 p_1 p_2 p_3 p_4).1.At).length) c565, .slice A566 (((i_NewShift p_0 p_1 p_2 p_3 p_4).1.Store).length) c566]) Try.ty50 rfl rfl (hB583.cells (n := 4) rfl) rfl (sd rfl (yl_loadN (cs := [.string (bs ((s_NewShift p_0 p_1 p_2 p_3 p_4).1.Name)), .slice A59 (((s_NewShift p_0 p_1 p_2 p_3 p_4).1.Ways).length) c59, .slice A60 (((s_NewShift p_0 p_1 p_2 p_3 p_4).1.At).length) c60, .slice A61 (((s_NewShift p_0 p_1 p_2 p_3 p_4).1.Store).length) c61]) Try.ty50 rfl rfl ((Box.only (Box.ex (Box.ex (Box.ex (Box.ex (Box.ex (Box.mut (Box.ex q420 hE463) hm470 (fun k hk => by simp only [InR, or_false] at hk; omega)) hE484) hE541) hE556) hE569) hE581) hO584 (by omega)).cells (n := 4) rfl) rfl (sd rfl (yl_call Try.en24 rfl (opvs_cons rfl (opvs_cons rfl opvs_nil)) (Cal.mono (c_l_eqShift ((i_NewShift p_0 p_1 p_2 p_3 p_4).1) ((s_NewShift p_0 p_1 p_2 p_3 p_4).1) (RdS.up (OwnL.rd good_Table (OwnD.own goodO_Table good_Table (OwnD.only goodO_Table (OwnD.ex goodO_Table h564 hE581) hO584 (by omega)))) good_Table) (RdS.up (OwnL.rd good_Int (OwnL.only good_Int (OwnL.ex good_Int h565 hE581) hO584 (by omega))) good_Int) (RdS.up (OwnL.rd good_Write (OwnL.only good_Write (OwnL.ex good_Write h566 hE581) hO584 (by omega))) good_Write) (RdS.up (OwnL.rd good_Table (OwnD.own goodO_Table good_Table (OwnD.only goodO_Table (OwnD.ex goodO_Table (OwnD.ex goodO_Table (OwnD.ex goodO_Table (OwnD.ex goodO_Table (OwnD.ex goodO_Table (OwnD.mut goodO_Table (OwnD.ex goodO_Table q448 hE463) hm470 (fun k hk => by simp only [InR, or_false] at hk; omega)) hE484) hE541) hE556) hE569) hE581) hO584 (by omega)))) good_Table) (RdS.up (RdS.only good_Int (RdS.ex good_Int (RdS.ex good_Int (RdS.ex good_Int (RdS.ex good_Int (RdS.ex good_Int (RdS.mut good_Int (RdS.ex good_Int q454 hE463) hm470 (fun k hk => by simp only [InR, or_false, Iv, Ge] at hk ⊢; omega)) hE484) hE541) hE556) hE569) hE581) hO584 (by simp only [Iv]; omega)) good_Int) (RdS.up (RdS.only good_Write (RdS.ex good_Write (RdS.ex good_Write (RdS.ex good_Write (RdS.ex good_Write (RdS.ex good_Write (RdS.mut good_Write (RdS.ex good_Write q460 hE463) hm470 (fun k hk => by simp only [InR, or_false, Iv, Ge] at hk ⊢; omega)) hE484) hE541) hE556) hE569) hE581) hO584 (by simp only [Iv]; omega)) good_Write)) ?_)))))))))))))
            rintro v628 w627 ⟨rfl, hE629⟩
            have hE629z := Ex.size hE629
            refine sd rfl (yl_not rfl rfl (sd rfl (yl_move rfl rfl (sy rfl rfl (not_t hb198) (yl_move rfl rfl (sy rfl rfl (not_t hb198) (yl_move rfl rfl (sy rfl rfl (not_t hb198) (yl_bneq Try.un4 rfl rfl rfl (sd rfl (yl_pick_f rfl rfl (not_t hb198) rfl (SeqR.done (tn (CW.cond_f rfl (not_t hb199) ?_))))))))))))))
            refine CW.skip (tn (CW.seq (CW.region (sd rfl (yl_assign rfl rfl (SeqR.done (tn (CW.seq (CW.region ?_)))))))))
            refine sd rfl (yl_loadN (cs := [.string (bs ((i_NewShift p_0 p_1 p_2 p_3 p_4).1.Name)), .slice A130 (((i_NewShift p_0 p_1 p_2 p_3 p_4).1.Ways).length) c130, .slice A131 (((i_NewShift p_0 p_1 p_2 p_3 p_4).1.At).length) c131, .slice A132 (((i_NewShift p_0 p_1 p_2 p_3 p_4).1.Store).length) c132]) Try.ty50 rfl rfl ((Box.ex (Box.only (Box.ex (Box.ex (Box.ex (Box.ex (Box.ex q475 hE484) hE541) hE556) hE569) hE581) hO584 (by omega)) hE629).cells (n := 4) rfl) rfl (sd rfl (yl_move rfl rfl ?_)))
            have q644 := OwnD.ex goodO_Table (OwnD.only goodO_Table (OwnD.ex goodO_Table (OwnD.ex goodO_Table (OwnD.ex goodO_Table (OwnD.ex goodO_Table (OwnD.ex goodO_Table h471 hE484) hE541) hE556) hE569) hE581) hO584 (by omega)) hE629
            have hle637 := OwnD.len q644
            have q653 := OwnL.ex good_Int (OwnL.only good_Int (OwnL.ex good_Int (OwnL.ex good_Int (OwnL.ex good_Int (OwnL.ex good_Int (OwnL.ex good_Int h472 hE484) hE541) hE556) hE569) hE581) hO584 (by omega)) hE629
            have hle646 := OwnL.len q653
            have q662 := OwnL.ex good_Write (OwnL.only good_Write (OwnL.ex good_Write (OwnL.ex good_Write (OwnL.ex good_Write (OwnL.ex good_Write (OwnL.ex good_Write h473 hE484) hE541) hE556) hE569) hE581) hO584 (by omega)) hE629
            have hle655 := OwnL.len q662
            refine sd rfl (yl_call Try.en29 rfl (opvs_cons rfl (opvs_cons rfl opvs_nil)) (Cal.mono (Cal.args (by rw [← hle637, ← hle646, ← hle655] <;> rfl) (c_l_heldShift (⟨(i_NewShift p_0 p_1 p_2 p_3 p_4).1.Name, (l_markShift ((i_NewShift p_0 p_1 p_2 p_3 p_4).1) 1).2.Ways, (l_markShift ((i_NewShift p_0 p_1 p_2 p_3 p_4).1) 1).2.At, (l_markShift ((i_NewShift p_0 p_1 p_2 p_3 p_4).1) 1).2.Store⟩ : DShift) 1 (RdS.fix (RdS.up (OwnL.rd good_Table (OwnD.own goodO_Table good_Table q644)) good_Table)) (RdS.fix (RdS.up (OwnL.rd good_Int q653) good_Int)) (RdS.fix (RdS.up (OwnL.rd good_Write q662) good_Write)) (by first | omega | assumption | (simp only [IntKind.wrap_i64] at *; omega)))) ?_))
            rintro v665 w664 ⟨rfl, hE666⟩
            have hE666z := Ex.size hE666
            have hrf667 := rf_heldShift (⟨(i_NewShift p_0 p_1 p_2 p_3 p_4).1.Name, (l_markShift ((i_NewShift p_0 p_1 p_2 p_3 p_4).1) 1).2.Ways, (l_markShift ((i_NewShift p_0 p_1 p_2 p_3 p_4).1) 1).2.At, (l_markShift ((i_NewShift p_0 p_1 p_2 p_3 p_4).1) 1).2.Store⟩ : DShift) 1 (by first | omega | assumption | (simp only [IntKind.wrap_i64] at *; omega))
            refine sd rfl (yl_assign rfl rfl (SeqR.done (tn (CW.seq (CW.seq (CW.region (sd rfl (yl_move rfl rfl (sd rfl (yl_lss rfl rfl rfl (SeqR.done ?_)))))))))))
            refine tn (CW.cond_f rfl hb486 (CW.skip (tn (CW.seq (CW.seq (CW.region (sd rfl (yl_move rfl rfl (sd rfl (yl_move rfl rfl ?_))))))))))
            refine sd rfl (yl_neq rfl rfl rfl (SeqR.done (tn (CW.cond_f rfl (not_t hb512) (CW.skip (tn (CW.seq (CW.region (sd rfl (yl_assign rfl rfl ?_))))))))))
            refine SeqR.done (tn (CW.ret (rr rfl (.cons rfl .nil) ?_)))
            have hM668 : (l_FnExactNewShift p_0 p_1 p_2 p_3 p_4) = (true) := by simp only [l_FnExactNewShift, hb10, hb18, hb27, hb198, hb199, hb340, hb363, hb386, hb486, hb512, cond_true, cond_false, loopE_done, loopE_ret]
            rw [hM668]
            have q688 := Ex.mut (Ex.trans (Ex.trans (Ex.trans (Ex.trans (Below.only (Ex.trans (Ex.trans (Ex.trans (Below.only (Ex.trans (Ex.trans (Below.only (Ex.trans (Ex.trans (Ex.trans (Ex.trans (Ex.trans (Ex.trans (Ex.trans (Ex.refl w) hE9) hE17) hE26) hE42) hE51) hE64) hE71) hO74 (by omega)) hE94) hE103) hO106 (by omega)) hE117) hE135) hE147) hO150 (by omega)) hE197) hE312) hE350) hE362) hm375 (fun k hk => by simp only [InR, or_false] at hk; omega)
            exact ⟨rfl, (Ex.trans (Ex.trans (Below.only (Ex.trans (Ex.trans (Ex.trans (Ex.trans (Ex.trans (Ex.mut (Ex.trans (Ex.mut q688 hm383 (fun k hk => by simp only [InR, or_false] at hk; omega)) hE463) hm470 (fun k hk => by simp only [InR, or_false] at hk; omega)) hE484) hE541) hE556) hE569) hE581) hO584 (by omega)) hE629) hE666)⟩
           ·have hb512p := dec_f hb512
            refine CW.cond_t rfl (not_f hb512) (CW.seq (CW.region (sd rfl (yl_assign rfl rfl (SeqR.done (tn (CW.ret (tr (rr rfl (.cons rfl .nil) ?_)))))))))
            have hM700 : (l_FnExactNewShift p_0 p_1 p_2 p_3 p_4) = (false) := by simp only [l_FnExactNewShift, hb10, hb18, hb27, hb198, hb199, hb340, hb363, hb386, hb486, hb512, cond_true, cond_false, loopE_done, loopE_ret]
            rw [hM700]
            have q720 := Ex.mut (Ex.trans (Ex.trans (Ex.trans (Ex.trans (Below.only (Ex.trans (Ex.trans (Ex.trans (Below.only (Ex.trans (Ex.trans (Below.only (Ex.trans (Ex.trans (Ex.trans (Ex.trans (Ex.trans (Ex.trans (Ex.trans (Ex.refl w) hE9) hE17) hE26) hE42) hE51) hE64) hE71) hO74 (by omega)) hE94) hE103) hO106 (by omega)) hE117) hE135) hE147) hO150 (by omega)) hE197) hE312) hE350) hE362) hm375 (fun k hk => by simp only [InR, or_false] at hk; omega)
            exact ⟨rfl, (Ex.trans (Ex.mut (Ex.trans (Ex.mut q720 hm383 (fun k hk => by simp only [InR, or_false] at hk; omega)) hE463) hm470 (fun k hk => by simp only [InR, or_false] at hk; omega)) hE484)⟩
        ·refine CW.cond_t rfl (not_f hb363) (CW.seq (CW.region (sd rfl (yl_assign rfl rfl (SeqR.done (tn (CW.ret (tr (rr rfl (.cons rfl .nil) ?_)))))))))
         have hM725 : (l_FnExactNewShift p_0 p_1 p_2 p_3 p_4) = (false) := by simp only [l_FnExactNewShift, hb10, hb18, hb27, hb198, hb199, hb340, hb363, cond_true, cond_false, loopE_done, loopE_ret]
         rw [hM725]
         exact ⟨rfl, (Ex.trans (Ex.trans (Ex.trans (Ex.trans (Below.only (Ex.trans (Ex.trans (Ex.trans (Below.only (Ex.trans (Ex.trans (Below.only (Ex.trans (Ex.trans (Ex.trans (Ex.trans (Ex.trans (Ex.trans (Ex.trans (Ex.refl w) hE9) hE17) hE26) hE42) hE51) hE64) hE71) hO74 (by omega)) hE94) hE103) hO106 (by omega)) hE117) hE135) hE147) hO150 (by omega)) hE197) hE312) hE350) hE362)⟩
       ·refine CW.cond_t rfl (not_f hb340) (CW.seq (CW.region (sd rfl (yl_assign rfl rfl (SeqR.done (tn (CW.ret (tr (rr rfl (.cons rfl .nil) ?_)))))))))
        have hM745 : (l_FnExactNewShift p_0 p_1 p_2 p_3 p_4) = (false) := by simp only [l_FnExactNewShift, hb10, hb18, hb27, hb198, hb199, hb340, cond_true, cond_false, loopE_done, loopE_ret]
        rw [hM745]
        exact ⟨rfl, (Ex.trans (Ex.trans (Below.only (Ex.trans (Ex.trans (Ex.trans (Below.only (Ex.trans (Ex.trans (Below.only (Ex.trans (Ex.trans (Ex.trans (Ex.trans (Ex.trans (Ex.trans (Ex.trans (Ex.refl w) hE9) hE17) hE26) hE42) hE51) hE64) hE71) hO74 (by omega)) hE94) hE103) hO106 (by omega)) hE117) hE135) hE147) hO150 (by omega)) hE197) hE312)⟩
     ·refine CW.cond_t rfl (not_f hb199) (CW.seq (CW.region (sd rfl (yl_assign rfl rfl (SeqR.done (tn (CW.ret (tr (rr rfl (.cons rfl .nil) ?_)))))))))
      have hM763 : (l_FnExactNewShift p_0 p_1 p_2 p_3 p_4) = (false) := by simp only [l_FnExactNewShift, hb10, hb18, hb27, hb198, hb199, cond_true, cond_false, loopE_done, loopE_ret]
      rw [hM763]
      exact ⟨rfl, (Ex.trans (Below.only (Ex.trans (Ex.trans (Ex.trans (Below.only (Ex.trans (Ex.trans (Below.only (Ex.trans (Ex.trans (Ex.trans (Ex.trans (Ex.trans (Ex.trans (Ex.trans (Ex.refl w) hE9) hE17) hE26) hE42) hE51) hE64) hE71) hO74 (by omega)) hE94) hE103) hO106 (by omega)) hE117) hE135) hE147) hO150 (by omega)) hE197)⟩
    ·refine sz rfl rfl (not_f hb198) (sz rfl rfl (not_f hb198) (sz rfl rfl (not_f hb198) (sd rfl (yl_pick_t rfl rfl (not_f hb198) rfl (SeqR.done (tn (CW.cond_t rfl rfl (CW.seq (CW.region ?_)))))))))
     refine sd rfl (yl_assign rfl rfl (SeqR.done (tn (CW.ret (tr (rr rfl (.cons rfl .nil) ?_))))))
     have hM780 : (l_FnExactNewShift p_0 p_1 p_2 p_3 p_4) = (false) := by simp only [l_FnExactNewShift, hb10, hb18, hb27, hb198, cond_true, cond_false, loopE_done, loopE_ret]
     rw [hM780]
     exact ⟨rfl, (Ex.trans (Below.only (Ex.trans (Ex.trans (Ex.trans (Below.only (Ex.trans (Ex.trans (Below.only (Ex.trans (Ex.trans (Ex.trans (Ex.trans (Ex.trans (Ex.trans (Ex.trans (Ex.refl w) hE9) hE17) hE26) hE42) hE51) hE64) hE71) hO74 (by omega)) hE94) hE103) hO106 (by omega)) hE117) hE135) hE147) hO150 (by omega)) hE197)⟩
end Go.Proofs.Ytdbobbmagmcpnaa
