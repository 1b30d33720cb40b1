/- Copy Bytes: what each call returns, part 1. -/
import Derived.Test.YtmlfbjlkccnpmaaCopyBytesL
import Derived.Test.YtmlfbjlkccnpmaaCopyBytesF
set_option linter.unusedVariables false
set_option linter.unusedSimpArgs false
namespace Go.Proofs.Ytmlfbjlkccnpmaa
open Go.RowKit Go.X
set_option maxRecDepth 100000 in
set_option maxHeartbeats 2000000 in
theorem c_l_szWrite {w : World} (p_a : DWrite) (p_left : Int) : Cal Try.prog 166 #[.agg #[.string (bs (p_a.Key)), .string (bs (p_a.Val)), .bool (p_a.Gone)], .int .i64 (p_left)] w fun v w' => v = .int .i64 ((l_szWrite p_a p_left)) ∧ Ex w w' := by
 refine Cal.of (vs := [.agg #[.string (bs (p_a.Key)), .string (bs (p_a.Val)), .bool (p_a.Gone)], .int .i64 (p_left)]) Try.func166 rfl Try.ntmps166 rfl (CW.seq (CW.region (sd rfl (yl_box (cs := [.string (bs (p_a.Key)), .string (bs (p_a.Val)), .bool (p_a.Gone)]) rfl rfl rfl ?_))))
 intro b1 w2 hs3 hz4 hB5 hE6
 refine sd rfl (yl_assign rfl rfl (SeqR.done (tn (CW.seq (CW.region (sd rfl (yl_move rfl rfl (sd rfl (yl_fieldAddr Try.fd196_0 rfl rfl (sd rfl (yl_load1 Try.ty9 rfl rfl ((hB5.cell 0).trans rfl) (sd rfl (yl_slen Try.un9 (a := p_a.Key) rfl rfl ?_)))))))))))))
 refine sd rfl (yl_sub rfl rfl rfl (sd rfl (yl_assign rfl rfl (SeqR.done (tn (CW.seq (CW.seq (CW.region (sd rfl (yl_move rfl rfl (sd rfl (yl_lss rfl rfl rfl ?_))))))))))))
 refine SeqR.done (tn (bcase (decide ((IntKind.wrap .i64 (p_left - (p_a.Key.length : Int))) < 0)) (fun hb7 => ?_) (fun hb7 => ?_)))
 ·have hb7p := dec_t hb7
  refine CW.cond_t rfl hb7 (CW.seq (CW.region (sd rfl (yl_assign rfl rfl (SeqR.done (tn (CW.ret (tr (rr rfl (.cons rfl .nil) ?_)))))))))
  have hM8 : (l_szWrite p_a p_left) = (-1) := by simp only [l_szWrite, hb7, cond_true, cond_false, loopE_done, loopE_ret]
  rw [hM8]
  exact ⟨rfl, (Ex.trans (Ex.refl w) hE6)⟩
 ·have hb7p := dec_f hb7
  refine CW.cond_f rfl hb7 (CW.skip (tn (CW.seq (CW.region (sd rfl (yl_move rfl rfl (sd rfl (yl_fieldAddr Try.fd196_1 rfl rfl (sd rfl (yl_load1 Try.ty9 rfl rfl ((hB5.cell 1).trans rfl) (sd rfl (yl_slen Try.un9 (a := p_a.Val) rfl rfl ?_))))))))))))
  refine sd rfl (yl_sub rfl rfl rfl (sd rfl (yl_assign rfl rfl (SeqR.done (tn (CW.seq (CW.seq (CW.region (sd rfl (yl_move rfl rfl (sd rfl (yl_lss rfl rfl rfl ?_))))))))))))
  refine SeqR.done (tn (bcase (decide ((IntKind.wrap .i64 ((IntKind.wrap .i64 (p_left - (p_a.Key.length : Int))) - (p_a.Val.length : Int))) < 0)) (fun hb10 => ?_) (fun hb10 => ?_)))
  ·have hb10p := dec_t hb10
   refine CW.cond_t rfl hb10 (CW.seq (CW.region (sd rfl (yl_assign rfl rfl (SeqR.done (tn (CW.ret (tr (rr rfl (.cons rfl .nil) ?_)))))))))
   have hM11 : (l_szWrite p_a p_left) = (-1) := by simp only [l_szWrite, hb7, hb10, cond_true, cond_false, loopE_done, loopE_ret]
   rw [hM11]
   exact ⟨rfl, (Ex.trans (Ex.refl w) hE6)⟩
  ·have hb10p := dec_f hb10
   refine CW.cond_f rfl hb10 (CW.skip (tn (CW.seq (CW.region (sd rfl (yl_move rfl rfl (sd rfl (yl_assign rfl rfl (SeqR.done (tn ?_))))))))))
   refine CW.ret (rr rfl (.cons rfl .nil) ?_)
   have hM13 : (l_szWrite p_a p_left) = (IntKind.wrap .i64 ((IntKind.wrap .i64 (p_left - (p_a.Key.length : Int))) - (p_a.Val.length : Int))) := by simp only [l_szWrite, hb7, hb10, cond_true, cond_false, loopE_done, loopE_ret]
   rw [hM13]
   exact ⟨rfl, (Ex.trans (Ex.refl w) hE6)⟩
set_option maxRecDepth 100000 in
set_option maxHeartbeats 2000000 in
theorem c_l_szWriteS {A1 : Option Addr} {c1 : Nat} {w : World} (p_a : List DWrite) (p_left : Int) (h1 : RdS w (Iv 0 w.heap.size) (RF e_Write) 3 A1 p_a.length c1 p_a) : Cal Try.prog 96 #[.slice A1 p_a.length c1, .int .i64 (p_left)] w fun v w' => v = .int .i64 ((l_szWriteS p_a p_left)) ∧ Ex w w' := by
 refine Cal.of (vs := [.slice A1 p_a.length c1, .int .i64 (p_left)]) Try.func96 rfl Try.ntmps96 rfl (CW.seq (CW.region (sd rfl (yl_assign rfl rfl (SeqR.done (tn (CW.seq (CW.region (sd rfl (yl_move rfl rfl ?_))))))))))
 refine sd rfl (yl_move rfl rfl (sd rfl (yl_len Try.un73 rfl rfl (sd rfl (yl_sub rfl rfl rfl (sd rfl (yl_assign rfl rfl (SeqR.done (tn (CW.seq (CW.seq (CW.region ?_))))))))))))
 refine sd rfl (yl_move rfl rfl (sd rfl (yl_lss rfl rfl rfl (SeqR.done (tn (bcase (decide ((IntKind.wrap .i64 (p_left - (p_a.length : Int))) < 0)) (fun hb2 => ?_) (fun hb2 => ?_)))))))
 ·have hb2p := dec_t hb2
  refine CW.cond_t rfl hb2 (CW.seq (CW.region (sd rfl (yl_assign rfl rfl (SeqR.done (tn (CW.ret (tr (rr rfl (.cons rfl .nil) ?_)))))))))
  have hM3 : (l_szWriteS p_a p_left) = (-1) := by simp only [l_szWriteS, hb2, cond_true, cond_false, loopE_done, loopE_ret]
  rw [hM3]
  exact ⟨rfl, (Ex.refl w)⟩
 ·have hb2p := dec_f hb2
  refine CW.cond_f rfl hb2 (CW.skip (tn (CW.seq (CW.seq (CW.region (sd rfl (yl_assign rfl rfl (SeqR.done (tn ?_)))))))))
  refine CW.block (CW.loop (fun m6 L7 w8 => ∃ (k4 : Nat) (x5 : Int), m6 = p_a.length - k4 ∧ k4 ≤ p_a.length ∧ w.heap.size ≤ w8.heap.size ∧ lkp L7 0 = some (.slice A1 p_a.length c1) ∧ lkp L7 1 = some (.int .i64 (x5)) ∧ lkp L7 5 = some (.int .i64 ((k4 : Int))) ∧ RdS w8 (Iv 0 w.heap.size) (RF e_Write) 3 A1 p_a.length c1 p_a ∧ Ex w w8 ∧ loopM (B_l_szWriteS_0 p_a p_left) (p_a.length - k4) k4 (x5) = loopM (B_l_szWriteS_0 p_a p_left) (p_a.length - 0) 0 (IntKind.wrap .i64 (p_left - (p_a.length : Int)))) (p_a.length - 0) ?_ ?_)
  ·exact ⟨0, IntKind.wrap .i64 (p_left - (p_a.length : Int)), rfl, (by omega), Nat.le_refl _, rfl, rfl, rfl, h1, (Ex.refl w), rfl⟩
  ·rintro m9 L10 w11 ⟨k4, x5, rfl, hk12, hsz14, hl15, hl16, hl17, hf18, hf19, hI13⟩
   refine CW.sub (Sub.cons hl15 (Sub.cons hl16 (Sub.cons hl17 (Sub.nil _)))) ?_
   have hf19z := Ex.size hf19
   have hbg20 := RdS.big hf18
   rcases Nat.lt_or_ge k4 p_a.length with hlt21 | hlt21
   ·refine CW.seq (CW.seq (CW.region (sd rfl (yl_move rfl rfl (sd rfl (yl_move rfl rfl (sd rfl (yl_len Try.un73 rfl rfl (sd rfl (yl_lss rfl rfl rfl (SeqR.done (tn ?_))))))))))))
    refine CW.cond_t rfl (lt_t hlt21) (CW.skip (tn (CW.seq (CW.block (CW.seq (CW.region (sd rfl (yl_move rfl rfl (sd rfl (yl_move rfl rfl ?_))))))))))
    obtain ⟨eb22, eo22, ec22, eA22, eS22, ebl22, el22, eR22, eC22⟩ := RdS.atD hf18 d_Write (i := k4) (by first | omega | assumption)
    obtain rfl := eR22
    have eC22 : Cells w11 eb22 (eo22 + k4 * 3) [.string (bs ((p_a.getD k4 d_Write).Key)), .string (bs ((p_a.getD k4 d_Write).Val)), .bool ((p_a.getD k4 d_Write).Gone)] := eC22
    refine sd rfl (yl_indexAddrN Try.un73 Try.ty196 rfl rfl rfl eA22 (by first | omega | assumption | (simp only [IntKind.wrap_i64] at *; omega)) (sd rfl (yl_loadN (cs := [.string (bs ((p_a.getD k4 d_Write).Key)), .string (bs ((p_a.getD k4 d_Write).Val)), .bool ((p_a.getD k4 d_Write).Gone)]) Try.ty196 rfl rfl eC22 rfl (sd rfl (yl_move rfl rfl (sd rfl (yl_call Try.en166 rfl (opvs_cons rfl (opvs_cons rfl opvs_nil)) (Cal.mono (c_l_szWrite (p_a.getD k4 d_Write) x5) ?_))))))))
    rintro v24 w23 ⟨rfl, hE25⟩
    have hE25z := Ex.size hE25
    refine sd rfl (yl_assign rfl rfl (SeqR.done (tn (CW.seq (CW.region (sd rfl (yl_move rfl rfl (sd rfl (yl_lss rfl rfl rfl (SeqR.done (tn ?_)))))))))))
    refine bcase (decide ((l_szWrite (p_a.getD k4 d_Write) x5) < 0)) (fun hb26 => ?_) (fun hb26 => ?_)
    ·have hb26p := dec_t hb26
     refine CW.cond_t rfl hb26 (CW.seq (CW.region (sd rfl (yl_assign rfl rfl (SeqR.done (tn (CW.ret (br (tr ?_)))))))))
     refine tr ?_
     have hB28 : B_l_szWriteS_0 p_a p_left k4 (x5) = .ret (-1) := by simp only [B_l_szWriteS_0, hb2, hb26, cond_true, cond_false, loopE_done, loopE_ret]
     have hL27 : loopM (B_l_szWriteS_0 p_a p_left) (p_a.length - 0) 0 (IntKind.wrap .i64 (p_left - (p_a.length : Int))) = .ret (-1) := hI13.symm.trans (loopM.ret hlt21 hB28)
     refine br (tr (rr rfl (.cons rfl .nil) ?_))
     have hM29 : (l_szWriteS p_a p_left) = (-1) := by simp only [l_szWriteS, hb2, hb26, hL27, cond_true, cond_false, loopE_done, loopE_ret]
     rw [hM29]
     exact ⟨rfl, (Ex.trans hf19 hE25)⟩
    ·have hb26p := dec_f hb26
     refine CW.cond_f rfl hb26 (CW.skip (bn (tn (CW.region (sd rfl (yl_move rfl rfl (sd rfl (yl_inc rfl rfl rfl (by omega) (sd rfl (yl_assign rfl rfl (SeqR.done ?_)))))))))))
     refine tn ?_
     have hB31 : B_l_szWriteS_0 p_a p_left k4 (x5) = .cont ((l_szWrite (p_a.getD k4 d_Write) x5)) := by simp only [B_l_szWriteS_0, hb2, hb26, cond_true, cond_false, loopE_done, loopE_ret]
     exact ⟨p_a.length - (k4 + 1), by omega, k4 + 1, (l_szWrite (p_a.getD k4 d_Write) x5), rfl, hlt21, (by omega), rfl, rfl, rfl, (RdS.ex good_Write hf18 hE25), (Ex.trans hf19 hE25), (loopM.cont hlt21 hB31).symm.trans hI13⟩
   ·refine CW.seq (CW.seq (CW.region (sd rfl (yl_move rfl rfl (sd rfl (yl_move rfl rfl (sd rfl (yl_len Try.un73 rfl rfl (sd rfl (yl_lss rfl rfl rfl (SeqR.done (tn ?_))))))))))))
    refine CW.cond_f rfl (lt_f hlt21) (CW.exit (tx (tx ?_)))
    have hL34 : loopM (B_l_szWriteS_0 p_a p_left) (p_a.length - 0) 0 (IntKind.wrap .i64 (p_left - (p_a.length : Int))) = .done (x5) := hI13.symm.trans (loopM.stop hlt21)
    refine bx (tn (CW.seq (CW.region (sd rfl (yl_move rfl rfl (sd rfl (yl_assign rfl rfl (SeqR.done (tn (CW.ret ?_))))))))))
    refine rr rfl (.cons rfl .nil) ?_
    have hM35 : (l_szWriteS p_a p_left) = (x5) := by simp only [l_szWriteS, hb2, hL34, cond_true, cond_false, loopE_done, loopE_ret]
    rw [hM35]
    exact ⟨rfl, hf19⟩
set_option maxRecDepth 100000 in
set_option maxHeartbeats 2000000 in
theorem c_l_szCopy {A1 : Option Addr} {c1 : Nat} {w : World} (p_a : DCopy) (p_left : Int) (h1 : RdS w (Iv 0 w.heap.size) (RF e_Write) 3 A1 p_a.Rows.length c1 p_a.Rows) : Cal Try.prog 39 #[.agg #[.int .i64 (p_a.Time), .slice A1 p_a.Rows.length c1], .int .i64 (p_left)] w fun v w' => v = .int .i64 ((l_szCopy p_a p_left)) ∧ Ex w w' := by
 refine Cal.of (vs := [.agg #[.int .i64 (p_a.Time), .slice A1 p_a.Rows.length c1], .int .i64 (p_left)]) Try.func39 rfl Try.ntmps39 rfl (CW.seq (CW.region (sd rfl (yl_box (cs := [.int .i64 (p_a.Time), .slice A1 p_a.Rows.length c1]) rfl rfl rfl ?_))))
 intro b2 w3 hs4 hz5 hB6 hE7
 refine sd rfl (yl_assign rfl rfl (SeqR.done (tn (CW.seq (CW.region (sd rfl (yl_fieldAddr Try.fd75_1 rfl rfl (sd rfl (yl_load1 Try.ty73 rfl rfl ((hB6.cell 1).trans rfl) (sd rfl (yl_move rfl rfl (sd rfl (yl_call Try.en96 rfl (opvs_cons rfl (opvs_cons rfl opvs_nil)) (Cal.mono (c_l_szWriteS p_a.Rows p_left (RdS.up (RdS.ex good_Write h1 hE7) good_Write)) ?_))))))))))))))
 rintro v10 w9 ⟨rfl, hE11⟩
 have hE11z := Ex.size hE11
 refine sd rfl (yl_assign rfl rfl (SeqR.done (tn (CW.seq (CW.seq (CW.region (sd rfl (yl_move rfl rfl (sd rfl (yl_lss rfl rfl rfl (SeqR.done ?_)))))))))))
 refine tn (bcase (decide ((l_szWriteS p_a.Rows p_left) < 0)) (fun hb12 => ?_) (fun hb12 => ?_))
 ·have hb12p := dec_t hb12
  refine CW.cond_t rfl hb12 (CW.seq (CW.region (sd rfl (yl_assign rfl rfl (SeqR.done (tn (CW.ret (tr (rr rfl (.cons rfl .nil) ?_)))))))))
  have hM13 : (l_szCopy p_a p_left) = (-1) := by simp only [l_szCopy, hb12, cond_true, cond_false, loopE_done, loopE_ret]
  rw [hM13]
  exact ⟨rfl, (Ex.trans (Ex.trans (Ex.refl w) hE7) hE11)⟩
 ·have hb12p := dec_f hb12
  refine CW.cond_f rfl hb12 (CW.skip (tn (CW.seq (CW.region (sd rfl (yl_move rfl rfl (sd rfl (yl_assign rfl rfl (SeqR.done (tn ?_))))))))))
  refine CW.ret (rr rfl (.cons rfl .nil) ?_)
  have hM16 : (l_szCopy p_a p_left) = ((l_szWriteS p_a.Rows p_left)) := by simp only [l_szCopy, hb12, cond_true, cond_false, loopE_done, loopE_ret]
  rw [hM16]
  exact ⟨rfl, (Ex.trans (Ex.trans (Ex.refl w) hE7) hE11)⟩
set_option maxRecDepth 100000 in
set_option maxHeartbeats 2000000 in
theorem c_l_toWrite {w : World} (p_a : DWrite) (o1 : ok_Write p_a) : Cal Try.prog 168 #[.agg #[.string (bs (p_a.Key)), .string (bs (p_a.Val)), .bool (p_a.Gone)]] w fun v w' => v = .agg #[.string (bs (p_a.Key)), .string (bs (p_a.Val)), .bool (p_a.Gone)] ∧ Ex w w' := by
 have hol2 : p_a.Key.length ≤ 1073741824 := o1.1
 have hol3 : p_a.Val.length ≤ 1073741824 := o1.2
 refine Cal.of (vs := [.agg #[.string (bs (p_a.Key)), .string (bs (p_a.Val)), .bool (p_a.Gone)]]) Try.func168 rfl Try.ntmps168 rfl (CW.seq (CW.region (sd rfl (yl_box (cs := [.string (bs (p_a.Key)), .string (bs (p_a.Val)), .bool (p_a.Gone)]) rfl rfl rfl ?_))))
 intro b4 w5 hs6 hz7 hB8 hE9
 refine sd rfl (yl_alloc Try.ty144 (cs := [.string (bs (([] : Str))), .string (bs (([] : Str))), .bool (false)]) rfl rfl ?_)
 intro b10 w11 hs12 hz13 hB14 hE15
 refine SeqR.done (tn (CW.seq (CW.region (sd rfl (yl_alloc Try.ty144 (cs := [.string (bs (([] : Str))), .string (bs (([] : Str))), .bool (false)]) rfl rfl ?_)))))
 intro b16 w17 hs18 hz19 hB20 hE21
 refine SeqR.done (tn (CW.seq (CW.region (sd rfl (yl_fieldAddr Try.fd196_0 rfl rfl ?_)))))
 have q23 := Box.ex (Box.ex hB8 hE15) hE21
 refine sd rfl (yl_load1 Try.ty9 rfl rfl ((q23.cell 0).trans rfl) (sd rfl (yl_fieldAddr Try.fd144_0 rfl rfl (SeqR.u rfl rfl (yl_store (vs := [.string (bs (p_a.Key))]) Try.ty9 rfl rfl rfl rfl rfl rfl hB20 (Nat.le_of_ble_eq_true rfl) ?_)))))
 intro w24 hB25 hO26
 have hB25 : Box w24 b16 144 [.string (bs (p_a.Key)), .string (bs (([] : Str))), .bool (false)] := hB25
 have hO26z := hO26.size
 refine SeqR.done (tn (CW.seq (CW.region (sd rfl (yl_fieldAddr Try.fd196_1 rfl rfl ?_)))))
 have q27 := Box.only q23 hO26 (by omega)
 refine sd rfl (yl_load1 Try.ty9 rfl rfl ((q27.cell 1).trans rfl) (sd rfl (yl_fieldAddr Try.fd144_1 rfl rfl (SeqR.u rfl rfl (yl_store (vs := [.string (bs (p_a.Val))]) Try.ty9 rfl rfl rfl rfl rfl rfl hB25 (Nat.le_of_ble_eq_true rfl) ?_)))))
 intro w28 hB29 hO30
 have hB29 : Box w28 b16 144 [.string (bs (p_a.Key)), .string (bs (p_a.Val)), .bool (false)] := hB29
 have hO30z := hO30.size
 refine SeqR.done (tn (CW.seq (CW.region (sd rfl (yl_fieldAddr Try.fd196_2 rfl rfl (sd rfl (yl_load1 Try.ty4 rfl rfl (((Box.only q27 hO30 (by omega)).cell 2).trans rfl) (sd rfl (yl_fieldAddr Try.fd144_2 rfl rfl (SeqR.u rfl rfl (yl_store (vs := [.bool (p_a.Gone)]) Try.ty4 rfl rfl rfl rfl rfl rfl hB29 (Nat.le_of_ble_eq_true rfl) ?_)))))))))))
 intro w32 hB33 hO34
 have hB33 : Box w32 b16 144 [.string (bs (p_a.Key)), .string (bs (p_a.Val)), .bool (p_a.Gone)] := hB33
 have hO34z := hO34.size
 refine SeqR.done (tn (CW.seq (CW.region (sd rfl (yl_loadN (cs := [.string (bs (p_a.Key)), .string (bs (p_a.Val)), .bool (p_a.Gone)]) Try.ty144 rfl rfl (hB33.cells (n := 3) rfl) rfl (SeqR.u rfl rfl (yl_store (vs := [.string (bs (p_a.Key)), .string (bs (p_a.Val)), .bool (p_a.Gone)]) Try.ty144 rfl rfl rfl rfl rfl rfl (Box.only (Box.only (Box.only (Box.ex hB14 hE21) hO26 (by omega)) hO30 (by omega)) hO34 (by omega)) (Nat.le_of_ble_eq_true rfl) ?_)))))))
 intro w39 hB40 hO41
 have hB40 : Box w39 b10 144 [.string (bs (p_a.Key)), .string (bs (p_a.Val)), .bool (p_a.Gone)] := hB40
 have hO41z := hO41.size
 refine SeqR.done (tn (CW.ret (rr rfl (.cons ⟨_, rfl, run_loadN Try.ty144 (cs := [.string (bs (p_a.Key)), .string (bs (p_a.Val)), .bool (p_a.Gone)]) rfl (hB40.cells (n := 3) rfl)⟩ .nil) ?_)))
 have hM42 : p_a = (p_a) := (to_Write _).symm.trans <| by simp only [l_toWrite, cond_true, cond_false, loopE_done, loopE_ret]
 rw [hM42]
 exact ⟨rfl, (Below.only (Below.only (Below.only (Below.only (Ex.trans (Ex.trans (Ex.trans (Ex.refl w) hE9) hE15) hE21) hO26 (by omega)) hO30 (by omega)) hO34 (by omega)) hO41 (by omega))⟩
set_option maxRecDepth 100000 in
set_option maxHeartbeats 2000000 in
theorem c_l_toWriteS {A1 : Option Addr} {c1 : Nat} {w : World} (p_a : List DWrite) (h1 : RdS w (Iv 0 w.heap.size) (RF e_Write) 3 A1 p_a.length c1 p_a) (o2 : (okL ok_Write) p_a) : Cal Try.prog 98 #[.slice A1 p_a.length c1] w fun v w' => ∃ A_1 c_1 lo_1 hi_1, v = .slice A_1 p_a.length c_1 ∧ OwnL w' lo_1 hi_1 144 3 (RF e_Write) A_1 p_a.length c_1 p_a ∧ (w.heap.size ≤ lo_1 ∧ lo_1 ≤ hi_1 ∧ hi_1 ≤ w'.heap.size) ∧ Ex w w' := by
 have hol3 := o2.1
 refine Cal.of (vs := [.slice A1 p_a.length c1]) Try.func98 rfl Try.ntmps98 rfl (CW.seq (CW.region (sd rfl (yl_assign rfl rfl (SeqR.done (tn (CW.seq (CW.region (sd rfl (yl_move rfl rfl ?_))))))))))
 refine sd rfl (yl_len Try.un73 rfl rfl (sd rfl (yl_make (zs := [.string (bs (([] : Str))), .string (bs (([] : Str))), .bool (false)]) (n := p_a.length) Try.un80 Try.ty144 rfl rfl (Nat.le_of_ble_eq_true rfl) rfl rfl rfl (by first | omega | assumption | (simp only [IntKind.wrap_i64] at *; omega)) (by first | omega | assumption | (simp only [IntKind.wrap_i64] at *; omega)) ?_)))
 intro b4 w5 hs6 hz7 hB8 hE9
 have hO10 : OwnL w5 b4 (b4 + 1) 144 3 (RF e_Write) (some ⟨b4, 0, none⟩) p_a.length p_a.length (List.replicate p_a.length d_Write) := by have := OwnL.of_boxF (lo := b4) (hi := b4 + 1) (xs := (List.replicate p_a.length d_Write)) hB8 (Nat.le_refl _) (Nat.lt_succ_self _) (EncL.zerosF (enc := e_Write) (d := d_Write) rfl p_a.length) (by rw [List.length_replicate]; omega); rwa [List.length_replicate] at this
 refine sd rfl (yl_assign rfl rfl (SeqR.done (tn (CW.seq (CW.seq (CW.region (sd rfl (yl_assign rfl rfl (SeqR.done (tn ?_))))))))))
 refine CW.block (CW.loop (fun m23 L24 w25 => ∃ (k11 : Nat) (x22 : List DWrite), m23 = p_a.length - k11 ∧ k11 ≤ p_a.length ∧ w5.heap.size ≤ w25.heap.size ∧ lkp L24 0 = some (.slice A1 p_a.length c1) ∧ lkp L24 3 = some (.slice (some ⟨b4, 0, none⟩) p_a.length p_a.length) ∧ lkp L24 4 = some (.int .i64 ((k11 : Int))) ∧ RdS w25 (Iv 0 w.heap.size) (RF e_Write) 3 A1 p_a.length c1 p_a ∧ OwnL w25 b4 (b4 + 1) 144 3 (RF e_Write) (some ⟨b4, 0, none⟩) p_a.length p_a.length x22 ∧ Ex w w25 ∧ loopM (B_l_toWriteS_0 p_a) (p_a.length - k11) k11 (x22) = loopM (B_l_toWriteS_0 p_a) (p_a.length - 0) 0 ((List.replicate p_a.length d_Write))) (p_a.length - 0) ?_ ?_)
 ·exact ⟨0, (List.replicate p_a.length d_Write), rfl, (by omega), Nat.le_refl _, rfl, rfl, rfl, (RdS.ex good_Write h1 hE9), hO10, (Ex.trans (Ex.refl w) hE9), rfl⟩
 ·rintro m28 L29 w30 ⟨k11, x22, rfl, hk31, hsz33, hl34, hl35, hl36, hf37, hf38, hf39, hI32⟩
  refine CW.sub (Sub.cons hl34 (Sub.cons hl35 (Sub.cons hl36 (Sub.nil _)))) ?_
  have hf39z := Ex.size hf39
  have hbg40 := RdS.big hf37
  rcases Nat.lt_or_ge k11 p_a.length with hlt41 | hlt41
  ·refine CW.seq (CW.seq (CW.region (sd rfl (yl_move rfl rfl (sd rfl (yl_move rfl rfl (sd rfl (yl_len Try.un73 rfl rfl (sd rfl (yl_lss rfl rfl rfl (SeqR.done (tn ?_))))))))))))
   refine CW.cond_t rfl (lt_t hlt41) (CW.skip (tn (CW.seq (CW.block (CW.region (sd rfl (yl_move rfl rfl (sd rfl (yl_move rfl rfl (sd rfl (yl_move rfl rfl ?_)))))))))))
   refine sd rfl (yl_move rfl rfl ?_)
   obtain ⟨eb42, eo42, ec42, eA42, eS42, ebl42, el42, eR42, eC42⟩ := RdS.atD hf37 d_Write (i := k11) (by first | omega | assumption)
   obtain rfl := eR42
   have eC42 : Cells w30 eb42 (eo42 + k11 * 3) [.string (bs ((p_a.getD k11 d_Write).Key)), .string (bs ((p_a.getD k11 d_Write).Val)), .bool ((p_a.getD k11 d_Write).Gone)] := eC42
   refine sd rfl (yl_indexAddrN Try.un73 Try.ty196 rfl rfl rfl eA42 (by first | omega | assumption | (simp only [IntKind.wrap_i64] at *; omega)) (sd rfl (yl_loadN (cs := [.string (bs ((p_a.getD k11 d_Write).Key)), .string (bs ((p_a.getD k11 d_Write).Val)), .bool ((p_a.getD k11 d_Write).Gone)]) Try.ty196 rfl rfl eC42 rfl (sd rfl (yl_call Try.en168 rfl (opvs_cons rfl opvs_nil) (Cal.mono (c_l_toWrite (p_a.getD k11 d_Write) (okL.getD o2 ok_d_Write _)) ?_))))))
   rintro v44 w43 ⟨rfl, hE45⟩
   have hE45z := Ex.size hE45
   have q47 := OwnL.ex good_Write hf38 hE45
   obtain ⟨eb48, eo48, ec48, eA48, eS48, ebl48, el48, eR48, eC48⟩ := RdS.atD (OwnL.rd good_Write q47) d_Write (i := k11) (by first | omega | assumption)
   obtain rfl := eR48
   have eC48 : Cells w43 eb48 (eo48 + k11 * 3) [.string (bs ((x22.getD k11 d_Write).Key)), .string (bs ((x22.getD k11 d_Write).Val)), .bool ((x22.getD k11 d_Write).Gone)] := eC48
   refine sd rfl (yl_indexAddrN Try.un80 Try.ty144 rfl rfl rfl eA48 (by first | omega | assumption | (simp only [IntKind.wrap_i64] at *; omega)) ?_)
   have hrg49 := OwnL.rng q47 (i := k11) (by first | omega | assumption | (simp only [IntKind.wrap_i64] at *; omega)) eb48 (by rw [eA48]; rfl)
   refine SeqR.u rfl rfl (yl_storeF (off := eo48) (i := k11) (d := 0) (dx := d_Write) (x' := (p_a.getD k11 d_Write)) (vs := [.string (bs ((p_a.getD k11 d_Write).Key)), .string (bs ((p_a.getD k11 d_Write).Val)), .bool ((p_a.getD k11 d_Write).Gone)]) Try.ty144 rfl q47 eA48 rfl rfl rfl rfl rfl (by first | omega | assumption | (simp only [IntKind.wrap_i64] at *; omega)) (Nat.le_of_ble_eq_true rfl) rfl rfl ?_)
   intro w50 hB51 hO52
   have hO52z := hO52.size
   refine SeqR.done (bn (tn (CW.region (sd rfl (yl_move rfl rfl (sd rfl (yl_inc rfl rfl rfl (by omega) (sd rfl (yl_assign rfl rfl (SeqR.done (tn ?_)))))))))))
   have hB53 : B_l_toWriteS_0 p_a k11 (x22) = .cont ((x22.set k11 (p_a.getD k11 d_Write))) := by simp only [B_l_toWriteS_0, cond_true, cond_false, loopE_done, loopE_ret]
   exact ⟨p_a.length - (k11 + 1), by omega, k11 + 1, (x22.set k11 (p_a.getD k11 d_Write)), rfl, hlt41, (by omega), rfl, rfl, rfl, (RdS.only good_Write (RdS.ex good_Write hf37 hE45) hO52 (by simp only [Iv]; omega)), hB51, (Below.only (Ex.trans hf39 hE45) hO52 (by omega)), (loopM.cont hlt41 hB53).symm.trans hI32⟩
  ·refine CW.seq (CW.seq (CW.region (sd rfl (yl_move rfl rfl (sd rfl (yl_move rfl rfl (sd rfl (yl_len Try.un73 rfl rfl (sd rfl (yl_lss rfl rfl rfl (SeqR.done (tn ?_))))))))))))
   refine CW.cond_f rfl (lt_f hlt41) (CW.exit (tx (tx ?_)))
   have hL58 : loopM (B_l_toWriteS_0 p_a) (p_a.length - 0) 0 ((List.replicate p_a.length d_Write)) = .done (x22) := hI32.symm.trans (loopM.stop hlt41)
   refine bx (tn (CW.seq (CW.region (sd rfl (yl_move rfl rfl (sd rfl (yl_assign rfl rfl (SeqR.done (tn (CW.ret ?_))))))))))
   refine rr rfl (.cons rfl .nil) ?_
   have hM59 : p_a = (x22) := (to_WriteS _).symm.trans <| by simp only [l_toWriteS, hL58, cond_true, cond_false, loopE_done, loopE_ret]
   subst hM59
   exact ⟨(some ⟨b4, 0, none⟩), p_a.length, b4, (b4 + 1), rfl, hf38, (by omega), hf39⟩
set_option maxRecDepth 100000 in
set_option maxHeartbeats 2000000 in
theorem c_l_toCopy {A1 : Option Addr} {c1 : Nat} {w : World} (p_a : DCopy) (h1 : RdS w (Iv 0 w.heap.size) (RF e_Write) 3 A1 p_a.Rows.length c1 p_a.Rows) (o2 : ok_Copy p_a) : Cal Try.prog 41 #[.agg #[.int .i64 (p_a.Time), .slice A1 p_a.Rows.length c1]] w fun v w' => ∃ A_1 c_1 lo_1 hi_1, v = .agg #[.int .i64 (p_a.Time), .slice A_1 p_a.Rows.length c_1] ∧ OwnL w' lo_1 hi_1 144 3 (RF e_Write) A_1 p_a.Rows.length c_1 p_a.Rows ∧ (w.heap.size ≤ lo_1 ∧ lo_1 ≤ hi_1 ∧ hi_1 ≤ w'.heap.size) ∧ Ex w w' := by
 have hol3 := o2.1
 refine Cal.of (vs := [.agg #[.int .i64 (p_a.Time), .slice A1 p_a.Rows.length c1]]) Try.func41 rfl Try.ntmps41 rfl (CW.seq (CW.region (sd rfl (yl_box (cs := [.int .i64 (p_a.Time), .slice A1 p_a.Rows.length c1]) rfl rfl rfl ?_))))
 intro b4 w5 hs6 hz7 hB8 hE9
 refine sd rfl (yl_alloc Try.ty82 (cs := [.int .i64 (0), .slice none 0 0]) rfl rfl ?_)
 intro b10 w11 hs12 hz13 hB14 hE15
 refine SeqR.done (tn (CW.seq (CW.region (sd rfl (yl_alloc Try.ty82 (cs := [.int .i64 (0), .slice none 0 0]) rfl rfl ?_)))))
 intro b16 w17 hs18 hz19 hB20 hE21
 refine SeqR.done (tn (CW.seq (CW.region (sd rfl (yl_fieldAddr Try.fd75_0 rfl rfl ?_)))))
 have q23 := Box.ex (Box.ex hB8 hE15) hE21
 refine sd rfl (yl_load1 Try.ty3 rfl rfl ((q23.cell 0).trans rfl) (sd rfl (yl_fieldAddr Try.fd82_0 rfl rfl (SeqR.u rfl rfl (yl_store (vs := [.int .i64 (p_a.Time)]) Try.ty3 rfl rfl rfl rfl rfl rfl hB20 (Nat.le_of_ble_eq_true rfl) ?_)))))
 intro w24 hB25 hO26
 have hB25 : Box w24 b16 82 [.int .i64 (p_a.Time), .slice none 0 0] := hB25
 have hO26z := hO26.size
 refine SeqR.done (tn (CW.seq (CW.region (sd rfl (yl_fieldAddr Try.fd75_1 rfl rfl (sd rfl (yl_load1 Try.ty73 rfl rfl (((Box.only q23 hO26 (by omega)).cell 1).trans rfl) (sd rfl (yl_call Try.en98 rfl (opvs_cons rfl opvs_nil) (Cal.mono (c_l_toWriteS p_a.Rows (RdS.up (RdS.only good_Write (RdS.ex good_Write (RdS.ex good_Write (RdS.ex good_Write h1 hE9) hE15) hE21) hO26 (by simp only [Iv]; omega)) good_Write) o2) ?_))))))))))
 rintro v34 w32 ⟨A33, c33, lo33, hi33, rfl, h33, hrn36, hE35⟩
 have hE35z := Ex.size hE35
 refine sd rfl (yl_fieldAddr Try.fd82_1 rfl rfl (SeqR.u rfl rfl (yl_store (vs := [.slice A33 p_a.Rows.length c33]) Try.ty80 rfl rfl rfl rfl rfl rfl (Box.ex hB25 hE35) (Nat.le_of_ble_eq_true rfl) ?_)))
 intro w38 hB39 hO40
 have hB39 : Box w38 b16 82 [.int .i64 (p_a.Time), .slice A33 p_a.Rows.length c33] := hB39
 have hO40z := hO40.size
 refine SeqR.done (tn (CW.seq (CW.region (sd rfl (yl_loadN (cs := [.int .i64 (p_a.Time), .slice A33 p_a.Rows.length c33]) Try.ty82 rfl rfl (hB39.cells (n := 2) rfl) rfl (SeqR.u rfl rfl (yl_store (vs := [.int .i64 (p_a.Time), .slice A33 p_a.Rows.length c33]) Try.ty82 rfl rfl rfl rfl rfl rfl (Box.only (Box.ex (Box.only (Box.ex hB14 hE21) hO26 (by omega)) hE35) hO40 (by omega)) (Nat.le_of_ble_eq_true rfl) ?_)))))))
 intro w45 hB46 hO47
 have hB46 : Box w45 b10 82 [.int .i64 (p_a.Time), .slice A33 p_a.Rows.length c33] := hB46
 have hO47z := hO47.size
 refine SeqR.done (tn (CW.ret (rr rfl (.cons ⟨_, rfl, run_loadN Try.ty82 (cs := [.int .i64 (p_a.Time), .slice A33 p_a.Rows.length c33]) rfl (hB46.cells (n := 2) rfl)⟩ .nil) ?_)))
 have hM48 : p_a = (p_a) := (to_Copy _).symm.trans <| by simp only [l_toCopy, cond_true, cond_false, loopE_done, loopE_ret]
 rw [hM48]
 exact ⟨A33, c33, lo33, hi33, rfl, (OwnL.only good_Write (OwnL.only good_Write h33 hO40 (by omega)) hO47 (by omega)), (by omega), (Below.only (Below.only (Ex.trans (Below.only (Ex.trans (Ex.trans (Ex.trans (Ex.refl w) hE9) hE15) hE21) hO26 (by omega)) hE35) hO40 (by omega)) hO47 (by omega))⟩
set_option maxRecDepth 100000 in
set_option maxHeartbeats 2000000 in
theorem c_l_eqWrite {w : World} (p_a : DWrite) (p_b : DWrite) : Cal Try.prog 170 #[.agg #[.string (bs (p_a.Key)), .string (bs (p_a.Val)), .bool (p_a.Gone)], .agg #[.string (bs (p_b.Key)), .string (bs (p_b.Val)), .bool (p_b.Gone)]] w fun v w' => v = .bool ((l_eqWrite p_a p_b)) ∧ Ex w w' := by
 refine Cal.of (vs := [.agg #[.string (bs (p_a.Key)), .string (bs (p_a.Val)), .bool (p_a.Gone)], .agg #[.string (bs (p_b.Key)), .string (bs (p_b.Val)), .bool (p_b.Gone)]]) Try.func170 rfl Try.ntmps170 rfl (CW.seq (CW.region (sd rfl (yl_box (cs := [.string (bs (p_a.Key)), .string (bs (p_a.Val)), .bool (p_a.Gone)]) rfl rfl rfl ?_))))
 intro b1 w2 hs3 hz4 hB5 hE6
 refine sd rfl (yl_box (cs := [.string (bs (p_b.Key)), .string (bs (p_b.Val)), .bool (p_b.Gone)]) rfl rfl rfl ?_)
 intro b7 w8 hs9 hz10 hB11 hE12
 refine sd rfl (yl_assign rfl rfl (SeqR.done (tn (CW.seq (CW.seq (CW.region (sd rfl (yl_fieldAddr Try.fd144_0 rfl rfl ?_))))))))
 have q13 := Box.ex hB5 hE12
 refine sd rfl (yl_load1 Try.ty9 rfl rfl ((q13.cell 0).trans rfl) (sd rfl (yl_fieldAddr Try.fd144_0 rfl rfl (sd rfl (yl_load1 Try.ty9 rfl rfl ((hB11.cell 0).trans rfl) (sd rfl (yl_sneq (a := p_a.Key) (b := p_b.Key) rfl rfl rfl (SeqR.done (tn (bcase (p_a.Key == p_b.Key) (fun hb14 => ?_) (fun hb14 => ?_)))))))))))
 ·refine CW.cond_f rfl (not_t hb14) (CW.skip (tn (CW.seq (CW.seq (CW.region (sd rfl (yl_fieldAddr Try.fd144_1 rfl rfl (sd rfl (yl_load1 Try.ty9 rfl rfl ((q13.cell 1).trans rfl) (sd rfl (yl_fieldAddr Try.fd144_1 rfl rfl ?_)))))))))))
  refine sd rfl (yl_load1 Try.ty9 rfl rfl ((hB11.cell 1).trans rfl) (sd rfl (yl_sneq (a := p_a.Val) (b := p_b.Val) rfl rfl rfl (SeqR.done (tn (bcase (p_a.Val == p_b.Val) (fun hb15 => ?_) (fun hb15 => ?_)))))))
  ·refine CW.cond_f rfl (not_t hb15) (CW.skip (tn (CW.seq (CW.seq (CW.region (sd rfl (yl_fieldAddr Try.fd144_2 rfl rfl (sd rfl (yl_load1 Try.ty4 rfl rfl ((q13.cell 2).trans rfl) (sd rfl (yl_fieldAddr Try.fd144_2 rfl rfl ?_)))))))))))
   refine sd rfl (yl_load1 Try.ty4 rfl rfl ((hB11.cell 2).trans rfl) (sd rfl (yl_bneq Try.un4 rfl rfl rfl (SeqR.done (tn (bcase (p_a.Gone == p_b.Gone) (fun hb16 => ?_) (fun hb16 => ?_)))))))
   ·refine CW.cond_f rfl (not_t hb16) (CW.skip (tn (CW.seq (CW.region (sd rfl (yl_assign rfl rfl (SeqR.done (tn (CW.ret ?_)))))))))
    refine rr rfl (.cons rfl .nil) ?_
    have hM17 : (l_eqWrite p_a p_b) = (true) := by simp only [l_eqWrite, hb14, hb15, hb16, cond_true, cond_false, loopE_done, loopE_ret]
    rw [hM17]
    exact ⟨rfl, (Ex.trans (Ex.trans (Ex.refl w) hE6) hE12)⟩
   ·refine CW.cond_t rfl (not_f hb16) (CW.seq (CW.region (sd rfl (yl_assign rfl rfl (SeqR.done (tn (CW.ret (tr (rr rfl (.cons rfl .nil) ?_)))))))))
    have hM20 : (l_eqWrite p_a p_b) = (false) := by simp only [l_eqWrite, hb14, hb15, hb16, cond_true, cond_false, loopE_done, loopE_ret]
    rw [hM20]
    exact ⟨rfl, (Ex.trans (Ex.trans (Ex.refl w) hE6) hE12)⟩
  ·refine CW.cond_t rfl (not_f hb15) (CW.seq (CW.region (sd rfl (yl_assign rfl rfl (SeqR.done (tn (CW.ret (tr (rr rfl (.cons rfl .nil) ?_)))))))))
   have hM23 : (l_eqWrite p_a p_b) = (false) := by simp only [l_eqWrite, hb14, hb15, cond_true, cond_false, loopE_done, loopE_ret]
   rw [hM23]
   exact ⟨rfl, (Ex.trans (Ex.trans (Ex.refl w) hE6) hE12)⟩
 ·refine CW.cond_t rfl (not_f hb14) (CW.seq (CW.region (sd rfl (yl_assign rfl rfl (SeqR.done (tn (CW.ret (tr (rr rfl (.cons rfl .nil) ?_)))))))))
  have hM26 : (l_eqWrite p_a p_b) = (false) := by simp only [l_eqWrite, hb14, cond_true, cond_false, loopE_done, loopE_ret]
  rw [hM26]
  exact ⟨rfl, (Ex.trans (Ex.trans (Ex.refl w) hE6) hE12)⟩
set_option maxRecDepth 100000 in
set_option maxHeartbeats 2000000 in
theorem c_l_eqWriteS {A1 : Option Addr} {c1 : Nat} {A2 : Option Addr} {c2 : Nat} {w : World} (p_a : List DWrite) (p_b : List DWrite) (h1 : RdS w (Iv 0 w.heap.size) (RF e_Write) 3 A1 p_a.length c1 p_a) (h2 : RdS w (Iv 0 w.heap.size) (RF e_Write) 3 A2 p_b.length c2 p_b) : Cal Try.prog 101 #[.slice A1 p_a.length c1, .slice A2 p_b.length c2] w fun v w' => v = .bool ((l_eqWriteS p_a p_b)) ∧ Ex w w' := by
 refine Cal.of (vs := [.slice A1 p_a.length c1, .slice A2 p_b.length c2]) Try.func101 rfl Try.ntmps101 rfl (CW.seq (CW.region (sd rfl (yl_assign rfl rfl (SeqR.done (tn (CW.seq (CW.seq (CW.region ?_)))))))))
 refine sd rfl (yl_move rfl rfl (sd rfl (yl_len Try.un80 rfl rfl (sd rfl (yl_move rfl rfl (sd rfl (yl_len Try.un80 rfl rfl (sd rfl (yl_neq rfl rfl rfl (SeqR.done (tn (bcase (decide ((p_a.length : Int) = (p_b.length : Int))) (fun hb3 => ?_) (fun hb3 => ?_)))))))))))))
 ·have hb3p := dec_t hb3
  refine CW.cond_f rfl (not_t hb3) (CW.skip (tn (CW.seq (CW.seq (CW.region (sd rfl (yl_assign rfl rfl (SeqR.done (tn ?_)))))))))
  refine CW.block (CW.loop (fun m5 L6 w7 => ∃ (k4 : Nat), m5 = p_a.length - k4 ∧ k4 ≤ p_a.length ∧ w.heap.size ≤ w7.heap.size ∧ lkp L6 0 = some (.slice A1 p_a.length c1) ∧ lkp L6 1 = some (.slice A2 p_b.length c2) ∧ lkp L6 5 = some (.int .i64 ((k4 : Int))) ∧ RdS w7 (Iv 0 w.heap.size) (RF e_Write) 3 A1 p_a.length c1 p_a ∧ RdS w7 (Iv 0 w.heap.size) (RF e_Write) 3 A2 p_b.length c2 p_b ∧ Ex w w7 ∧ loopM (B_l_eqWriteS_0 p_a p_b) (p_a.length - k4) k4 () = loopM (B_l_eqWriteS_0 p_a p_b) (p_a.length - 0) 0 ()) (p_a.length - 0) ?_ ?_)
  ·exact ⟨0, rfl, (by omega), Nat.le_refl _, rfl, rfl, rfl, h1, h2, (Ex.refl w), rfl⟩
  ·rintro m8 L9 w10 ⟨k4, rfl, hk11, hsz13, hl14, hl15, hl16, hf17, hf18, hf19, hI12⟩
   refine CW.sub (Sub.cons hl14 (Sub.cons hl15 (Sub.cons hl16 (Sub.nil _)))) ?_
   have hf19z := Ex.size hf19
   have hbg20 := RdS.big hf17
   rcases Nat.lt_or_ge k4 p_a.length with hlt21 | hlt21
   ·refine CW.seq (CW.seq (CW.region (sd rfl (yl_move rfl rfl (sd rfl (yl_move rfl rfl (sd rfl (yl_len Try.un80 rfl rfl (sd rfl (yl_lss rfl rfl rfl (SeqR.done (tn ?_))))))))))))
    refine CW.cond_t rfl (lt_t hlt21) (CW.skip (tn (CW.seq (CW.block (CW.seq ?_)))))
    obtain ⟨eb22, eo22, ec22, eA22, eS22, ebl22, el22, eR22, eC22⟩ := RdS.atD hf17 d_Write (i := k4) (by first | omega | assumption)
    obtain rfl := eR22
    have eC22 : Cells w10 eb22 (eo22 + k4 * 3) [.string (bs ((p_a.getD k4 d_Write).Key)), .string (bs ((p_a.getD k4 d_Write).Val)), .bool ((p_a.getD k4 d_Write).Gone)] := eC22
    obtain ⟨eb23, eo23, ec23, eA23, eS23, ebl23, el23, eR23, eC23⟩ := RdS.atD hf18 d_Write (i := k4) (by first | omega | assumption)
    obtain rfl := eR23
    have eC23 : Cells w10 eb23 (eo23 + k4 * 3) [.string (bs ((p_b.getD k4 d_Write).Key)), .string (bs ((p_b.getD k4 d_Write).Val)), .bool ((p_b.getD k4 d_Write).Gone)] := eC23
    refine CW.drawsI 10 (vgetI [DetI (.slice A1 p_a.length c1), DetI (.int .i64 ((k4 : Int))), DetI (.pointer (some ⟨eb22, eo22 + k4 * 3, none⟩)), DetI (.agg #[.string (bs ((p_a.getD k4 d_Write).Key)), .string (bs ((p_a.getD k4 d_Write).Val)), .bool ((p_a.getD k4 d_Write).Gone)]), DetI (.slice A2 p_b.length c2), DetI (.int .i64 ((k4 : Int))), DetI (.pointer (some ⟨eb23, eo23 + k4 * 3, none⟩)), DetI (.agg #[.string (bs ((p_b.getD k4 d_Write).Key)), .string (bs ((p_b.getD k4 d_Write).Val)), .bool ((p_b.getD k4 d_Write).Gone)]), DetI (.bool ((l_eqWrite (p_a.getD k4 d_Write) (p_b.getD k4 d_Write)))), DetI (.bool (!(l_eqWrite (p_a.getD k4 d_Write) (p_b.getD k4 d_Write))))]) Try.follows rfl rfl rfl rfl rfl rfl (vgetI_stable ⟨StableI.det _, StableI.det _, StableI.det _, StableI.det _, StableI.det _, StableI.det _, StableI.det _, StableI.det _, StableI.det _, StableI.det _, trivial⟩) ⟨?_, ?_, ?_, ?_, ?_, ?_, ?_, ?_, ?_, ?_, trivial⟩ ?_
    ·exact fun _ _ h => os rfl ((yl_move rfl (h.old 0 _ rfl rfl) kI))
    ·exact fun _ _ h => os rfl ((yl_move rfl (h.old 5 _ rfl rfl) kI))
    ·intro L35 w36 hi37
     have hE38 := hi37.ex
     have hE38z := Ex.size hE38
     exact os rfl ((yl_indexAddrN Try.un80 Try.ty144 rfl (hi37.dt 0 17 rfl rfl rfl) (hi37.dt 1 18 rfl rfl rfl) eA22 (by first | omega | assumption | (simp only [IntKind.wrap_i64] at *; omega)) kI))
    ·exact fun _ _ h => os rfl ((yl_loadN (cs := [.string (bs ((p_a.getD k4 d_Write).Key)), .string (bs ((p_a.getD k4 d_Write).Val)), .bool ((p_a.getD k4 d_Write).Gone)]) Try.ty144 rfl (h.dt 2 19 rfl rfl rfl) (Cells.ex eC22 h.ex) rfl kI))
    ·exact fun _ _ h => os rfl ((yl_move rfl (h.old 1 _ rfl rfl) kI))
    ·exact fun _ _ h => os rfl ((yl_move rfl (h.old 5 _ rfl rfl) kI))
    ·intro L57 w58 hi59
     have hE60 := hi59.ex
     have hE60z := Ex.size hE60
     exact os rfl ((yl_indexAddrN Try.un80 Try.ty144 rfl (hi59.dt 4 21 rfl rfl rfl) (hi59.dt 5 22 rfl rfl rfl) eA23 (by first | omega | assumption | (simp only [IntKind.wrap_i64] at *; omega)) kI))
    ·exact fun _ _ h => os rfl ((yl_loadN (cs := [.string (bs ((p_b.getD k4 d_Write).Key)), .string (bs ((p_b.getD k4 d_Write).Val)), .bool ((p_b.getD k4 d_Write).Gone)]) Try.ty144 rfl (h.dt 6 23 rfl rfl rfl) (Cells.ex eC23 h.ex) rfl kI))
    ·intro L69 w70 hi71
     refine OpR.op' rfl (yl_call Try.en170 rfl (opvs_cons (hi71.dt 3 20 rfl rfl rfl) (opvs_cons (hi71.dt 7 24 rfl rfl rfl) opvs_nil)) (Cal.mono (c_l_eqWrite (p_a.getD k4 d_Write) (p_b.getD k4 d_Write)) ?_))
     rintro v76 w75 ⟨rfl, hE77⟩
     exact ⟨rfl, hE77⟩
    ·exact fun _ _ h => os rfl ((yl_not rfl (h.dt 8 25 rfl rfl rfl) kI))
    ·intro fl86 fh87 L83 w84 hp85
     have hE88 := hp85.ex
     have hE88z := Ex.size hE88
     refine SeqR.done (tn (CW.sub (Sub.cons (d := 0) (hp85.old 0 _ rfl rfl) (Sub.cons (d := 1) (hp85.old 1 _ rfl rfl) (Sub.cons (d := 5) (hp85.old 5 _ rfl rfl) (Sub.cons (d := 26) (hp85.nt 9 26 rfl rfl rfl) (Sub.nil _))))) (bcase (l_eqWrite (p_a.getD k4 d_Write) (p_b.getD k4 d_Write)) (fun hb93 => ?_) (fun hb93 => ?_))))
     ·refine CW.cond_f rfl (not_t hb93) (CW.skip (bn (tn (CW.region (sd rfl (yl_move rfl rfl (sd rfl (yl_inc rfl rfl rfl (by omega) (sd rfl (yl_assign rfl rfl (SeqR.done ?_)))))))))))
      refine tn ?_
      have hB94 : B_l_eqWriteS_0 p_a p_b k4 () = .cont () := by simp only [B_l_eqWriteS_0, hb3, hb93, cond_true, cond_false, loopE_done, loopE_ret]
      exact ⟨p_a.length - (k4 + 1), by omega, k4 + 1, rfl, hlt21, (by omega), rfl, rfl, rfl, (RdS.ex good_Write hf17 hE88), (RdS.ex good_Write hf18 hE88), (Ex.trans hf19 hE88), (loopM.cont hlt21 hB94).symm.trans hI12⟩
     ·refine CW.cond_t rfl (not_f hb93) (CW.seq (CW.region (sd rfl (yl_assign rfl rfl (SeqR.done (tn (CW.ret (br (tr ?_)))))))))
      refine tr ?_
      have hB99 : B_l_eqWriteS_0 p_a p_b k4 () = .ret false := by simp only [B_l_eqWriteS_0, hb3, hb93, cond_true, cond_false, loopE_done, loopE_ret]
      have hL98 : loopM (B_l_eqWriteS_0 p_a p_b) (p_a.length - 0) 0 () = .ret false := hI12.symm.trans (loopM.ret hlt21 hB99)
      refine br (tr (rr rfl (.cons rfl .nil) ?_))
      have hM100 : (l_eqWriteS p_a p_b) = (false) := by simp only [l_eqWriteS, hb3, hb93, hL98, cond_true, cond_false, loopE_done, loopE_ret]
      rw [hM100]
      exact ⟨rfl, (Ex.trans hf19 hE88)⟩
   ·refine CW.seq (CW.seq (CW.region (sd rfl (yl_move rfl rfl (sd rfl (yl_move rfl rfl (sd rfl (yl_len Try.un80 rfl rfl (sd rfl (yl_lss rfl rfl rfl (SeqR.done (tn ?_))))))))))))
    refine CW.cond_f rfl (lt_f hlt21) (CW.exit (tx (tx ?_)))
    have hL102 : loopM (B_l_eqWriteS_0 p_a p_b) (p_a.length - 0) 0 () = .done () := hI12.symm.trans (loopM.stop hlt21)
    refine bx (tn (CW.seq (CW.region (sd rfl (yl_assign rfl rfl (SeqR.done (tn (CW.ret (rr rfl (.cons rfl .nil) ?_)))))))))
    have hM103 : (l_eqWriteS p_a p_b) = (true) := by simp only [l_eqWriteS, hb3, hL102, cond_true, cond_false, loopE_done, loopE_ret]
    rw [hM103]
    exact ⟨rfl, hf19⟩
 ·have hb3p := dec_f hb3
  refine CW.cond_t rfl (not_f hb3) (CW.seq (CW.region (sd rfl (yl_assign rfl rfl (SeqR.done (tn (CW.ret (tr (rr rfl (.cons rfl .nil) ?_)))))))))
  have hM104 : (l_eqWriteS p_a p_b) = (false) := by simp only [l_eqWriteS, hb3, cond_true, cond_false, loopE_done, loopE_ret]
  rw [hM104]
  exact ⟨rfl, (Ex.refl w)⟩
set_option maxRecDepth 100000 in
set_option maxHeartbeats 2000000 in
theorem c_l_eqCopy {A1 : Option Addr} {c1 : Nat} {A2 : Option Addr} {c2 : Nat} {w : World} (p_a : DCopy) (p_b : DCopy) (h1 : RdS w (Iv 0 w.heap.size) (RF e_Write) 3 A1 p_a.Rows.length c1 p_a.Rows) (h2 : RdS w (Iv 0 w.heap.size) (RF e_Write) 3 A2 p_b.Rows.length c2 p_b.Rows) : Cal Try.prog 44 #[.agg #[.int .i64 (p_a.Time), .slice A1 p_a.Rows.length c1], .agg #[.int .i64 (p_b.Time), .slice A2 p_b.Rows.length c2]] w fun v w' => v = .bool ((l_eqCopy p_a p_b)) ∧ Ex w w' := by
 refine Cal.of (vs := [.agg #[.int .i64 (p_a.Time), .slice A1 p_a.Rows.length c1], .agg #[.int .i64 (p_b.Time), .slice A2 p_b.Rows.length c2]]) Try.func44 rfl Try.ntmps44 rfl (CW.seq (CW.region (sd rfl (yl_box (cs := [.int .i64 (p_a.Time), .slice A1 p_a.Rows.length c1]) rfl rfl rfl ?_))))
 intro b3 w4 hs5 hz6 hB7 hE8
 refine sd rfl (yl_box (cs := [.int .i64 (p_b.Time), .slice A2 p_b.Rows.length c2]) rfl rfl rfl ?_)
 intro b9 w10 hs11 hz12 hB13 hE14
 refine sd rfl (yl_assign rfl rfl (SeqR.done (tn (CW.seq (CW.seq (CW.region (sd rfl (yl_fieldAddr Try.fd82_0 rfl rfl ?_))))))))
 have q15 := Box.ex hB7 hE14
 refine sd rfl (yl_load1 Try.ty3 rfl rfl ((q15.cell 0).trans rfl) (sd rfl (yl_fieldAddr Try.fd82_0 rfl rfl (sd rfl (yl_load1 Try.ty3 rfl rfl ((hB13.cell 0).trans rfl) (sd rfl (yl_neq rfl rfl rfl (SeqR.done (tn (bcase (decide (p_a.Time = p_b.Time)) (fun hb16 => ?_) (fun hb16 => ?_)))))))))))
 ·have hb16p := dec_t hb16
  refine CW.cond_f rfl (not_t hb16) (CW.skip (tn (CW.seq (CW.seq (CW.region (sd rfl (yl_fieldAddr Try.fd82_1 rfl rfl (sd rfl (yl_load1 Try.ty80 rfl rfl ((q15.cell 1).trans rfl) (sd rfl (yl_fieldAddr Try.fd82_1 rfl rfl ?_)))))))))))
  refine sd rfl (yl_load1 Try.ty80 rfl rfl ((hB13.cell 1).trans rfl) (sd rfl (yl_call Try.en101 rfl (opvs_cons rfl (opvs_cons rfl opvs_nil)) (Cal.mono (c_l_eqWriteS p_a.Rows p_b.Rows (RdS.up (RdS.ex good_Write (RdS.ex good_Write h1 hE8) hE14) good_Write) (RdS.up (RdS.ex good_Write (RdS.ex good_Write h2 hE8) hE14) good_Write)) ?_))))
  rintro v22 w21 ⟨rfl, hE23⟩
  have hE23z := Ex.size hE23
  refine sd rfl (yl_not rfl rfl (SeqR.done (tn (bcase (l_eqWriteS p_a.Rows p_b.Rows) (fun hb24 => ?_) (fun hb24 => ?_)))))
  ·refine CW.cond_f rfl (not_t hb24) (CW.skip (tn (CW.seq (CW.region (sd rfl (yl_assign rfl rfl (SeqR.done (tn (CW.ret ?_)))))))))
   refine rr rfl (.cons rfl .nil) ?_
   have hM25 : (l_eqCopy p_a p_b) = (true) := by simp only [l_eqCopy, hb16, hb24, cond_true, cond_false, loopE_done, loopE_ret]
   rw [hM25]
   exact ⟨rfl, (Ex.trans (Ex.trans (Ex.trans (Ex.refl w) hE8) hE14) hE23)⟩
  ·refine CW.cond_t rfl (not_f hb24) (CW.seq (CW.region (sd rfl (yl_assign rfl rfl (SeqR.done (tn (CW.ret (tr (rr rfl (.cons rfl .nil) ?_)))))))))
   have hM29 : (l_eqCopy p_a p_b) = (false) := by simp only [l_eqCopy, hb16, hb24, cond_true, cond_false, loopE_done, loopE_ret]
   rw [hM29]
   exact ⟨rfl, (Ex.trans (Ex.trans (Ex.trans (Ex.refl w) hE8) hE14) hE23)⟩
 ·have hb16p := dec_f hb16
  refine CW.cond_t rfl (not_f hb16) (CW.seq (CW.region (sd rfl (yl_assign rfl rfl (SeqR.done (tn (CW.ret (tr (rr rfl (.cons rfl .nil) ?_)))))))))
  have hM33 : (l_eqCopy p_a p_b) = (false) := by simp only [l_eqCopy, hb16, cond_true, cond_false, loopE_done, loopE_ret]
  rw [hM33]
  exact ⟨rfl, (Ex.trans (Ex.trans (Ex.refl w) hE8) hE14)⟩
set_option maxRecDepth 100000 in
set_option maxHeartbeats 2000000 in
theorem c_s_l1In {w : World} (p_n : Int) (p_lo : Int) (p_hi : Int) : Cal Try.prog 124 #[.int .i64 (p_n), .int .i64 (p_lo), .int .i64 (p_hi)] w fun v w' => v = .bool ((s_l1In p_n p_lo p_hi)) ∧ Ex w w' := by
 refine Cal.of (vs := [.int .i64 (p_n), .int .i64 (p_lo), .int .i64 (p_hi)]) Try.func124 rfl Try.ntmps124 rfl (CW.seq (CW.region (sd rfl (yl_assign rfl rfl (SeqR.done (tn (CW.seq (CW.region (sd rfl (yl_move rfl rfl ?_))))))))))
 refine sd rfl (yl_move rfl rfl (sd rfl (yl_geq rfl rfl rfl (sd rfl (yl_move rfl rfl (bcase (decide (p_lo ≤ p_n)) (fun hb1 => ?_) (fun hb1 => ?_)))))))
 ·have hb1p := dec_t hb1
  refine sy rfl rfl hb1 (yl_move rfl rfl (sy rfl rfl hb1 (yl_move rfl rfl (sy rfl rfl hb1 (yl_leq rfl rfl rfl (sd rfl (yl_pick_t rfl rfl hb1 rfl (sd rfl (yl_assign rfl rfl (SeqR.done (tn (CW.ret (rr rfl (.cons rfl .nil) ?_)))))))))))))
  have hM2 : (s_l1In p_n p_lo p_hi) = (decide (p_n ≤ p_hi)) := by simp only [s_l1In, hb1, cond_true, cond_false, loopE_done, loopE_ret]
  rw [hM2]
  exact ⟨rfl, (Ex.refl w)⟩
 ·have hb1p := dec_f hb1
  refine sz rfl rfl hb1 (sz rfl rfl hb1 (sz rfl rfl hb1 (sd rfl (yl_pick_f rfl rfl hb1 rfl (sd rfl (yl_assign rfl rfl (SeqR.done (tn (CW.ret (rr rfl (.cons rfl .nil) ?_))))))))))
  have hM3 : (s_l1In p_n p_lo p_hi) = (false) := by simp only [s_l1In, hb1, cond_true, cond_false, loopE_done, loopE_ret]
  rw [hM3]
  exact ⟨rfl, (Ex.refl w)⟩
set_option maxRecDepth 100000 in
set_option maxHeartbeats 2000000 in
theorem c_s_l3Bytes {w : World} (p_s : Str) (p_more : Str) (o1 : okS p_s) (o2 : okS p_more) : Cal Try.prog 189 #[.string (bs (p_s)), .string (bs (p_more))] w fun v w' => v = .bool ((s_l3Bytes p_s p_more)) ∧ Ex w w' := by
 have hol3 : p_s.length ≤ 1073741824 := o1
 have hol4 : p_more.length ≤ 1073741824 := o2
 refine Cal.of (vs := [.string (bs (p_s)), .string (bs (p_more))]) Try.func189 rfl Try.ntmps189 rfl (CW.seq (CW.region (sd rfl (yl_assign rfl rfl (SeqR.done (tn (CW.seq (CW.seq (CW.region ?_)))))))))
 refine sd rfl (yl_assign rfl rfl (SeqR.done (tn (CW.block (CW.loop (fun m6 L7 w8 => ∃ (k5 : Nat), m6 = p_s.length - k5 ∧ k5 ≤ p_s.length ∧ w.heap.size ≤ w8.heap.size ∧ lkp L7 0 = some (.string (bs (p_s))) ∧ lkp L7 1 = some (.string (bs (p_more))) ∧ lkp L7 5 = some (.int .i64 ((k5 : Int))) ∧ Ex w w8 ∧ loopM (B_s_l3Bytes_0 p_s p_more) (p_s.length - k5) k5 () = loopM (B_s_l3Bytes_0 p_s p_more) (p_s.length - 0) 0 ()) (p_s.length - 0) ?_ ?_)))))
 ·exact ⟨0, rfl, (by omega), Nat.le_refl _, rfl, rfl, rfl, (Ex.refl w), rfl⟩
 ·rintro m9 L10 w11 ⟨k5, rfl, hk12, hsz14, hl15, hl16, hl17, hf18, hI13⟩
  refine CW.sub (Sub.cons hl15 (Sub.cons hl16 (Sub.cons hl17 (Sub.nil _)))) ?_
  have hf18z := Ex.size hf18
  have hbg19 : p_s.length ≤ 1073741824 := o1
  rcases Nat.lt_or_ge k5 p_s.length with hlt20 | hlt20
  ·refine CW.seq (CW.seq (CW.region (sd rfl (yl_move rfl rfl (sd rfl (yl_move rfl rfl (sd rfl (yl_slen Try.un9 (a := p_s) rfl rfl (sd rfl (yl_lss rfl rfl rfl (SeqR.done (tn ?_))))))))))))
   refine CW.cond_t rfl (lt_t hlt20) (CW.skip (tn (CW.seq (CW.block (CW.seq (CW.region (sd rfl (yl_move rfl rfl (sd rfl (yl_move rfl rfl ?_))))))))))
   refine sd rfl (yl_sindexN Try.un9 (a := p_s) rfl rfl rfl (by first | omega | assumption | (simp only [IntKind.wrap_i64] at *; omega)) (sd rfl (yl_geq rfl rfl rfl (sd rfl (yl_move rfl rfl (bcase (decide (97 ≤ ((p_s.getD k5 0).toNat : Int))) (fun hb21 => ?_) (fun hb21 => ?_)))))))
   ·have hb21p := dec_t hb21
    refine sy rfl rfl hb21 (yl_move rfl rfl (sy rfl rfl hb21 (yl_move rfl rfl (sy rfl rfl hb21 (yl_sindexN Try.un9 (a := p_s) rfl rfl rfl (by first | omega | assumption | (simp only [IntKind.wrap_i64] at *; omega)) (sy rfl rfl hb21 (yl_leq rfl rfl rfl (sd rfl (yl_pick_t rfl rfl hb21 rfl (sd rfl (yl_move rfl rfl (bcase (decide (((p_s.getD k5 0).toNat : Int) ≤ 122)) (fun hb22 => ?_) (fun hb22 => ?_)))))))))))))
    ·have hb22p := dec_t hb22
     refine sz rfl rfl hb22 (sz rfl rfl hb22 (sz rfl rfl hb22 (sz rfl rfl hb22 (sz rfl rfl hb22 (sq rfl rfl (sq rfl rfl (sq rfl rfl (sq rfl rfl ?_))))))))
     refine sz rfl rfl hb22 (sd rfl (yl_pick_t rfl rfl hb22 rfl (sd rfl (yl_assign rfl rfl (SeqR.done (tn (CW.seq (CW.seq (CW.region (sd rfl (yl_assign rfl rfl ?_)))))))))))
     refine SeqR.done (tn (CW.block (CW.loop (fun m25 L26 w27 => ∃ (k23 : Nat) (x24 : Bool), m25 = p_more.length - k23 ∧ k23 ≤ p_more.length ∧ w11.heap.size ≤ w27.heap.size ∧ lkp L26 0 = some (.string (bs (p_s))) ∧ lkp L26 1 = some (.string (bs (p_more))) ∧ lkp L26 5 = some (.int .i64 ((k5 : Int))) ∧ lkp L26 6 = some (.bool (x24)) ∧ lkp L26 7 = some (.int .i64 ((k23 : Int))) ∧ lkp L26 19 = some (.string (bs (p_s))) ∧ lkp L26 20 = some (.int .i64 ((k5 : Int))) ∧ lkp L26 21 = some (.int .u8 (((p_s.getD k5 0).toNat : Int))) ∧ lkp L26 22 = some (.bool (decide (((p_s.getD k5 0).toNat : Int) ≤ 122))) ∧ lkp L26 25 = some (undef) ∧ lkp L26 26 = some (undef) ∧ lkp L26 27 = some (undef) ∧ lkp L26 28 = some (undef) ∧ lkp L26 29 = some (undef) ∧ lkp L26 30 = some (undef) ∧ lkp L26 31 = some (undef) ∧ lkp L26 32 = some (undef) ∧ lkp L26 33 = some (undef) ∧ lkp L26 34 = some (undef) ∧ Ex w w27 ∧ loopM (B_s_l3Bytes_1 p_s p_more k5) (p_more.length - k23) k23 (x24) = loopM (B_s_l3Bytes_1 p_s p_more k5) (p_more.length - 0) 0 (true)) (p_more.length - 0) ?_ ?_)))
     ·exact ⟨0, true, rfl, (by omega), Nat.le_refl _, rfl, rfl, rfl, rfl, rfl, rfl, rfl, rfl, rfl, rfl, rfl, rfl, rfl, rfl, rfl, rfl, rfl, rfl, rfl, hf18, rfl⟩
     ·rintro m28 L29 w30 ⟨k23, x24, rfl, hk31, hsz33, hl34, hl35, hl36, hl37, hl38, hl39, hl40, hl41, hl42, hl43, hl44, hl45, hl46, hl47, hl48, hl49, hl50, hl51, hl52, hf53, hI32⟩
      refine CW.sub (Sub.cons hl34 (Sub.cons hl35 (Sub.cons hl36 (Sub.cons hl37 (Sub.cons hl38 (Sub.cons hl39 (Sub.cons hl40 (Sub.cons hl41 (Sub.cons hl42 (Sub.cons hl43 (Sub.cons hl44 (Sub.cons hl45 (Sub.cons hl46 (Sub.cons hl47 (Sub.cons hl48 (Sub.cons hl49 (Sub.cons hl50 (Sub.cons hl51 (Sub.cons hl52 (Sub.nil _)))))))))))))))))))) ?_
      have hf53z := Ex.size hf53
      have hbg54 : p_more.length ≤ 1073741824 := o2
      rcases Nat.lt_or_ge k23 p_more.length with hlt55 | hlt55
      ·refine CW.seq (CW.seq (CW.region (sd rfl (yl_move rfl rfl (sd rfl (yl_move rfl rfl (sd rfl (yl_slen Try.un9 (a := p_more) rfl rfl (sd rfl (yl_lss rfl rfl rfl (SeqR.done (tn ?_))))))))))))
       refine CW.cond_t rfl (lt_t hlt55) (CW.skip (tn (CW.seq (CW.block (bcase (x24) (fun hb56 => ?_) (fun hb56 => ?_))))))
       ·refine CW.drawsI 11 (vgetI [DetI (.bool (x24)), DetI (.bool (x24)), DetI (undef), DetI (undef), DetI (undef), DetI (undef), DetI (undef), DetI (undef), DetI (undef), DetI (.bool (true)), DetI (.bool (true))]) Try.follows rfl rfl rfl rfl rfl rfl (vgetI_stable ⟨StableI.det _, StableI.det _, StableI.det _, StableI.det _, StableI.det _, StableI.det _, StableI.det _, StableI.det _, StableI.det _, StableI.det _, StableI.det _, trivial⟩) ⟨?_, ?_, ?_, ?_, ?_, ?_, ?_, ?_, ?_, ?_, ?_, trivial⟩ ?_
        ·exact fun _ _ h => os rfl ((yl_move rfl (h.old 6 _ rfl rfl) kI))
        ·exact fun _ _ h => os rfl ((yl_move rfl (h.dt 0 42 rfl rfl rfl) kI))
        ·exact fun _ _ h => OpR.skip rfl rfl (h.dt 1 43 rfl rfl rfl) hb56 ⟨rfl, Ex.refl _⟩
        ·exact fun _ _ h => OpR.skip rfl rfl (h.dt 1 43 rfl rfl rfl) hb56 ⟨rfl, Ex.refl _⟩
        ·exact fun _ _ h => OpR.skip rfl rfl (h.dt 1 43 rfl rfl rfl) hb56 ⟨rfl, Ex.refl _⟩
        ·exact fun _ _ h => OpR.skip rfl rfl (h.dt 1 43 rfl rfl rfl) hb56 ⟨rfl, Ex.refl _⟩
        ·exact fun _ _ h => OpR.skip rfl rfl (h.dt 1 43 rfl rfl rfl) hb56 ⟨rfl, Ex.refl _⟩
        ·exact fun _ _ h => OpR.skip rfl rfl (h.dt 1 43 rfl rfl rfl) hb56 ⟨rfl, Ex.refl _⟩
        ·exact fun _ _ h => OpR.skip rfl rfl (h.dt 1 43 rfl rfl rfl) hb56 ⟨rfl, Ex.refl _⟩
        ·exact fun _ _ h => os rfl ((yl_pick_t rfl (h.dt 1 43 rfl rfl rfl) hb56 rfl kI))
        ·exact fun _ _ h => os rfl ((yl_assign rfl (h.dt 9 51 rfl rfl rfl) kI))
        ·intro fl116 fh117 L113 w114 hp115
         have hE118 := hp115.ex
         have hE118z := Ex.size hE118
         refine SeqR.done (bn (tn (CW.sub (Sub.cons (d := 0) (hp115.old 0 _ rfl rfl) (Sub.cons (d := 1) (hp115.old 1 _ rfl rfl) (Sub.cons (d := 5) (hp115.old 5 _ rfl rfl) (Sub.cons (d := 6) (hp115.nt 10 6 rfl rfl rfl) (Sub.cons (d := 7) (hp115.old 7 _ rfl rfl) (Sub.cons (d := 19) (hp115.old 19 _ rfl rfl) (Sub.cons (d := 20) (hp115.old 20 _ rfl rfl) (Sub.cons (d := 21) (hp115.old 21 _ rfl rfl) (Sub.cons (d := 22) (hp115.old 22 _ rfl rfl) (Sub.cons (d := 25) (hp115.old 25 _ rfl rfl) (Sub.cons (d := 26) (hp115.old 26 _ rfl rfl) (Sub.cons (d := 27) (hp115.old 27 _ rfl rfl) (Sub.cons (d := 28) (hp115.old 28 _ rfl rfl) (Sub.cons (d := 29) (hp115.old 29 _ rfl rfl) (Sub.cons (d := 30) (hp115.old 30 _ rfl rfl) (Sub.cons (d := 31) (hp115.old 31 _ rfl rfl) (Sub.cons (d := 32) (hp115.old 32 _ rfl rfl) (Sub.cons (d := 33) (hp115.old 33 _ rfl rfl) (Sub.cons (d := 34) (hp115.old 34 _ rfl rfl) (Sub.cons (d := 44) (hp115.nt 2 44 rfl rfl rfl) (Sub.cons (d := 45) (hp115.nt 3 45 rfl rfl rfl) (Sub.cons (d := 46) (hp115.nt 4 46 rfl rfl rfl) (Sub.cons (d := 47) (hp115.nt 5 47 rfl rfl rfl) (Sub.cons (d := 48) (hp115.nt 6 48 rfl rfl rfl) (Sub.cons (d := 49) (hp115.nt 7 49 rfl rfl rfl) (Sub.cons (d := 50) (hp115.nt 8 50 rfl rfl rfl) (Sub.nil _))))))))))))))))))))))))))) (CW.region (sd rfl (yl_move rfl rfl (sd rfl (yl_inc rfl rfl rfl (by omega) (sd rfl (yl_assign rfl rfl (SeqR.done ?_)))))))))))
         refine tn ?_
         have hB145 : B_s_l3Bytes_1 p_s p_more k5 k23 (x24) = .cont (true) := by simp only [B_s_l3Bytes_1, hb21, hb22, hb56, cond_true, cond_false, loopE_done, loopE_ret]
         exact ⟨p_more.length - (k23 + 1), by omega, k23 + 1, true, rfl, hlt55, (by omega), rfl, rfl, rfl, rfl, rfl, rfl, rfl, rfl, rfl, rfl, rfl, rfl, rfl, rfl, rfl, rfl, rfl, rfl, rfl, (Ex.trans hf53 hE118), (loopM.cont hlt55 hB145).symm.trans hI32⟩
       ·refine CW.drawsI 11 (vgetI [DetI (.bool (x24)), DetI (.bool (x24)), DetI (.string (bs (p_s))), DetI (.int .i64 ((k5 : Int))), DetI (.int .u8 (((p_s.getD k5 0).toNat : Int))), DetI (.string (bs (p_more))), DetI (.int .i64 ((k23 : Int))), DetI (.int .u8 (((p_more.getD k23 0).toNat : Int))), DetI (.bool (decide (((p_s.getD k5 0).toNat : Int) = ((p_more.getD k23 0).toNat : Int)))), DetI (.bool (decide (((p_s.getD k5 0).toNat : Int) = ((p_more.getD k23 0).toNat : Int)))), DetI (.bool (decide (((p_s.getD k5 0).toNat : Int) = ((p_more.getD k23 0).toNat : Int))))]) Try.follows rfl rfl rfl rfl rfl rfl (vgetI_stable ⟨StableI.det _, StableI.det _, StableI.det _, StableI.det _, StableI.det _, StableI.det _, StableI.det _, StableI.det _, StableI.det _, StableI.det _, StableI.det _, trivial⟩) ⟨?_, ?_, ?_, ?_, ?_, ?_, ?_, ?_, ?_, ?_, ?_, trivial⟩ ?_
        ·exact fun _ _ h => os rfl ((yl_move rfl (h.old 6 _ rfl rfl) kI))
        ·exact fun _ _ h => os rfl ((yl_move rfl (h.dt 0 42 rfl rfl rfl) kI))
        ·exact fun _ _ h => OpR.want rfl rfl (h.dt 1 43 rfl rfl rfl) hb56 (Yl.sameI (yl_move rfl (h.old 0 _ rfl rfl) kI))
        ·exact fun _ _ h => OpR.want rfl rfl (h.dt 1 43 rfl rfl rfl) hb56 (Yl.sameI (yl_move rfl (h.old 5 _ rfl rfl) kI))
        ·intro L169 w170 hi171
         have hE172 := hi171.ex
         have hE172z := Ex.size hE172
         exact OpR.want rfl rfl (hi171.dt 1 43 rfl rfl rfl) hb56 (Yl.sameI (yl_sindexN Try.un9 (a := p_s) rfl (hi171.dt 2 44 rfl rfl rfl) (hi171.dt 3 45 rfl rfl rfl) (by first | omega | assumption | (simp only [IntKind.wrap_i64] at *; omega)) kI))
        ·exact fun _ _ h => OpR.want rfl rfl (h.dt 1 43 rfl rfl rfl) hb56 (Yl.sameI (yl_move rfl (h.old 1 _ rfl rfl) kI))
        ·exact fun _ _ h => OpR.want rfl rfl (h.dt 1 43 rfl rfl rfl) hb56 (Yl.sameI (yl_move rfl (h.old 7 _ rfl rfl) kI))
        ·intro L188 w189 hi190
         have hE191 := hi190.ex
         have hE191z := Ex.size hE191
         exact OpR.want rfl rfl (hi190.dt 1 43 rfl rfl rfl) hb56 (Yl.sameI (yl_sindexN Try.un9 (a := p_more) rfl (hi190.dt 5 47 rfl rfl rfl) (hi190.dt 6 48 rfl rfl rfl) (by first | omega | assumption | (simp only [IntKind.wrap_i64] at *; omega)) kI))
        ·exact fun _ _ h => OpR.want rfl rfl (h.dt 1 43 rfl rfl rfl) hb56 (Yl.sameI (yl_eql rfl (h.dt 4 46 rfl rfl rfl) (h.dt 7 49 rfl rfl rfl) kI))
        ·exact fun _ _ h => os rfl ((yl_pick_f rfl (h.dt 1 43 rfl rfl rfl) hb56 (h.dt 8 50 rfl rfl rfl) kI))
        ·exact fun _ _ h => os rfl ((yl_assign rfl (h.dt 9 51 rfl rfl rfl) kI))
        ·intro fl216 fh217 L213 w214 hp215
         have hE218 := hp215.ex
         have hE218z := Ex.size hE218
         refine SeqR.done (bn (tn (CW.sub (Sub.cons (d := 0) (hp215.old 0 _ rfl rfl) (Sub.cons (d := 1) (hp215.old 1 _ rfl rfl) (Sub.cons (d := 5) (hp215.old 5 _ rfl rfl) (Sub.cons (d := 6) (hp215.nt 10 6 rfl rfl rfl) (Sub.cons (d := 7) (hp215.old 7 _ rfl rfl) (Sub.cons (d := 19) (hp215.old 19 _ rfl rfl) (Sub.cons (d := 20) (hp215.old 20 _ rfl rfl) (Sub.cons (d := 21) (hp215.old 21 _ rfl rfl) (Sub.cons (d := 22) (hp215.old 22 _ rfl rfl) (Sub.cons (d := 25) (hp215.old 25 _ rfl rfl) (Sub.cons (d := 26) (hp215.old 26 _ rfl rfl) (Sub.cons (d := 27) (hp215.old 27 _ rfl rfl) (Sub.cons (d := 28) (hp215.old 28 _ rfl rfl) (Sub.cons (d := 29) (hp215.old 29 _ rfl rfl) (Sub.cons (d := 30) (hp215.old 30 _ rfl rfl) (Sub.cons (d := 31) (hp215.old 31 _ rfl rfl) (Sub.cons (d := 32) (hp215.old 32 _ rfl rfl) (Sub.cons (d := 33) (hp215.old 33 _ rfl rfl) (Sub.cons (d := 34) (hp215.old 34 _ rfl rfl) (Sub.cons (d := 44) (hp215.nt 2 44 rfl rfl rfl) (Sub.cons (d := 45) (hp215.nt 3 45 rfl rfl rfl) (Sub.cons (d := 46) (hp215.nt 4 46 rfl rfl rfl) (Sub.cons (d := 47) (hp215.nt 5 47 rfl rfl rfl) (Sub.cons (d := 48) (hp215.nt 6 48 rfl rfl rfl) (Sub.cons (d := 49) (hp215.nt 7 49 rfl rfl rfl) (Sub.cons (d := 50) (hp215.nt 8 50 rfl rfl rfl) (Sub.nil _))))))))))))))))))))))))))) (CW.region (sd rfl (yl_move rfl rfl (sd rfl (yl_inc rfl rfl rfl (by omega) (sd rfl (yl_assign rfl rfl (SeqR.done ?_)))))))))))
         refine tn ?_
         have hB245 : B_s_l3Bytes_1 p_s p_more k5 k23 (x24) = .cont (decide (((p_s.getD k5 0).toNat : Int) = ((p_more.getD k23 0).toNat : Int))) := by simp only [B_s_l3Bytes_1, hb21, hb22, hb56, cond_true, cond_false, loopE_done, loopE_ret]
         exact ⟨p_more.length - (k23 + 1), by omega, k23 + 1, decide (((p_s.getD k5 0).toNat : Int) = ((p_more.getD k23 0).toNat : Int)), rfl, hlt55, (by omega), rfl, rfl, rfl, rfl, rfl, rfl, rfl, rfl, rfl, rfl, rfl, rfl, rfl, rfl, rfl, rfl, rfl, rfl, rfl, (Ex.trans hf53 hE218), (loopM.cont hlt55 hB245).symm.trans hI32⟩
      ·refine CW.seq (CW.seq (CW.region (sd rfl (yl_move rfl rfl (sd rfl (yl_move rfl rfl (sd rfl (yl_slen Try.un9 (a := p_more) rfl rfl (sd rfl (yl_lss rfl rfl rfl (SeqR.done (tn ?_))))))))))))
       refine CW.cond_f rfl (lt_f hlt55) (CW.exit (tx (tx ?_)))
       have hL247 : loopM (B_s_l3Bytes_1 p_s p_more k5) (p_more.length - 0) 0 (true) = .done (x24) := hI32.symm.trans (loopM.stop hlt55)
       refine bx (tn (CW.seq (CW.region (sd rfl (yl_move rfl rfl (sd rfl (yl_not rfl rfl (SeqR.done (tn (bcase (x24) (fun hb248 => ?_) (fun hb248 => ?_)))))))))))
       ·refine CW.cond_f rfl (not_t hb248) (CW.skip (bn (tn (CW.region (sd rfl (yl_move rfl rfl (sd rfl (yl_inc rfl rfl rfl (by omega) (sd rfl (yl_assign rfl rfl (SeqR.done ?_)))))))))))
        refine tn ?_
        have hB249 : B_s_l3Bytes_0 p_s p_more k5 () = .cont () := by simp only [B_s_l3Bytes_0, hb21, hb22, hb248, hL247, cond_true, cond_false, loopE_done, loopE_ret]
        exact ⟨p_s.length - (k5 + 1), by omega, k5 + 1, rfl, hlt20, (by omega), rfl, rfl, rfl, hf53, (loopM.cont hlt20 hB249).symm.trans hI13⟩
       ·refine CW.cond_t rfl (not_f hb248) (CW.seq (CW.region (sd rfl (yl_assign rfl rfl (SeqR.done (tn (CW.ret (br (tr ?_)))))))))
        refine tr ?_
        have hB251 : B_s_l3Bytes_0 p_s p_more k5 () = .ret false := by simp only [B_s_l3Bytes_0, hb21, hb22, hb248, hL247, cond_true, cond_false, loopE_done, loopE_ret]
        have hL250 : loopM (B_s_l3Bytes_0 p_s p_more) (p_s.length - 0) 0 () = .ret false := hI13.symm.trans (loopM.ret hlt20 hB251)
        refine br (tr (rr rfl (.cons rfl .nil) ?_))
        have hM252 : (s_l3Bytes p_s p_more) = (false) := by simp only [s_l3Bytes, hb21, hb22, hb248, hL247, hL250, cond_true, cond_false, loopE_done, loopE_ret]
        rw [hM252]
        exact ⟨rfl, hf53⟩
    ·have hb22p := dec_f hb22
     refine sy rfl rfl hb22 (yl_move rfl rfl (sy rfl rfl hb22 (yl_move rfl rfl (sy rfl rfl hb22 (yl_sindexN Try.un9 (a := p_s) rfl rfl rfl (by first | omega | assumption | (simp only [IntKind.wrap_i64] at *; omega)) (sy rfl rfl hb22 (yl_geq rfl rfl rfl (sy rfl rfl hb22 (yl_move rfl rfl (bcase (decide (48 ≤ ((p_s.getD k5 0).toNat : Int))) (fun hb253 => ?_) (fun hb253 => ?_)))))))))))
     ·have hb253p := dec_t hb253
      refine sy rfl rfl hb253 (yl_move rfl rfl (sy rfl rfl hb253 (yl_move rfl rfl (sy rfl rfl hb253 (yl_sindexN Try.un9 (a := p_s) rfl rfl rfl (by first | omega | assumption | (simp only [IntKind.wrap_i64] at *; omega)) (sy rfl rfl hb253 (yl_leq rfl rfl rfl (sy rfl rfl hb22 (yl_pick_t rfl rfl hb253 rfl (sd rfl (yl_pick_f rfl rfl hb22 rfl (sd rfl (yl_assign rfl rfl (SeqR.done (tn ?_)))))))))))))))
      refine CW.seq (CW.seq (CW.region (sd rfl (yl_assign rfl rfl (SeqR.done (tn (CW.block (CW.loop (fun m256 L257 w258 => ∃ (k254 : Nat) (x255 : Bool), m256 = p_more.length - k254 ∧ k254 ≤ p_more.length ∧ w11.heap.size ≤ w258.heap.size ∧ lkp L257 0 = some (.string (bs (p_s))) ∧ lkp L257 1 = some (.string (bs (p_more))) ∧ lkp L257 5 = some (.int .i64 ((k5 : Int))) ∧ lkp L257 6 = some (.bool (x255)) ∧ lkp L257 7 = some (.int .i64 ((k254 : Int))) ∧ lkp L257 19 = some (.string (bs (p_s))) ∧ lkp L257 20 = some (.int .i64 ((k5 : Int))) ∧ lkp L257 21 = some (.int .u8 (((p_s.getD k5 0).toNat : Int))) ∧ lkp L257 22 = some (.bool (decide (((p_s.getD k5 0).toNat : Int) ≤ 122))) ∧ lkp L257 25 = some (.string (bs (p_s))) ∧ lkp L257 26 = some (.int .i64 ((k5 : Int))) ∧ lkp L257 27 = some (.int .u8 (((p_s.getD k5 0).toNat : Int))) ∧ lkp L257 28 = some (.bool (decide (48 ≤ ((p_s.getD k5 0).toNat : Int)))) ∧ lkp L257 29 = some (.bool (decide (48 ≤ ((p_s.getD k5 0).toNat : Int)))) ∧ lkp L257 30 = some (.string (bs (p_s))) ∧ lkp L257 31 = some (.int .i64 ((k5 : Int))) ∧ lkp L257 32 = some (.int .u8 (((p_s.getD k5 0).toNat : Int))) ∧ lkp L257 33 = some (.bool (decide (((p_s.getD k5 0).toNat : Int) ≤ 57))) ∧ lkp L257 34 = some (.bool (decide (((p_s.getD k5 0).toNat : Int) ≤ 57))) ∧ Ex w w258 ∧ loopM (B_s_l3Bytes_1 p_s p_more k5) (p_more.length - k254) k254 (x255) = loopM (B_s_l3Bytes_1 p_s p_more k5) (p_more.length - 0) 0 (decide (((p_s.getD k5 0).toNat : Int) ≤ 57))) (p_more.length - 0) ?_ ?_))))))))
      ·exact ⟨0, decide (((p_s.getD k5 0).toNat : Int) ≤ 57), rfl, (by omega), Nat.le_refl _, rfl, rfl, rfl, rfl, rfl, rfl, rfl, rfl, rfl, rfl, rfl, rfl, rfl, rfl, rfl, rfl, rfl, rfl, rfl, hf18, rfl⟩
      ·rintro m259 L260 w261 ⟨k254, x255, rfl, hk262, hsz264, hl265, hl266, hl267, hl268, hl269, hl270, hl271, hl272, hl273, hl274, hl275, hl276, hl277, hl278, hl279, hl280, hl281, hl282, hl283, hf284, hI263⟩
       refine CW.sub (Sub.cons hl265 (Sub.cons hl266 (Sub.cons hl267 (Sub.cons hl268 (Sub.cons hl269 (Sub.cons hl270 (Sub.cons hl271 (Sub.cons hl272 (Sub.cons hl273 (Sub.cons hl274 (Sub.cons hl275 (Sub.cons hl276 (Sub.cons hl277 (Sub.cons hl278 (Sub.cons hl279 (Sub.cons hl280 (Sub.cons hl281 (Sub.cons hl282 (Sub.cons hl283 (Sub.nil _)))))))))))))))))))) ?_
       have hf284z := Ex.size hf284
       have hbg285 : p_more.length ≤ 1073741824 := o2
       rcases Nat.lt_or_ge k254 p_more.length with hlt286 | hlt286
       ·refine CW.seq (CW.seq (CW.region (sd rfl (yl_move rfl rfl (sd rfl (yl_move rfl rfl (sd rfl (yl_slen Try.un9 (a := p_more) rfl rfl (sd rfl (yl_lss rfl rfl rfl (SeqR.done (tn ?_))))))))))))
        refine CW.cond_t rfl (lt_t hlt286) (CW.skip (tn (CW.seq (CW.block (bcase (x255) (fun hb287 => ?_) (fun hb287 => ?_))))))
        ·refine CW.drawsI 11 (vgetI [DetI (.bool (x255)), DetI (.bool (x255)), DetI (undef), DetI (undef), DetI (undef), DetI (undef), DetI (undef), DetI (undef), DetI (undef), DetI (.bool (true)), DetI (.bool (true))]) Try.follows rfl rfl rfl rfl rfl rfl (vgetI_stable ⟨StableI.det _, StableI.det _, StableI.det _, StableI.det _, StableI.det _, StableI.det _, StableI.det _, StableI.det _, StableI.det _, StableI.det _, StableI.det _, trivial⟩) ⟨?_, ?_, ?_, ?_, ?_, ?_, ?_, ?_, ?_, ?_, ?_, trivial⟩ ?_
         ·exact fun _ _ h => os rfl ((yl_move rfl (h.old 6 _ rfl rfl) kI))
         ·exact fun _ _ h => os rfl ((yl_move rfl (h.dt 0 42 rfl rfl rfl) kI))
         ·exact fun _ _ h => OpR.skip rfl rfl (h.dt 1 43 rfl rfl rfl) hb287 ⟨rfl, Ex.refl _⟩
         ·exact fun _ _ h => OpR.skip rfl rfl (h.dt 1 43 rfl rfl rfl) hb287 ⟨rfl, Ex.refl _⟩
         ·exact fun _ _ h => OpR.skip rfl rfl (h.dt 1 43 rfl rfl rfl) hb287 ⟨rfl, Ex.refl _⟩
         ·exact fun _ _ h => OpR.skip rfl rfl (h.dt 1 43 rfl rfl rfl) hb287 ⟨rfl, Ex.refl _⟩
         ·exact fun _ _ h => OpR.skip rfl rfl (h.dt 1 43 rfl rfl rfl) hb287 ⟨rfl, Ex.refl _⟩
         ·exact fun _ _ h => OpR.skip rfl rfl (h.dt 1 43 rfl rfl rfl) hb287 ⟨rfl, Ex.refl _⟩
         ·exact fun _ _ h => OpR.skip rfl rfl (h.dt 1 43 rfl rfl rfl) hb287 ⟨rfl, Ex.refl _⟩
         ·exact fun _ _ h => os rfl ((yl_pick_t rfl (h.dt 1 43 rfl rfl rfl) hb287 rfl kI))
         ·exact fun _ _ h => os rfl ((yl_assign rfl (h.dt 9 51 rfl rfl rfl) kI))
         ·intro fl347 fh348 L344 w345 hp346
          have hE349 := hp346.ex
          have hE349z := Ex.size hE349
          refine SeqR.done (bn (tn (CW.sub (Sub.cons (d := 0) (hp346.old 0 _ rfl rfl) (Sub.cons (d := 1) (hp346.old 1 _ rfl rfl) (Sub.cons (d := 5) (hp346.old 5 _ rfl rfl) (Sub.cons (d := 6) (hp346.nt 10 6 rfl rfl rfl) (Sub.cons (d := 7) (hp346.old 7 _ rfl rfl) (Sub.cons (d := 19) (hp346.old 19 _ rfl rfl) (Sub.cons (d := 20) (hp346.old 20 _ rfl rfl) (Sub.cons (d := 21) (hp346.old 21 _ rfl rfl) (Sub.cons (d := 22) (hp346.old 22 _ rfl rfl) (Sub.cons (d := 25) (hp346.old 25 _ rfl rfl) (Sub.cons (d := 26) (hp346.old 26 _ rfl rfl) (Sub.cons (d := 27) (hp346.old 27 _ rfl rfl) (Sub.cons (d := 28) (hp346.old 28 _ rfl rfl) (Sub.cons (d := 29) (hp346.old 29 _ rfl rfl) (Sub.cons (d := 30) (hp346.old 30 _ rfl rfl) (Sub.cons (d := 31) (hp346.old 31 _ rfl rfl) (Sub.cons (d := 32) (hp346.old 32 _ rfl rfl) (Sub.cons (d := 33) (hp346.old 33 _ rfl rfl) (Sub.cons (d := 34) (hp346.old 34 _ rfl rfl) (Sub.cons (d := 44) (hp346.nt 2 44 rfl rfl rfl) (Sub.cons (d := 45) (hp346.nt 3 45 rfl rfl rfl) (Sub.cons (d := 46) (hp346.nt 4 46 rfl rfl rfl) (Sub.cons (d := 47) (hp346.nt 5 47 rfl rfl rfl) (Sub.cons (d := 48) (hp346.nt 6 48 rfl rfl rfl) (Sub.cons (d := 49) (hp346.nt 7 49 rfl rfl rfl) (Sub.cons (d := 50) (hp346.nt 8 50 rfl rfl rfl) (Sub.nil _))))))))))))))))))))))))))) (CW.region (sd rfl (yl_move rfl rfl (sd rfl (yl_inc rfl rfl rfl (by omega) (sd rfl (yl_assign rfl rfl (SeqR.done ?_)))))))))))
          refine tn ?_
          have hB376 : B_s_l3Bytes_1 p_s p_more k5 k254 (x255) = .cont (true) := by simp only [B_s_l3Bytes_1, hb21, hb22, hb253, hb287, cond_true, cond_false, loopE_done, loopE_ret]
          exact ⟨p_more.length - (k254 + 1), by omega, k254 + 1, true, rfl, hlt286, (by omega), rfl, rfl, rfl, rfl, rfl, rfl, rfl, rfl, rfl, rfl, rfl, rfl, rfl, rfl, rfl, rfl, rfl, rfl, rfl, (Ex.trans hf284 hE349), (loopM.cont hlt286 hB376).symm.trans hI263⟩
        ·refine CW.drawsI 11 (vgetI [DetI (.bool (x255)), DetI (.bool (x255)), DetI (.string (bs (p_s))), DetI (.int .i64 ((k5 : Int))), DetI (.int .u8 (((p_s.getD k5 0).toNat : Int))), DetI (.string (bs (p_more))), DetI (.int .i64 ((k254 : Int))), DetI (.int .u8 (((p_more.getD k254 0).toNat : Int))), DetI (.bool (decide (((p_s.getD k5 0).toNat : Int) = ((p_more.getD k254 0).toNat : Int)))), DetI (.bool (decide (((p_s.getD k5 0).toNat : Int) = ((p_more.getD k254 0).toNat : Int)))), DetI (.bool (decide (((p_s.getD k5 0).toNat : Int) = ((p_more.getD k254 0).toNat : Int))))]) Try.follows rfl rfl rfl rfl rfl rfl (vgetI_stable ⟨StableI.det _, StableI.det _, StableI.det _, StableI.det _, StableI.det _, StableI.det _, StableI.det _, StableI.det _, StableI.det _, StableI.det _, StableI.det _, trivial⟩) ⟨?_, ?_, ?_, ?_, ?_, ?_, ?_, ?_, ?_, ?_, ?_, trivial⟩ ?_
         ·exact fun _ _ h => os rfl ((yl_move rfl (h.old 6 _ rfl rfl) kI))
         ·exact fun _ _ h => os rfl ((yl_move rfl (h.dt 0 42 rfl rfl rfl) kI))
         ·exact fun _ _ h => OpR.want rfl rfl (h.dt 1 43 rfl rfl rfl) hb287 (Yl.sameI (yl_move rfl (h.old 0 _ rfl rfl) kI))
         ·exact fun _ _ h => OpR.want rfl rfl (h.dt 1 43 rfl rfl rfl) hb287 (Yl.sameI (yl_move rfl (h.old 5 _ rfl rfl) kI))
         ·intro L400 w401 hi402
          have hE403 := hi402.ex
          have hE403z := Ex.size hE403
          exact OpR.want rfl rfl (hi402.dt 1 43 rfl rfl rfl) hb287 (Yl.sameI (yl_sindexN Try.un9 (a := p_s) rfl (hi402.dt 2 44 rfl rfl rfl) (hi402.dt 3 45 rfl rfl rfl) (by first | omega | assumption | (simp only [IntKind.wrap_i64] at *; omega)) kI))
         ·exact fun _ _ h => OpR.want rfl rfl (h.dt 1 43 rfl rfl rfl) hb287 (Yl.sameI (yl_move rfl (h.old 1 _ rfl rfl) kI))
         ·exact fun _ _ h => OpR.want rfl rfl (h.dt 1 43 rfl rfl rfl) hb287 (Yl.sameI (yl_move rfl (h.old 7 _ rfl rfl) kI))
         ·intro L419 w420 hi421
          have hE422 := hi421.ex
          have hE422z := Ex.size hE422
          exact OpR.want rfl rfl (hi421.dt 1 43 rfl rfl rfl) hb287 (Yl.sameI (yl_sindexN Try.un9 (a := p_more) rfl (hi421.dt 5 47 rfl rfl rfl) (hi421.dt 6 48 rfl rfl rfl) (by first | omega | assumption | (simp only [IntKind.wrap_i64] at *; omega)) kI))
         ·exact fun _ _ h => OpR.want rfl rfl (h.dt 1 43 rfl rfl rfl) hb287 (Yl.sameI (yl_eql rfl (h.dt 4 46 rfl rfl rfl) (h.dt 7 49 rfl rfl rfl) kI))
         ·exact fun _ _ h => os rfl ((yl_pick_f rfl (h.dt 1 43 rfl rfl rfl) hb287 (h.dt 8 50 rfl rfl rfl) kI))
         ·exact fun _ _ h => os rfl ((yl_assign rfl (h.dt 9 51 rfl rfl rfl) kI))
         ·intro fl447 fh448 L444 w445 hp446
          have hE449 := hp446.ex
          have hE449z := Ex.size hE449
          refine SeqR.done (bn (tn (CW.sub (Sub.cons (d := 0) (hp446.old 0 _ rfl rfl) (Sub.cons (d := 1) (hp446.old 1 _ rfl rfl) (Sub.cons (d := 5) (hp446.old 5 _ rfl rfl) (Sub.cons (d := 6) (hp446.nt 10 6 rfl rfl rfl) (Sub.cons (d := 7) (hp446.old 7 _ rfl rfl) (Sub.cons (d := 19) (hp446.old 19 _ rfl rfl) (Sub.cons (d := 20) (hp446.old 20 _ rfl rfl) (Sub.cons (d := 21) (hp446.old 21 _ rfl rfl) (Sub.cons (d := 22) (hp446.old 22 _ rfl rfl) (Sub.cons (d := 25) (hp446.old 25 _ rfl rfl) (Sub.cons (d := 26) (hp446.old 26 _ rfl rfl) (Sub.cons (d := 27) (hp446.old 27 _ rfl rfl) (Sub.cons (d := 28) (hp446.old 28 _ rfl rfl) (Sub.cons (d := 29) (hp446.old 29 _ rfl rfl) (Sub.cons (d := 30) (hp446.old 30 _ rfl rfl) (Sub.cons (d := 31) (hp446.old 31 _ rfl rfl) (Sub.cons (d := 32) (hp446.old 32 _ rfl rfl) (Sub.cons (d := 33) (hp446.old 33 _ rfl rfl) (Sub.cons (d := 34) (hp446.old 34 _ rfl rfl) (Sub.cons (d := 44) (hp446.nt 2 44 rfl rfl rfl) (Sub.cons (d := 45) (hp446.nt 3 45 rfl rfl rfl) (Sub.cons (d := 46) (hp446.nt 4 46 rfl rfl rfl) (Sub.cons (d := 47) (hp446.nt 5 47 rfl rfl rfl) (Sub.cons (d := 48) (hp446.nt 6 48 rfl rfl rfl) (Sub.cons (d := 49) (hp446.nt 7 49 rfl rfl rfl) (Sub.cons (d := 50) (hp446.nt 8 50 rfl rfl rfl) (Sub.nil _))))))))))))))))))))))))))) (CW.region (sd rfl (yl_move rfl rfl (sd rfl (yl_inc rfl rfl rfl (by omega) (sd rfl (yl_assign rfl rfl (SeqR.done ?_)))))))))))
          refine tn ?_
          have hB476 : B_s_l3Bytes_1 p_s p_more k5 k254 (x255) = .cont (decide (((p_s.getD k5 0).toNat : Int) = ((p_more.getD k254 0).toNat : Int))) := by simp only [B_s_l3Bytes_1, hb21, hb22, hb253, hb287, cond_true, cond_false, loopE_done, loopE_ret]
          exact ⟨p_more.length - (k254 + 1), by omega, k254 + 1, decide (((p_s.getD k5 0).toNat : Int) = ((p_more.getD k254 0).toNat : Int)), rfl, hlt286, (by omega), rfl, rfl, rfl, rfl, rfl, rfl, rfl, rfl, rfl, rfl, rfl, rfl, rfl, rfl, rfl, rfl, rfl, rfl, rfl, (Ex.trans hf284 hE449), (loopM.cont hlt286 hB476).symm.trans hI263⟩
       ·refine CW.seq (CW.seq (CW.region (sd rfl (yl_move rfl rfl (sd rfl (yl_move rfl rfl (sd rfl (yl_slen Try.un9 (a := p_more) rfl rfl (sd rfl (yl_lss rfl rfl rfl (SeqR.done (tn ?_))))))))))))
        refine CW.cond_f rfl (lt_f hlt286) (CW.exit (tx (tx ?_)))
        have hL478 : loopM (B_s_l3Bytes_1 p_s p_more k5) (p_more.length - 0) 0 (decide (((p_s.getD k5 0).toNat : Int) ≤ 57)) = .done (x255) := hI263.symm.trans (loopM.stop hlt286)
        refine bx (tn (CW.seq (CW.region (sd rfl (yl_move rfl rfl (sd rfl (yl_not rfl rfl (SeqR.done (tn (bcase (x255) (fun hb479 => ?_) (fun hb479 => ?_)))))))))))
        ·refine CW.cond_f rfl (not_t hb479) (CW.skip (bn (tn (CW.region (sd rfl (yl_move rfl rfl (sd rfl (yl_inc rfl rfl rfl (by omega) (sd rfl (yl_assign rfl rfl (SeqR.done ?_)))))))))))
         refine tn ?_
         have hB480 : B_s_l3Bytes_0 p_s p_more k5 () = .cont () := by simp only [B_s_l3Bytes_0, hb21, hb22, hb253, hb479, hL478, cond_true, cond_false, loopE_done, loopE_ret]
         exact ⟨p_s.length - (k5 + 1), by omega, k5 + 1, rfl, hlt20, (by omega), rfl, rfl, rfl, hf284, (loopM.cont hlt20 hB480).symm.trans hI13⟩
        ·refine CW.cond_t rfl (not_f hb479) (CW.seq (CW.region (sd rfl (yl_assign rfl rfl (SeqR.done (tn (CW.ret (br (tr ?_)))))))))
         refine tr ?_
         have hB482 : B_s_l3Bytes_0 p_s p_more k5 () = .ret false := by simp only [B_s_l3Bytes_0, hb21, hb22, hb253, hb479, hL478, cond_true, cond_false, loopE_done, loopE_ret]
         have hL481 : loopM (B_s_l3Bytes_0 p_s p_more) (p_s.length - 0) 0 () = .ret false := hI13.symm.trans (loopM.ret hlt20 hB482)
         refine br (tr (rr rfl (.cons rfl .nil) ?_))
         have hM483 : (s_l3Bytes p_s p_more) = (false) := by simp only [s_l3Bytes, hb21, hb22, hb253, hb479, hL478, hL481, cond_true, cond_false, loopE_done, loopE_ret]
         rw [hM483]
         exact ⟨rfl, hf284⟩
     ·have hb253p := dec_f hb253
      refine sz rfl rfl hb253 (sz rfl rfl hb253 (sz rfl rfl hb253 (sz rfl rfl hb253 (sy rfl rfl hb22 (yl_pick_f rfl rfl hb253 rfl (sd rfl (yl_pick_f rfl rfl hb22 rfl (sd rfl (yl_assign rfl rfl (SeqR.done (tn ?_)))))))))))
      refine CW.seq (CW.seq (CW.region (sd rfl (yl_assign rfl rfl (SeqR.done (tn (CW.block (CW.loop (fun m486 L487 w488 => ∃ (k484 : Nat) (x485 : Bool), m486 = p_more.length - k484 ∧ k484 ≤ p_more.length ∧ w11.heap.size ≤ w488.heap.size ∧ lkp L487 0 = some (.string (bs (p_s))) ∧ lkp L487 1 = some (.string (bs (p_more))) ∧ lkp L487 5 = some (.int .i64 ((k5 : Int))) ∧ lkp L487 6 = some (.bool (x485)) ∧ lkp L487 7 = some (.int .i64 ((k484 : Int))) ∧ lkp L487 19 = some (.string (bs (p_s))) ∧ lkp L487 20 = some (.int .i64 ((k5 : Int))) ∧ lkp L487 21 = some (.int .u8 (((p_s.getD k5 0).toNat : Int))) ∧ lkp L487 22 = some (.bool (decide (((p_s.getD k5 0).toNat : Int) ≤ 122))) ∧ lkp L487 25 = some (.string (bs (p_s))) ∧ lkp L487 26 = some (.int .i64 ((k5 : Int))) ∧ lkp L487 27 = some (.int .u8 (((p_s.getD k5 0).toNat : Int))) ∧ lkp L487 28 = some (.bool (decide (48 ≤ ((p_s.getD k5 0).toNat : Int)))) ∧ lkp L487 29 = some (.bool (decide (48 ≤ ((p_s.getD k5 0).toNat : Int)))) ∧ lkp L487 30 = some (undef) ∧ lkp L487 31 = some (undef) ∧ lkp L487 32 = some (undef) ∧ lkp L487 33 = some (undef) ∧ lkp L487 34 = some (.bool (false)) ∧ Ex w w488 ∧ loopM (B_s_l3Bytes_1 p_s p_more k5) (p_more.length - k484) k484 (x485) = loopM (B_s_l3Bytes_1 p_s p_more k5) (p_more.length - 0) 0 (false)) (p_more.length - 0) ?_ ?_))))))))
      ·exact ⟨0, false, rfl, (by omega), Nat.le_refl _, rfl, rfl, rfl, rfl, rfl, rfl, rfl, rfl, rfl, rfl, rfl, rfl, rfl, rfl, rfl, rfl, rfl, rfl, rfl, hf18, rfl⟩
      ·rintro m489 L490 w491 ⟨k484, x485, rfl, hk492, hsz494, hl495, hl496, hl497, hl498, hl499, hl500, hl501, hl502, hl503, hl504, hl505, hl506, hl507, hl508, hl509, hl510, hl511, hl512, hl513, hf514, hI493⟩
       refine CW.sub (Sub.cons hl495 (Sub.cons hl496 (Sub.cons hl497 (Sub.cons hl498 (Sub.cons hl499 (Sub.cons hl500 (Sub.cons hl501 (Sub.cons hl502 (Sub.cons hl503 (Sub.cons hl504 (Sub.cons hl505 (Sub.cons hl506 (Sub.cons hl507 (Sub.cons hl508 (Sub.cons hl509 (Sub.cons hl510 (Sub.cons hl511 (Sub.cons hl512 (Sub.cons hl513 (Sub.nil _)))))))))))))))))))) ?_
       have hf514z := Ex.size hf514
       have hbg515 : p_more.length ≤ 1073741824 := o2
       rcases Nat.lt_or_ge k484 p_more.length with hlt516 | hlt516
       ·refine CW.seq (CW.seq (CW.region (sd rfl (yl_move rfl rfl (sd rfl (yl_move rfl rfl (sd rfl (yl_slen Try.un9 (a := p_more) rfl rfl (sd rfl (yl_lss rfl rfl rfl (SeqR.done (tn ?_))))))))))))
        refine CW.cond_t rfl (lt_t hlt516) (CW.skip (tn (CW.seq (CW.block (bcase (x485) (fun hb517 => ?_) (fun hb517 => ?_))))))
        ·refine CW.drawsI 11 (vgetI [DetI (.bool (x485)), DetI (.bool (x485)), DetI (undef), DetI (undef), DetI (undef), DetI (undef), DetI (undef), DetI (undef), DetI (undef), DetI (.bool (true)), DetI (.bool (true))]) Try.follows rfl rfl rfl rfl rfl rfl (vgetI_stable ⟨StableI.det _, StableI.det _, StableI.det _, StableI.det _, StableI.det _, StableI.det _, StableI.det _, StableI.det _, StableI.det _, StableI.det _, StableI.det _, trivial⟩) ⟨?_, ?_, ?_, ?_, ?_, ?_, ?_, ?_, ?_, ?_, ?_, trivial⟩ ?_
         ·exact fun _ _ h => os rfl ((yl_move rfl (h.old 6 _ rfl rfl) kI))
         ·exact fun _ _ h => os rfl ((yl_move rfl (h.dt 0 42 rfl rfl rfl) kI))
         ·exact fun _ _ h => OpR.skip rfl rfl (h.dt 1 43 rfl rfl rfl) hb517 ⟨rfl, Ex.refl _⟩
         ·exact fun _ _ h => OpR.skip rfl rfl (h.dt 1 43 rfl rfl rfl) hb517 ⟨rfl, Ex.refl _⟩
         ·exact fun _ _ h => OpR.skip rfl rfl (h.dt 1 43 rfl rfl rfl) hb517 ⟨rfl, Ex.refl _⟩
         ·exact fun _ _ h => OpR.skip rfl rfl (h.dt 1 43 rfl rfl rfl) hb517 ⟨rfl, Ex.refl _⟩
         ·exact fun _ _ h => OpR.skip rfl rfl (h.dt 1 43 rfl rfl rfl) hb517 ⟨rfl, Ex.refl _⟩
         ·exact fun _ _ h => OpR.skip rfl rfl (h.dt 1 43 rfl rfl rfl) hb517 ⟨rfl, Ex.refl _⟩
         ·exact fun _ _ h => OpR.skip rfl rfl (h.dt 1 43 rfl rfl rfl) hb517 ⟨rfl, Ex.refl _⟩
         ·exact fun _ _ h => os rfl ((yl_pick_t rfl (h.dt 1 43 rfl rfl rfl) hb517 rfl kI))
         ·exact fun _ _ h => os rfl ((yl_assign rfl (h.dt 9 51 rfl rfl rfl) kI))
         ·intro fl577 fh578 L574 w575 hp576
          have hE579 := hp576.ex
          have hE579z := Ex.size hE579
          refine SeqR.done (bn (tn (CW.sub (Sub.cons (d := 0) (hp576.old 0 _ rfl rfl) (Sub.cons (d := 1) (hp576.old 1 _ rfl rfl) (Sub.cons (d := 5) (hp576.old 5 _ rfl rfl) (Sub.cons (d := 6) (hp576.nt 10 6 rfl rfl rfl) (Sub.cons (d := 7) (hp576.old 7 _ rfl rfl) (Sub.cons (d := 19) (hp576.old 19 _ rfl rfl) (Sub.cons (d := 20) (hp576.old 20 _ rfl rfl) (Sub.cons (d := 21) (hp576.old 21 _ rfl rfl) (Sub.cons (d := 22) (hp576.old 22 _ rfl rfl) (Sub.cons (d := 25) (hp576.old 25 _ rfl rfl) (Sub.cons (d := 26) (hp576.old 26 _ rfl rfl) (Sub.cons (d := 27) (hp576.old 27 _ rfl rfl) (Sub.cons (d := 28) (hp576.old 28 _ rfl rfl) (Sub.cons (d := 29) (hp576.old 29 _ rfl rfl) (Sub.cons (d := 30) (hp576.old 30 _ rfl rfl) (Sub.cons (d := 31) (hp576.old 31 _ rfl rfl) (Sub.cons (d := 32) (hp576.old 32 _ rfl rfl) (Sub.cons (d := 33) (hp576.old 33 _ rfl rfl) (Sub.cons (d := 34) (hp576.old 34 _ rfl rfl) (Sub.cons (d := 44) (hp576.nt 2 44 rfl rfl rfl) (Sub.cons (d := 45) (hp576.nt 3 45 rfl rfl rfl) (Sub.cons (d := 46) (hp576.nt 4 46 rfl rfl rfl) (Sub.cons (d := 47) (hp576.nt 5 47 rfl rfl rfl) (Sub.cons (d := 48) (hp576.nt 6 48 rfl rfl rfl) (Sub.cons (d := 49) (hp576.nt 7 49 rfl rfl rfl) (Sub.cons (d := 50) (hp576.nt 8 50 rfl rfl rfl) (Sub.nil _))))))))))))))))))))))))))) (CW.region (sd rfl (yl_move rfl rfl (sd rfl (yl_inc rfl rfl rfl (by omega) (sd rfl (yl_assign rfl rfl (SeqR.done ?_)))))))))))
          refine tn ?_
          have hB606 : B_s_l3Bytes_1 p_s p_more k5 k484 (x485) = .cont (true) := by simp only [B_s_l3Bytes_1, hb21, hb22, hb253, hb517, cond_true, cond_false, loopE_done, loopE_ret]
          exact ⟨p_more.length - (k484 + 1), by omega, k484 + 1, true, rfl, hlt516, (by omega), rfl, rfl, rfl, rfl, rfl, rfl, rfl, rfl, rfl, rfl, rfl, rfl, rfl, rfl, rfl, rfl, rfl, rfl, rfl, (Ex.trans hf514 hE579), (loopM.cont hlt516 hB606).symm.trans hI493⟩
        ·refine CW.drawsI 11 (vgetI [DetI (.bool (x485)), DetI (.bool (x485)), DetI (.string (bs (p_s))), DetI (.int .i64 ((k5 : Int))), DetI (.int .u8 (((p_s.getD k5 0).toNat : Int))), DetI (.string (bs (p_more))), DetI (.int .i64 ((k484 : Int))), DetI (.int .u8 (((p_more.getD k484 0).toNat : Int))), DetI (.bool (decide (((p_s.getD k5 0).toNat : Int) = ((p_more.getD k484 0).toNat : Int)))), DetI (.bool (decide (((p_s.getD k5 0).toNat : Int) = ((p_more.getD k484 0).toNat : Int)))), DetI (.bool (decide (((p_s.getD k5 0).toNat : Int) = ((p_more.getD k484 0).toNat : Int))))]) Try.follows rfl rfl rfl rfl rfl rfl (vgetI_stable ⟨StableI.det _, StableI.det _, StableI.det _, StableI.det _, StableI.det _, StableI.det _, StableI.det _, StableI.det _, StableI.det _, StableI.det _, StableI.det _, trivial⟩) ⟨?_, ?_, ?_, ?_, ?_, ?_, ?_, ?_, ?_, ?_, ?_, trivial⟩ ?_
         ·exact fun _ _ h => os rfl ((yl_move rfl (h.old 6 _ rfl rfl) kI))
         ·exact fun _ _ h => os rfl ((yl_move rfl (h.dt 0 42 rfl rfl rfl) kI))
         ·exact fun _ _ h => OpR.want rfl rfl (h.dt 1 43 rfl rfl rfl) hb517 (Yl.sameI (yl_move rfl (h.old 0 _ rfl rfl) kI))
         ·exact fun _ _ h => OpR.want rfl rfl (h.dt 1 43 rfl rfl rfl) hb517 (Yl.sameI (yl_move rfl (h.old 5 _ rfl rfl) kI))
         ·intro L630 w631 hi632
          have hE633 := hi632.ex
          have hE633z := Ex.size hE633
          exact OpR.want rfl rfl (hi632.dt 1 43 rfl rfl rfl) hb517 (Yl.sameI (yl_sindexN Try.un9 (a := p_s) rfl (hi632.dt 2 44 rfl rfl rfl) (hi632.dt 3 45 rfl rfl rfl) (by first | omega | assumption | (simp only [IntKind.wrap_i64] at *; omega)) kI))
         ·exact fun _ _ h => OpR.want rfl rfl (h.dt 1 43 rfl rfl rfl) hb517 (Yl.sameI (yl_move rfl (h.old 1 _ rfl rfl) kI))
         ·exact fun _ _ h => OpR.want rfl rfl (h.dt 1 43 rfl rfl rfl) hb517 (Yl.sameI (yl_move rfl (h.old 7 _ rfl rfl) kI))
         ·intro L649 w650 hi651
          have hE652 := hi651.ex
          have hE652z := Ex.size hE652
          exact OpR.want rfl rfl (hi651.dt 1 43 rfl rfl rfl) hb517 (Yl.sameI (yl_sindexN Try.un9 (a := p_more) rfl (hi651.dt 5 47 rfl rfl rfl) (hi651.dt 6 48 rfl rfl rfl) (by first | omega | assumption | (simp only [IntKind.wrap_i64] at *; omega)) kI))
         ·exact fun _ _ h => OpR.want rfl rfl (h.dt 1 43 rfl rfl rfl) hb517 (Yl.sameI (yl_eql rfl (h.dt 4 46 rfl rfl rfl) (h.dt 7 49 rfl rfl rfl) kI))
         ·exact fun _ _ h => os rfl ((yl_pick_f rfl (h.dt 1 43 rfl rfl rfl) hb517 (h.dt 8 50 rfl rfl rfl) kI))
         ·exact fun _ _ h => os rfl ((yl_assign rfl (h.dt 9 51 rfl rfl rfl) kI))
         ·intro fl677 fh678 L674 w675 hp676
          have hE679 := hp676.ex
          have hE679z := Ex.size hE679
          refine SeqR.done (bn (tn (CW.sub (Sub.cons (d := 0) (hp676.old 0 _ rfl rfl) (Sub.cons (d := 1) (hp676.old 1 _ rfl rfl) (Sub.cons (d := 5) (hp676.old 5 _ rfl rfl) (Sub.cons (d := 6) (hp676.nt 10 6 rfl rfl rfl) (Sub.cons (d := 7) (hp676.old 7 _ rfl rfl) (Sub.cons (d := 19) (hp676.old 19 _ rfl rfl) (Sub.cons (d := 20) (hp676.old 20 _ rfl rfl) (Sub.cons (d := 21) (hp676.old 21 _ rfl rfl) (Sub.cons (d := 22) (hp676.old 22 _ rfl rfl) (Sub.cons (d := 25) (hp676.old 25 _ rfl rfl) (Sub.cons (d := 26) (hp676.old 26 _ rfl rfl) (Sub.cons (d := 27) (hp676.old 27 _ rfl rfl) (Sub.cons (d := 28) (hp676.old 28 _ rfl rfl) (Sub.cons (d := 29) (hp676.old 29 _ rfl rfl) (Sub.cons (d := 30) (hp676.old 30 _ rfl rfl) (Sub.cons (d := 31) (hp676.old 31 _ rfl rfl) (Sub.cons (d := 32) (hp676.old 32 _ rfl rfl) (Sub.cons (d := 33) (hp676.old 33 _ rfl rfl) (Sub.cons (d := 34) (hp676.old 34 _ rfl rfl) (Sub.cons (d := 44) (hp676.nt 2 44 rfl rfl rfl) (Sub.cons (d := 45) (hp676.nt 3 45 rfl rfl rfl) (Sub.cons (d := 46) (hp676.nt 4 46 rfl rfl rfl) (Sub.cons (d := 47) (hp676.nt 5 47 rfl rfl rfl) (Sub.cons (d := 48) (hp676.nt 6 48 rfl rfl rfl) (Sub.cons (d := 49) (hp676.nt 7 49 rfl rfl rfl) (Sub.cons (d := 50) (hp676.nt 8 50 rfl rfl rfl) (Sub.nil _))))))))))))))))))))))))))) (CW.region (sd rfl (yl_move rfl rfl (sd rfl (yl_inc rfl rfl rfl (by omega) (sd rfl (yl_assign rfl rfl (SeqR.done ?_)))))))))))
          refine tn ?_
          have hB706 : B_s_l3Bytes_1 p_s p_more k5 k484 (x485) = .cont (decide (((p_s.getD k5 0).toNat : Int) = ((p_more.getD k484 0).toNat : Int))) := by simp only [B_s_l3Bytes_1, hb21, hb22, hb253, hb517, cond_true, cond_false, loopE_done, loopE_ret]
          exact ⟨p_more.length - (k484 + 1), by omega, k484 + 1, decide (((p_s.getD k5 0).toNat : Int) = ((p_more.getD k484 0).toNat : Int)), rfl, hlt516, (by omega), rfl, rfl, rfl, rfl, rfl, rfl, rfl, rfl, rfl, rfl, rfl, rfl, rfl, rfl, rfl, rfl, rfl, rfl, rfl, (Ex.trans hf514 hE679), (loopM.cont hlt516 hB706).symm.trans hI493⟩
       ·refine CW.seq (CW.seq (CW.region (sd rfl (yl_move rfl rfl (sd rfl (yl_move rfl rfl (sd rfl (yl_slen Try.un9 (a := p_more) rfl rfl (sd rfl (yl_lss rfl rfl rfl (SeqR.done (tn ?_))))))))))))
        refine CW.cond_f rfl (lt_f hlt516) (CW.exit (tx (tx ?_)))
        have hL708 : loopM (B_s_l3Bytes_1 p_s p_more k5) (p_more.length - 0) 0 (false) = .done (x485) := hI493.symm.trans (loopM.stop hlt516)
        refine bx (tn (CW.seq (CW.region (sd rfl (yl_move rfl rfl (sd rfl (yl_not rfl rfl (SeqR.done (tn (bcase (x485) (fun hb709 => ?_) (fun hb709 => ?_)))))))))))
        ·refine CW.cond_f rfl (not_t hb709) (CW.skip (bn (tn (CW.region (sd rfl (yl_move rfl rfl (sd rfl (yl_inc rfl rfl rfl (by omega) (sd rfl (yl_assign rfl rfl (SeqR.done ?_)))))))))))
         refine tn ?_
         have hB710 : B_s_l3Bytes_0 p_s p_more k5 () = .cont () := by simp only [B_s_l3Bytes_0, hb21, hb22, hb253, hb709, hL708, cond_true, cond_false, loopE_done, loopE_ret]
         exact ⟨p_s.length - (k5 + 1), by omega, k5 + 1, rfl, hlt20, (by omega), rfl, rfl, rfl, hf514, (loopM.cont hlt20 hB710).symm.trans hI13⟩
        ·refine CW.cond_t rfl (not_f hb709) (CW.seq (CW.region (sd rfl (yl_assign rfl rfl (SeqR.done (tn (CW.ret (br (tr ?_)))))))))
         refine tr ?_
         have hB712 : B_s_l3Bytes_0 p_s p_more k5 () = .ret false := by simp only [B_s_l3Bytes_0, hb21, hb22, hb253, hb709, hL708, cond_true, cond_false, loopE_done, loopE_ret]
         have hL711 : loopM (B_s_l3Bytes_0 p_s p_more) (p_s.length - 0) 0 () = .ret false := hI13.symm.trans (loopM.ret hlt20 hB712)
         refine br (tr (rr rfl (.cons rfl .nil) ?_))
         have hM713 : (s_l3Bytes p_s p_more) = (false) := by simp only [s_l3Bytes, hb21, hb22, hb253, hb709, hL708, hL711, cond_true, cond_false, loopE_done, loopE_ret]
         rw [hM713]
         exact ⟨rfl, hf514⟩
   ·have hb21p := dec_f hb21
    refine sz rfl rfl hb21 (sz rfl rfl hb21 (sz rfl rfl hb21 (sz rfl rfl hb21 (sd rfl (yl_pick_f rfl rfl hb21 rfl (sd rfl (yl_move rfl rfl (sy rfl rfl rfl (yl_move rfl rfl (sy rfl rfl rfl (yl_move rfl rfl (sy rfl rfl rfl (yl_sindexN Try.un9 (a := p_s) rfl rfl rfl (by first | omega | assumption | (simp only [IntKind.wrap_i64] at *; omega)) ?_)))))))))))))
    refine sy rfl rfl rfl (yl_geq rfl rfl rfl (sy rfl rfl rfl (yl_move rfl rfl (bcase (decide (48 ≤ ((p_s.getD k5 0).toNat : Int))) (fun hb714 => ?_) (fun hb714 => ?_)))))
    ·have hb714p := dec_t hb714
     refine sy rfl rfl hb714 (yl_move rfl rfl (sy rfl rfl hb714 (yl_move rfl rfl (sy rfl rfl hb714 (yl_sindexN Try.un9 (a := p_s) rfl rfl rfl (by first | omega | assumption | (simp only [IntKind.wrap_i64] at *; omega)) (sy rfl rfl hb714 (yl_leq rfl rfl rfl (sy rfl rfl rfl (yl_pick_t rfl rfl hb714 rfl (sd rfl (yl_pick_f rfl rfl rfl rfl (sd rfl (yl_assign rfl rfl (SeqR.done (tn ?_)))))))))))))))
     refine CW.seq (CW.seq (CW.region (sd rfl (yl_assign rfl rfl (SeqR.done (tn (CW.block (CW.loop (fun m717 L718 w719 => ∃ (k715 : Nat) (x716 : Bool), m717 = p_more.length - k715 ∧ k715 ≤ p_more.length ∧ w11.heap.size ≤ w719.heap.size ∧ lkp L718 0 = some (.string (bs (p_s))) ∧ lkp L718 1 = some (.string (bs (p_more))) ∧ lkp L718 5 = some (.int .i64 ((k5 : Int))) ∧ lkp L718 6 = some (.bool (x716)) ∧ lkp L718 7 = some (.int .i64 ((k715 : Int))) ∧ lkp L718 19 = some (undef) ∧ lkp L718 20 = some (undef) ∧ lkp L718 21 = some (undef) ∧ lkp L718 22 = some (undef) ∧ lkp L718 25 = some (.string (bs (p_s))) ∧ lkp L718 26 = some (.int .i64 ((k5 : Int))) ∧ lkp L718 27 = some (.int .u8 (((p_s.getD k5 0).toNat : Int))) ∧ lkp L718 28 = some (.bool (decide (48 ≤ ((p_s.getD k5 0).toNat : Int)))) ∧ lkp L718 29 = some (.bool (decide (48 ≤ ((p_s.getD k5 0).toNat : Int)))) ∧ lkp L718 30 = some (.string (bs (p_s))) ∧ lkp L718 31 = some (.int .i64 ((k5 : Int))) ∧ lkp L718 32 = some (.int .u8 (((p_s.getD k5 0).toNat : Int))) ∧ lkp L718 33 = some (.bool (decide (((p_s.getD k5 0).toNat : Int) ≤ 57))) ∧ lkp L718 34 = some (.bool (decide (((p_s.getD k5 0).toNat : Int) ≤ 57))) ∧ Ex w w719 ∧ loopM (B_s_l3Bytes_1 p_s p_more k5) (p_more.length - k715) k715 (x716) = loopM (B_s_l3Bytes_1 p_s p_more k5) (p_more.length - 0) 0 (decide (((p_s.getD k5 0).toNat : Int) ≤ 57))) (p_more.length - 0) ?_ ?_))))))))
     ·exact ⟨0, decide (((p_s.getD k5 0).toNat : Int) ≤ 57), rfl, (by omega), Nat.le_refl _, rfl, rfl, rfl, rfl, rfl, rfl, rfl, rfl, rfl, rfl, rfl, rfl, rfl, rfl, rfl, rfl, rfl, rfl, rfl, hf18, rfl⟩
     ·rintro m720 L721 w722 ⟨k715, x716, rfl, hk723, hsz725, hl726, hl727, hl728, hl729, hl730, hl731, hl732, hl733, hl734, hl735, hl736, hl737, hl738, hl739, hl740, hl741, hl742, hl743, hl744, hf745, hI724⟩
      refine CW.sub (Sub.cons hl726 (Sub.cons hl727 (Sub.cons hl728 (Sub.cons hl729 (Sub.cons hl730 (Sub.cons hl731 (Sub.cons hl732 (Sub.cons hl733 (Sub.cons hl734 (Sub.cons hl735 (Sub.cons hl736 (Sub.cons hl737 (Sub.cons hl738 (Sub.cons hl739 (Sub.cons hl740 (Sub.cons hl741 (Sub.cons hl742 (Sub.cons hl743 (Sub.cons hl744 (Sub.nil _)))))))))))))))))))) ?_
      have hf745z := Ex.size hf745
      have hbg746 : p_more.length ≤ 1073741824 := o2
      rcases Nat.lt_or_ge k715 p_more.length with hlt747 | hlt747
      ·refine CW.seq (CW.seq (CW.region (sd rfl (yl_move rfl rfl (sd rfl (yl_move rfl rfl (sd rfl (yl_slen Try.un9 (a := p_more) rfl rfl (sd rfl (yl_lss rfl rfl rfl (SeqR.done (tn ?_))))))))))))
       refine CW.cond_t rfl (lt_t hlt747) (CW.skip (tn (CW.seq (CW.block (bcase (x716) (fun hb748 => ?_) (fun hb748 => ?_))))))
       ·refine CW.drawsI 11 (vgetI [DetI (.bool (x716)), DetI (.bool (x716)), DetI (undef), DetI (undef), DetI (undef), DetI (undef), DetI (undef), DetI (undef), DetI (undef), DetI (.bool (true)), DetI (.bool (true))]) Try.follows rfl rfl rfl rfl rfl rfl (vgetI_stable ⟨StableI.det _, StableI.det _, StableI.det _, StableI.det _, StableI.det _, StableI.det _, StableI.det _, StableI.det _, StableI.det _, StableI.det _, StableI.det _, trivial⟩) ⟨?_, ?_, ?_, ?_, ?_, ?_, ?_, ?_, ?_, ?_, ?_, trivial⟩ ?_
        ·exact fun _ _ h => os rfl ((yl_move rfl (h.old 6 _ rfl rfl) kI))
        ·exact fun _ _ h => os rfl ((yl_move rfl (h.dt 0 42 rfl rfl rfl) kI))
        ·exact fun _ _ h => OpR.skip rfl rfl (h.dt 1 43 rfl rfl rfl) hb748 ⟨rfl, Ex.refl _⟩
        ·exact fun _ _ h => OpR.skip rfl rfl (h.dt 1 43 rfl rfl rfl) hb748 ⟨rfl, Ex.refl _⟩
        ·exact fun _ _ h => OpR.skip rfl rfl (h.dt 1 43 rfl rfl rfl) hb748 ⟨rfl, Ex.refl _⟩
        ·exact fun _ _ h => OpR.skip rfl rfl (h.dt 1 43 rfl rfl rfl) hb748 ⟨rfl, Ex.refl _⟩
        ·exact fun _ _ h => OpR.skip rfl rfl (h.dt 1 43 rfl rfl rfl) hb748 ⟨rfl, Ex.refl _⟩
        ·exact fun _ _ h => OpR.skip rfl rfl (h.dt 1 43 rfl rfl rfl) hb748 ⟨rfl, Ex.refl _⟩
        ·exact fun _ _ h => OpR.skip rfl rfl (h.dt 1 43 rfl rfl rfl) hb748 ⟨rfl, Ex.refl _⟩
        ·exact fun _ _ h => os rfl ((yl_pick_t rfl (h.dt 1 43 rfl rfl rfl) hb748 rfl kI))
        ·exact fun _ _ h => os rfl ((yl_assign rfl (h.dt 9 51 rfl rfl rfl) kI))
        ·intro fl808 fh809 L805 w806 hp807
         have hE810 := hp807.ex
         have hE810z := Ex.size hE810
         refine SeqR.done (bn (tn (CW.sub (Sub.cons (d := 0) (hp807.old 0 _ rfl rfl) (Sub.cons (d := 1) (hp807.old 1 _ rfl rfl) (Sub.cons (d := 5) (hp807.old 5 _ rfl rfl) (Sub.cons (d := 6) (hp807.nt 10 6 rfl rfl rfl) (Sub.cons (d := 7) (hp807.old 7 _ rfl rfl) (Sub.cons (d := 19) (hp807.old 19 _ rfl rfl) (Sub.cons (d := 20) (hp807.old 20 _ rfl rfl) (Sub.cons (d := 21) (hp807.old 21 _ rfl rfl) (Sub.cons (d := 22) (hp807.old 22 _ rfl rfl) (Sub.cons (d := 25) (hp807.old 25 _ rfl rfl) (Sub.cons (d := 26) (hp807.old 26 _ rfl rfl) (Sub.cons (d := 27) (hp807.old 27 _ rfl rfl) (Sub.cons (d := 28) (hp807.old 28 _ rfl rfl) (Sub.cons (d := 29) (hp807.old 29 _ rfl rfl) (Sub.cons (d := 30) (hp807.old 30 _ rfl rfl) (Sub.cons (d := 31) (hp807.old 31 _ rfl rfl) (Sub.cons (d := 32) (hp807.old 32 _ rfl rfl) (Sub.cons (d := 33) (hp807.old 33 _ rfl rfl) (Sub.cons (d := 34) (hp807.old 34 _ rfl rfl) (Sub.cons (d := 44) (hp807.nt 2 44 rfl rfl rfl) (Sub.cons (d := 45) (hp807.nt 3 45 rfl rfl rfl) (Sub.cons (d := 46) (hp807.nt 4 46 rfl rfl rfl) (Sub.cons (d := 47) (hp807.nt 5 47 rfl rfl rfl) (Sub.cons (d := 48) (hp807.nt 6 48 rfl rfl rfl) (Sub.cons (d := 49) (hp807.nt 7 49 rfl rfl rfl) (Sub.cons (d := 50) (hp807.nt 8 50 rfl rfl rfl) (Sub.nil _))))))))))))))))))))))))))) (CW.region (sd rfl (yl_move rfl rfl (sd rfl (yl_inc rfl rfl rfl (by omega) (sd rfl (yl_assign rfl rfl (SeqR.done ?_)))))))))))
         refine tn ?_
         have hB837 : B_s_l3Bytes_1 p_s p_more k5 k715 (x716) = .cont (true) := by simp only [B_s_l3Bytes_1, hb21, hb714, hb748, cond_true, cond_false, loopE_done, loopE_ret]
         exact ⟨p_more.length - (k715 + 1), by omega, k715 + 1, true, rfl, hlt747, (by omega), rfl, rfl, rfl, rfl, rfl, rfl, rfl, rfl, rfl, rfl, rfl, rfl, rfl, rfl, rfl, rfl, rfl, rfl, rfl, (Ex.trans hf745 hE810), (loopM.cont hlt747 hB837).symm.trans hI724⟩
       ·refine CW.drawsI 11 (vgetI [DetI (.bool (x716)), DetI (.bool (x716)), DetI (.string (bs (p_s))), DetI (.int .i64 ((k5 : Int))), DetI (.int .u8 (((p_s.getD k5 0).toNat : Int))), DetI (.string (bs (p_more))), DetI (.int .i64 ((k715 : Int))), DetI (.int .u8 (((p_more.getD k715 0).toNat : Int))), DetI (.bool (decide (((p_s.getD k5 0).toNat : Int) = ((p_more.getD k715 0).toNat : Int)))), DetI (.bool (decide (((p_s.getD k5 0).toNat : Int) = ((p_more.getD k715 0).toNat : Int)))), DetI (.bool (decide (((p_s.getD k5 0).toNat : Int) = ((p_more.getD k715 0).toNat : Int))))]) Try.follows rfl rfl rfl rfl rfl rfl (vgetI_stable ⟨StableI.det _, StableI.det _, StableI.det _, StableI.det _, StableI.det _, StableI.det _, StableI.det _, StableI.det _, StableI.det _, StableI.det _, StableI.det _, trivial⟩) ⟨?_, ?_, ?_, ?_, ?_, ?_, ?_, ?_, ?_, ?_, ?_, trivial⟩ ?_
        ·exact fun _ _ h => os rfl ((yl_move rfl (h.old 6 _ rfl rfl) kI))
        ·exact fun _ _ h => os rfl ((yl_move rfl (h.dt 0 42 rfl rfl rfl) kI))
        ·exact fun _ _ h => OpR.want rfl rfl (h.dt 1 43 rfl rfl rfl) hb748 (Yl.sameI (yl_move rfl (h.old 0 _ rfl rfl) kI))
        ·exact fun _ _ h => OpR.want rfl rfl (h.dt 1 43 rfl rfl rfl) hb748 (Yl.sameI (yl_move rfl (h.old 5 _ rfl rfl) kI))
        ·intro L861 w862 hi863
         have hE864 := hi863.ex
         have hE864z := Ex.size hE864
         exact OpR.want rfl rfl (hi863.dt 1 43 rfl rfl rfl) hb748 (Yl.sameI (yl_sindexN Try.un9 (a := p_s) rfl (hi863.dt 2 44 rfl rfl rfl) (hi863.dt 3 45 rfl rfl rfl) (by first | omega | assumption | (simp only [IntKind.wrap_i64] at *; omega)) kI))
        ·exact fun _ _ h => OpR.want rfl rfl (h.dt 1 43 rfl rfl rfl) hb748 (Yl.sameI (yl_move rfl (h.old 1 _ rfl rfl) kI))
        ·exact fun _ _ h => OpR.want rfl rfl (h.dt 1 43 rfl rfl rfl) hb748 (Yl.sameI (yl_move rfl (h.old 7 _ rfl rfl) kI))
        ·intro L880 w881 hi882
         have hE883 := hi882.ex
         have hE883z := Ex.size hE883
         exact OpR.want rfl rfl (hi882.dt 1 43 rfl rfl rfl) hb748 (Yl.sameI (yl_sindexN Try.un9 (a := p_more) rfl (hi882.dt 5 47 rfl rfl rfl) (hi882.dt 6 48 rfl rfl rfl) (by first | omega | assumption | (simp only [IntKind.wrap_i64] at *; omega)) kI))
        ·exact fun _ _ h => OpR.want rfl rfl (h.dt 1 43 rfl rfl rfl) hb748 (Yl.sameI (yl_eql rfl (h.dt 4 46 rfl rfl rfl) (h.dt 7 49 rfl rfl rfl) kI))
        ·exact fun _ _ h => os rfl ((yl_pick_f rfl (h.dt 1 43 rfl rfl rfl) hb748 (h.dt 8 50 rfl rfl rfl) kI))
        ·exact fun _ _ h => os rfl ((yl_assign rfl (h.dt 9 51 rfl rfl rfl) kI))
        ·intro fl908 fh909 L905 w906 hp907
         have hE910 := hp907.ex
         have hE910z := Ex.size hE910
         refine SeqR.done (bn (tn (CW.sub (Sub.cons (d := 0) (hp907.old 0 _ rfl rfl) (Sub.cons (d := 1) (hp907.old 1 _ rfl rfl) (Sub.cons (d := 5) (hp907.old 5 _ rfl rfl) (Sub.cons (d := 6) (hp907.nt 10 6 rfl rfl rfl) (Sub.cons (d := 7) (hp907.old 7 _ rfl rfl) (Sub.cons (d := 19) (hp907.old 19 _ rfl rfl) (Sub.cons (d := 20) (hp907.old 20 _ rfl rfl) (Sub.cons (d := 21) (hp907.old 21 _ rfl rfl) (Sub.cons (d := 22) (hp907.old 22 _ rfl rfl) (Sub.cons (d := 25) (hp907.old 25 _ rfl rfl) (Sub.cons (d := 26) (hp907.old 26 _ rfl rfl) (Sub.cons (d := 27) (hp907.old 27 _ rfl rfl) (Sub.cons (d := 28) (hp907.old 28 _ rfl rfl) (Sub.cons (d := 29) (hp907.old 29 _ rfl rfl) (Sub.cons (d := 30) (hp907.old 30 _ rfl rfl) (Sub.cons (d := 31) (hp907.old 31 _ rfl rfl) (Sub.cons (d := 32) (hp907.old 32 _ rfl rfl) (Sub.cons (d := 33) (hp907.old 33 _ rfl rfl) (Sub.cons (d := 34) (hp907.old 34 _ rfl rfl) (Sub.cons (d := 44) (hp907.nt 2 44 rfl rfl rfl) (Sub.cons (d := 45) (hp907.nt 3 45 rfl rfl rfl) (Sub.cons (d := 46) (hp907.nt 4 46 rfl rfl rfl) (Sub.cons (d := 47) (hp907.nt 5 47 rfl rfl rfl) (Sub.cons (d := 48) (hp907.nt 6 48 rfl rfl rfl) (Sub.cons (d := 49) (hp907.nt 7 49 rfl rfl rfl) (Sub.cons (d := 50) (hp907.nt 8 50 rfl rfl rfl) (Sub.nil _))))))))))))))))))))))))))) (CW.region (sd rfl (yl_move rfl rfl (sd rfl (yl_inc rfl rfl rfl (by omega) (sd rfl (yl_assign rfl rfl (SeqR.done ?_)))))))))))
         refine tn ?_
         have hB937 : B_s_l3Bytes_1 p_s p_more k5 k715 (x716) = .cont (decide (((p_s.getD k5 0).toNat : Int) = ((p_more.getD k715 0).toNat : Int))) := by simp only [B_s_l3Bytes_1, hb21, hb714, hb748, cond_true, cond_false, loopE_done, loopE_ret]
         exact ⟨p_more.length - (k715 + 1), by omega, k715 + 1, decide (((p_s.getD k5 0).toNat : Int) = ((p_more.getD k715 0).toNat : Int)), rfl, hlt747, (by omega), rfl, rfl, rfl, rfl, rfl, rfl, rfl, rfl, rfl, rfl, rfl, rfl, rfl, rfl, rfl, rfl, rfl, rfl, rfl, (Ex.trans hf745 hE910), (loopM.cont hlt747 hB937).symm.trans hI724⟩
      ·refine CW.seq (CW.seq (CW.region (sd rfl (yl_move rfl rfl (sd rfl (yl_move rfl rfl (sd rfl (yl_slen Try.un9 (a := p_more) rfl rfl (sd rfl (yl_lss rfl rfl rfl (SeqR.done (tn ?_))))))))))))
       refine CW.cond_f rfl (lt_f hlt747) (CW.exit (tx (tx ?_)))
       have hL939 : loopM (B_s_l3Bytes_1 p_s p_more k5) (p_more.length - 0) 0 (decide (((p_s.getD k5 0).toNat : Int) ≤ 57)) = .done (x716) := hI724.symm.trans (loopM.stop hlt747)
       refine bx (tn (CW.seq (CW.region (sd rfl (yl_move rfl rfl (sd rfl (yl_not rfl rfl (SeqR.done (tn (bcase (x716) (fun hb940 => ?_) (fun hb940 => ?_)))))))))))
       ·refine CW.cond_f rfl (not_t hb940) (CW.skip (bn (tn (CW.region (sd rfl (yl_move rfl rfl (sd rfl (yl_inc rfl rfl rfl (by omega) (sd rfl (yl_assign rfl rfl (SeqR.done ?_)))))))))))
        refine tn ?_
        have hB941 : B_s_l3Bytes_0 p_s p_more k5 () = .cont () := by simp only [B_s_l3Bytes_0, hb21, hb714, hb940, hL939, cond_true, cond_false, loopE_done, loopE_ret]
        exact ⟨p_s.length - (k5 + 1), by omega, k5 + 1, rfl, hlt20, (by omega), rfl, rfl, rfl, hf745, (loopM.cont hlt20 hB941).symm.trans hI13⟩
       ·refine CW.cond_t rfl (not_f hb940) (CW.seq (CW.region (sd rfl (yl_assign rfl rfl (SeqR.done (tn (CW.ret (br (tr ?_)))))))))
        refine tr ?_
        have hB943 : B_s_l3Bytes_0 p_s p_more k5 () = .ret false := by simp only [B_s_l3Bytes_0, hb21, hb714, hb940, hL939, cond_true, cond_false, loopE_done, loopE_ret]
        have hL942 : loopM (B_s_l3Bytes_0 p_s p_more) (p_s.length - 0) 0 () = .ret false := hI13.symm.trans (loopM.ret hlt20 hB943)
        refine br (tr (rr rfl (.cons rfl .nil) ?_))
        have hM944 : (s_l3Bytes p_s p_more) = (false) := by simp only [s_l3Bytes, hb21, hb714, hb940, hL939, hL942, cond_true, cond_false, loopE_done, loopE_ret]
        rw [hM944]
        exact ⟨rfl, hf745⟩
    ·have hb714p := dec_f hb714
     refine sz rfl rfl hb714 (sz rfl rfl hb714 (sz rfl rfl hb714 (sz rfl rfl hb714 (sy rfl rfl rfl (yl_pick_f rfl rfl hb714 rfl (sd rfl (yl_pick_f rfl rfl rfl rfl (sd rfl (yl_assign rfl rfl (SeqR.done (tn ?_)))))))))))
     refine CW.seq (CW.seq (CW.region (sd rfl (yl_assign rfl rfl (SeqR.done (tn (CW.block (CW.loop (fun m947 L948 w949 => ∃ (k945 : Nat) (x946 : Bool), m947 = p_more.length - k945 ∧ k945 ≤ p_more.length ∧ w11.heap.size ≤ w949.heap.size ∧ lkp L948 0 = some (.string (bs (p_s))) ∧ lkp L948 1 = some (.string (bs (p_more))) ∧ lkp L948 5 = some (.int .i64 ((k5 : Int))) ∧ lkp L948 6 = some (.bool (x946)) ∧ lkp L948 7 = some (.int .i64 ((k945 : Int))) ∧ lkp L948 19 = some (undef) ∧ lkp L948 20 = some (undef) ∧ lkp L948 21 = some (undef) ∧ lkp L948 22 = some (undef) ∧ lkp L948 25 = some (.string (bs (p_s))) ∧ lkp L948 26 = some (.int .i64 ((k5 : Int))) ∧ lkp L948 27 = some (.int .u8 (((p_s.getD k5 0).toNat : Int))) ∧ lkp L948 28 = some (.bool (decide (48 ≤ ((p_s.getD k5 0).toNat : Int)))) ∧ lkp L948 29 = some (.bool (decide (48 ≤ ((p_s.getD k5 0).toNat : Int)))) ∧ lkp L948 30 = some (undef) ∧ lkp L948 31 = some (undef) ∧ lkp L948 32 = some (undef) ∧ lkp L948 33 = some (undef) ∧ lkp L948 34 = some (.bool (false)) ∧ Ex w w949 ∧ loopM (B_s_l3Bytes_1 p_s p_more k5) (p_more.length - k945) k945 (x946) = loopM (B_s_l3Bytes_1 p_s p_more k5) (p_more.length - 0) 0 (false)) (p_more.length - 0) ?_ ?_))))))))
     ·exact ⟨0, false, rfl, (by omega), Nat.le_refl _, rfl, rfl, rfl, rfl, rfl, rfl, rfl, rfl, rfl, rfl, rfl, rfl, rfl, rfl, rfl, rfl, rfl, rfl, rfl, hf18, rfl⟩
     ·rintro m950 L951 w952 ⟨k945, x946, rfl, hk953, hsz955, hl956, hl957, hl958, hl959, hl960, hl961, hl962, hl963, hl964, hl965, hl966, hl967, hl968, hl969, hl970, hl971, hl972, hl973, hl974, hf975, hI954⟩
      refine CW.sub (Sub.cons hl956 (Sub.cons hl957 (Sub.cons hl958 (Sub.cons hl959 (Sub.cons hl960 (Sub.cons hl961 (Sub.cons hl962 (Sub.cons hl963 (Sub.cons hl964 (Sub.cons hl965 (Sub.cons hl966 (Sub.cons hl967 (Sub.cons hl968 (Sub.cons hl969 (Sub.cons hl970 (Sub.cons hl971 (Sub.cons hl972 (Sub.cons hl973 (Sub.cons hl974 (Sub.nil _)))))))))))))))))))) ?_
      have hf975z := Ex.size hf975
      have hbg976 : p_more.length ≤ 1073741824 := o2
      rcases Nat.lt_or_ge k945 p_more.length with hlt977 | hlt977
      ·refine CW.seq (CW.seq (CW.region (sd rfl (yl_move rfl rfl (sd rfl (yl_move rfl rfl (sd rfl (yl_slen Try.un9 (a := p_more) rfl rfl (sd rfl (yl_lss rfl rfl rfl (SeqR.done (tn ?_))))))))))))
       refine CW.cond_t rfl (lt_t hlt977) (CW.skip (tn (CW.seq (CW.block (bcase (x946) (fun hb978 => ?_) (fun hb978 => ?_))))))
       ·refine CW.drawsI 11 (vgetI [DetI (.bool (x946)), DetI (.bool (x946)), DetI (undef), DetI (undef), DetI (undef), DetI (undef), DetI (undef), DetI (undef), DetI (undef), DetI (.bool (true)), DetI (.bool (true))]) Try.follows rfl rfl rfl rfl rfl rfl (vgetI_stable ⟨StableI.det _, StableI.det _, StableI.det _, StableI.det _, StableI.det _, StableI.det _, StableI.det _, StableI.det _, StableI.det _, StableI.det _, StableI.det _, trivial⟩) ⟨?_, ?_, ?_, ?_, ?_, ?_, ?_, ?_, ?_, ?_, ?_, trivial⟩ ?_
        ·exact fun _ _ h => os rfl ((yl_move rfl (h.old 6 _ rfl rfl) kI))
        ·exact fun _ _ h => os rfl ((yl_move rfl (h.dt 0 42 rfl rfl rfl) kI))
        ·exact fun _ _ h => OpR.skip rfl rfl (h.dt 1 43 rfl rfl rfl) hb978 ⟨rfl, Ex.refl _⟩
        ·exact fun _ _ h => OpR.skip rfl rfl (h.dt 1 43 rfl rfl rfl) hb978 ⟨rfl, Ex.refl _⟩
        ·exact fun _ _ h => OpR.skip rfl rfl (h.dt 1 43 rfl rfl rfl) hb978 ⟨rfl, Ex.refl _⟩
        ·exact fun _ _ h => OpR.skip rfl rfl (h.dt 1 43 rfl rfl rfl) hb978 ⟨rfl, Ex.refl _⟩
        ·exact fun _ _ h => OpR.skip rfl rfl (h.dt 1 43 rfl rfl rfl) hb978 ⟨rfl, Ex.refl _⟩
        ·exact fun _ _ h => OpR.skip rfl rfl (h.dt 1 43 rfl rfl rfl) hb978 ⟨rfl, Ex.refl _⟩
        ·exact fun _ _ h => OpR.skip rfl rfl (h.dt 1 43 rfl rfl rfl) hb978 ⟨rfl, Ex.refl _⟩
        ·exact fun _ _ h => os rfl ((yl_pick_t rfl (h.dt 1 43 rfl rfl rfl) hb978 rfl kI))
        ·exact fun _ _ h => os rfl ((yl_assign rfl (h.dt 9 51 rfl rfl rfl) kI))
        ·intro fl1038 fh1039 L1035 w1036 hp1037
         have hE1040 := hp1037.ex
         have hE1040z := Ex.size hE1040
         refine SeqR.done (bn (tn (CW.sub (Sub.cons (d := 0) (hp1037.old 0 _ rfl rfl) (Sub.cons (d := 1) (hp1037.old 1 _ rfl rfl) (Sub.cons (d := 5) (hp1037.old 5 _ rfl rfl) (Sub.cons (d := 6) (hp1037.nt 10 6 rfl rfl rfl) (Sub.cons (d := 7) (hp1037.old 7 _ rfl rfl) (Sub.cons (d := 19) (hp1037.old 19 _ rfl rfl) (Sub.cons (d := 20) (hp1037.old 20 _ rfl rfl) (Sub.cons (d := 21) (hp1037.old 21 _ rfl rfl) (Sub.cons (d := 22) (hp1037.old 22 _ rfl rfl) (Sub.cons (d := 25) (hp1037.old 25 _ rfl rfl) (Sub.cons (d := 26) (hp1037.old 26 _ rfl rfl) (Sub.cons (d := 27) (hp1037.old 27 _ rfl rfl) (Sub.cons (d := 28) (hp1037.old 28 _ rfl rfl) (Sub.cons (d := 29) (hp1037.old 29 _ rfl rfl) (Sub.cons (d := 30) (hp1037.old 30 _ rfl rfl) (Sub.cons (d := 31) (hp1037.old 31 _ rfl rfl) (Sub.cons (d := 32) (hp1037.old 32 _ rfl rfl) (Sub.cons (d := 33) (hp1037.old 33 _ rfl rfl) (Sub.cons (d := 34) (hp1037.old 34 _ rfl rfl) (Sub.cons (d := 44) (hp1037.nt 2 44 rfl rfl rfl) (Sub.cons (d := 45) (hp1037.nt 3 45 rfl rfl rfl) (Sub.cons (d := 46) (hp1037.nt 4 46 rfl rfl rfl) (Sub.cons (d := 47) (hp1037.nt 5 47 rfl rfl rfl) (Sub.cons (d := 48) (hp1037.nt 6 48 rfl rfl rfl) (Sub.cons (d := 49) (hp1037.nt 7 49 rfl rfl rfl) (Sub.cons (d := 50) (hp1037.nt 8 50 rfl rfl rfl) (Sub.nil _))))))))))))))))))))))))))) (CW.region (sd rfl (yl_move rfl rfl (sd rfl (yl_inc rfl rfl rfl (by omega) (sd rfl (yl_assign rfl rfl (SeqR.done ?_)))))))))))
         refine tn ?_
         have hB1067 : B_s_l3Bytes_1 p_s p_more k5 k945 (x946) = .cont (true) := by simp only [B_s_l3Bytes_1, hb21, hb714, hb978, cond_true, cond_false, loopE_done, loopE_ret]
         exact ⟨p_more.length - (k945 + 1), by omega, k945 + 1, true, rfl, hlt977, (by omega), rfl, rfl, rfl, rfl, rfl, rfl, rfl, rfl, rfl, rfl, rfl, rfl, rfl, rfl, rfl, rfl, rfl, rfl, rfl, (Ex.trans hf975 hE1040), (loopM.cont hlt977 hB1067).symm.trans hI954⟩
       ·refine CW.drawsI 11 (vgetI [DetI (.bool (x946)), DetI (.bool (x946)), DetI (.string (bs (p_s))), DetI (.int .i64 ((k5 : Int))), DetI (.int .u8 (((p_s.getD k5 0).toNat : Int))), DetI (.string (bs (p_more))), DetI (.int .i64 ((k945 : Int))), DetI (.int .u8 (((p_more.getD k945 0).toNat : Int))), DetI (.bool (decide (((p_s.getD k5 0).toNat : Int) = ((p_more.getD k945 0).toNat : Int)))), DetI (.bool (decide (((p_s.getD k5 0).toNat : Int) = ((p_more.getD k945 0).toNat : Int)))), DetI (.bool (decide (((p_s.getD k5 0).toNat : Int) = ((p_more.getD k945 0).toNat : Int))))]) Try.follows rfl rfl rfl rfl rfl rfl (vgetI_stable ⟨StableI.det _, StableI.det _, StableI.det _, StableI.det _, StableI.det _, StableI.det _, StableI.det _, StableI.det _, StableI.det _, StableI.det _, StableI.det _, trivial⟩) ⟨?_, ?_, ?_, ?_, ?_, ?_, ?_, ?_, ?_, ?_, ?_, trivial⟩ ?_
        ·exact fun _ _ h => os rfl ((yl_move rfl (h.old 6 _ rfl rfl) kI))
        ·exact fun _ _ h => os rfl ((yl_move rfl (h.dt 0 42 rfl rfl rfl) kI))
        ·exact fun _ _ h => OpR.want rfl rfl (h.dt 1 43 rfl rfl rfl) hb978 (Yl.sameI (yl_move rfl (h.old 0 _ rfl rfl) kI))
        ·exact fun _ _ h => OpR.want rfl rfl (h.dt 1 43 rfl rfl rfl) hb978 (Yl.sameI (yl_move rfl (h.old 5 _ rfl rfl) kI))
        ·intro L1091 w1092 hi1093
         have hE1094 := hi1093.ex
         have hE1094z := Ex.size hE1094
         exact OpR.want rfl rfl (hi1093.dt 1 43 rfl rfl rfl) hb978 (Yl.sameI (yl_sindexN Try.un9 (a := p_s) rfl (hi1093.dt 2 44 rfl rfl rfl) (hi1093.dt 3 45 rfl rfl rfl) (by first | omega | assumption | (simp only [IntKind.wrap_i64] at *; omega)) kI))
        ·exact fun _ _ h => OpR.want rfl rfl (h.dt 1 43 rfl rfl rfl) hb978 (Yl.sameI (yl_move rfl (h.old 1 _ rfl rfl) kI))
        ·exact fun _ _ h => OpR.want rfl rfl (h.dt 1 43 rfl rfl rfl) hb978 (Yl.sameI (yl_move rfl (h.old 7 _ rfl rfl) kI))
        ·intro L1110 w1111 hi1112
         have hE1113 := hi1112.ex
         have hE1113z := Ex.size hE1113
         exact OpR.want rfl rfl (hi1112.dt 1 43 rfl rfl rfl) hb978 (Yl.sameI (yl_sindexN Try.un9 (a := p_more) rfl (hi1112.dt 5 47 rfl rfl rfl) (hi1112.dt 6 48 rfl rfl rfl) (by first | omega | assumption | (simp only [IntKind.wrap_i64] at *; omega)) kI))
        ·exact fun _ _ h => OpR.want rfl rfl (h.dt 1 43 rfl rfl rfl) hb978 (Yl.sameI (yl_eql rfl (h.dt 4 46 rfl rfl rfl) (h.dt 7 49 rfl rfl rfl) kI))
        ·exact fun _ _ h => os rfl ((yl_pick_f rfl (h.dt 1 43 rfl rfl rfl) hb978 (h.dt 8 50 rfl rfl rfl) kI))
        ·exact fun _ _ h => os rfl ((yl_assign rfl (h.dt 9 51 rfl rfl rfl) kI))
        ·intro fl1138 fh1139 L1135 w1136 hp1137
         have hE1140 := hp1137.ex
         have hE1140z := Ex.size hE1140
         refine SeqR.done (bn (tn (CW.sub (Sub.cons (d := 0) (hp1137.old 0 _ rfl rfl) (Sub.cons (d := 1) (hp1137.old 1 _ rfl rfl) (Sub.cons (d := 5) (hp1137.old 5 _ rfl rfl) (Sub.cons (d := 6) (hp1137.nt 10 6 rfl rfl rfl) (Sub.cons (d := 7) (hp1137.old 7 _ rfl rfl) (Sub.cons (d := 19) (hp1137.old 19 _ rfl rfl) (Sub.cons (d := 20) (hp1137.old 20 _ rfl rfl) (Sub.cons (d := 21) (hp1137.old 21 _ rfl rfl) (Sub.cons (d := 22) (hp1137.old 22 _ rfl rfl) (Sub.cons (d := 25) (hp1137.old 25 _ rfl rfl) (Sub.cons (d := 26) (hp1137.old 26 _ rfl rfl) (Sub.cons (d := 27) (hp1137.old 27 _ rfl rfl) (Sub.cons (d := 28) (hp1137.old 28 _ rfl rfl) (Sub.cons (d := 29) (hp1137.old 29 _ rfl rfl) (Sub.cons (d := 30) (hp1137.old 30 _ rfl rfl) (Sub.cons (d := 31) (hp1137.old 31 _ rfl rfl) (Sub.cons (d := 32) (hp1137.old 32 _ rfl rfl) (Sub.cons (d := 33) (hp1137.old 33 _ rfl rfl) (Sub.cons (d := 34) (hp1137.old 34 _ rfl rfl) (Sub.cons (d := 44) (hp1137.nt 2 44 rfl rfl rfl) (Sub.cons (d := 45) (hp1137.nt 3 45 rfl rfl rfl) (Sub.cons (d := 46) (hp1137.nt 4 46 rfl rfl rfl) (Sub.cons (d := 47) (hp1137.nt 5 47 rfl rfl rfl) (Sub.cons (d := 48) (hp1137.nt 6 48 rfl rfl rfl) (Sub.cons (d := 49) (hp1137.nt 7 49 rfl rfl rfl) (Sub.cons (d := 50) (hp1137.nt 8 50 rfl rfl rfl) (Sub.nil _))))))))))))))))))))))))))) (CW.region (sd rfl (yl_move rfl rfl (sd rfl (yl_inc rfl rfl rfl (by omega) (sd rfl (yl_assign rfl rfl (SeqR.done ?_)))))))))))
         refine tn ?_
         have hB1167 : B_s_l3Bytes_1 p_s p_more k5 k945 (x946) = .cont (decide (((p_s.getD k5 0).toNat : Int) = ((p_more.getD k945 0).toNat : Int))) := by simp only [B_s_l3Bytes_1, hb21, hb714, hb978, cond_true, cond_false, loopE_done, loopE_ret]
         exact ⟨p_more.length - (k945 + 1), by omega, k945 + 1, decide (((p_s.getD k5 0).toNat : Int) = ((p_more.getD k945 0).toNat : Int)), rfl, hlt977, (by omega), rfl, rfl, rfl, rfl, rfl, rfl, rfl, rfl, rfl, rfl, rfl, rfl, rfl, rfl, rfl, rfl, rfl, rfl, rfl, (Ex.trans hf975 hE1140), (loopM.cont hlt977 hB1167).symm.trans hI954⟩
      ·refine CW.seq (CW.seq (CW.region (sd rfl (yl_move rfl rfl (sd rfl (yl_move rfl rfl (sd rfl (yl_slen Try.un9 (a := p_more) rfl rfl (sd rfl (yl_lss rfl rfl rfl (SeqR.done (tn ?_))))))))))))
       refine CW.cond_f rfl (lt_f hlt977) (CW.exit (tx (tx ?_)))
       have hL1169 : loopM (B_s_l3Bytes_1 p_s p_more k5) (p_more.length - 0) 0 (false) = .done (x946) := hI954.symm.trans (loopM.stop hlt977)
       refine bx (tn (CW.seq (CW.region (sd rfl (yl_move rfl rfl (sd rfl (yl_not rfl rfl (SeqR.done (tn (bcase (x946) (fun hb1170 => ?_) (fun hb1170 => ?_)))))))))))
       ·refine CW.cond_f rfl (not_t hb1170) (CW.skip (bn (tn (CW.region (sd rfl (yl_move rfl rfl (sd rfl (yl_inc rfl rfl rfl (by omega) (sd rfl (yl_assign rfl rfl (SeqR.done ?_)))))))))))
        refine tn ?_
        have hB1171 : B_s_l3Bytes_0 p_s p_more k5 () = .cont () := by simp only [B_s_l3Bytes_0, hb21, hb714, hb1170, hL1169, cond_true, cond_false, loopE_done, loopE_ret]
        exact ⟨p_s.length - (k5 + 1), by omega, k5 + 1, rfl, hlt20, (by omega), rfl, rfl, rfl, hf975, (loopM.cont hlt20 hB1171).symm.trans hI13⟩
       ·refine CW.cond_t rfl (not_f hb1170) (CW.seq (CW.region (sd rfl (yl_assign rfl rfl (SeqR.done (tn (CW.ret (br (tr ?_)))))))))
        refine tr ?_
        have hB1173 : B_s_l3Bytes_0 p_s p_more k5 () = .ret false := by simp only [B_s_l3Bytes_0, hb21, hb714, hb1170, hL1169, cond_true, cond_false, loopE_done, loopE_ret]
        have hL1172 : loopM (B_s_l3Bytes_0 p_s p_more) (p_s.length - 0) 0 () = .ret false := hI13.symm.trans (loopM.ret hlt20 hB1173)
        refine br (tr (rr rfl (.cons rfl .nil) ?_))
        have hM1174 : (s_l3Bytes p_s p_more) = (false) := by simp only [s_l3Bytes, hb21, hb714, hb1170, hL1169, hL1172, cond_true, cond_false, loopE_done, loopE_ret]
        rw [hM1174]
        exact ⟨rfl, hf975⟩
  ·refine CW.seq (CW.seq (CW.region (sd rfl (yl_move rfl rfl (sd rfl (yl_move rfl rfl (sd rfl (yl_slen Try.un9 (a := p_s) rfl rfl (sd rfl (yl_lss rfl rfl rfl (SeqR.done (tn ?_))))))))))))
   refine CW.cond_f rfl (lt_f hlt20) (CW.exit (tx (tx ?_)))
   have hL1175 : loopM (B_s_l3Bytes_0 p_s p_more) (p_s.length - 0) 0 () = .done () := hI13.symm.trans (loopM.stop hlt20)
   refine bx (tn (CW.seq (CW.region (sd rfl (yl_assign rfl rfl (SeqR.done (tn (CW.ret (rr rfl (.cons rfl .nil) ?_)))))))))
   have hM1176 : (s_l3Bytes p_s p_more) = (true) := by simp only [s_l3Bytes, hL1175, cond_true, cond_false, loopE_done, loopE_ret]
   rw [hM1176]
   exact ⟨rfl, hf18⟩
set_option maxRecDepth 100000 in
set_option maxHeartbeats 2000000 in
theorem c_s_l3Key {w : World} (p_s : Str) (o1 : okS p_s) : Cal Try.prog 218 #[.string (bs (p_s))] w fun v w' => v = .bool ((s_l3Key p_s)) ∧ Ex w w' := by
 have hol2 : p_s.length ≤ 1073741824 := o1
 refine Cal.of (vs := [.string (bs (p_s))]) Try.func218 rfl Try.ntmps218 rfl (CW.seq (CW.region (sd rfl (yl_assign rfl rfl (SeqR.done (tn (CW.seq (CW.region (sd rfl (yl_move rfl rfl ?_))))))))))
 refine sd rfl (yl_slen Try.un9 (a := p_s) rfl rfl (sd rfl (yl_call Try.en124 rfl (opvs_cons rfl (opvs_cons rfl (opvs_cons rfl opvs_nil))) (Cal.mono (c_s_l1In (p_s.length : Int) 1 12) ?_))))
 rintro v4 w3 ⟨rfl, hE5⟩
 have hE5z := Ex.size hE5
 refine sd rfl (yl_move rfl rfl (bcase (s_l1In (p_s.length : Int) 1 12) (fun hb6 => ?_) (fun hb6 => ?_)))
 ·have hb6p := f_l1In hb6
  refine sy rfl rfl hb6 (yl_move rfl rfl (sy rfl rfl hb6 (yl_call Try.en189 rfl (opvs_cons rfl (opvs_cons rfl opvs_nil)) (Cal.mono (c_s_l3Bytes p_s ([46, 47] : Str) o1 (okS.lit rfl)) ?_))))
  rintro v8 w7 ⟨rfl, hE9⟩
  have hE9z := Ex.size hE9
  refine sd rfl (yl_pick_t rfl rfl hb6 rfl (sd rfl (yl_assign rfl rfl (SeqR.done (tn (CW.ret (rr rfl (.cons rfl .nil) ?_)))))))
  have hM10 : (s_l3Key p_s) = ((s_l3Bytes p_s ([46, 47] : Str))) := by simp only [s_l3Key, hb6, cond_true, cond_false, loopE_done, loopE_ret]
  rw [hM10]
  exact ⟨rfl, (Ex.trans (Ex.trans (Ex.refl w) hE5) hE9)⟩
 ·refine sz rfl rfl hb6 (sz rfl rfl hb6 (sd rfl (yl_pick_f rfl rfl hb6 rfl (sd rfl (yl_assign rfl rfl (SeqR.done (tn (CW.ret (rr rfl (.cons rfl .nil) ?_)))))))))
  have hM13 : (s_l3Key p_s) = (false) := by simp only [s_l3Key, hb6, cond_true, cond_false, loopE_done, loopE_ret]
  rw [hM13]
  exact ⟨rfl, (Ex.trans (Ex.refl w) hE5)⟩
set_option maxRecDepth 100000 in
set_option maxHeartbeats 2000000 in
theorem c_s_l3Val {w : World} (p_s : Str) (o1 : okS p_s) : Cal Try.prog 219 #[.string (bs (p_s))] w fun v w' => v = .bool ((s_l3Val p_s)) ∧ Ex w w' := by
 have hol2 : p_s.length ≤ 1073741824 := o1
 refine Cal.of (vs := [.string (bs (p_s))]) Try.func219 rfl Try.ntmps219 rfl (CW.seq (CW.region (sd rfl (yl_assign rfl rfl (SeqR.done (tn (CW.seq (CW.region (sd rfl (yl_move rfl rfl ?_))))))))))
 refine sd rfl (yl_slen Try.un9 (a := p_s) rfl rfl (sd rfl (yl_leq rfl rfl rfl (sd rfl (yl_move rfl rfl (bcase (decide ((p_s.length : Int) ≤ 24)) (fun hb3 => ?_) (fun hb3 => ?_)))))))
 ·have hb3p := dec_t hb3
  refine sy rfl rfl hb3 (yl_move rfl rfl (sy rfl rfl hb3 (yl_call Try.en189 rfl (opvs_cons rfl (opvs_cons rfl opvs_nil)) (Cal.mono (c_s_l3Bytes p_s ([46, 45, 44, 95] : Str) o1 (okS.lit rfl)) ?_))))
  rintro v5 w4 ⟨rfl, hE6⟩
  have hE6z := Ex.size hE6
  refine sd rfl (yl_pick_t rfl rfl hb3 rfl (sd rfl (yl_assign rfl rfl (SeqR.done (tn (CW.ret (rr rfl (.cons rfl .nil) ?_)))))))
  have hM7 : (s_l3Val p_s) = ((s_l3Bytes p_s ([46, 45, 44, 95] : Str))) := by simp only [s_l3Val, hb3, cond_true, cond_false, loopE_done, loopE_ret]
  rw [hM7]
  exact ⟨rfl, (Ex.trans (Ex.refl w) hE6)⟩
 ·have hb3p := dec_f hb3
  refine sz rfl rfl hb3 (sz rfl rfl hb3 (sd rfl (yl_pick_f rfl rfl hb3 rfl (sd rfl (yl_assign rfl rfl (SeqR.done (tn (CW.ret (rr rfl (.cons rfl .nil) ?_)))))))))
  have hM9 : (s_l3Val p_s) = (false) := by simp only [s_l3Val, hb3, cond_true, cond_false, loopE_done, loopE_ret]
  rw [hM9]
  exact ⟨rfl, (Ex.refl w)⟩
set_option maxRecDepth 100000 in
set_option maxHeartbeats 2000000 in
theorem c_s_l3Write {w : World} (p_key : Str) (p_val : Str) (p_gone : Bool) (o1 : okS p_key) (o2 : okS p_val) : Cal Try.prog 202 #[.string (bs (p_key)), .string (bs (p_val)), .bool (p_gone)] w fun v w' => v = .bool ((s_l3Write p_key p_val p_gone)) ∧ Ex w w' := by
 have hol3 : p_key.length ≤ 1073741824 := o1
 have hol4 : p_val.length ≤ 1073741824 := o2
 refine Cal.of (vs := [.string (bs (p_key)), .string (bs (p_val)), .bool (p_gone)]) Try.func202 rfl Try.ntmps202 rfl (CW.seq (CW.region (sd rfl (yl_assign rfl rfl (SeqR.done (tn (CW.seq (CW.region (sd rfl (yl_move rfl rfl ?_))))))))))
 refine sd rfl (yl_call Try.en218 rfl (opvs_cons rfl opvs_nil) (Cal.mono (c_s_l3Key p_key o1) ?_))
 rintro v6 w5 ⟨rfl, hE7⟩
 have hE7z := Ex.size hE7
 refine sd rfl (yl_move rfl rfl (bcase (s_l3Key p_key) (fun hb8 => ?_) (fun hb8 => ?_)))
 ·refine sy rfl rfl hb8 (yl_move rfl rfl (sy rfl rfl hb8 (yl_call Try.en219 rfl (opvs_cons rfl opvs_nil) (Cal.mono (c_s_l3Val p_val o2) ?_))))
  rintro v10 w9 ⟨rfl, hE11⟩
  have hE11z := Ex.size hE11
  refine sd rfl (yl_pick_t rfl rfl hb8 rfl (sd rfl (yl_move rfl rfl (bcase (s_l3Val p_val) (fun hb12 => ?_) (fun hb12 => ?_)))))
  ·refine sy rfl rfl hb12 (yl_move rfl rfl (sy rfl rfl hb12 (yl_not rfl rfl (sy rfl rfl hb12 (yl_move rfl rfl (bcase (p_gone) (fun hb13 => ?_) (fun hb13 => ?_)))))))
   ·refine sy rfl rfl (not_t hb13) (yl_move rfl rfl (sy rfl rfl (not_t hb13) (yl_seql (a := p_val) (b := ([] : Str)) rfl rfl rfl (sy rfl rfl hb12 (yl_pick_f rfl rfl (not_t hb13) rfl (sd rfl (yl_pick_t rfl rfl hb12 rfl (sd rfl (yl_assign rfl rfl (SeqR.done (tn (CW.ret (rr rfl (.cons rfl .nil) ?_)))))))))))))
    have hM14 : (s_l3Write p_key p_val p_gone) = (p_val == ([] : Str)) := by simp only [s_l3Write, hb8, hb12, hb13, cond_true, cond_false, loopE_done, loopE_ret]
    rw [hM14]
    exact ⟨rfl, (Ex.trans (Ex.trans (Ex.refl w) hE7) hE11)⟩
   ·refine sz rfl rfl (not_f hb13) (sz rfl rfl (not_f hb13) (sy rfl rfl hb12 (yl_pick_t rfl rfl (not_f hb13) rfl (sd rfl (yl_pick_t rfl rfl hb12 rfl (sd rfl (yl_assign rfl rfl (SeqR.done (tn (CW.ret (rr rfl (.cons rfl .nil) ?_)))))))))))
    have hM17 : (s_l3Write p_key p_val p_gone) = (true) := by simp only [s_l3Write, hb8, hb12, hb13, cond_true, cond_false, loopE_done, loopE_ret]
    rw [hM17]
    exact ⟨rfl, (Ex.trans (Ex.trans (Ex.refl w) hE7) hE11)⟩
  ·refine sz rfl rfl hb12 (sz rfl rfl hb12 (sz rfl rfl hb12 (sq rfl rfl (sq rfl rfl (sz rfl rfl hb12 (sd rfl (yl_pick_f rfl rfl hb12 rfl (sd rfl (yl_assign rfl rfl (SeqR.done ?_))))))))))
   refine tn (CW.ret (rr rfl (.cons rfl .nil) ?_))
   have hM20 : (s_l3Write p_key p_val p_gone) = (false) := by simp only [s_l3Write, hb8, hb12, cond_true, cond_false, loopE_done, loopE_ret]
   rw [hM20]
   exact ⟨rfl, (Ex.trans (Ex.trans (Ex.refl w) hE7) hE11)⟩
 ·refine sz rfl rfl hb8 (sz rfl rfl hb8 (sd rfl (yl_pick_f rfl rfl hb8 rfl (sd rfl (yl_move rfl rfl (sz rfl rfl rfl (sz rfl rfl rfl (sz rfl rfl rfl (sq rfl rfl (sq rfl rfl ?_))))))))))
  refine sz rfl rfl rfl (sd rfl (yl_pick_f rfl rfl rfl rfl (sd rfl (yl_assign rfl rfl (SeqR.done (tn (CW.ret (rr rfl (.cons rfl .nil) ?_))))))))
  have hM23 : (s_l3Write p_key p_val p_gone) = (false) := by simp only [s_l3Write, hb8, cond_true, cond_false, loopE_done, loopE_ret]
  rw [hM23]
  exact ⟨rfl, (Ex.trans (Ex.refl w) hE7)⟩
set_option maxRecDepth 100000 in
set_option maxHeartbeats 2000000 in
theorem c_s_l3Writes {A1 : Option Addr} {c1 : Nat} {w : World} (p_l : List DWrite) (h1 : RdS w (Iv 0 w.heap.size) (RF e_Write) 3 A1 p_l.length c1 p_l) (o2 : (okL ok_Write) p_l) : Cal Try.prog 167 #[.slice A1 p_l.length c1] w fun v w' => v = .bool ((s_l3Writes p_l)) ∧ Ex w w' := by
 have hol3 := o2.1
 refine Cal.of (vs := [.slice A1 p_l.length c1]) Try.func167 rfl Try.ntmps167 rfl (CW.seq (CW.region (sd rfl (yl_assign rfl rfl (SeqR.done (tn (CW.seq (CW.seq (CW.region ?_)))))))))
 refine sd rfl (yl_move rfl rfl (sd rfl (yl_len Try.un80 rfl rfl (sd rfl (yl_move rfl rfl (SeqR.done (tn (CW.block (CW.loop (fun m24 L25 w26 => ∃ (k4 : Nat), m24 = p_l.length - k4 ∧ k4 ≤ p_l.length ∧ w.heap.size ≤ w26.heap.size ∧ lkp L25 0 = some (.slice A1 p_l.length c1) ∧ lkp L25 5 = some (.slice A1 p_l.length c1) ∧ lkp L25 6 = some (.int .i64 ((p_l.length : Int))) ∧ lkp L25 7 = some (.int .i64 ((k4 : Int))) ∧ RdS w26 (Iv 0 w.heap.size) (RF e_Write) 3 A1 p_l.length c1 p_l ∧ Ex w w26 ∧ loopM (B_s_l3Writes_0 p_l) (p_l.length - k4) k4 () = loopM (B_s_l3Writes_0 p_l) (p_l.length - 0) 0 ()) (p_l.length - 0) ?_ ?_)))))))))
 ·exact ⟨0, rfl, (by omega), Nat.le_refl _, rfl, rfl, rfl, rfl, h1, (Ex.refl w), rfl⟩
 ·rintro m27 L28 w29 ⟨k4, rfl, hk30, hsz32, hl33, hl34, hl35, hl36, hf37, hf38, hI31⟩
  refine CW.sub (Sub.cons hl33 (Sub.cons hl34 (Sub.cons hl35 (Sub.cons hl36 (Sub.nil _))))) ?_
  have hf38z := Ex.size hf38
  have hbg39 := RdS.big hf37
  rcases Nat.lt_or_ge k4 p_l.length with hlt40 | hlt40
  ·refine CW.seq (CW.region (sd rfl (yl_lss rfl rfl rfl (SeqR.done (tn (CW.seq (CW.cond_t rfl (lt_t hlt40) (CW.skip (tn ?_)))))))))
   refine CW.seq (CW.block (CW.seq (CW.region (sd rfl (yl_move rfl rfl ?_)))))
   obtain ⟨eb41, eo41, ec41, eA41, eS41, ebl41, el41, eR41, eC41⟩ := RdS.atD hf37 d_Write (i := k4) (by first | omega | assumption)
   obtain rfl := eR41
   have eC41 : Cells w29 eb41 (eo41 + k4 * 3) [.string (bs ((p_l.getD k4 d_Write).Key)), .string (bs ((p_l.getD k4 d_Write).Val)), .bool ((p_l.getD k4 d_Write).Gone)] := eC41
   refine sd rfl (yl_indexAddrN Try.un80 Try.ty144 rfl rfl rfl eA41 (by first | omega | assumption | (simp only [IntKind.wrap_i64] at *; omega)) (sd rfl (yl_loadN (cs := [.string (bs ((p_l.getD k4 d_Write).Key)), .string (bs ((p_l.getD k4 d_Write).Val)), .bool ((p_l.getD k4 d_Write).Gone)]) Try.ty144 rfl rfl eC41 rfl (sd rfl (yl_alloc Try.ty144 (cs := [.string (bs (([] : Str))), .string (bs (([] : Str))), .bool (false)]) rfl rfl ?_)))))
   intro b42 w43 hs44 hz45 hB46 hE47
   refine sd rfl (yl_assign rfl rfl (SeqR.u rfl rfl (yl_store (vs := [.string (bs ((p_l.getD k4 d_Write).Key)), .string (bs ((p_l.getD k4 d_Write).Val)), .bool ((p_l.getD k4 d_Write).Gone)]) Try.ty144 rfl rfl rfl rfl rfl rfl hB46 (Nat.le_of_ble_eq_true rfl) ?_)))
   intro w48 hB49 hO50
   have hB49 : Box w48 b42 144 [.string (bs ((p_l.getD k4 d_Write).Key)), .string (bs ((p_l.getD k4 d_Write).Val)), .bool ((p_l.getD k4 d_Write).Gone)] := hB49
   have hO50z := hO50.size
   refine SeqR.done (tn (CW.seq (bcase (s_l3Write ((p_l.getD k4 d_Write).Key) ((p_l.getD k4 d_Write).Val) ((p_l.getD k4 d_Write).Gone)) (fun hb52 => ?_) (fun hb52 => ?_))))
   ·refine bcase (decide (0 < (k4 : Int))) (fun hb54 => ?_) (fun hb54 => ?_)
    ·have hb54p := dec_t hb54
     have q57 := RdS.only good_Write (RdS.ex good_Write hf37 hE47) hO50 (by simp only [Iv]; omega)
     obtain ⟨eb58, eo58, ec58, eA58, eS58, ebl58, el58, eR58, eC58⟩ := RdS.atD q57 d_Write (i := (IntKind.wrap .i64 ((k4 : Int) - 1)).toNat) (by first | omega | assumption | (simp only [IntKind.wrap_i64] at *; omega))
     obtain rfl := eR58
     have eC58 : Cells w48 eb58 (eo58 + ((IntKind.wrap .i64 ((k4 : Int) - 1)).toNat) * 3) [.string (bs ((p_l.getD ((IntKind.wrap .i64 ((k4 : Int) - 1)).toNat) d_Write).Key)), .string (bs ((p_l.getD ((IntKind.wrap .i64 ((k4 : Int) - 1)).toNat) d_Write).Val)), .bool ((p_l.getD ((IntKind.wrap .i64 ((k4 : Int) - 1)).toNat) d_Write).Gone)] := eC58
     refine CW.drawsI 23 (vgetI [DetI (.pointer (some ⟨b42, 0 + 0, none⟩)), DetI (.string (bs ((p_l.getD k4 d_Write).Key))), DetI (.pointer (some ⟨b42, 0 + 1, none⟩)), DetI (.string (bs ((p_l.getD k4 d_Write).Val))), DetI (.pointer (some ⟨b42, 0 + 2, none⟩)), DetI (.bool ((p_l.getD k4 d_Write).Gone)), DetI (.bool ((s_l3Write ((p_l.getD k4 d_Write).Key) ((p_l.getD k4 d_Write).Val) ((p_l.getD k4 d_Write).Gone)))), DetI (.bool (!(s_l3Write ((p_l.getD k4 d_Write).Key) ((p_l.getD k4 d_Write).Val) ((p_l.getD k4 d_Write).Gone)))), DetI (.bool (!(s_l3Write ((p_l.getD k4 d_Write).Key) ((p_l.getD k4 d_Write).Val) ((p_l.getD k4 d_Write).Gone)))), DetI (.int .i64 ((k4 : Int))), DetI (.bool (decide (0 < (k4 : Int)))), DetI (.bool (decide (0 < (k4 : Int)))), DetI (.slice A1 p_l.length c1), DetI (.int .i64 ((k4 : Int))), DetI (.int .i64 (IntKind.wrap .i64 ((k4 : Int) - 1))), DetI (.pointer (some ⟨eb58, eo58 + ((IntKind.wrap .i64 ((k4 : Int) - 1)).toNat) * 3, none⟩)), DetI (.pointer (some ⟨eb58, eo58 + ((IntKind.wrap .i64 ((k4 : Int) - 1)).toNat) * 3 + 0, none⟩)), DetI (.string (bs ((p_l.getD ((IntKind.wrap .i64 ((k4 : Int) - 1)).toNat) d_Write).Key))), DetI (.pointer (some ⟨b42, 0 + 0, none⟩)), DetI (.string (bs ((p_l.getD k4 d_Write).Key))), DetI (.bool (!(sLt ((p_l.getD ((IntKind.wrap .i64 ((k4 : Int) - 1)).toNat) d_Write).Key) ((p_l.getD k4 d_Write).Key)))), DetI (.bool (!(sLt ((p_l.getD ((IntKind.wrap .i64 ((k4 : Int) - 1)).toNat) d_Write).Key) ((p_l.getD k4 d_Write).Key)))), DetI (.bool (!(sLt ((p_l.getD ((IntKind.wrap .i64 ((k4 : Int) - 1)).toNat) d_Write).Key) ((p_l.getD k4 d_Write).Key))))]) Try.follows rfl rfl rfl rfl rfl rfl (vgetI_stable ⟨StableI.det _, StableI.det _, StableI.det _, StableI.det _, StableI.det _, StableI.det _, StableI.det _, StableI.det _, StableI.det _, StableI.det _, StableI.det _, StableI.det _, StableI.det _, StableI.det _, StableI.det _, StableI.det _, StableI.det _, StableI.det _, StableI.det _, StableI.det _, StableI.det _, StableI.det _, StableI.det _, trivial⟩) ⟨?_, ?_, ?_, ?_, ?_, ?_, ?_, ?_, ?_, ?_, ?_, ?_, ?_, ?_, ?_, ?_, ?_, ?_, ?_, ?_, ?_, ?_, ?_, trivial⟩ ?_
     ·exact fun _ _ h => os rfl ((yl_fieldAddr Try.fd144_0 rfl (h.old 4 _ rfl rfl) kI))
     ·exact fun _ _ h => os rfl ((yl_load1 Try.ty9 rfl (h.dt 0 12 rfl rfl rfl) (((Box.ex hB49 h.ex).cell 0).trans rfl) kI))
     ·exact fun _ _ h => os rfl ((yl_fieldAddr Try.fd144_1 rfl (h.old 4 _ rfl rfl) kI))
     ·exact fun _ _ h => os rfl ((yl_load1 Try.ty9 rfl (h.dt 2 14 rfl rfl rfl) (((Box.ex hB49 h.ex).cell 1).trans rfl) kI))
     ·exact fun _ _ h => os rfl ((yl_fieldAddr Try.fd144_2 rfl (h.old 4 _ rfl rfl) kI))
     ·exact fun _ _ h => os rfl ((yl_load1 Try.ty4 rfl (h.dt 4 16 rfl rfl rfl) (((Box.ex hB49 h.ex).cell 2).trans rfl) kI))
     ·intro L92 w93 hi94
      refine OpR.op' rfl (yl_call Try.en202 rfl (opvs_cons (hi94.dt 1 13 rfl rfl rfl) (opvs_cons (hi94.dt 3 15 rfl rfl rfl) (opvs_cons (hi94.dt 5 17 rfl rfl rfl) opvs_nil))) (Cal.mono (c_s_l3Write ((p_l.getD k4 d_Write).Key) ((p_l.getD k4 d_Write).Val) ((p_l.getD k4 d_Write).Gone) ((okL.getD o2 ok_d_Write _).1) ((okL.getD o2 ok_d_Write _).2)) ?_))
      rintro v100 w99 ⟨rfl, hE101⟩
      exact ⟨rfl, hE101⟩
     ·exact fun _ _ h => os rfl ((yl_not rfl (h.dt 6 18 rfl rfl rfl) kI))
     ·exact fun _ _ h => os rfl ((yl_move rfl (h.dt 7 19 rfl rfl rfl) kI))
     ·exact fun _ _ h => OpR.want rfl rfl (h.dt 8 20 rfl rfl rfl) (not_t hb52) (Yl.sameI (yl_move rfl (h.old 3 _ rfl rfl) kI))
     ·exact fun _ _ h => OpR.want rfl rfl (h.dt 8 20 rfl rfl rfl) (not_t hb52) (Yl.sameI (yl_gtr rfl (h.dt 9 21 rfl rfl rfl) rfl kI))
     ·exact fun _ _ h => OpR.want rfl rfl (h.dt 8 20 rfl rfl rfl) (not_t hb52) (Yl.sameI (yl_move rfl (h.dt 10 22 rfl rfl rfl) kI))
     ·exact fun _ _ h => OpR.want rfl rfl (h.dt 11 23 rfl rfl rfl) hb54 (Yl.sameI (yl_move rfl (h.old 0 _ rfl rfl) kI))
     ·exact fun _ _ h => OpR.want rfl rfl (h.dt 11 23 rfl rfl rfl) hb54 (Yl.sameI (yl_move rfl (h.old 3 _ rfl rfl) kI))
     ·exact fun _ _ h => OpR.want rfl rfl (h.dt 11 23 rfl rfl rfl) hb54 (Yl.sameI (yl_sub rfl (h.dt 13 25 rfl rfl rfl) rfl kI))
     ·intro L148 w149 hi150
      have hE151 := hi150.ex
      have hE151z := Ex.size hE151
      exact OpR.want rfl rfl (hi150.dt 11 23 rfl rfl rfl) hb54 (Yl.sameI (yl_indexAddr Try.un80 Try.ty144 rfl (hi150.dt 12 24 rfl rfl rfl) (hi150.dt 14 26 rfl rfl rfl) eA58 (by first | omega | assumption | (simp only [IntKind.wrap_i64] at *; omega)) (by first | omega | assumption | (simp only [IntKind.wrap_i64] at *; omega)) kI))
     ·exact fun _ _ h => OpR.want rfl rfl (h.dt 11 23 rfl rfl rfl) hb54 (Yl.sameI (yl_fieldAddr Try.fd144_0 rfl (h.dt 15 27 rfl rfl rfl) kI))
     ·exact fun _ _ h => OpR.want rfl rfl (h.dt 11 23 rfl rfl rfl) hb54 (Yl.sameI (yl_load1 Try.ty9 rfl (h.dt 16 28 rfl rfl rfl) ((Cells.ex eC58 h.ex) 0 _ rfl) kI))
     ·exact fun _ _ h => OpR.want rfl rfl (h.dt 11 23 rfl rfl rfl) hb54 (Yl.sameI (yl_fieldAddr Try.fd144_0 rfl (h.old 4 _ rfl rfl) kI))
     ·exact fun _ _ h => OpR.want rfl rfl (h.dt 11 23 rfl rfl rfl) hb54 (Yl.sameI (yl_load1 Try.ty9 rfl (h.dt 18 30 rfl rfl rfl) (((Box.ex hB49 h.ex).cell 0).trans rfl) kI))
     ·exact fun _ _ h => OpR.want rfl rfl (h.dt 11 23 rfl rfl rfl) hb54 (Yl.sameI (yl_sgeq (a := ((p_l.getD ((IntKind.wrap .i64 ((k4 : Int) - 1)).toNat) d_Write).Key)) (b := ((p_l.getD k4 d_Write).Key)) rfl (h.dt 17 29 rfl rfl rfl) (h.dt 19 31 rfl rfl rfl) kI))
     ·exact fun _ _ h => OpR.want rfl rfl (h.dt 8 20 rfl rfl rfl) (not_t hb52) (Yl.sameI (yl_pick_t rfl (h.dt 11 23 rfl rfl rfl) hb54 (h.dt 20 32 rfl rfl rfl) kI))
     ·exact fun _ _ h => os rfl ((yl_pick_f rfl (h.dt 8 20 rfl rfl rfl) (not_t hb52) (h.dt 21 33 rfl rfl rfl) kI))
     ·intro fl204 fh205 L201 w202 hp203
      have hE206 := hp203.ex
      have hE206z := Ex.size hE206
      refine SeqR.done (tn (CW.sub (Sub.cons (d := 0) (hp203.old 0 _ rfl rfl) (Sub.cons (d := 5) (hp203.old 5 _ rfl rfl) (Sub.cons (d := 6) (hp203.old 6 _ rfl rfl) (Sub.cons (d := 7) (hp203.old 7 _ rfl rfl) (Sub.cons (d := 21) (hp203.nt 9 21 rfl rfl rfl) (Sub.cons (d := 22) (hp203.nt 10 22 rfl rfl rfl) (Sub.cons (d := 23) (hp203.nt 11 23 rfl rfl rfl) (Sub.cons (d := 24) (hp203.nt 12 24 rfl rfl rfl) (Sub.cons (d := 25) (hp203.nt 13 25 rfl rfl rfl) (Sub.cons (d := 26) (hp203.nt 14 26 rfl rfl rfl) (Sub.cons (d := 27) (hp203.nt 15 27 rfl rfl rfl) (Sub.cons (d := 28) (hp203.nt 16 28 rfl rfl rfl) (Sub.cons (d := 29) (hp203.nt 17 29 rfl rfl rfl) (Sub.cons (d := 30) (hp203.nt 18 30 rfl rfl rfl) (Sub.cons (d := 31) (hp203.nt 19 31 rfl rfl rfl) (Sub.cons (d := 32) (hp203.nt 20 32 rfl rfl rfl) (Sub.cons (d := 33) (hp203.nt 21 33 rfl rfl rfl) (Sub.cons (d := 34) (hp203.nt 22 34 rfl rfl rfl) (Sub.nil _))))))))))))))))))) (bcase (sLt ((p_l.getD ((IntKind.wrap .i64 ((k4 : Int) - 1)).toNat) d_Write).Key) ((p_l.getD k4 d_Write).Key)) (fun hb225 => ?_) (fun hb225 => ?_))))
      ·refine CW.cond_f rfl (not_t hb225) (CW.skip (bn (tn (CW.region (sd rfl (yl_inc rfl rfl rfl (by omega) (sd rfl (yl_move rfl rfl (SeqR.done (tn ?_))))))))))
       have hB226 : B_s_l3Writes_0 p_l k4 () = .cont () := by simp only [B_s_l3Writes_0, hb52, hb54, hb225, cond_true, cond_false, loopE_done, loopE_ret]
       exact ⟨p_l.length - (k4 + 1), by omega, k4 + 1, rfl, hlt40, (by omega), rfl, rfl, rfl, rfl, (RdS.ex good_Write q57 hE206), (Ex.trans (Below.only (Ex.trans hf38 hE47) hO50 (by omega)) hE206), (loopM.cont hlt40 hB226).symm.trans hI31⟩
      ·refine CW.cond_t rfl (not_f hb225) (CW.seq (CW.region (sd rfl (yl_assign rfl rfl (SeqR.done (tn (CW.ret (br (tr ?_)))))))))
       refine tr ?_
       have hB232 : B_s_l3Writes_0 p_l k4 () = .ret false := by simp only [B_s_l3Writes_0, hb52, hb54, hb225, cond_true, cond_false, loopE_done, loopE_ret]
       have hL231 : loopM (B_s_l3Writes_0 p_l) (p_l.length - 0) 0 () = .ret false := hI31.symm.trans (loopM.ret hlt40 hB232)
       refine br (tr (rr rfl (.cons rfl .nil) ?_))
       have hM233 : (s_l3Writes p_l) = (false) := by simp only [s_l3Writes, hb52, hb54, hb225, hL231, cond_true, cond_false, loopE_done, loopE_ret]
       rw [hM233]
       exact ⟨rfl, (Ex.trans (Below.only (Ex.trans hf38 hE47) hO50 (by omega)) hE206)⟩
    ·have hb54p := dec_f hb54
     refine CW.drawsI 23 (vgetI [DetI (.pointer (some ⟨b42, 0 + 0, none⟩)), DetI (.string (bs ((p_l.getD k4 d_Write).Key))), DetI (.pointer (some ⟨b42, 0 + 1, none⟩)), DetI (.string (bs ((p_l.getD k4 d_Write).Val))), DetI (.pointer (some ⟨b42, 0 + 2, none⟩)), DetI (.bool ((p_l.getD k4 d_Write).Gone)), DetI (.bool ((s_l3Write ((p_l.getD k4 d_Write).Key) ((p_l.getD k4 d_Write).Val) ((p_l.getD k4 d_Write).Gone)))), DetI (.bool (!(s_l3Write ((p_l.getD k4 d_Write).Key) ((p_l.getD k4 d_Write).Val) ((p_l.getD k4 d_Write).Gone)))), DetI (.bool (!(s_l3Write ((p_l.getD k4 d_Write).Key) ((p_l.getD k4 d_Write).Val) ((p_l.getD k4 d_Write).Gone)))), DetI (.int .i64 ((k4 : Int))), DetI (.bool (decide (0 < (k4 : Int)))), DetI (.bool (decide (0 < (k4 : Int)))), DetI (undef), DetI (undef), DetI (undef), DetI (undef), DetI (undef), DetI (undef), DetI (undef), DetI (undef), DetI (undef), DetI (.bool (false)), DetI (.bool (false))]) Try.follows rfl rfl rfl rfl rfl rfl (vgetI_stable ⟨StableI.det _, StableI.det _, StableI.det _, StableI.det _, StableI.det _, StableI.det _, StableI.det _, StableI.det _, StableI.det _, StableI.det _, StableI.det _, StableI.det _, StableI.det _, StableI.det _, StableI.det _, StableI.det _, StableI.det _, StableI.det _, StableI.det _, StableI.det _, StableI.det _, StableI.det _, StableI.det _, trivial⟩) ⟨?_, ?_, ?_, ?_, ?_, ?_, ?_, ?_, ?_, ?_, ?_, ?_, ?_, ?_, ?_, ?_, ?_, ?_, ?_, ?_, ?_, ?_, ?_, trivial⟩ ?_
     ·exact fun _ _ h => os rfl ((yl_fieldAddr Try.fd144_0 rfl (h.old 4 _ rfl rfl) kI))
     ·exact fun _ _ h => os rfl ((yl_load1 Try.ty9 rfl (h.dt 0 12 rfl rfl rfl) (((Box.ex hB49 h.ex).cell 0).trans rfl) kI))
     ·exact fun _ _ h => os rfl ((yl_fieldAddr Try.fd144_1 rfl (h.old 4 _ rfl rfl) kI))
     ·exact fun _ _ h => os rfl ((yl_load1 Try.ty9 rfl (h.dt 2 14 rfl rfl rfl) (((Box.ex hB49 h.ex).cell 1).trans rfl) kI))
     ·exact fun _ _ h => os rfl ((yl_fieldAddr Try.fd144_2 rfl (h.old 4 _ rfl rfl) kI))
     ·exact fun _ _ h => os rfl ((yl_load1 Try.ty4 rfl (h.dt 4 16 rfl rfl rfl) (((Box.ex hB49 h.ex).cell 2).trans rfl) kI))
     ·intro L271 w272 hi273
      refine OpR.op' rfl (yl_call Try.en202 rfl (opvs_cons (hi273.dt 1 13 rfl rfl rfl) (opvs_cons (hi273.dt 3 15 rfl rfl rfl) (opvs_cons (hi273.dt 5 17 rfl rfl rfl) opvs_nil))) (Cal.mono (c_s_l3Write ((p_l.getD k4 d_Write).Key) ((p_l.getD k4 d_Write).Val) ((p_l.getD k4 d_Write).Gone) ((okL.getD o2 ok_d_Write _).1) ((okL.getD o2 ok_d_Write _).2)) ?_))
      rintro v279 w278 ⟨rfl, hE280⟩
      exact ⟨rfl, hE280⟩
     ·exact fun _ _ h => os rfl ((yl_not rfl (h.dt 6 18 rfl rfl rfl) kI))
     ·exact fun _ _ h => os rfl ((yl_move rfl (h.dt 7 19 rfl rfl rfl) kI))
     ·exact fun _ _ h => OpR.want rfl rfl (h.dt 8 20 rfl rfl rfl) (not_t hb52) (Yl.sameI (yl_move rfl (h.old 3 _ rfl rfl) kI))
     ·exact fun _ _ h => OpR.want rfl rfl (h.dt 8 20 rfl rfl rfl) (not_t hb52) (Yl.sameI (yl_gtr rfl (h.dt 9 21 rfl rfl rfl) rfl kI))
     ·exact fun _ _ h => OpR.want rfl rfl (h.dt 8 20 rfl rfl rfl) (not_t hb52) (Yl.sameI (yl_move rfl (h.dt 10 22 rfl rfl rfl) kI))
     ·exact fun _ _ h => OpR.skip rfl rfl (h.dt 11 23 rfl rfl rfl) hb54 ⟨rfl, Ex.refl _⟩
     ·exact fun _ _ h => OpR.skip rfl rfl (h.dt 11 23 rfl rfl rfl) hb54 ⟨rfl, Ex.refl _⟩
     ·exact fun _ _ h => OpR.skip rfl rfl (h.dt 11 23 rfl rfl rfl) hb54 ⟨rfl, Ex.refl _⟩
     ·exact fun _ _ h => OpR.skip rfl rfl (h.dt 11 23 rfl rfl rfl) hb54 ⟨rfl, Ex.refl _⟩
     ·exact fun _ _ h => OpR.skip rfl rfl (h.dt 11 23 rfl rfl rfl) hb54 ⟨rfl, Ex.refl _⟩
     ·exact fun _ _ h => OpR.skip rfl rfl (h.dt 11 23 rfl rfl rfl) hb54 ⟨rfl, Ex.refl _⟩
     ·exact fun _ _ h => OpR.skip rfl rfl (h.dt 11 23 rfl rfl rfl) hb54 ⟨rfl, Ex.refl _⟩
     ·exact fun _ _ h => OpR.skip rfl rfl (h.dt 11 23 rfl rfl rfl) hb54 ⟨rfl, Ex.refl _⟩
     ·exact fun _ _ h => OpR.skip rfl rfl (h.dt 11 23 rfl rfl rfl) hb54 ⟨rfl, Ex.refl _⟩
     ·exact fun _ _ h => OpR.want rfl rfl (h.dt 8 20 rfl rfl rfl) (not_t hb52) (Yl.sameI (yl_pick_f rfl (h.dt 11 23 rfl rfl rfl) hb54 rfl kI))
     ·exact fun _ _ h => os rfl ((yl_pick_f rfl (h.dt 8 20 rfl rfl rfl) (not_t hb52) (h.dt 21 33 rfl rfl rfl) kI))
     ·intro fl370 fh371 L367 w368 hp369
      have hE372 := hp369.ex
      have hE372z := Ex.size hE372
      refine SeqR.done (tn (CW.sub (Sub.cons (d := 0) (hp369.old 0 _ rfl rfl) (Sub.cons (d := 5) (hp369.old 5 _ rfl rfl) (Sub.cons (d := 6) (hp369.old 6 _ rfl rfl) (Sub.cons (d := 7) (hp369.old 7 _ rfl rfl) (Sub.cons (d := 21) (hp369.nt 9 21 rfl rfl rfl) (Sub.cons (d := 22) (hp369.nt 10 22 rfl rfl rfl) (Sub.cons (d := 23) (hp369.nt 11 23 rfl rfl rfl) (Sub.cons (d := 24) (hp369.nt 12 24 rfl rfl rfl) (Sub.cons (d := 25) (hp369.nt 13 25 rfl rfl rfl) (Sub.cons (d := 26) (hp369.nt 14 26 rfl rfl rfl) (Sub.cons (d := 27) (hp369.nt 15 27 rfl rfl rfl) (Sub.cons (d := 28) (hp369.nt 16 28 rfl rfl rfl) (Sub.cons (d := 29) (hp369.nt 17 29 rfl rfl rfl) (Sub.cons (d := 30) (hp369.nt 18 30 rfl rfl rfl) (Sub.cons (d := 31) (hp369.nt 19 31 rfl rfl rfl) (Sub.cons (d := 32) (hp369.nt 20 32 rfl rfl rfl) (Sub.cons (d := 33) (hp369.nt 21 33 rfl rfl rfl) (Sub.cons (d := 34) (hp369.nt 22 34 rfl rfl rfl) (Sub.nil _))))))))))))))))))) (CW.cond_f rfl rfl (CW.skip (bn (tn (CW.region (sd rfl (yl_inc rfl rfl rfl (by omega) ?_)))))))))
      refine sd rfl (yl_move rfl rfl (SeqR.done (tn ?_)))
      have hB391 : B_s_l3Writes_0 p_l k4 () = .cont () := by simp only [B_s_l3Writes_0, hb52, hb54, cond_true, cond_false, loopE_done, loopE_ret]
      exact ⟨p_l.length - (k4 + 1), by omega, k4 + 1, rfl, hlt40, (by omega), rfl, rfl, rfl, rfl, (RdS.ex good_Write (RdS.only good_Write (RdS.ex good_Write hf37 hE47) hO50 (by simp only [Iv]; omega)) hE372), (Ex.trans (Below.only (Ex.trans hf38 hE47) hO50 (by omega)) hE372), (loopM.cont hlt40 hB391).symm.trans hI31⟩
   ·refine CW.drawsI 23 (vgetI [DetI (.pointer (some ⟨b42, 0 + 0, none⟩)), DetI (.string (bs ((p_l.getD k4 d_Write).Key))), DetI (.pointer (some ⟨b42, 0 + 1, none⟩)), DetI (.string (bs ((p_l.getD k4 d_Write).Val))), DetI (.pointer (some ⟨b42, 0 + 2, none⟩)), DetI (.bool ((p_l.getD k4 d_Write).Gone)), DetI (.bool ((s_l3Write ((p_l.getD k4 d_Write).Key) ((p_l.getD k4 d_Write).Val) ((p_l.getD k4 d_Write).Gone)))), DetI (.bool (!(s_l3Write ((p_l.getD k4 d_Write).Key) ((p_l.getD k4 d_Write).Val) ((p_l.getD k4 d_Write).Gone)))), DetI (.bool (!(s_l3Write ((p_l.getD k4 d_Write).Key) ((p_l.getD k4 d_Write).Val) ((p_l.getD k4 d_Write).Gone)))), DetI (undef), DetI (undef), DetI (undef), DetI (undef), DetI (undef), DetI (undef), DetI (undef), DetI (undef), DetI (undef), DetI (undef), DetI (undef), DetI (undef), DetI (undef), DetI (.bool (true))]) Try.follows rfl rfl rfl rfl rfl rfl (vgetI_stable ⟨StableI.det _, StableI.det _, StableI.det _, StableI.det _, StableI.det _, StableI.det _, StableI.det _, StableI.det _, StableI.det _, StableI.det _, StableI.det _, StableI.det _, StableI.det _, StableI.det _, StableI.det _, StableI.det _, StableI.det _, StableI.det _, StableI.det _, StableI.det _, StableI.det _, StableI.det _, StableI.det _, trivial⟩) ⟨?_, ?_, ?_, ?_, ?_, ?_, ?_, ?_, ?_, ?_, ?_, ?_, ?_, ?_, ?_, ?_, ?_, ?_, ?_, ?_, ?_, ?_, ?_, trivial⟩ ?_
    ·exact fun _ _ h => os rfl ((yl_fieldAddr Try.fd144_0 rfl (h.old 4 _ rfl rfl) kI))
    ·exact fun _ _ h => os rfl ((yl_load1 Try.ty9 rfl (h.dt 0 12 rfl rfl rfl) (((Box.ex hB49 h.ex).cell 0).trans rfl) kI))
    ·exact fun _ _ h => os rfl ((yl_fieldAddr Try.fd144_1 rfl (h.old 4 _ rfl rfl) kI))
    ·exact fun _ _ h => os rfl ((yl_load1 Try.ty9 rfl (h.dt 2 14 rfl rfl rfl) (((Box.ex hB49 h.ex).cell 1).trans rfl) kI))
    ·exact fun _ _ h => os rfl ((yl_fieldAddr Try.fd144_2 rfl (h.old 4 _ rfl rfl) kI))
    ·exact fun _ _ h => os rfl ((yl_load1 Try.ty4 rfl (h.dt 4 16 rfl rfl rfl) (((Box.ex hB49 h.ex).cell 2).trans rfl) kI))
    ·intro L432 w433 hi434
     refine OpR.op' rfl (yl_call Try.en202 rfl (opvs_cons (hi434.dt 1 13 rfl rfl rfl) (opvs_cons (hi434.dt 3 15 rfl rfl rfl) (opvs_cons (hi434.dt 5 17 rfl rfl rfl) opvs_nil))) (Cal.mono (c_s_l3Write ((p_l.getD k4 d_Write).Key) ((p_l.getD k4 d_Write).Val) ((p_l.getD k4 d_Write).Gone) ((okL.getD o2 ok_d_Write _).1) ((okL.getD o2 ok_d_Write _).2)) ?_))
     rintro v440 w439 ⟨rfl, hE441⟩
     exact ⟨rfl, hE441⟩
    ·exact fun _ _ h => os rfl ((yl_not rfl (h.dt 6 18 rfl rfl rfl) kI))
    ·exact fun _ _ h => os rfl ((yl_move rfl (h.dt 7 19 rfl rfl rfl) kI))
    ·exact fun _ _ h => OpR.skip rfl rfl (h.dt 8 20 rfl rfl rfl) (not_f hb52) ⟨rfl, Ex.refl _⟩
    ·exact fun _ _ h => OpR.skip rfl rfl (h.dt 8 20 rfl rfl rfl) (not_f hb52) ⟨rfl, Ex.refl _⟩
    ·exact fun _ _ h => OpR.skip rfl rfl (h.dt 8 20 rfl rfl rfl) (not_f hb52) ⟨rfl, Ex.refl _⟩
    ·exact fun _ _ h => OpR.undef rfl rfl (h.dt 11 23 rfl rfl rfl) ⟨rfl, Ex.refl _⟩
    ·exact fun _ _ h => OpR.undef rfl rfl (h.dt 11 23 rfl rfl rfl) ⟨rfl, Ex.refl _⟩
    ·exact fun _ _ h => OpR.undef rfl rfl (h.dt 11 23 rfl rfl rfl) ⟨rfl, Ex.refl _⟩
    ·exact fun _ _ h => OpR.undef rfl rfl (h.dt 11 23 rfl rfl rfl) ⟨rfl, Ex.refl _⟩
    ·exact fun _ _ h => OpR.undef rfl rfl (h.dt 11 23 rfl rfl rfl) ⟨rfl, Ex.refl _⟩
    ·exact fun _ _ h => OpR.undef rfl rfl (h.dt 11 23 rfl rfl rfl) ⟨rfl, Ex.refl _⟩
    ·exact fun _ _ h => OpR.undef rfl rfl (h.dt 11 23 rfl rfl rfl) ⟨rfl, Ex.refl _⟩
    ·exact fun _ _ h => OpR.undef rfl rfl (h.dt 11 23 rfl rfl rfl) ⟨rfl, Ex.refl _⟩
    ·exact fun _ _ h => OpR.undef rfl rfl (h.dt 11 23 rfl rfl rfl) ⟨rfl, Ex.refl _⟩
    ·exact fun _ _ h => OpR.skip rfl rfl (h.dt 8 20 rfl rfl rfl) (not_f hb52) ⟨rfl, Ex.refl _⟩
    ·exact fun _ _ h => os rfl ((yl_pick_t rfl (h.dt 8 20 rfl rfl rfl) (not_f hb52) rfl kI))
    ·intro fl526 fh527 L523 w524 hp525
     have hE528 := hp525.ex
     have hE528z := Ex.size hE528
     refine SeqR.done (tn (CW.sub (Sub.cons (d := 0) (hp525.old 0 _ rfl rfl) (Sub.cons (d := 5) (hp525.old 5 _ rfl rfl) (Sub.cons (d := 6) (hp525.old 6 _ rfl rfl) (Sub.cons (d := 7) (hp525.old 7 _ rfl rfl) (Sub.cons (d := 21) (hp525.nt 9 21 rfl rfl rfl) (Sub.cons (d := 22) (hp525.nt 10 22 rfl rfl rfl) (Sub.cons (d := 23) (hp525.nt 11 23 rfl rfl rfl) (Sub.cons (d := 24) (hp525.nt 12 24 rfl rfl rfl) (Sub.cons (d := 25) (hp525.nt 13 25 rfl rfl rfl) (Sub.cons (d := 26) (hp525.nt 14 26 rfl rfl rfl) (Sub.cons (d := 27) (hp525.nt 15 27 rfl rfl rfl) (Sub.cons (d := 28) (hp525.nt 16 28 rfl rfl rfl) (Sub.cons (d := 29) (hp525.nt 17 29 rfl rfl rfl) (Sub.cons (d := 30) (hp525.nt 18 30 rfl rfl rfl) (Sub.cons (d := 31) (hp525.nt 19 31 rfl rfl rfl) (Sub.cons (d := 32) (hp525.nt 20 32 rfl rfl rfl) (Sub.cons (d := 33) (hp525.nt 21 33 rfl rfl rfl) (Sub.cons (d := 34) (hp525.nt 22 34 rfl rfl rfl) (Sub.nil _))))))))))))))))))) (CW.cond_t rfl rfl (CW.seq (CW.region (sd rfl (yl_assign rfl rfl (SeqR.done (tn ?_)))))))))
     refine CW.ret (br (tr (tr ?_)))
     have hB548 : B_s_l3Writes_0 p_l k4 () = .ret false := by simp only [B_s_l3Writes_0, hb52, cond_true, cond_false, loopE_done, loopE_ret]
     have hL547 : loopM (B_s_l3Writes_0 p_l) (p_l.length - 0) 0 () = .ret false := hI31.symm.trans (loopM.ret hlt40 hB548)
     refine br (tr (rr rfl (.cons rfl .nil) ?_))
     have hM549 : (s_l3Writes p_l) = (false) := by simp only [s_l3Writes, hb52, hL547, cond_true, cond_false, loopE_done, loopE_ret]
     rw [hM549]
     exact ⟨rfl, (Ex.trans (Below.only (Ex.trans hf38 hE47) hO50 (by omega)) hE528)⟩
  ·refine CW.seq (CW.region (sd rfl (yl_lss rfl rfl rfl (SeqR.done (tn (CW.seq (CW.cond_f rfl (lt_f hlt40) (CW.exit (tx ?_)))))))))
   refine tx ?_
   have hL553 : loopM (B_s_l3Writes_0 p_l) (p_l.length - 0) 0 () = .done () := hI31.symm.trans (loopM.stop hlt40)
   refine bx (tn (CW.seq (CW.region (sd rfl (yl_move rfl rfl (sd rfl (yl_len Try.un80 rfl rfl (sd rfl (yl_leq rfl rfl rfl (sd rfl (yl_assign rfl rfl (SeqR.done ?_))))))))))))
   refine tn (CW.ret (rr rfl (.cons rfl .nil) ?_))
   have hM554 : (s_l3Writes p_l) = (decide ((p_l.length : Int) ≤ 24)) := by simp only [s_l3Writes, hL553, cond_true, cond_false, loopE_done, loopE_ret]
   rw [hM554]
   exact ⟨rfl, hf38⟩
set_option maxRecDepth 100000 in
set_option maxHeartbeats 2000000 in
theorem c_s_l31Copy {A1 : Option Addr} {c1 : Nat} {w : World} (p_c : DCopy) (h1 : RdS w (Iv 0 w.heap.size) (RF e_Write) 3 A1 p_c.Rows.length c1 p_c.Rows) (o2 : ok_Copy p_c) : Cal Try.prog 97 #[.agg #[.int .i64 (p_c.Time), .slice A1 p_c.Rows.length c1]] w fun v w' => v = .bool ((s_l31Copy p_c)) ∧ Ex w w' := by
 have hol3 := o2.1
 refine Cal.of (vs := [.agg #[.int .i64 (p_c.Time), .slice A1 p_c.Rows.length c1]]) Try.func97 rfl Try.ntmps97 rfl (CW.seq (CW.region (sd rfl (yl_box (cs := [.int .i64 (p_c.Time), .slice A1 p_c.Rows.length c1]) rfl rfl rfl ?_))))
 intro b4 w5 hs6 hz7 hB8 hE9
 refine sd rfl (yl_assign rfl rfl (SeqR.done (tn (CW.seq (CW.seq (CW.region (sd rfl (yl_assign rfl rfl (SeqR.done (tn ?_))))))))))
 refine CW.block (CW.loop (fun m11 L12 w13 => ∃ (k10 : Nat), m11 = p_c.Rows.length - k10 ∧ k10 ≤ p_c.Rows.length ∧ w5.heap.size ≤ w13.heap.size ∧ lkp L12 1 = some (.pointer (some ⟨b4, 0, none⟩)) ∧ lkp L12 3 = some (.int .i64 ((k10 : Int))) ∧ Box w13 b4 82 [.int .i64 (p_c.Time), .slice A1 p_c.Rows.length c1] ∧ RdS w13 (Iv 0 w.heap.size) (RF e_Write) 3 A1 p_c.Rows.length c1 p_c.Rows ∧ Ex w w13 ∧ loopM (B_s_l31Copy_0 p_c) (p_c.Rows.length - k10) k10 () = loopM (B_s_l31Copy_0 p_c) (p_c.Rows.length - 0) 0 ()) (p_c.Rows.length - 0) ?_ ?_)
 ·exact ⟨0, rfl, (by omega), Nat.le_refl _, rfl, rfl, hB8, (RdS.ex good_Write h1 hE9), (Ex.trans (Ex.refl w) hE9), rfl⟩
 ·rintro m16 L17 w18 ⟨k10, rfl, hk19, hsz21, hl22, hl23, hf24, hf25, hf26, hI20⟩
  refine CW.sub (Sub.cons hl22 (Sub.cons hl23 (Sub.nil _))) ?_
  have hf24z := Box.lt hf24
  have hf26z := Ex.size hf26
  have hbg27 := RdS.big hf25
  rcases Nat.lt_or_ge k10 p_c.Rows.length with hlt28 | hlt28
  ·refine CW.seq (CW.seq (CW.region (sd rfl (yl_move rfl rfl (sd rfl (yl_fieldAddr Try.fd82_1 rfl rfl (sd rfl (yl_load1 Try.ty80 rfl rfl ((hf24.cell 1).trans rfl) (sd rfl (yl_len Try.un80 rfl rfl (sd rfl (yl_lss rfl rfl rfl (SeqR.done ?_)))))))))))))
   refine tn (CW.cond_t rfl (lt_t hlt28) (CW.skip (tn (CW.seq (CW.block (CW.seq (CW.region (sd rfl (yl_fieldAddr Try.fd82_1 rfl rfl ?_)))))))))
   refine sd rfl (yl_load1 Try.ty80 rfl rfl ((hf24.cell 1).trans rfl) (sd rfl (yl_move rfl rfl ?_)))
   obtain ⟨eb29, eo29, ec29, eA29, eS29, ebl29, el29, eR29, eC29⟩ := RdS.atD hf25 d_Write (i := k10) (by first | omega | assumption)
   obtain rfl := eR29
   have eC29 : Cells w18 eb29 (eo29 + k10 * 3) [.string (bs ((p_c.Rows.getD k10 d_Write).Key)), .string (bs ((p_c.Rows.getD k10 d_Write).Val)), .bool ((p_c.Rows.getD k10 d_Write).Gone)] := eC29
   refine sd rfl (yl_indexAddrN Try.un80 Try.ty144 rfl rfl rfl eA29 (by first | omega | assumption | (simp only [IntKind.wrap_i64] at *; omega)) (sd rfl (yl_fieldAddr Try.fd144_2 rfl rfl (sd rfl (yl_load1 Try.ty4 rfl rfl (eC29 2 _ rfl) (SeqR.done (tn (bcase ((p_c.Rows.getD k10 d_Write).Gone) (fun hb30 => ?_) (fun hb30 => ?_)))))))))
   ·refine CW.cond_t rfl hb30 (CW.seq (CW.region (sd rfl (yl_assign rfl rfl (SeqR.done (tn (CW.ret (br (tr ?_)))))))))
    refine tr ?_
    have hB32 : B_s_l31Copy_0 p_c k10 () = .ret false := by simp only [B_s_l31Copy_0, hb30, cond_true, cond_false, loopE_done, loopE_ret]
    have hL31 : loopM (B_s_l31Copy_0 p_c) (p_c.Rows.length - 0) 0 () = .ret false := hI20.symm.trans (loopM.ret hlt28 hB32)
    refine br (tr (rr rfl (.cons rfl .nil) ?_))
    have hM33 : (s_l31Copy p_c) = (false) := by simp only [s_l31Copy, hb30, hL31, cond_true, cond_false, loopE_done, loopE_ret]
    rw [hM33]
    exact ⟨rfl, hf26⟩
   ·refine CW.cond_f rfl hb30 (CW.skip (bn (tn (CW.region (sd rfl (yl_move rfl rfl (sd rfl (yl_inc rfl rfl rfl (by omega) (sd rfl (yl_assign rfl rfl (SeqR.done ?_)))))))))))
    refine tn ?_
    have hB34 : B_s_l31Copy_0 p_c k10 () = .cont () := by simp only [B_s_l31Copy_0, hb30, cond_true, cond_false, loopE_done, loopE_ret]
    exact ⟨p_c.Rows.length - (k10 + 1), by omega, k10 + 1, rfl, hlt28, (by omega), rfl, rfl, hf24, hf25, hf26, (loopM.cont hlt28 hB34).symm.trans hI20⟩
  ·refine CW.seq (CW.seq (CW.region (sd rfl (yl_move rfl rfl (sd rfl (yl_fieldAddr Try.fd82_1 rfl rfl (sd rfl (yl_load1 Try.ty80 rfl rfl ((hf24.cell 1).trans rfl) (sd rfl (yl_len Try.un80 rfl rfl (sd rfl (yl_lss rfl rfl rfl (SeqR.done ?_)))))))))))))
   refine tn (CW.cond_f rfl (lt_f hlt28) (CW.exit (tx (tx ?_))))
   have hL35 : loopM (B_s_l31Copy_0 p_c) (p_c.Rows.length - 0) 0 () = .done () := hI20.symm.trans (loopM.stop hlt28)
   refine bx (tn (CW.seq (CW.region (sd rfl (yl_fieldAddr Try.fd82_0 rfl rfl (sd rfl (yl_load1 Try.ty3 rfl rfl ((hf24.cell 0).trans rfl) (sd rfl (yl_call Try.en124 rfl (opvs_cons rfl (opvs_cons rfl (opvs_cons rfl opvs_nil))) (Cal.mono (c_s_l1In p_c.Time 0 100000) ?_))))))))))
   rintro v37 w36 ⟨rfl, hE38⟩
   have hE38z := Ex.size hE38
   refine sd rfl (yl_move rfl rfl (bcase (s_l1In p_c.Time 0 100000) (fun hb39 => ?_) (fun hb39 => ?_)))
   ·have hb39p := f_l1In hb39
    refine sy rfl rfl hb39 (yl_fieldAddr Try.fd82_1 rfl rfl ?_)
    have q40 := Box.ex hf24 hE38
    refine sy rfl rfl hb39 (yl_load1 Try.ty80 rfl rfl ((q40.cell 1).trans rfl) (sy rfl rfl hb39 (yl_call Try.en167 rfl (opvs_cons rfl opvs_nil) (Cal.mono (c_s_l3Writes p_c.Rows (RdS.up (RdS.ex good_Write hf25 hE38) good_Write) o2) ?_))))
    rintro v43 w42 ⟨rfl, hE44⟩
    have hE44z := Ex.size hE44
    refine sd rfl (yl_pick_t rfl rfl hb39 rfl (sd rfl (yl_move rfl rfl (bcase (s_l3Writes p_c.Rows) (fun hb45 => ?_) (fun hb45 => ?_)))))
    ·refine sy rfl rfl hb45 (yl_fieldAddr Try.fd82_0 rfl rfl ?_)
     have q46 := Box.ex q40 hE44
     refine sy rfl rfl hb45 (yl_load1 Try.ty3 rfl rfl ((q46.cell 0).trans rfl) (sy rfl rfl hb45 (yl_gtr rfl rfl rfl (sy rfl rfl hb45 (yl_move rfl rfl (bcase (decide (0 < p_c.Time)) (fun hb47 => ?_) (fun hb47 => ?_)))))))
     ·have hb47p := dec_t hb47
      refine sz rfl rfl hb47 (sz rfl rfl hb47 (sz rfl rfl hb47 (sz rfl rfl hb47 (sy rfl rfl hb45 (yl_pick_t rfl rfl hb47 rfl (sd rfl (yl_pick_t rfl rfl hb45 rfl (sd rfl (yl_assign rfl rfl (SeqR.done (tn ?_)))))))))))
      refine CW.ret (rr rfl (.cons rfl .nil) ?_)
      have hM48 : (s_l31Copy p_c) = (true) := by simp only [s_l31Copy, hb39, hb45, hb47, hL35, cond_true, cond_false, loopE_done, loopE_ret]
      rw [hM48]
      exact ⟨rfl, (Ex.trans (Ex.trans hf26 hE38) hE44)⟩
     ·have hb47p := dec_f hb47
      refine sy rfl rfl hb47 (yl_fieldAddr Try.fd82_1 rfl rfl (sy rfl rfl hb47 (yl_load1 Try.ty80 rfl rfl ((q46.cell 1).trans rfl) (sy rfl rfl hb47 (yl_len Try.un80 rfl rfl (sy rfl rfl hb47 (yl_eql rfl rfl rfl (sy rfl rfl hb45 (yl_pick_f rfl rfl hb47 rfl (sd rfl (yl_pick_t rfl rfl hb45 rfl (sd rfl (yl_assign rfl rfl (SeqR.done (tn ?_)))))))))))))))
      refine CW.ret (rr rfl (.cons rfl .nil) ?_)
      have hM51 : (s_l31Copy p_c) = (decide ((p_c.Rows.length : Int) = 0)) := by simp only [s_l31Copy, hb39, hb45, hb47, hL35, cond_true, cond_false, loopE_done, loopE_ret]
      rw [hM51]
      exact ⟨rfl, (Ex.trans (Ex.trans hf26 hE38) hE44)⟩
    ·refine sz rfl rfl hb45 (sz rfl rfl hb45 (sz rfl rfl hb45 (sz rfl rfl hb45 (sq rfl rfl (sq rfl rfl (sq rfl rfl (sq rfl rfl (sz rfl rfl hb45 ?_))))))))
     refine sd rfl (yl_pick_f rfl rfl hb45 rfl (sd rfl (yl_assign rfl rfl (SeqR.done (tn (CW.ret (rr rfl (.cons rfl .nil) ?_)))))))
     have hM54 : (s_l31Copy p_c) = (false) := by simp only [s_l31Copy, hb39, hb45, hL35, cond_true, cond_false, loopE_done, loopE_ret]
     rw [hM54]
     exact ⟨rfl, (Ex.trans (Ex.trans hf26 hE38) hE44)⟩
   ·refine sz rfl rfl hb39 (sz rfl rfl hb39 (sz rfl rfl hb39 (sd rfl (yl_pick_f rfl rfl hb39 rfl (sd rfl (yl_move rfl rfl (sz rfl rfl rfl (sz rfl rfl rfl (sz rfl rfl rfl (sz rfl rfl rfl ?_))))))))))
    refine sq rfl rfl (sq rfl rfl (sq rfl rfl (sq rfl rfl (sz rfl rfl rfl (sd rfl (yl_pick_f rfl rfl rfl rfl (sd rfl (yl_assign rfl rfl (SeqR.done (tn ?_))))))))))
    refine CW.ret (rr rfl (.cons rfl .nil) ?_)
    have hM57 : (s_l31Copy p_c) = (false) := by simp only [s_l31Copy, hb39, hL35, cond_true, cond_false, loopE_done, loopE_ret]
    rw [hM57]
    exact ⟨rfl, (Ex.trans hf26 hE38)⟩
set_option maxRecDepth 100000 in
set_option maxHeartbeats 2000000 in
theorem c_s_l1NumB {w : World} (p_n : Int) (pre0 : (0 ≤ p_n ∧ p_n ≤ 1073741824)) : Cal Try.prog 113 #[.int .i64 (p_n)] w fun v w' => v = .string (bs ((s_l1NumB p_n))) ∧ Ex w w' := by
 refine Cal.of (vs := [.int .i64 (p_n)]) Try.func113 rfl Try.ntmps113 rfl (CW.seq (CW.region (sd rfl (yl_assign rfl rfl (SeqR.done (tn (CW.seq (CW.region (sd rfl (yl_assign rfl rfl ?_))))))))))
 refine SeqR.done (tn (CW.seq (CW.block (CW.loop (fun m25 L26 w27 => ∃ (x20 : Int) (x21 : List Int) (A22 : Option Addr) (c23 : Nat) (u24 : Nat), ((x20).toNat) < m25 ∧ w.heap.size ≤ w27.heap.size ∧ lkp L26 0 = some (.int .i64 (x20)) ∧ lkp L26 3 = some (.slice A22 x21.length c23) ∧ OwnL w27 w.heap.size u24 5 1 (RF e_U8) A22 x21.length c23 x21 ∧ Ex w w27 ∧ (w.heap.size ≤ u24 ∧ u24 ≤ w27.heap.size) ∧ x21.length + 1 * ((x20).toNat) ≤ 0 + 1 * ((p_n).toNat) ∧ 0 ≤ x20 ∧ x20 ≤ 1073741824 ∧ loopW (B_s_l1NumB_0 p_n) m25 (x20, x21) = loopW (B_s_l1NumB_0 p_n) (((p_n).toNat) + 1) (p_n, ([] : List Int))) (((p_n).toNat) + 1) ?_ ?_))))
 ·exact ⟨p_n, ([] : List Int), none, 0, w.heap.size, Nat.lt_succ_self _, Nat.le_refl _, rfl, rfl, (OwnL.nil w w.heap.size w.heap.size 5 1 (RF e_U8)), (Ex.refl w), (by omega), (by first | (simp; done) | (first | omega | (simp only [List.length_append, List.length_cons, List.length_nil, List.length_set, toS_length]; omega))), (by first | omega | assumption | (simp only [IntKind.wrap_i64] at *; omega)), (by first | omega | assumption | (simp only [IntKind.wrap_i64] at *; omega)), rfl⟩
 ·rintro m28 L29 w30 ⟨x20, x21, A22, c23, u24, hk31, hsz33, hl34, hl35, hf36, hf37, hu38, hln39, hv40, hv41, hI32⟩
  refine CW.sub (Sub.cons hl34 (Sub.cons hl35 (Sub.nil _))) ?_
  have hf37z := Ex.size hf37
  refine CW.seq (CW.seq (CW.region (sd rfl (yl_move rfl rfl (sd rfl (yl_geq rfl rfl rfl (SeqR.done (tn (bcase (decide (128 ≤ x20)) (fun hb42 => ?_) (fun hb42 => ?_))))))))))
  ·have hb42p := dec_t hb42
   refine CW.cond_t rfl hb42 (CW.skip (tn (CW.seq (CW.block (CW.region (sd rfl (yl_move rfl rfl (sd rfl (yl_move rfl rfl (sd rfl (yl_rem rfl rfl rfl (by decide) ?_)))))))))))
   refine sd rfl (yl_add rfl rfl rfl (sd rfl (yl_conv Try.un3 Try.un5 rfl rfl (sd rfl (yl_buildSlice (cs := [.int .u8 (IntKind.wrap .u8 (IntKind.wrap .i64 ((Int.tmod x20 128) + 128)))]) Try.un200 Try.ty5 (by decide) rfl (opvs_cons rfl opvs_nil) (by kernel_rfl) ?_)))))
   intro b43 w44 hs45 hz46 hB47 hE48
   have hO49 : OwnL w44 b43 (b43 + 1) 5 1 (RF e_U8) (some ⟨b43, 0, none⟩) 1 1 ([IntKind.wrap .u8 (IntKind.wrap .i64 ((Int.tmod x20 128) + 128))] : List Int) := OwnL.of_box (S := fun _ => False) hB47 (Nat.le_refl _) (Nat.lt_succ_self _) (EncL.cons (c := [.int .u8 (IntKind.wrap .u8 (IntKind.wrap .i64 ((Int.tmod x20 128) + 128)))]) rfl rfl EncL.nil) (Nat.le_of_ble_eq_true rfl) (fun h => h) (fun _ h => False.elim h)
   refine sd rfl (yl_appendL (S := (fun _ => False)) (lo := w.heap.size) (hi := u24) (xs := x21) (ys := ([IntKind.wrap .u8 (IntKind.wrap .i64 ((Int.tmod x20 128) + 128))] : List Int)) good_U8 Try.un200 Try.ty5 rfl (Nat.le_of_ble_eq_true rfl) rfl rfl rfl (OwnL.ex good_U8 hf36 hE48) (EncL.cons (c := [.int .u8 (IntKind.wrap .u8 (IntKind.wrap .i64 ((Int.tmod x20 128) + 128)))]) rfl rfl EncL.nil) (Or.inr ⟨_, _, rfl, rfl, hB47.cells (o := 0) (n := 1) rfl⟩) rfl (by first | omega | (simp only [List.length_append, List.length_cons, List.length_nil, List.length_take, List.length_drop, List.length_replicate, List.length_set, toS_length]; omega)) (by first | omega | (simp only [List.length_append, List.length_cons, List.length_nil, List.length_take, List.length_drop, List.length_replicate, List.length_set, toS_length]; omega)) (by omega) (by omega) (fun _ h _ => False.elim h) (by omega) ?_)
   intro A51 c52 w53 row54 hO55 hG56 hrg57
   have hG56z := hG56.size
   refine sd rfl (yl_assign rfl rfl (SeqR.done (bn (tn (CW.region (sd rfl (yl_move rfl rfl (sd rfl (yl_quo rfl rfl rfl (by decide) (sd rfl (yl_assign rfl rfl (SeqR.done ?_))))))))))))
   refine tn ?_
   have hB58 : B_s_l1NumB_0 p_n (x20, x21) = .cont (IntKind.wrap .i64 (Int.tdiv x20 128), (x21 ++ ([IntKind.wrap .u8 (IntKind.wrap .i64 ((Int.tmod x20 128) + 128))] : List Int))) := by simp only [B_s_l1NumB_0, hb42, cond_true, cond_false, loopE_done, loopE_ret]
   have hmu61 : ((IntKind.wrap .i64 (Int.tdiv x20 128)).toNat) < ((x20).toNat) := by (have hq := wtd (n := x20) (c := 128) (by decide) (by omega) (by omega); omega)
   exact ⟨m28 - 1, by omega, IntKind.wrap .i64 (Int.tdiv x20 128), (x21 ++ ([IntKind.wrap .u8 (IntKind.wrap .i64 ((Int.tmod x20 128) + 128))] : List Int)), A51, c52, w53.heap.size, (by omega), (by omega), rfl, rfl, hO55, (Below.grown (Ex.trans hf37 hE48) hG56 (by omega) (fun k hk => by have := hrg57 k hk; omega)), (by omega), (by first | omega | (simp only [List.length_append, List.length_cons, List.length_nil, List.length_set, toS_length]; omega)), (by (have hq := wtd (n := x20) (c := 128) (by decide) (by omega) (by omega); omega)), (by (have hq := wtd (n := x20) (c := 128) (by decide) (by omega) (by omega); omega)), (loopW.cont hk31 hB58).symm.trans hI32⟩
  ·have hb42p := dec_f hb42
   refine CW.cond_f rfl hb42 (CW.exit (tx (tx ?_)))
   have hB63 : B_s_l1NumB_0 p_n (x20, x21) = .brk (x20, x21) := by simp only [B_s_l1NumB_0, hb42, cond_true, cond_false, loopE_done, loopE_ret]
   have hL62 : loopW (B_s_l1NumB_0 p_n) (((p_n).toNat) + 1) (p_n, ([] : List Int)) = .done (x20, x21) := hI32.symm.trans (loopW.brk hk31 hB63)
   refine bx (tn (CW.seq (CW.region (sd rfl (yl_move rfl rfl (sd rfl (yl_move rfl rfl (sd rfl (yl_conv Try.un3 Try.un5 rfl rfl (sd rfl (yl_buildSlice (cs := [.int .u8 (IntKind.wrap .u8 x20)]) Try.un200 Try.ty5 (by decide) rfl (opvs_cons rfl opvs_nil) (by kernel_rfl) ?_)))))))))))
   intro b64 w65 hs66 hz67 hB68 hE69
   have hO70 : OwnL w65 b64 (b64 + 1) 5 1 (RF e_U8) (some ⟨b64, 0, none⟩) 1 1 ([IntKind.wrap .u8 x20] : List Int) := OwnL.of_box (S := fun _ => False) hB68 (Nat.le_refl _) (Nat.lt_succ_self _) (EncL.cons (c := [.int .u8 (IntKind.wrap .u8 x20)]) rfl rfl EncL.nil) (Nat.le_of_ble_eq_true rfl) (fun h => h) (fun _ h => False.elim h)
   refine sd rfl (yl_appendL (S := (fun _ => False)) (lo := w.heap.size) (hi := u24) (xs := x21) (ys := ([IntKind.wrap .u8 x20] : List Int)) good_U8 Try.un200 Try.ty5 rfl (Nat.le_of_ble_eq_true rfl) rfl rfl rfl (OwnL.ex good_U8 hf36 hE69) (EncL.cons (c := [.int .u8 (IntKind.wrap .u8 x20)]) rfl rfl EncL.nil) (Or.inr ⟨_, _, rfl, rfl, hB68.cells (o := 0) (n := 1) rfl⟩) rfl (by first | omega | (simp only [List.length_append, List.length_cons, List.length_nil, List.length_take, List.length_drop, List.length_replicate, List.length_set, toS_length]; omega)) (by first | omega | (simp only [List.length_append, List.length_cons, List.length_nil, List.length_take, List.length_drop, List.length_replicate, List.length_set, toS_length]; omega)) (by omega) (by omega) (fun _ h _ => False.elim h) (by omega) ?_)
   intro A72 c73 w74 row75 hO76 hG77 hrg78
   have hG77z := hG77.size
   refine sd rfl (yl_toS Try.un200 Try.un5 Try.un9 rfl rfl (OwnL.rd good_U8 hO76) (sd rfl (yl_assign rfl rfl (SeqR.done (tn (CW.ret (rr rfl (.cons rfl .nil) ?_)))))))
   have hM80 : (s_l1NumB p_n) = (toS (x21 ++ ([IntKind.wrap .u8 x20] : List Int))) := by simp only [s_l1NumB, hb42, hL62, cond_true, cond_false, loopE_done, loopE_ret]
   rw [hM80]
   exact ⟨rfl, (Below.grown (Ex.trans hf37 hE69) hG77 (by omega) (fun k hk => by have := hrg78 k hk; omega))⟩
set_option maxRecDepth 100000 in
set_option maxHeartbeats 2000000 in
theorem c_s_l1TextB {w : World} (p_s : Str) (o1 : okS p_s) : Cal Try.prog 114 #[.string (bs (p_s))] w fun v w' => v = .string (bs ((s_l1TextB p_s))) ∧ Ex w w' := by
 have hol2 : p_s.length ≤ 1073741824 := o1
 refine Cal.of (vs := [.string (bs (p_s))]) Try.func114 rfl Try.ntmps114 rfl (CW.seq (CW.region (sd rfl (yl_assign rfl rfl (SeqR.done (tn (CW.seq (CW.region (sd rfl (yl_move rfl rfl ?_))))))))))
 refine sd rfl (yl_slen Try.un9 (a := p_s) rfl rfl (sd rfl (yl_call Try.en113 rfl (opvs_cons rfl opvs_nil) (Cal.mono (c_s_l1NumB (p_s.length : Int) (by first | omega | assumption | (simp only [IntKind.wrap_i64] at *; omega))) ?_))))
 rintro v4 w3 ⟨rfl, hE5⟩
 have hE5z := Ex.size hE5
 have hrf6 := rf_l1NumB (p_s.length : Int) (by first | omega | assumption | (simp only [IntKind.wrap_i64] at *; omega))
 refine sd rfl (yl_move rfl rfl ?_)
 have hol7 : p_s.length ≤ 1073741824 := o1
 refine sd rfl (yl_sadd (a := (s_l1NumB (p_s.length : Int))) (b := p_s) rfl rfl rfl (by first | omega | (simp only [List.length_append, List.length_cons, List.length_nil, List.length_take, List.length_drop, toS_length]; omega)) (sd rfl (yl_assign rfl rfl (SeqR.done (tn (CW.ret (rr rfl (.cons rfl .nil) ?_)))))))
 have hM8 : (s_l1TextB p_s) = ((s_l1NumB (p_s.length : Int)) ++ p_s) := by simp only [s_l1TextB, cond_true, cond_false, loopE_done, loopE_ret]
 rw [hM8]
 exact ⟨rfl, (Ex.trans (Ex.refl w) hE5)⟩
set_option maxRecDepth 100000 in
set_option maxHeartbeats 2000000 in
theorem c_s_l1Three {w : World} (p_n : Int) : Cal Try.prog 172 #[.int .i64 (p_n)] w fun v w' => v = .string (bs ((s_l1Three p_n))) ∧ okS (s_l1Three p_n) ∧ Ex w w' := by
 refine Cal.of (vs := [.int .i64 (p_n)]) Try.func172 rfl Try.ntmps172 rfl (CW.seq (CW.region (sd rfl (yl_assign rfl rfl (SeqR.done (tn (CW.seq (CW.region (sd rfl (yl_move rfl rfl ?_))))))))))
 refine sd rfl (yl_quo rfl rfl rfl (by decide) (sd rfl (yl_conv Try.un3 Try.un5 rfl rfl (sd rfl (yl_move rfl rfl (sd rfl (yl_quo rfl rfl rfl (by decide) (sd rfl (yl_rem rfl rfl rfl (by decide) (sd rfl (yl_conv Try.un3 Try.un5 rfl rfl (sd rfl (yl_move rfl rfl (sd rfl (yl_rem rfl rfl rfl (by decide) (sd rfl (yl_conv Try.un3 Try.un5 rfl rfl ?_)))))))))))))))))
 refine sd rfl (yl_buildSlice (cs := [.int .u8 (IntKind.wrap .u8 (IntKind.wrap .i64 (Int.tdiv p_n 65536))), .int .u8 (IntKind.wrap .u8 (Int.tmod (IntKind.wrap .i64 (Int.tdiv p_n 256)) 256)), .int .u8 (IntKind.wrap .u8 (Int.tmod p_n 256))]) Try.un200 Try.ty5 (by decide) rfl (opvs_cons rfl (opvs_cons rfl (opvs_cons rfl opvs_nil))) (by kernel_rfl) ?_)
 intro b1 w2 hs3 hz4 hB5 hE6
 have hO7 : OwnL w2 b1 (b1 + 1) 5 1 (RF e_U8) (some ⟨b1, 0, none⟩) 3 3 ([IntKind.wrap .u8 (IntKind.wrap .i64 (Int.tdiv p_n 65536)), IntKind.wrap .u8 (Int.tmod (IntKind.wrap .i64 (Int.tdiv p_n 256)) 256), IntKind.wrap .u8 (Int.tmod p_n 256)] : List Int) := OwnL.of_box (S := fun _ => False) hB5 (Nat.le_refl _) (Nat.lt_succ_self _) (EncL.cons (c := [.int .u8 (IntKind.wrap .u8 (IntKind.wrap .i64 (Int.tdiv p_n 65536)))]) rfl rfl (EncL.cons (c := [.int .u8 (IntKind.wrap .u8 (Int.tmod (IntKind.wrap .i64 (Int.tdiv p_n 256)) 256))]) rfl rfl (EncL.cons (c := [.int .u8 (IntKind.wrap .u8 (Int.tmod p_n 256))]) rfl rfl EncL.nil))) (Nat.le_of_ble_eq_true rfl) (fun h => h) (fun _ h => False.elim h)
 refine sd rfl (yl_toS Try.un200 Try.un5 Try.un9 rfl rfl (OwnL.rd good_U8 hO7) (sd rfl (yl_assign rfl rfl (SeqR.done (tn (CW.ret (rr rfl (.cons rfl .nil) ?_)))))))
 have hM9 : (s_l1Three p_n) = (toS ([IntKind.wrap .u8 (IntKind.wrap .i64 (Int.tdiv p_n 65536)), IntKind.wrap .u8 (Int.tmod (IntKind.wrap .i64 (Int.tdiv p_n 256)) 256), IntKind.wrap .u8 (Int.tmod p_n 256)] : List Int)) := by simp only [s_l1Three, cond_true, cond_false, loopE_done, loopE_ret]
 rw [hM9]
 exact ⟨rfl, (okS_toS (Nat.le_of_ble_eq_true rfl)), (Ex.trans (Ex.refl w) hE6)⟩
set_option maxRecDepth 100000 in
set_option maxHeartbeats 2000000 in
theorem c_s_l1Sum {w : World} (p_b : Str) (o1 : okS p_b) : Cal Try.prog 173 #[.string (bs (p_b))] w fun v w' => v = .int .i64 ((s_l1Sum p_b)) ∧ Ex w w' := by
 have hol2 : p_b.length ≤ 1073741824 := o1
 refine Cal.of (vs := [.string (bs (p_b))]) Try.func173 rfl Try.ntmps173 rfl (CW.seq (CW.region (sd rfl (yl_assign rfl rfl (SeqR.done (tn (CW.seq (CW.region (sd rfl (yl_assign rfl rfl ?_))))))))))
 refine SeqR.done (tn (CW.seq (CW.seq (CW.region (sd rfl (yl_assign rfl rfl (SeqR.done (tn (CW.block ?_)))))))))
 refine CW.loop (fun m5 L6 w7 => ∃ (k3 : Nat) (x4 : Int), m5 = p_b.length - k3 ∧ k3 ≤ p_b.length ∧ w.heap.size ≤ w7.heap.size ∧ lkp L6 0 = some (.string (bs (p_b))) ∧ lkp L6 3 = some (.int .i64 (x4)) ∧ lkp L6 4 = some (.int .i64 ((k3 : Int))) ∧ Ex w w7 ∧ loopM (B_s_l1Sum_0 p_b) (p_b.length - k3) k3 (x4) = loopM (B_s_l1Sum_0 p_b) (p_b.length - 0) 0 (7)) (p_b.length - 0) ?_ ?_
 ·exact ⟨0, 7, rfl, (by omega), Nat.le_refl _, rfl, rfl, rfl, (Ex.refl w), rfl⟩
 ·rintro m8 L9 w10 ⟨k3, x4, rfl, hk11, hsz13, hl14, hl15, hl16, hf17, hI12⟩
  refine CW.sub (Sub.cons hl14 (Sub.cons hl15 (Sub.cons hl16 (Sub.nil _)))) ?_
  have hf17z := Ex.size hf17
  have hbg18 : p_b.length ≤ 1073741824 := o1
  rcases Nat.lt_or_ge k3 p_b.length with hlt19 | hlt19
  ·refine CW.seq (CW.seq (CW.region (sd rfl (yl_move rfl rfl (sd rfl (yl_move rfl rfl (sd rfl (yl_slen Try.un9 (a := p_b) rfl rfl (sd rfl (yl_lss rfl rfl rfl (SeqR.done (tn ?_))))))))))))
   refine CW.cond_t rfl (lt_t hlt19) (CW.skip (tn (CW.seq (CW.block (CW.region (sd rfl (yl_move rfl rfl (sd rfl (yl_mul rfl rfl rfl (sd rfl (yl_move rfl rfl ?_)))))))))))
   refine sd rfl (yl_move rfl rfl (sd rfl (yl_sindexN Try.un9 (a := p_b) rfl rfl rfl (by first | omega | assumption | (simp only [IntKind.wrap_i64] at *; omega)) (sd rfl (yl_conv Try.un5 Try.un3 rfl rfl (sd rfl (yl_add rfl rfl rfl (sd rfl (yl_add rfl rfl rfl (sd rfl (yl_rem rfl rfl rfl (by decide) (sd rfl (yl_assign rfl rfl (SeqR.done (bn ?_)))))))))))))))
   refine tn (CW.region (sd rfl (yl_move rfl rfl (sd rfl (yl_inc rfl rfl rfl (by omega) (sd rfl (yl_assign rfl rfl (SeqR.done (tn ?_)))))))))
   have hB20 : B_s_l1Sum_0 p_b k3 (x4) = .cont (Int.tmod (IntKind.wrap .i64 ((IntKind.wrap .i64 ((IntKind.wrap .i64 (31 * x4)) + (IntKind.wrap .i64 ((p_b.getD k3 0).toNat : Int)))) + 1)) 16000057) := by simp only [B_s_l1Sum_0, cond_true, cond_false, loopE_done, loopE_ret]
   exact ⟨p_b.length - (k3 + 1), by omega, k3 + 1, Int.tmod (IntKind.wrap .i64 ((IntKind.wrap .i64 ((IntKind.wrap .i64 (31 * x4)) + (IntKind.wrap .i64 ((p_b.getD k3 0).toNat : Int)))) + 1)) 16000057, rfl, hlt19, (by omega), rfl, rfl, rfl, hf17, (loopM.cont hlt19 hB20).symm.trans hI12⟩
  ·refine CW.seq (CW.seq (CW.region (sd rfl (yl_move rfl rfl (sd rfl (yl_move rfl rfl (sd rfl (yl_slen Try.un9 (a := p_b) rfl rfl (sd rfl (yl_lss rfl rfl rfl (SeqR.done (tn ?_))))))))))))
   refine CW.cond_f rfl (lt_f hlt19) (CW.exit (tx (tx ?_)))
   have hL21 : loopM (B_s_l1Sum_0 p_b) (p_b.length - 0) 0 (7) = .done (x4) := hI12.symm.trans (loopM.stop hlt19)
   refine bx (tn (CW.seq (CW.region (sd rfl (yl_move rfl rfl (sd rfl (yl_assign rfl rfl (SeqR.done (tn (CW.ret ?_))))))))))
   refine rr rfl (.cons rfl .nil) ?_
   have hM22 : (s_l1Sum p_b) = (x4) := by simp only [s_l1Sum, hL21, cond_true, cond_false, loopE_done, loopE_ret]
   rw [hM22]
   exact ⟨rfl, hf17⟩
set_option maxRecDepth 100000 in
set_option maxHeartbeats 2000000 in
theorem c_s_l1Seal {w : World} (p_b : Str) (o1 : okS p_b) : Cal Try.prog 115 #[.string (bs (p_b))] w fun v w' => v = .string (bs ((s_l1Seal p_b))) ∧ Ex w w' := by
 have hol2 : p_b.length ≤ 1073741824 := o1
 refine Cal.of (vs := [.string (bs (p_b))]) Try.func115 rfl Try.ntmps115 rfl (CW.seq (CW.region (sd rfl (yl_assign rfl rfl (SeqR.done (tn (CW.seq (CW.region (sd rfl (yl_move rfl rfl ?_))))))))))
 refine sd rfl (yl_move rfl rfl (sd rfl (yl_call Try.en173 rfl (opvs_cons rfl opvs_nil) (Cal.mono (c_s_l1Sum p_b o1) ?_))))
 rintro v4 w3 ⟨rfl, hE5⟩
 have hE5z := Ex.size hE5
 refine sd rfl (yl_call Try.en172 rfl (opvs_cons rfl opvs_nil) (Cal.mono (c_s_l1Three (s_l1Sum p_b)) ?_))
 rintro v8 w6 ⟨rfl, ho7, hE9⟩
 have hE9z := Ex.size hE9
 have hol10 : p_b.length ≤ 1073741824 := o1
 have hol11 : (s_l1Three (s_l1Sum p_b)).length ≤ 1073741824 := ho7
 refine sd rfl (yl_sadd (a := p_b) (b := (s_l1Three (s_l1Sum p_b))) rfl rfl rfl (by first | omega | (simp only [List.length_append, List.length_cons, List.length_nil, List.length_take, List.length_drop, toS_length]; omega)) (sd rfl (yl_assign rfl rfl (SeqR.done (tn (CW.ret (rr rfl (.cons rfl .nil) ?_)))))))
 have hM12 : (s_l1Seal p_b) = (p_b ++ (s_l1Three (s_l1Sum p_b))) := by simp only [s_l1Seal, cond_true, cond_false, loopE_done, loopE_ret]
 rw [hM12]
 exact ⟨rfl, (Ex.trans (Ex.trans (Ex.refl w) hE5) hE9)⟩
set_option maxRecDepth 100000 in
set_option maxHeartbeats 2000000 in
theorem c_s_CopyBytes {A1 : Option Addr} {c1 : Nat} {w : World} (p_c : DCopy) (h1 : RdS w (Iv 0 w.heap.size) (RF e_Write) 3 A1 p_c.Rows.length c1 p_c.Rows) (o2 : ok_Copy p_c) : Cal Try.prog 52 #[.agg #[.int .i64 (p_c.Time), .slice A1 p_c.Rows.length c1]] w fun v w' => v = .tuple #[.string (bs ((s_CopyBytes p_c).1)), .bool ((s_CopyBytes p_c).2)] ∧ Ex w w' := by
 have hol3 := o2.1
 refine Cal.of (vs := [.agg #[.int .i64 (p_c.Time), .slice A1 p_c.Rows.length c1]]) Try.func52 rfl Try.ntmps52 rfl (CW.seq (CW.region (sd rfl (yl_box (cs := [.int .i64 (p_c.Time), .slice A1 p_c.Rows.length c1]) rfl rfl rfl ?_))))
 intro b4 w5 hs6 hz7 hB8 hE9
 refine sd rfl (yl_assign rfl rfl (sd rfl (yl_assign rfl rfl (SeqR.done (tn (CW.seq (CW.seq (CW.region (sd rfl (yl_loadN (cs := [.int .i64 (p_c.Time), .slice A1 p_c.Rows.length c1]) Try.ty82 rfl rfl (hB8.cells (n := 2) rfl) rfl ?_))))))))))
 have q10 := RdS.ex good_Write h1 hE9
 refine sd rfl (yl_call Try.en97 rfl (opvs_cons rfl opvs_nil) (Cal.mono (c_s_l31Copy p_c (RdS.up q10 good_Write) o2) ?_))
 rintro v12 w11 ⟨rfl, hE13⟩
 have hE13z := Ex.size hE13
 refine sd rfl (yl_not rfl rfl (SeqR.done (tn (bcase (s_l31Copy p_c) (fun hb14 => ?_) (fun hb14 => ?_)))))
 ·obtain ⟨hb14p0, hb14p1⟩ := f_s_l31Copy hb14
  refine CW.cond_f rfl (not_t hb14) (CW.skip (tn (CW.seq ?_)))
  have q15 := Box.ex hB8 hE13
  have hrf18 := rf_l1NumB p_c.Time (by first | omega | assumption | (simp only [IntKind.wrap_i64] at *; omega))
  have hrf19 := rf_l1NumB (p_c.Rows.length : Int) (by first | omega | assumption | (simp only [IntKind.wrap_i64] at *; omega))
  refine CW.drawsI 9 (vgetI [DetI (.pointer (some ⟨b4, 0 + 0, none⟩)), DetI (.int .i64 (p_c.Time)), DetI (.string (bs ((s_l1NumB p_c.Time)))), DetI (.pointer (some ⟨b4, 0 + 1, none⟩)), DetI (.slice A1 p_c.Rows.length c1), DetI (.int .i64 ((p_c.Rows.length : Int))), DetI (.string (bs ((s_l1NumB (p_c.Rows.length : Int))))), DetI (.string (bs ((s_l1NumB p_c.Time) ++ (s_l1NumB (p_c.Rows.length : Int))))), DetI (.string (bs ((s_l1NumB p_c.Time) ++ (s_l1NumB (p_c.Rows.length : Int)))))]) Try.follows rfl rfl rfl rfl rfl rfl (vgetI_stable ⟨StableI.det _, StableI.det _, StableI.det _, StableI.det _, StableI.det _, StableI.det _, StableI.det _, StableI.det _, StableI.det _, trivial⟩) ⟨?_, ?_, ?_, ?_, ?_, ?_, ?_, ?_, ?_, trivial⟩ ?_
  ·exact fun _ _ h => os rfl ((yl_fieldAddr Try.fd82_0 rfl (h.old 1 _ rfl rfl) kI))
  ·exact fun _ _ h => os rfl ((yl_load1 Try.ty3 rfl (h.dt 0 9 rfl rfl rfl) (((Box.ex q15 h.ex).cell 0).trans rfl) kI))
  ·intro L31 w32 hi33
   have hE34 := hi33.ex
   have hE34z := Ex.size hE34
   refine OpR.op' rfl (yl_call Try.en113 rfl (opvs_cons (hi33.dt 1 10 rfl rfl rfl) opvs_nil) (Cal.mono (c_s_l1NumB p_c.Time (by first | omega | assumption | (simp only [IntKind.wrap_i64] at *; omega))) ?_))
   rintro v37 w36 ⟨rfl, hE38⟩
   exact ⟨rfl, hE38⟩
  ·exact fun _ _ h => os rfl ((yl_fieldAddr Try.fd82_1 rfl (h.old 1 _ rfl rfl) kI))
  ·exact fun _ _ h => os rfl ((yl_load1 Try.ty80 rfl (h.dt 3 12 rfl rfl rfl) (((Box.ex q15 h.ex).cell 1).trans rfl) kI))
  ·exact fun _ _ h => os rfl ((yl_len Try.un80 rfl (h.dt 4 13 rfl rfl rfl) kI))
  ·intro L55 w56 hi57
   have hE58 := hi57.ex
   have hE58z := Ex.size hE58
   refine OpR.op' rfl (yl_call Try.en113 rfl (opvs_cons (hi57.dt 5 14 rfl rfl rfl) opvs_nil) (Cal.mono (c_s_l1NumB (p_c.Rows.length : Int) (by first | omega | assumption | (simp only [IntKind.wrap_i64] at *; omega))) ?_))
   rintro v61 w60 ⟨rfl, hE62⟩
   exact ⟨rfl, hE62⟩
  ·intro L63 w64 hi65
   have hE66 := hi65.ex
   have hE66z := Ex.size hE66
   exact os rfl ((yl_sadd (a := (s_l1NumB p_c.Time)) (b := (s_l1NumB (p_c.Rows.length : Int))) rfl (hi65.dt 2 11 rfl rfl rfl) (hi65.dt 6 15 rfl rfl rfl) (by first | omega | (simp only [List.length_append, List.length_cons, List.length_nil, List.length_take, List.length_drop, toS_length]; omega)) kI))
  ·exact fun _ _ h => os rfl ((yl_assign rfl (h.dt 7 16 rfl rfl rfl) kI))
  ·intro fl77 fh78 L74 w75 hp76
   have hE79 := hp76.ex
   have hE79z := Ex.size hE79
   refine SeqR.done (tn (CW.sub (Sub.cons (d := 1) (hp76.old 1 _ rfl rfl) (Sub.cons (d := 4) (hp76.nt 8 4 rfl rfl rfl) (Sub.nil _))) (CW.seq (CW.seq (CW.region (sd rfl (yl_assign rfl rfl (SeqR.done (tn ?_)))))))))
   refine CW.block (CW.loop (fun m90 L91 w92 => ∃ (k82 : Nat) (x89 : Str), m90 = p_c.Rows.length - k82 ∧ k82 ≤ p_c.Rows.length ∧ w75.heap.size ≤ w92.heap.size ∧ lkp L91 1 = some (.pointer (some ⟨b4, 0, none⟩)) ∧ lkp L91 4 = some (.string (bs (x89))) ∧ lkp L91 5 = some (.int .i64 ((k82 : Int))) ∧ Box w92 b4 82 [.int .i64 (p_c.Time), .slice A1 p_c.Rows.length c1] ∧ RdS w92 (Iv 0 w.heap.size) (RF e_Write) 3 A1 p_c.Rows.length c1 p_c.Rows ∧ Ex w w92 ∧ x89.length ≤ (s_l1NumB p_c.Time).length + (s_l1NumB (p_c.Rows.length : Int)).length + 46 * (k82 - 0) ∧ loopM (B_s_CopyBytes_0 p_c) (p_c.Rows.length - k82) k82 (x89) = loopM (B_s_CopyBytes_0 p_c) (p_c.Rows.length - 0) 0 ((s_l1NumB p_c.Time) ++ (s_l1NumB (p_c.Rows.length : Int)))) (p_c.Rows.length - 0) ?_ ?_)
   ·exact ⟨0, (s_l1NumB p_c.Time) ++ (s_l1NumB (p_c.Rows.length : Int)), rfl, (by omega), Nat.le_refl _, rfl, rfl, rfl, (Box.ex q15 hE79), (RdS.ex good_Write (RdS.ex good_Write q10 hE13) hE79), (Ex.trans (Ex.trans (Ex.trans (Ex.refl w) hE9) hE13) hE79), (by first | (simp; done) | (first | omega | (simp only [List.length_append, List.length_cons, List.length_nil, List.length_set, toS_length]; omega))), rfl⟩
   ·rintro m99 L100 w101 ⟨k82, x89, rfl, hk102, hsz104, hl105, hl106, hl107, hf108, hf109, hf110, hln111, hI103⟩
    refine CW.sub (Sub.cons hl105 (Sub.cons hl106 (Sub.cons hl107 (Sub.nil _)))) ?_
    have hf108z := Box.lt hf108
    have hf110z := Ex.size hf110
    have hbg112 := RdS.big hf109
    rcases Nat.lt_or_ge k82 p_c.Rows.length with hlt113 | hlt113
    ·have hcp3 := ‹copyShort _› k82 hlt113
     refine CW.seq (CW.seq (CW.region (sd rfl (yl_move rfl rfl (sd rfl (yl_fieldAddr Try.fd82_1 rfl rfl (sd rfl (yl_load1 Try.ty80 rfl rfl ((hf108.cell 1).trans rfl) (sd rfl (yl_len Try.un80 rfl rfl (sd rfl (yl_lss rfl rfl rfl (SeqR.done ?_)))))))))))))
     refine tn (CW.cond_t rfl (lt_t hlt113) (CW.skip (tn (CW.seq (CW.block ?_)))))
     obtain ⟨eb114, eo114, ec114, eA114, eS114, ebl114, el114, eR114, eC114⟩ := RdS.atD hf109 d_Write (i := k82) (by first | omega | assumption)
     obtain rfl := eR114
     have eC114 : Cells w101 eb114 (eo114 + k82 * 3) [.string (bs ((p_c.Rows.getD k82 d_Write).Key)), .string (bs ((p_c.Rows.getD k82 d_Write).Val)), .bool ((p_c.Rows.getD k82 d_Write).Gone)] := eC114
     have hrf117 := rf_l1TextB ((p_c.Rows.getD k82 d_Write).Key) (by omega)
     have hrf118 := rf_l1TextB ((p_c.Rows.getD k82 d_Write).Val) (by omega)
     refine CW.drawsI 18 (vgetI [DetI (.string (bs (x89))), DetI (.pointer (some ⟨b4, 0 + 1, none⟩)), DetI (.slice A1 p_c.Rows.length c1), DetI (.int .i64 ((k82 : Int))), DetI (.pointer (some ⟨eb114, eo114 + k82 * 3, none⟩)), DetI (.pointer (some ⟨eb114, eo114 + k82 * 3 + 0, none⟩)), DetI (.string (bs ((p_c.Rows.getD k82 d_Write).Key))), DetI (.string (bs ((s_l1TextB ((p_c.Rows.getD k82 d_Write).Key))))), DetI (.string (bs (x89 ++ (s_l1TextB ((p_c.Rows.getD k82 d_Write).Key))))), DetI (.pointer (some ⟨b4, 0 + 1, none⟩)), DetI (.slice A1 p_c.Rows.length c1), DetI (.int .i64 ((k82 : Int))), DetI (.pointer (some ⟨eb114, eo114 + k82 * 3, none⟩)), DetI (.pointer (some ⟨eb114, eo114 + k82 * 3 + 1, none⟩)), DetI (.string (bs ((p_c.Rows.getD k82 d_Write).Val))), DetI (.string (bs ((s_l1TextB ((p_c.Rows.getD k82 d_Write).Val))))), DetI (.string (bs ((x89 ++ (s_l1TextB ((p_c.Rows.getD k82 d_Write).Key))) ++ (s_l1TextB ((p_c.Rows.getD k82 d_Write).Val))))), DetI (.string (bs ((x89 ++ (s_l1TextB ((p_c.Rows.getD k82 d_Write).Key))) ++ (s_l1TextB ((p_c.Rows.getD k82 d_Write).Val)))))]) Try.follows rfl rfl rfl rfl rfl rfl (vgetI_stable ⟨StableI.det _, StableI.det _, StableI.det _, StableI.det _, StableI.det _, StableI.det _, StableI.det _, StableI.det _, StableI.det _, StableI.det _, StableI.det _, StableI.det _, StableI.det _, StableI.det _, StableI.det _, StableI.det _, StableI.det _, StableI.det _, trivial⟩) ⟨?_, ?_, ?_, ?_, ?_, ?_, ?_, ?_, ?_, ?_, ?_, ?_, ?_, ?_, ?_, ?_, ?_, ?_, trivial⟩ ?_
     ·exact fun _ _ h => os rfl ((yl_move rfl (h.old 4 _ rfl rfl) kI))
     ·exact fun _ _ h => os rfl ((yl_fieldAddr Try.fd82_1 rfl (h.old 1 _ rfl rfl) kI))
     ·exact fun _ _ h => os rfl ((yl_load1 Try.ty80 rfl (h.dt 1 25 rfl rfl rfl) (((Box.ex hf108 h.ex).cell 1).trans rfl) kI))
     ·exact fun _ _ h => os rfl ((yl_move rfl (h.old 5 _ rfl rfl) kI))
     ·intro L140 w141 hi142
      have hE143 := hi142.ex
      have hE143z := Ex.size hE143
      exact os rfl ((yl_indexAddrN Try.un80 Try.ty144 rfl (hi142.dt 2 26 rfl rfl rfl) (hi142.dt 3 27 rfl rfl rfl) eA114 (by first | omega | assumption | (simp only [IntKind.wrap_i64] at *; omega)) kI))
     ·exact fun _ _ h => os rfl ((yl_fieldAddr Try.fd144_0 rfl (h.dt 4 28 rfl rfl rfl) kI))
     ·exact fun _ _ h => os rfl ((yl_load1 Try.ty9 rfl (h.dt 5 29 rfl rfl rfl) ((Cells.ex eC114 h.ex) 0 _ rfl) kI))
     ·intro L157 w158 hi159
      refine OpR.op' rfl (yl_call Try.en114 rfl (opvs_cons (hi159.dt 6 30 rfl rfl rfl) opvs_nil) (Cal.mono (c_s_l1TextB ((p_c.Rows.getD k82 d_Write).Key) ((okL.getD o2 ok_d_Write _).1)) ?_))
      rintro v163 w162 ⟨rfl, hE164⟩
      exact ⟨rfl, hE164⟩
     ·intro L165 w166 hi167
      have hE168 := hi167.ex
      have hE168z := Ex.size hE168
      exact os rfl ((yl_sadd (a := x89) (b := (s_l1TextB ((p_c.Rows.getD k82 d_Write).Key))) rfl (hi167.dt 0 24 rfl rfl rfl) (hi167.dt 7 31 rfl rfl rfl) (by first | omega | (simp only [List.length_append, List.length_cons, List.length_nil, List.length_take, List.length_drop, toS_length]; omega)) kI))
     ·exact fun _ _ h => os rfl ((yl_fieldAddr Try.fd82_1 rfl (h.old 1 _ rfl rfl) kI))
     ·exact fun _ _ h => os rfl ((yl_load1 Try.ty80 rfl (h.dt 9 33 rfl rfl rfl) (((Box.ex hf108 h.ex).cell 1).trans rfl) kI))
     ·exact fun _ _ h => os rfl ((yl_move rfl (h.old 5 _ rfl rfl) kI))
     ·intro L187 w188 hi189
      have hE190 := hi189.ex
      have hE190z := Ex.size hE190
      exact os rfl ((yl_indexAddrN Try.un80 Try.ty144 rfl (hi189.dt 10 34 rfl rfl rfl) (hi189.dt 11 35 rfl rfl rfl) eA114 (by first | omega | assumption | (simp only [IntKind.wrap_i64] at *; omega)) kI))
     ·exact fun _ _ h => os rfl ((yl_fieldAddr Try.fd144_1 rfl (h.dt 12 36 rfl rfl rfl) kI))
     ·exact fun _ _ h => os rfl ((yl_load1 Try.ty9 rfl (h.dt 13 37 rfl rfl rfl) ((Cells.ex eC114 h.ex) 1 _ rfl) kI))
     ·intro L204 w205 hi206
      refine OpR.op' rfl (yl_call Try.en114 rfl (opvs_cons (hi206.dt 14 38 rfl rfl rfl) opvs_nil) (Cal.mono (c_s_l1TextB ((p_c.Rows.getD k82 d_Write).Val) ((okL.getD o2 ok_d_Write _).2)) ?_))
      rintro v210 w209 ⟨rfl, hE211⟩
      exact ⟨rfl, hE211⟩
     ·intro L212 w213 hi214
      have hE215 := hi214.ex
      have hE215z := Ex.size hE215
      exact os rfl ((yl_sadd (a := (x89 ++ (s_l1TextB ((p_c.Rows.getD k82 d_Write).Key)))) (b := (s_l1TextB ((p_c.Rows.getD k82 d_Write).Val))) rfl (hi214.dt 8 32 rfl rfl rfl) (hi214.dt 15 39 rfl rfl rfl) (by first | omega | (simp only [List.length_append, List.length_cons, List.length_nil, List.length_take, List.length_drop, toS_length]; omega)) kI))
     ·exact fun _ _ h => os rfl ((yl_assign rfl (h.dt 16 40 rfl rfl rfl) kI))
     ·intro fl226 fh227 L223 w224 hp225
      have hE228 := hp225.ex
      have hE228z := Ex.size hE228
      refine SeqR.done (bn (tn (CW.sub (Sub.cons (d := 1) (hp225.old 1 _ rfl rfl) (Sub.cons (d := 4) (hp225.nt 17 4 rfl rfl rfl) (Sub.cons (d := 5) (hp225.old 5 _ rfl rfl) (Sub.nil _)))) (CW.region (sd rfl (yl_move rfl rfl (sd rfl (yl_inc rfl rfl rfl (by omega) (sd rfl (yl_assign rfl rfl (SeqR.done ?_)))))))))))
      refine tn ?_
      have hB232 : B_s_CopyBytes_0 p_c k82 (x89) = .cont ((x89 ++ (s_l1TextB ((p_c.Rows.getD k82 d_Write).Key))) ++ (s_l1TextB ((p_c.Rows.getD k82 d_Write).Val))) := by simp only [B_s_CopyBytes_0, hb14, cond_true, cond_false, loopE_done, loopE_ret]
      exact ⟨p_c.Rows.length - (k82 + 1), by omega, k82 + 1, (x89 ++ (s_l1TextB ((p_c.Rows.getD k82 d_Write).Key))) ++ (s_l1TextB ((p_c.Rows.getD k82 d_Write).Val)), rfl, hlt113, (by omega), rfl, rfl, rfl, (Box.ex hf108 hE228), (RdS.ex good_Write hf109 hE228), (Ex.trans hf110 hE228), (by first | omega | (simp only [List.length_append, List.length_cons, List.length_nil, List.length_set, toS_length]; omega)), (loopM.cont hlt113 hB232).symm.trans hI103⟩
    ·refine CW.seq (CW.seq (CW.region (sd rfl (yl_move rfl rfl (sd rfl (yl_fieldAddr Try.fd82_1 rfl rfl (sd rfl (yl_load1 Try.ty80 rfl rfl ((hf108.cell 1).trans rfl) (sd rfl (yl_len Try.un80 rfl rfl (sd rfl (yl_lss rfl rfl rfl (SeqR.done ?_)))))))))))))
     refine tn (CW.cond_f rfl (lt_f hlt113) (CW.exit (tx (tx ?_))))
     have hL236 : loopM (B_s_CopyBytes_0 p_c) (p_c.Rows.length - 0) 0 ((s_l1NumB p_c.Time) ++ (s_l1NumB (p_c.Rows.length : Int))) = .done (x89) := hI103.symm.trans (loopM.stop hlt113)
     refine bx (tn (CW.seq (CW.region (sd rfl (yl_move rfl rfl (sd rfl (yl_call Try.en115 rfl (opvs_cons rfl opvs_nil) (Cal.mono (c_s_l1Seal x89 (by unfold okS; omega)) ?_))))))))
     rintro v238 w237 ⟨rfl, hE239⟩
     have hE239z := Ex.size hE239
     have hrf240 := rf_l1Seal x89
     refine sd rfl (yl_assign rfl rfl (sd rfl (yl_assign rfl rfl (SeqR.done (tn (CW.ret (rr rfl (.cons rfl (.cons rfl .nil)) ?_)))))))
     have hM241 : (s_CopyBytes p_c) = (((s_l1Seal x89), true)) := by simp only [s_CopyBytes, hb14, hL236, cond_true, cond_false, loopE_done, loopE_ret]
     rw [hM241]
     exact ⟨rfl, (Ex.trans hf110 hE239)⟩
 ·refine CW.cond_t rfl (not_f hb14) (CW.seq (CW.region (sd rfl (yl_assign rfl rfl (sd rfl (yl_assign rfl rfl (SeqR.done (tn (CW.ret (tr ?_))))))))))
  refine rr rfl (.cons rfl (.cons rfl .nil)) ?_
  have hM243 : (s_CopyBytes p_c) = ((([] : Str), false)) := by simp only [s_CopyBytes, hb14, cond_true, cond_false, loopE_done, loopE_ret]
  rw [hM243]
  exact ⟨rfl, (Ex.trans (Ex.trans (Ex.refl w) hE9) hE13)⟩
set_option maxRecDepth 100000 in
set_option maxHeartbeats 2000000 in
theorem c_i_within {w : World} (p_n : Int) (p_low : Int) (p_high : Int) : Cal Try.prog 129 #[.int .i64 (p_n), .int .i64 (p_low), .int .i64 (p_high)] w fun v w' => v = .bool ((i_within p_n p_low p_high)) ∧ Ex w w' := by
 refine Cal.of (vs := [.int .i64 (p_n), .int .i64 (p_low), .int .i64 (p_high)]) Try.func129 rfl Try.ntmps129 rfl (CW.seq (CW.region (sd rfl (yl_assign rfl rfl (SeqR.done (tn (CW.seq (CW.region (sd rfl (yl_move rfl rfl ?_))))))))))
 refine sd rfl (yl_move rfl rfl (sd rfl (yl_geq rfl rfl rfl (sd rfl (yl_move rfl rfl (bcase (decide (p_low ≤ p_n)) (fun hb1 => ?_) (fun hb1 => ?_)))))))
 ·have hb1p := dec_t hb1
  refine sy rfl rfl hb1 (yl_move rfl rfl (sy rfl rfl hb1 (yl_move rfl rfl (sy rfl rfl hb1 (yl_leq rfl rfl rfl (sd rfl (yl_pick_t rfl rfl hb1 rfl (sd rfl (yl_assign rfl rfl (SeqR.done (tn (CW.ret (rr rfl (.cons rfl .nil) ?_)))))))))))))
  have hM2 : (i_within p_n p_low p_high) = (decide (p_n ≤ p_high)) := by simp only [i_within, hb1, cond_true, cond_false, loopE_done, loopE_ret]
  rw [hM2]
  exact ⟨rfl, (Ex.refl w)⟩
 ·have hb1p := dec_f hb1
  refine sz rfl rfl hb1 (sz rfl rfl hb1 (sz rfl rfl hb1 (sd rfl (yl_pick_f rfl rfl hb1 rfl (sd rfl (yl_assign rfl rfl (SeqR.done (tn (CW.ret (rr rfl (.cons rfl .nil) ?_))))))))))
  have hM3 : (i_within p_n p_low p_high) = (false) := by simp only [i_within, hb1, cond_true, cond_false, loopE_done, loopE_ret]
  rw [hM3]
  exact ⟨rfl, (Ex.refl w)⟩
set_option maxRecDepth 100000 in
set_option maxHeartbeats 2000000 in
theorem c_i_isTrue {w : World} (p_now : Int) : Cal Try.prog 81 #[.int .i64 (p_now)] w fun v w' => v = .bool ((i_isTrue p_now)) ∧ Ex w w' := by
 refine Cal.of (vs := [.int .i64 (p_now)]) Try.func81 rfl Try.ntmps81 rfl (CW.seq (CW.region (sd rfl (yl_assign rfl rfl (SeqR.done (tn (CW.seq (CW.region (sd rfl (yl_move rfl rfl ?_))))))))))
 refine sd rfl (yl_call Try.en129 rfl (opvs_cons rfl (opvs_cons rfl (opvs_cons rfl opvs_nil))) (Cal.mono (c_i_within p_now 0 100000) ?_))
 rintro v2 w1 ⟨rfl, hE3⟩
 have hE3z := Ex.size hE3
 refine sd rfl (yl_assign rfl rfl (SeqR.done (tn (CW.ret (rr rfl (.cons rfl .nil) ?_)))))
 have hM4 : (i_isTrue p_now) = ((i_within p_now 0 100000)) := by simp only [i_isTrue, cond_true, cond_false, loopE_done, loopE_ret]
 rw [hM4]
 exact ⟨rfl, (Ex.trans (Ex.refl w) hE3)⟩
set_option maxRecDepth 100000 in
set_option maxHeartbeats 2000000 in
theorem c_g_slices_IndexFunc_Write {A1 : Option Addr} {c1 : Nat} {g3 : Nat} {cp4 : List Value} {w : World} (p_s : List DWrite) (p_f : DWrite → Bool) (h1 : RdS w (Iv 0 w.heap.size) (RF e_Write) 3 A1 p_s.length c1 p_s) (hen5 : Enters Try.prog g3) (hfn6 : ∀ (w1 : World) (y0 : DWrite), Ex w w1 → y0 ∈ p_s → ok_Write y0 → Cal Try.prog g3 (([.agg #[.string (bs (y0.Key)), .string (bs (y0.Val)), .bool (y0.Gone)]] : List Value) ++ cp4).toArray w1 fun v w2 => v = .bool (p_f y0) ∧ Ex w1 w2) (o2 : (okL ok_Write) p_s) : Cal Try.prog 210 #[.slice A1 p_s.length c1, .func (.func g3) #[] cp4.toArray] w fun v w' => v = .int .i64 ((g_slices_IndexFunc_Write p_s p_f)) ∧ Ex w w' := by
 have hol7 := o2.1
 refine Cal.of (vs := [.slice A1 p_s.length c1, .func (.func g3) #[] cp4.toArray]) Try.func210 rfl Try.ntmps210 rfl (CW.seq (CW.region (sd rfl (yl_assign rfl rfl (SeqR.done (tn (CW.seq (CW.seq (CW.region ?_)))))))))
 refine sd rfl (yl_move rfl rfl (sd rfl (yl_len Try.un80 rfl rfl (sd rfl (yl_move rfl rfl (SeqR.done (tn (CW.block (CW.loop (fun m9 L10 w11 => ∃ (k8 : Nat), m9 = p_s.length - k8 ∧ k8 ≤ p_s.length ∧ w.heap.size ≤ w11.heap.size ∧ lkp L10 0 = some (.slice A1 p_s.length c1) ∧ lkp L10 1 = some (.func (.func g3) #[] cp4.toArray) ∧ lkp L10 7 = some (.int .i64 ((p_s.length : Int))) ∧ lkp L10 8 = some (.int .i64 ((k8 : Int))) ∧ RdS w11 (Iv 0 w.heap.size) (RF e_Write) 3 A1 p_s.length c1 p_s ∧ Ex w w11 ∧ loopM (B_g_slices_IndexFunc_Write_0 p_s p_f) (p_s.length - k8) k8 () = loopM (B_g_slices_IndexFunc_Write_0 p_s p_f) (p_s.length - 0) 0 ()) (p_s.length - 0) ?_ ?_)))))))))
 ·exact ⟨0, rfl, (by omega), Nat.le_refl _, rfl, rfl, rfl, rfl, h1, (Ex.refl w), rfl⟩
 ·rintro m12 L13 w14 ⟨k8, rfl, hk15, hsz17, hl18, hl19, hl20, hl21, hf22, hf23, hI16⟩
  refine CW.sub (Sub.cons hl18 (Sub.cons hl19 (Sub.cons hl20 (Sub.cons hl21 (Sub.nil _))))) ?_
  have hf23z := Ex.size hf23
  have hbg24 := RdS.big hf22
  rcases Nat.lt_or_ge k8 p_s.length with hlt25 | hlt25
  ·refine CW.seq (CW.region (sd rfl (yl_lss rfl rfl rfl (SeqR.done (tn (CW.seq (CW.cond_t rfl (lt_t hlt25) (CW.skip (tn ?_)))))))))
   refine CW.seq (CW.block (CW.seq (CW.region (sd rfl (yl_move rfl rfl (sd rfl (yl_assign rfl rfl (SeqR.done (tn (CW.seq ?_))))))))))
   refine CW.region (sd rfl (yl_move rfl rfl (sd rfl (yl_move rfl rfl (sd rfl (yl_move rfl rfl ?_))))))
   obtain ⟨eb26, eo26, ec26, eA26, eS26, ebl26, el26, eR26, eC26⟩ := RdS.atD hf22 d_Write (i := k8) (by first | omega | assumption)
   obtain rfl := eR26
   have eC26 : Cells w14 eb26 (eo26 + k8 * 3) [.string (bs ((p_s.getD k8 d_Write).Key)), .string (bs ((p_s.getD k8 d_Write).Val)), .bool ((p_s.getD k8 d_Write).Gone)] := eC26
   refine sd rfl (yl_indexAddrN Try.un80 Try.ty144 rfl rfl rfl eA26 (by first | omega | assumption | (simp only [IntKind.wrap_i64] at *; omega)) (sd rfl (yl_loadN (cs := [.string (bs ((p_s.getD k8 d_Write).Key)), .string (bs ((p_s.getD k8 d_Write).Val)), .bool ((p_s.getD k8 d_Write).Gone)]) Try.ty144 rfl rfl eC26 rfl (sd rfl (yl_callv hen5 rfl rfl (opvs_cons rfl opvs_nil) (Cal.mono (hfn6 w14 (p_s.getD k8 d_Write) hf23 (getD_mem (by omega)) (okL.getD o2 ok_d_Write _)) ?_))))))
   rintro v28 w27 ⟨rfl, hE29⟩
   have hE29z := Ex.size hE29
   refine SeqR.done (tn (bcase (p_f (p_s.getD k8 d_Write)) (fun hb30 => ?_) (fun hb30 => ?_)))
   ·refine CW.cond_t rfl hb30 (CW.seq (CW.region (sd rfl (yl_move rfl rfl (sd rfl (yl_assign rfl rfl (SeqR.done (tn (CW.ret (br ?_))))))))))
    refine tr (tr ?_)
    have hB32 : B_g_slices_IndexFunc_Write_0 p_s p_f k8 () = .ret (k8 : Int) := by simp only [B_g_slices_IndexFunc_Write_0, hb30, cond_true, cond_false, loopE_done, loopE_ret]
    have hL31 : loopM (B_g_slices_IndexFunc_Write_0 p_s p_f) (p_s.length - 0) 0 () = .ret (k8 : Int) := hI16.symm.trans (loopM.ret hlt25 hB32)
    refine br (tr (rr rfl (.cons rfl .nil) ?_))
    have hM33 : (g_slices_IndexFunc_Write p_s p_f) = ((k8 : Int)) := by simp only [g_slices_IndexFunc_Write, hb30, hL31, cond_true, cond_false, loopE_done, loopE_ret]
    rw [hM33]
    exact ⟨rfl, (Ex.trans hf23 hE29)⟩
   ·refine CW.cond_f rfl hb30 (CW.skip (bn (tn (CW.region (sd rfl (yl_inc rfl rfl rfl (by omega) (sd rfl (yl_move rfl rfl (SeqR.done (tn ?_))))))))))
    have hB35 : B_g_slices_IndexFunc_Write_0 p_s p_f k8 () = .cont () := by simp only [B_g_slices_IndexFunc_Write_0, hb30, cond_true, cond_false, loopE_done, loopE_ret]
    exact ⟨p_s.length - (k8 + 1), by omega, k8 + 1, rfl, hlt25, (by omega), rfl, rfl, rfl, rfl, (RdS.ex good_Write hf22 hE29), (Ex.trans hf23 hE29), (loopM.cont hlt25 hB35).symm.trans hI16⟩
  ·refine CW.seq (CW.region (sd rfl (yl_lss rfl rfl rfl (SeqR.done (tn (CW.seq (CW.cond_f rfl (lt_f hlt25) (CW.exit (tx ?_)))))))))
   refine tx ?_
   have hL38 : loopM (B_g_slices_IndexFunc_Write_0 p_s p_f) (p_s.length - 0) 0 () = .done () := hI16.symm.trans (loopM.stop hlt25)
   refine bx (tn (CW.seq (CW.region (sd rfl (yl_assign rfl rfl (SeqR.done (tn (CW.ret (rr rfl (.cons rfl .nil) ?_)))))))))
   have hM39 : (g_slices_IndexFunc_Write p_s p_f) = (-1) := by simp only [g_slices_IndexFunc_Write, hL38, cond_true, cond_false, loopE_done, loopE_ret]
   rw [hM39]
   exact ⟨rfl, hf23⟩
set_option maxRecDepth 100000 in
set_option maxHeartbeats 2000000 in
theorem c_g_slices_ContainsFunc_Write {A1 : Option Addr} {c1 : Nat} {g3 : Nat} {cp4 : List Value} {w : World} (p_s : List DWrite) (p_f : DWrite → Bool) (h1 : RdS w (Iv 0 w.heap.size) (RF e_Write) 3 A1 p_s.length c1 p_s) (hen5 : Enters Try.prog g3) (hfn6 : ∀ (w1 : World) (y0 : DWrite), Ex w w1 → y0 ∈ p_s → ok_Write y0 → Cal Try.prog g3 (([.agg #[.string (bs (y0.Key)), .string (bs (y0.Val)), .bool (y0.Gone)]] : List Value) ++ cp4).toArray w1 fun v w2 => v = .bool (p_f y0) ∧ Ex w1 w2) (o2 : (okL ok_Write) p_s) : Cal Try.prog 181 #[.slice A1 p_s.length c1, .func (.func g3) #[] cp4.toArray] w fun v w' => v = .bool ((g_slices_ContainsFunc_Write p_s p_f)) ∧ Ex w w' := by
 have hol7 := o2.1
 refine Cal.of (vs := [.slice A1 p_s.length c1, .func (.func g3) #[] cp4.toArray]) Try.func181 rfl Try.ntmps181 rfl (CW.seq (CW.region (sd rfl (yl_assign rfl rfl (SeqR.done (tn (CW.seq (CW.region (sd rfl (yl_move rfl rfl ?_))))))))))
 refine sd rfl (yl_move rfl rfl (sd rfl (yl_call Try.en210 rfl (opvs_cons rfl (opvs_cons rfl opvs_nil)) (Cal.mono (c_g_slices_IndexFunc_Write p_s p_f (RdS.up h1 good_Write) hen5 (fun w1 y0 => fun hE => hfn6 w1 y0 (Ex.trans (Ex.refl w) hE)) o2) ?_))))
 rintro v9 w8 ⟨rfl, hE10⟩
 have hE10z := Ex.size hE10
 refine sd rfl (yl_geq rfl rfl rfl (sd rfl (yl_assign rfl rfl (SeqR.done (tn (CW.ret (rr rfl (.cons rfl .nil) ?_)))))))
 have hM11 : (g_slices_ContainsFunc_Write p_s p_f) = (decide (0 ≤ (g_slices_IndexFunc_Write p_s p_f))) := by simp only [g_slices_ContainsFunc_Write, cond_true, cond_false, loopE_done, loopE_ret]
 rw [hM11]
 exact ⟨rfl, (Ex.trans (Ex.refl w) hE10)⟩
set_option maxRecDepth 100000 in
set_option maxHeartbeats 2000000 in
theorem c_i_isLowerOrDigit {w : World} (p_b : Int) : Cal Try.prog 212 #[.int .u8 (p_b)] w fun v w' => v = .bool ((i_isLowerOrDigit p_b)) ∧ Ex w w' := by
 refine Cal.of (vs := [.int .u8 (p_b)]) Try.func212 rfl Try.ntmps212 rfl (CW.seq (CW.region (sd rfl (yl_assign rfl rfl (SeqR.done (tn (CW.seq (CW.region (sd rfl (yl_move rfl rfl ?_))))))))))
 refine sd rfl (yl_geq rfl rfl rfl (sd rfl (yl_move rfl rfl (bcase (decide (97 ≤ p_b)) (fun hb1 => ?_) (fun hb1 => ?_)))))
 ·have hb1p := dec_t hb1
  refine sy rfl rfl hb1 (yl_move rfl rfl (sy rfl rfl hb1 (yl_leq rfl rfl rfl (sd rfl (yl_pick_t rfl rfl hb1 rfl (sd rfl (yl_move rfl rfl (bcase (decide (p_b ≤ 122)) (fun hb2 => ?_) (fun hb2 => ?_)))))))))
  ·have hb2p := dec_t hb2
   refine sz rfl rfl hb2 (sz rfl rfl hb2 (sz rfl rfl hb2 (sq rfl rfl (sq rfl rfl (sz rfl rfl hb2 (sd rfl (yl_pick_t rfl rfl hb2 rfl (sd rfl (yl_assign rfl rfl (SeqR.done ?_))))))))))
   refine tn (CW.ret (rr rfl (.cons rfl .nil) ?_))
   have hM3 : (i_isLowerOrDigit p_b) = (true) := by simp only [i_isLowerOrDigit, hb1, hb2, cond_true, cond_false, loopE_done, loopE_ret]
   rw [hM3]
   exact ⟨rfl, (Ex.refl w)⟩
  ·have hb2p := dec_f hb2
   refine sy rfl rfl hb2 (yl_move rfl rfl (sy rfl rfl hb2 (yl_geq rfl rfl rfl (sy rfl rfl hb2 (yl_move rfl rfl (bcase (decide (48 ≤ p_b)) (fun hb4 => ?_) (fun hb4 => ?_)))))))
   ·have hb4p := dec_t hb4
    refine sy rfl rfl hb4 (yl_move rfl rfl (sy rfl rfl hb4 (yl_leq rfl rfl rfl (sy rfl rfl hb2 (yl_pick_t rfl rfl hb4 rfl (sd rfl (yl_pick_f rfl rfl hb2 rfl (sd rfl (yl_assign rfl rfl (SeqR.done (tn (CW.ret (rr rfl (.cons rfl .nil) ?_)))))))))))))
    have hM5 : (i_isLowerOrDigit p_b) = (decide (p_b ≤ 57)) := by simp only [i_isLowerOrDigit, hb1, hb2, hb4, cond_true, cond_false, loopE_done, loopE_ret]
    rw [hM5]
    exact ⟨rfl, (Ex.refl w)⟩
   ·have hb4p := dec_f hb4
    refine sz rfl rfl hb4 (sz rfl rfl hb4 (sy rfl rfl hb2 (yl_pick_f rfl rfl hb4 rfl (sd rfl (yl_pick_f rfl rfl hb2 rfl (sd rfl (yl_assign rfl rfl (SeqR.done (tn (CW.ret (rr rfl (.cons rfl .nil) ?_)))))))))))
    have hM6 : (i_isLowerOrDigit p_b) = (false) := by simp only [i_isLowerOrDigit, hb1, hb2, hb4, cond_true, cond_false, loopE_done, loopE_ret]
    rw [hM6]
    exact ⟨rfl, (Ex.refl w)⟩
 ·have hb1p := dec_f hb1
  refine sz rfl rfl hb1 (sz rfl rfl hb1 (sd rfl (yl_pick_f rfl rfl hb1 rfl (sd rfl (yl_move rfl rfl (sy rfl rfl rfl (yl_move rfl rfl (sy rfl rfl rfl (yl_geq rfl rfl rfl (sy rfl rfl rfl (yl_move rfl rfl (bcase (decide (48 ≤ p_b)) (fun hb7 => ?_) (fun hb7 => ?_)))))))))))))
  ·have hb7p := dec_t hb7
   refine sy rfl rfl hb7 (yl_move rfl rfl (sy rfl rfl hb7 (yl_leq rfl rfl rfl (sy rfl rfl rfl (yl_pick_t rfl rfl hb7 rfl (sd rfl (yl_pick_f rfl rfl rfl rfl (sd rfl (yl_assign rfl rfl (SeqR.done (tn (CW.ret (rr rfl (.cons rfl .nil) ?_)))))))))))))
   have hM8 : (i_isLowerOrDigit p_b) = (decide (p_b ≤ 57)) := by simp only [i_isLowerOrDigit, hb1, hb7, cond_true, cond_false, loopE_done, loopE_ret]
   rw [hM8]
   exact ⟨rfl, (Ex.refl w)⟩
  ·have hb7p := dec_f hb7
   refine sz rfl rfl hb7 (sz rfl rfl hb7 (sy rfl rfl rfl (yl_pick_f rfl rfl hb7 rfl (sd rfl (yl_pick_f rfl rfl rfl rfl (sd rfl (yl_assign rfl rfl (SeqR.done (tn (CW.ret (rr rfl (.cons rfl .nil) ?_)))))))))))
   have hM9 : (i_isLowerOrDigit p_b) = (false) := by simp only [i_isLowerOrDigit, hb1, hb7, cond_true, cond_false, loopE_done, loopE_ret]
   rw [hM9]
   exact ⟨rfl, (Ex.refl w)⟩
set_option maxRecDepth 100000 in
set_option maxHeartbeats 2000000 in
theorem c_g_internal_stringslite_IndexByte {w : World} (p_s : Str) (p_c : Int) (o1 : okS p_s) : Cal Try.prog 222 #[.string (bs (p_s)), .int .u8 (p_c)] w fun v w' => v = .int .i64 ((g_internal_stringslite_IndexByte p_s p_c)) ∧ Ex w w' := by
 have hol2 : p_s.length ≤ 1073741824 := o1
 refine Cal.of (vs := [.string (bs (p_s)), .int .u8 (p_c)]) Try.func222 rfl Try.ntmps222 rfl (CW.seq (CW.region (sd rfl (yl_assign rfl rfl (SeqR.done (tn (CW.seq (CW.region (sd rfl (yl_move rfl rfl ?_))))))))))
 refine sd rfl (yl_move rfl rfl (sd rfl (yl_idxB (s := p_s) (c := p_c) Try.ex228 rfl (opvs_cons rfl (opvs_cons rfl opvs_nil)) (sd rfl (yl_assign rfl rfl (SeqR.done (tn (CW.ret (rr rfl (.cons rfl .nil) ?_)))))))))
 have hM3 : (g_internal_stringslite_IndexByte p_s p_c) = (idxB p_s p_c) := by simp only [g_internal_stringslite_IndexByte, cond_true, cond_false, loopE_done, loopE_ret]
 rw [hM3]
 exact ⟨rfl, (Ex.refl w)⟩
set_option maxRecDepth 100000 in
set_option maxHeartbeats 2000000 in
theorem c_g_strings_IndexByte {w : World} (p_s : Str) (p_c : Int) (o1 : okS p_s) : Cal Try.prog 213 #[.string (bs (p_s)), .int .u8 (p_c)] w fun v w' => v = .int .i64 ((g_strings_IndexByte p_s p_c)) ∧ Ex w w' := by
 have hol2 : p_s.length ≤ 1073741824 := o1
 refine Cal.of (vs := [.string (bs (p_s)), .int .u8 (p_c)]) Try.func213 rfl Try.ntmps213 rfl (CW.seq (CW.region (sd rfl (yl_assign rfl rfl (SeqR.done (tn (CW.seq (CW.region (sd rfl (yl_move rfl rfl ?_))))))))))
 refine sd rfl (yl_move rfl rfl (sd rfl (yl_call Try.en222 rfl (opvs_cons rfl (opvs_cons rfl opvs_nil)) (Cal.mono (c_g_internal_stringslite_IndexByte p_s p_c o1) ?_))))
 rintro v4 w3 ⟨rfl, hE5⟩
 have hE5z := Ex.size hE5
 refine sd rfl (yl_assign rfl rfl (SeqR.done (tn (CW.ret (rr rfl (.cons rfl .nil) ?_)))))
 have hM6 : (g_strings_IndexByte p_s p_c) = ((g_internal_stringslite_IndexByte p_s p_c)) := by simp only [g_strings_IndexByte, cond_true, cond_false, loopE_done, loopE_ret]
 rw [hM6]
 exact ⟨rfl, (Ex.trans (Ex.refl w) hE5)⟩
set_option maxRecDepth 100000 in
set_option maxHeartbeats 2000000 in
theorem c_i_hasBytes {w : World} (p_s : Str) (p_others : Str) (o1 : okS p_s) (o2 : okS p_others) : Cal Try.prog 190 #[.string (bs (p_s)), .string (bs (p_others))] w fun v w' => v = .bool ((i_hasBytes p_s p_others)) ∧ Ex w w' := by
 have hol3 : p_s.length ≤ 1073741824 := o1
 have hol4 : p_others.length ≤ 1073741824 := o2
 refine Cal.of (vs := [.string (bs (p_s)), .string (bs (p_others))]) Try.func190 rfl Try.ntmps190 rfl (CW.seq (CW.region (sd rfl (yl_assign rfl rfl (SeqR.done (tn (CW.seq (CW.seq (CW.region ?_)))))))))
 refine sd rfl (yl_move rfl rfl (sd rfl (yl_slen Try.un9 (a := p_s) rfl rfl (sd rfl (yl_move rfl rfl (SeqR.done (tn (CW.block (CW.loop (fun m6 L7 w8 => ∃ (k5 : Nat), m6 = p_s.length - k5 ∧ k5 ≤ p_s.length ∧ w.heap.size ≤ w8.heap.size ∧ lkp L7 0 = some (.string (bs (p_s))) ∧ lkp L7 1 = some (.string (bs (p_others))) ∧ lkp L7 7 = some (.int .i64 ((p_s.length : Int))) ∧ lkp L7 8 = some (.int .i64 ((k5 : Int))) ∧ Ex w w8 ∧ loopM (B_i_hasBytes_0 p_s p_others) (p_s.length - k5) k5 () = loopM (B_i_hasBytes_0 p_s p_others) (p_s.length - 0) 0 ()) (p_s.length - 0) ?_ ?_)))))))))
 ·exact ⟨0, rfl, (by omega), Nat.le_refl _, rfl, rfl, rfl, rfl, (Ex.refl w), rfl⟩
 ·rintro m9 L10 w11 ⟨k5, rfl, hk12, hsz14, hl15, hl16, hl17, hl18, hf19, hI13⟩
  refine CW.sub (Sub.cons hl15 (Sub.cons hl16 (Sub.cons hl17 (Sub.cons hl18 (Sub.nil _))))) ?_
  have hf19z := Ex.size hf19
  have hbg20 : p_s.length ≤ 1073741824 := o1
  rcases Nat.lt_or_ge k5 p_s.length with hlt21 | hlt21
  ·refine CW.seq (CW.region (sd rfl (yl_lss rfl rfl rfl (SeqR.done (tn (CW.seq (CW.cond_t rfl (lt_t hlt21) (CW.skip (tn ?_)))))))))
   refine CW.seq (CW.block (CW.seq (CW.region (sd rfl (yl_move rfl rfl (sd rfl (yl_assign rfl rfl (SeqR.done (tn (CW.seq ?_))))))))))
   refine CW.region (sd rfl (yl_move rfl rfl (sd rfl (yl_move rfl rfl (sd rfl (yl_sindexN Try.un9 (a := p_s) rfl rfl rfl (by first | omega | assumption | (simp only [IntKind.wrap_i64] at *; omega)) (sd rfl (yl_call Try.en212 rfl (opvs_cons rfl opvs_nil) (Cal.mono (c_i_isLowerOrDigit ((p_s.getD k5 0).toNat : Int)) ?_)))))))))
   rintro v23 w22 ⟨rfl, hE24⟩
   have hE24z := Ex.size hE24
   refine sd rfl (yl_not rfl rfl (sd rfl (yl_move rfl rfl (bcase (i_isLowerOrDigit ((p_s.getD k5 0).toNat : Int)) (fun hb25 => ?_) (fun hb25 => ?_)))))
   ·refine sz rfl rfl (not_t hb25) (sz rfl rfl (not_t hb25) (sz rfl rfl (not_t hb25) (sz rfl rfl (not_t hb25) (sz rfl rfl (not_t hb25) (sz rfl rfl (not_t hb25) (sd rfl (yl_pick_f rfl rfl (not_t hb25) rfl (SeqR.done (tn ?_)))))))))
    refine CW.cond_f rfl rfl (CW.skip (bn (tn (CW.region (sd rfl (yl_inc rfl rfl rfl (by omega) (sd rfl (yl_move rfl rfl (SeqR.done (tn ?_))))))))))
    have hB26 : B_i_hasBytes_0 p_s p_others k5 () = .cont () := by simp only [B_i_hasBytes_0, hb25, cond_true, cond_false, loopE_done, loopE_ret]
    exact ⟨p_s.length - (k5 + 1), by omega, k5 + 1, rfl, hlt21, (by omega), rfl, rfl, rfl, rfl, (Ex.trans hf19 hE24), (loopM.cont hlt21 hB26).symm.trans hI13⟩
   ·refine sy rfl rfl (not_f hb25) (yl_move rfl rfl (sy rfl rfl (not_f hb25) (yl_move rfl rfl (sy rfl rfl (not_f hb25) (yl_move rfl rfl (sy rfl rfl (not_f hb25) (yl_sindexN Try.un9 (a := p_s) rfl rfl rfl (by first | omega | assumption | (simp only [IntKind.wrap_i64] at *; omega)) (sy rfl rfl (not_f hb25) (yl_call Try.en213 rfl (opvs_cons rfl (opvs_cons rfl opvs_nil)) (Cal.mono (c_g_strings_IndexByte p_others ((p_s.getD k5 0).toNat : Int) o2) ?_))))))))))
    rintro v29 w28 ⟨rfl, hE30⟩
    have hE30z := Ex.size hE30
    refine sy rfl rfl (not_f hb25) (yl_lss rfl rfl rfl (sd rfl (yl_pick_t rfl rfl (not_f hb25) rfl (SeqR.done (tn (bcase (decide ((g_strings_IndexByte p_others ((p_s.getD k5 0).toNat : Int)) < 0)) (fun hb31 => ?_) (fun hb31 => ?_)))))))
    ·have hb31p := dec_t hb31
     refine CW.cond_t rfl hb31 (CW.seq (CW.region (sd rfl (yl_assign rfl rfl (SeqR.done (tn (CW.ret (br (tr ?_)))))))))
     refine tr ?_
     have hB33 : B_i_hasBytes_0 p_s p_others k5 () = .ret false := by simp only [B_i_hasBytes_0, hb25, hb31, cond_true, cond_false, loopE_done, loopE_ret]
     have hL32 : loopM (B_i_hasBytes_0 p_s p_others) (p_s.length - 0) 0 () = .ret false := hI13.symm.trans (loopM.ret hlt21 hB33)
     refine br (tr (rr rfl (.cons rfl .nil) ?_))
     have hM34 : (i_hasBytes p_s p_others) = (false) := by simp only [i_hasBytes, hb25, hb31, hL32, cond_true, cond_false, loopE_done, loopE_ret]
     rw [hM34]
     exact ⟨rfl, (Ex.trans (Ex.trans hf19 hE24) hE30)⟩
    ·have hb31p := dec_f hb31
     refine CW.cond_f rfl hb31 (CW.skip (bn (tn (CW.region (sd rfl (yl_inc rfl rfl rfl (by omega) (sd rfl (yl_move rfl rfl (SeqR.done (tn ?_))))))))))
     have hB37 : B_i_hasBytes_0 p_s p_others k5 () = .cont () := by simp only [B_i_hasBytes_0, hb25, hb31, cond_true, cond_false, loopE_done, loopE_ret]
     exact ⟨p_s.length - (k5 + 1), by omega, k5 + 1, rfl, hlt21, (by omega), rfl, rfl, rfl, rfl, (Ex.trans (Ex.trans hf19 hE24) hE30), (loopM.cont hlt21 hB37).symm.trans hI13⟩
  ·refine CW.seq (CW.region (sd rfl (yl_lss rfl rfl rfl (SeqR.done (tn (CW.seq (CW.cond_f rfl (lt_f hlt21) (CW.exit (tx ?_)))))))))
   refine tx ?_
   have hL40 : loopM (B_i_hasBytes_0 p_s p_others) (p_s.length - 0) 0 () = .done () := hI13.symm.trans (loopM.stop hlt21)
   refine bx (tn (CW.seq (CW.region (sd rfl (yl_assign rfl rfl (SeqR.done (tn (CW.ret (rr rfl (.cons rfl .nil) ?_)))))))))
   have hM41 : (i_hasBytes p_s p_others) = (true) := by simp only [i_hasBytes, hL40, cond_true, cond_false, loopE_done, loopE_ret]
   rw [hM41]
   exact ⟨rfl, hf19⟩
set_option maxRecDepth 100000 in
set_option maxHeartbeats 2000000 in
theorem c_i_GoodKey {w : World} (p_s : Str) (o1 : okS p_s) : Cal Try.prog 198 #[.string (bs (p_s))] w fun v w' => v = .bool ((i_GoodKey p_s)) ∧ Ex w w' := by
 have hol2 : p_s.length ≤ 1073741824 := o1
 refine Cal.of (vs := [.string (bs (p_s))]) Try.func198 rfl Try.ntmps198 rfl (CW.seq (CW.region (sd rfl (yl_assign rfl rfl (SeqR.done (tn (CW.seq (CW.region (sd rfl (yl_move rfl rfl ?_))))))))))
 refine sd rfl (yl_slen Try.un9 (a := p_s) rfl rfl (sd rfl (yl_call Try.en129 rfl (opvs_cons rfl (opvs_cons rfl (opvs_cons rfl opvs_nil))) (Cal.mono (c_i_within (p_s.length : Int) 1 12) ?_))))
 rintro v4 w3 ⟨rfl, hE5⟩
 have hE5z := Ex.size hE5
 refine sd rfl (yl_move rfl rfl (bcase (i_within (p_s.length : Int) 1 12) (fun hb6 => ?_) (fun hb6 => ?_)))
 ·have hb6p := f_within hb6
  refine sy rfl rfl hb6 (yl_move rfl rfl (sy rfl rfl hb6 (yl_call Try.en190 rfl (opvs_cons rfl (opvs_cons rfl opvs_nil)) (Cal.mono (c_i_hasBytes p_s ([46, 47] : Str) o1 (okS.lit rfl)) ?_))))
  rintro v8 w7 ⟨rfl, hE9⟩
  have hE9z := Ex.size hE9
  refine sd rfl (yl_pick_t rfl rfl hb6 rfl (sd rfl (yl_assign rfl rfl (SeqR.done (tn (CW.ret (rr rfl (.cons rfl .nil) ?_)))))))
  have hM10 : (i_GoodKey p_s) = ((i_hasBytes p_s ([46, 47] : Str))) := by simp only [i_GoodKey, hb6, cond_true, cond_false, loopE_done, loopE_ret]
  rw [hM10]
  exact ⟨rfl, (Ex.trans (Ex.trans (Ex.refl w) hE5) hE9)⟩
 ·refine sz rfl rfl hb6 (sz rfl rfl hb6 (sd rfl (yl_pick_f rfl rfl hb6 rfl (sd rfl (yl_assign rfl rfl (SeqR.done (tn (CW.ret (rr rfl (.cons rfl .nil) ?_)))))))))
  have hM13 : (i_GoodKey p_s) = (false) := by simp only [i_GoodKey, hb6, cond_true, cond_false, loopE_done, loopE_ret]
  rw [hM13]
  exact ⟨rfl, (Ex.trans (Ex.refl w) hE5)⟩
set_option maxRecDepth 100000 in
set_option maxHeartbeats 2000000 in
theorem c_i_areRising {A1 : Option Addr} {c1 : Nat} {w : World} (p_keys : List Str) (h1 : RdS w (Iv 0 w.heap.size) (RF e_Str) 1 A1 p_keys.length c1 p_keys) (o2 : (okL okS) p_keys) : Cal Try.prog 207 #[.slice A1 p_keys.length c1] w fun v w' => v = .bool ((i_areRising p_keys)) ∧ Ex w w' := by
 have hol3 := o2.1
 refine Cal.of (vs := [.slice A1 p_keys.length c1]) Try.func207 rfl Try.ntmps207 rfl (CW.seq (CW.region (sd rfl (yl_assign rfl rfl (SeqR.done (tn (CW.seq (CW.seq (CW.region ?_)))))))))
 refine sd rfl (yl_move rfl rfl (sd rfl (yl_len Try.un22 rfl rfl (sd rfl (yl_move rfl rfl (SeqR.done (tn (CW.block (CW.loop (fun m5 L6 w7 => ∃ (k4 : Nat), m5 = p_keys.length - k4 ∧ k4 ≤ p_keys.length ∧ w.heap.size ≤ w7.heap.size ∧ lkp L6 0 = some (.slice A1 p_keys.length c1) ∧ lkp L6 5 = some (.slice A1 p_keys.length c1) ∧ lkp L6 6 = some (.int .i64 ((p_keys.length : Int))) ∧ lkp L6 7 = some (.int .i64 ((k4 : Int))) ∧ RdS w7 (Iv 0 w.heap.size) (RF e_Str) 1 A1 p_keys.length c1 p_keys ∧ Ex w w7 ∧ loopM (B_i_areRising_0 p_keys) (p_keys.length - k4) k4 () = loopM (B_i_areRising_0 p_keys) (p_keys.length - 0) 0 ()) (p_keys.length - 0) ?_ ?_)))))))))
 ·exact ⟨0, rfl, (by omega), Nat.le_refl _, rfl, rfl, rfl, rfl, h1, (Ex.refl w), rfl⟩
 ·rintro m8 L9 w10 ⟨k4, rfl, hk11, hsz13, hl14, hl15, hl16, hl17, hf18, hf19, hI12⟩
  refine CW.sub (Sub.cons hl14 (Sub.cons hl15 (Sub.cons hl16 (Sub.cons hl17 (Sub.nil _))))) ?_
  have hf19z := Ex.size hf19
  have hbg20 := RdS.big hf18
  rcases Nat.lt_or_ge k4 p_keys.length with hlt21 | hlt21
  ·refine CW.seq (CW.region (sd rfl (yl_lss rfl rfl rfl (SeqR.done (tn (CW.seq (CW.cond_t rfl (lt_t hlt21) (CW.skip (tn ?_)))))))))
   refine CW.seq (CW.block (CW.seq (CW.region (sd rfl (yl_move rfl rfl ?_)))))
   obtain ⟨eb22, eo22, ec22, eA22, eS22, ebl22, el22, eR22, eC22⟩ := RdS.atD hf18 d_Str (i := k4) (by first | omega | assumption)
   obtain rfl := eR22
   have eC22 : Cells w10 eb22 (eo22 + k4 * 1) [.string (bs ((p_keys.getD k4 d_Str)))] := eC22
   refine sd rfl (yl_indexAddrN Try.un22 Try.ty9 rfl rfl rfl eA22 (by first | omega | assumption | (simp only [IntKind.wrap_i64] at *; omega)) (sd rfl (yl_load1 Try.ty9 rfl rfl (eC22 0 _ rfl) (sd rfl (yl_assign rfl rfl (sd rfl (yl_assign rfl rfl (SeqR.done (tn (CW.seq (CW.region (sd rfl (yl_move rfl rfl ?_)))))))))))))
   refine sd rfl (yl_call Try.en198 rfl (opvs_cons rfl opvs_nil) (Cal.mono (c_i_GoodKey (p_keys.getD k4 d_Str) (okL.getD o2 ok_d_Str _)) ?_))
   rintro v24 w23 ⟨rfl, hE25⟩
   have hE25z := Ex.size hE25
   refine sd rfl (yl_not rfl rfl (sd rfl (yl_move rfl rfl (bcase (i_GoodKey (p_keys.getD k4 d_Str)) (fun hb26 => ?_) (fun hb26 => ?_)))))
   ·refine sy rfl rfl (not_t hb26) (yl_move rfl rfl (sy rfl rfl (not_t hb26) (yl_gtr rfl rfl rfl (sy rfl rfl (not_t hb26) (yl_move rfl rfl (bcase (decide (0 < (k4 : Int))) (fun hb27 => ?_) (fun hb27 => ?_)))))))
    ·have hb27p := dec_t hb27
     refine sy rfl rfl hb27 (yl_move rfl rfl (sy rfl rfl hb27 (yl_move rfl rfl (sy rfl rfl hb27 (yl_move rfl rfl (sy rfl rfl hb27 (yl_sub rfl rfl rfl ?_)))))))
     have q28 := RdS.ex good_Str hf18 hE25
     obtain ⟨eb29, eo29, ec29, eA29, eS29, ebl29, el29, eR29, eC29⟩ := RdS.atD q28 d_Str (i := (IntKind.wrap .i64 ((k4 : Int) - 1)).toNat) (by first | omega | assumption | (simp only [IntKind.wrap_i64] at *; omega))
     obtain rfl := eR29
     have eC29 : Cells w23 eb29 (eo29 + ((IntKind.wrap .i64 ((k4 : Int) - 1)).toNat) * 1) [.string (bs ((p_keys.getD ((IntKind.wrap .i64 ((k4 : Int) - 1)).toNat) d_Str)))] := eC29
     refine sy rfl rfl hb27 (yl_indexAddr Try.un22 Try.ty9 rfl rfl rfl eA29 (by first | omega | assumption | (simp only [IntKind.wrap_i64] at *; omega)) (by first | omega | assumption | (simp only [IntKind.wrap_i64] at *; omega)) (sy rfl rfl hb27 (yl_load1 Try.ty9 rfl rfl (eC29 0 _ rfl) (sy rfl rfl hb27 (yl_sleq (a := (p_keys.getD k4 d_Str)) (b := (p_keys.getD ((IntKind.wrap .i64 ((k4 : Int) - 1)).toNat) d_Str)) rfl rfl rfl (sy rfl rfl (not_t hb26) (yl_pick_t rfl rfl hb27 rfl (sd rfl (yl_pick_f rfl rfl (not_t hb26) rfl (SeqR.done (tn (bcase (sLe (p_keys.getD k4 d_Str) (p_keys.getD ((IntKind.wrap .i64 ((k4 : Int) - 1)).toNat) d_Str)) (fun hb30 => ?_) (fun hb30 => ?_)))))))))))))
     ·refine CW.cond_t rfl hb30 (CW.seq (CW.region (sd rfl (yl_assign rfl rfl (SeqR.done (tn (CW.ret (br (tr ?_)))))))))
      refine tr ?_
      have hB32 : B_i_areRising_0 p_keys k4 () = .ret false := by simp only [B_i_areRising_0, hb26, hb27, hb30, cond_true, cond_false, loopE_done, loopE_ret]
      have hL31 : loopM (B_i_areRising_0 p_keys) (p_keys.length - 0) 0 () = .ret false := hI12.symm.trans (loopM.ret hlt21 hB32)
      refine br (tr (rr rfl (.cons rfl .nil) ?_))
      have hM33 : (i_areRising p_keys) = (false) := by simp only [i_areRising, hb26, hb27, hb30, hL31, cond_true, cond_false, loopE_done, loopE_ret]
      rw [hM33]
      exact ⟨rfl, (Ex.trans hf19 hE25)⟩
     ·refine CW.cond_f rfl hb30 (CW.skip (bn (tn (CW.region (sd rfl (yl_inc rfl rfl rfl (by omega) (sd rfl (yl_move rfl rfl (SeqR.done (tn ?_))))))))))
      have hB35 : B_i_areRising_0 p_keys k4 () = .cont () := by simp only [B_i_areRising_0, hb26, hb27, hb30, cond_true, cond_false, loopE_done, loopE_ret]
      exact ⟨p_keys.length - (k4 + 1), by omega, k4 + 1, rfl, hlt21, (by omega), rfl, rfl, rfl, rfl, q28, (Ex.trans hf19 hE25), (loopM.cont hlt21 hB35).symm.trans hI12⟩
    ·have hb27p := dec_f hb27
     refine sz rfl rfl hb27 (sz rfl rfl hb27 (sz rfl rfl hb27 (sz rfl rfl hb27 (sz rfl rfl hb27 (sz rfl rfl hb27 (sz rfl rfl hb27 (sy rfl rfl (not_t hb26) (yl_pick_f rfl rfl hb27 rfl (sd rfl (yl_pick_f rfl rfl (not_t hb26) rfl ?_))))))))))
     refine SeqR.done (tn (CW.cond_f rfl rfl (CW.skip (bn (tn (CW.region (sd rfl (yl_inc rfl rfl rfl (by omega) (sd rfl (yl_move rfl rfl ?_))))))))))
     refine SeqR.done (tn ?_)
     have hB37 : B_i_areRising_0 p_keys k4 () = .cont () := by simp only [B_i_areRising_0, hb26, hb27, cond_true, cond_false, loopE_done, loopE_ret]
     exact ⟨p_keys.length - (k4 + 1), by omega, k4 + 1, rfl, hlt21, (by omega), rfl, rfl, rfl, rfl, (RdS.ex good_Str hf18 hE25), (Ex.trans hf19 hE25), (loopM.cont hlt21 hB37).symm.trans hI12⟩
   ·refine sz rfl rfl (not_f hb26) (sz rfl rfl (not_f hb26) (sz rfl rfl (not_f hb26) (sq rfl rfl (sq rfl rfl (sq rfl rfl (sq rfl rfl (sq rfl rfl (sq rfl rfl ?_))))))))
    refine sq rfl rfl (sz rfl rfl (not_f hb26) (sd rfl (yl_pick_t rfl rfl (not_f hb26) rfl (SeqR.done (tn (CW.cond_t rfl rfl (CW.seq (CW.region (sd rfl (yl_assign rfl rfl ?_))))))))))
    refine SeqR.done (tn (CW.ret (br (tr (tr ?_)))))
    have hB41 : B_i_areRising_0 p_keys k4 () = .ret false := by simp only [B_i_areRising_0, hb26, cond_true, cond_false, loopE_done, loopE_ret]
    have hL40 : loopM (B_i_areRising_0 p_keys) (p_keys.length - 0) 0 () = .ret false := hI12.symm.trans (loopM.ret hlt21 hB41)
    refine br (tr (rr rfl (.cons rfl .nil) ?_))
    have hM42 : (i_areRising p_keys) = (false) := by simp only [i_areRising, hb26, hL40, cond_true, cond_false, loopE_done, loopE_ret]
    rw [hM42]
    exact ⟨rfl, (Ex.trans hf19 hE25)⟩
  ·refine CW.seq (CW.region (sd rfl (yl_lss rfl rfl rfl (SeqR.done (tn (CW.seq (CW.cond_f rfl (lt_f hlt21) (CW.exit (tx ?_)))))))))
   refine tx ?_
   have hL44 : loopM (B_i_areRising_0 p_keys) (p_keys.length - 0) 0 () = .done () := hI12.symm.trans (loopM.stop hlt21)
   refine bx (tn (CW.seq (CW.region (sd rfl (yl_assign rfl rfl (SeqR.done (tn (CW.ret (rr rfl (.cons rfl .nil) ?_)))))))))
   have hM45 : (i_areRising p_keys) = (true) := by simp only [i_areRising, hL44, cond_true, cond_false, loopE_done, loopE_ret]
   rw [hM45]
   exact ⟨rfl, hf19⟩
set_option maxRecDepth 100000 in
set_option maxHeartbeats 2000000 in
theorem c_i_writeKeys {A1 : Option Addr} {c1 : Nat} {w : World} (p_l : List DWrite) (h1 : RdS w (Iv 0 w.heap.size) (RF e_Write) 3 A1 p_l.length c1 p_l) (o2 : (okL ok_Write) p_l) : Cal Try.prog 208 #[.slice A1 p_l.length c1] w fun v w' => ∃ A_1 c_1 lo_1 hi_1, v = .slice A_1 ((i_writeKeys p_l).length) c_1 ∧ OwnL w' lo_1 hi_1 9 1 (RF e_Str) A_1 ((i_writeKeys p_l).length) c_1 (i_writeKeys p_l) ∧ (okL okS) (i_writeKeys p_l) ∧ (w.heap.size ≤ lo_1 ∧ lo_1 ≤ hi_1 ∧ hi_1 ≤ w'.heap.size) ∧ Ex w w' := by
 have hol3 := o2.1
 refine Cal.of (vs := [.slice A1 p_l.length c1]) Try.func208 rfl Try.ntmps208 rfl (CW.seq (CW.region (sd rfl (yl_assign rfl rfl (SeqR.done (tn (CW.seq (CW.region (sd rfl (yl_buildSlice (cs := []) Try.un22 Try.ty9 (by decide) rfl opvs_nil (by kernel_rfl) ?_))))))))))
 intro b4 w5 hs6 hz7 hB8 hE9
 have hO10 : OwnL w5 b4 (b4 + 1) 9 1 (RF e_Str) (some ⟨b4, 0, none⟩) 0 0 ([] : List Str) := OwnL.of_box (S := fun _ => False) hB8 (Nat.le_refl _) (Nat.lt_succ_self _) EncL.nil (Nat.le_of_ble_eq_true rfl) (fun h => h) (fun _ h => False.elim h)
 refine sd rfl (yl_assign rfl rfl (SeqR.done (tn (CW.seq (CW.seq (CW.region (sd rfl (yl_move rfl rfl (sd rfl (yl_len Try.un80 rfl rfl (sd rfl (yl_move rfl rfl ?_))))))))))))
 refine SeqR.done (tn (CW.block (CW.loop (fun m65 L66 w67 => ∃ (k11 : Nat) (x61 : List Str) (A62 : Option Addr) (c63 : Nat) (u64 : Nat), m65 = p_l.length - k11 ∧ k11 ≤ p_l.length ∧ w5.heap.size ≤ w67.heap.size ∧ lkp L66 3 = some (.slice A62 x61.length c63) ∧ lkp L66 7 = some (.slice A1 p_l.length c1) ∧ lkp L66 8 = some (.int .i64 ((p_l.length : Int))) ∧ lkp L66 9 = some (.int .i64 ((k11 : Int))) ∧ OwnL w67 b4 u64 9 1 (RF e_Str) A62 x61.length c63 x61 ∧ RdS w67 (Iv 0 w.heap.size) (RF e_Write) 3 A1 p_l.length c1 p_l ∧ Ex w w67 ∧ (b4 ≤ u64 ∧ u64 ≤ w67.heap.size) ∧ x61.length ≤ 0 + 1 * (k11 - 0) ∧ (∀ y ∈ x61, okS y) ∧ loopM (B_i_writeKeys_0 p_l) (p_l.length - k11) k11 (x61) = loopM (B_i_writeKeys_0 p_l) (p_l.length - 0) 0 (([] : List Str))) (p_l.length - 0) ?_ ?_)))
 ·exact ⟨0, ([] : List Str), (some ⟨b4, 0, none⟩), 0, (b4 + 1), rfl, (by omega), Nat.le_refl _, rfl, rfl, rfl, rfl, hO10, (RdS.ex good_Write h1 hE9), (Ex.trans (Ex.refl w) hE9), (by omega), (by first | (simp; done) | (first | omega | (simp only [List.length_append, List.length_cons, List.length_nil, List.length_set, toS_length]; omega))), okE.nil, rfl⟩
 ·rintro m70 L71 w72 ⟨k11, x61, A62, c63, u64, rfl, hk73, hsz75, hl76, hl77, hl78, hl79, hf80, hf81, hf82, hu83, hln84, hok85, hI74⟩
  refine CW.sub (Sub.cons hl76 (Sub.cons hl77 (Sub.cons hl78 (Sub.cons hl79 (Sub.nil _))))) ?_
  have hf82z := Ex.size hf82
  have hbg86 := RdS.big hf81
  rcases Nat.lt_or_ge k11 p_l.length with hlt87 | hlt87
  ·refine CW.seq (CW.region (sd rfl (yl_lss rfl rfl rfl (SeqR.done (tn (CW.seq (CW.cond_t rfl (lt_t hlt87) (CW.skip (tn ?_)))))))))
   refine CW.seq (CW.block (CW.seq (CW.region ?_)))
   obtain ⟨eb88, eo88, ec88, eA88, eS88, ebl88, el88, eR88, eC88⟩ := RdS.atD hf81 d_Write (i := k11) (by first | omega | assumption)
   obtain rfl := eR88
   have eC88 : Cells w72 eb88 (eo88 + k11 * 3) [.string (bs ((p_l.getD k11 d_Write).Key)), .string (bs ((p_l.getD k11 d_Write).Val)), .bool ((p_l.getD k11 d_Write).Gone)] := eC88
   refine sd rfl (yl_indexAddrN Try.un80 Try.ty144 rfl rfl rfl eA88 (by first | omega | assumption | (simp only [IntKind.wrap_i64] at *; omega)) (sd rfl (yl_loadN (cs := [.string (bs ((p_l.getD k11 d_Write).Key)), .string (bs ((p_l.getD k11 d_Write).Val)), .bool ((p_l.getD k11 d_Write).Gone)]) Try.ty144 rfl rfl eC88 rfl (sd rfl (yl_alloc Try.ty144 (cs := [.string (bs (([] : Str))), .string (bs (([] : Str))), .bool (false)]) rfl rfl ?_)))))
   intro b89 w90 hs91 hz92 hB93 hE94
   refine SeqR.u rfl rfl (yl_store (vs := [.string (bs ((p_l.getD k11 d_Write).Key)), .string (bs ((p_l.getD k11 d_Write).Val)), .bool ((p_l.getD k11 d_Write).Gone)]) Try.ty144 rfl rfl rfl rfl rfl rfl hB93 (Nat.le_of_ble_eq_true rfl) ?_)
   intro w95 hB96 hO97
   have hB96 : Box w95 b89 144 [.string (bs ((p_l.getD k11 d_Write).Key)), .string (bs ((p_l.getD k11 d_Write).Val)), .bool ((p_l.getD k11 d_Write).Gone)] := hB96
   have hO97z := hO97.size
   refine SeqR.done (tn (CW.region (sd rfl (yl_move rfl rfl (sd rfl (yl_fieldAddr Try.fd144_0 rfl rfl (sd rfl (yl_load1 Try.ty9 rfl rfl ((hB96.cell 0).trans rfl) (sd rfl (yl_buildSlice (cs := [.string (bs ((p_l.getD k11 d_Write).Key))]) Try.un22 Try.ty9 (by decide) rfl (opvs_cons rfl opvs_nil) (by kernel_rfl) ?_))))))))))
   intro b98 w99 hs100 hz101 hB102 hE103
   have hO104 : OwnL w99 b98 (b98 + 1) 9 1 (RF e_Str) (some ⟨b98, 0, none⟩) 1 1 ([(p_l.getD k11 d_Write).Key] : List Str) := OwnL.of_box (S := fun _ => False) hB102 (Nat.le_refl _) (Nat.lt_succ_self _) (EncL.cons (c := [.string (bs ((p_l.getD k11 d_Write).Key))]) rfl rfl EncL.nil) (Nat.le_of_ble_eq_true rfl) (fun h => h) (fun _ h => False.elim h)
   refine sd rfl (yl_appendL (S := (fun _ => False)) (lo := b4) (hi := u64) (xs := x61) (ys := ([(p_l.getD k11 d_Write).Key] : List Str)) good_Str Try.un22 Try.ty9 rfl (Nat.le_of_ble_eq_true rfl) rfl rfl rfl (OwnL.ex good_Str (OwnL.only good_Str (OwnL.ex good_Str hf80 hE94) hO97 (by omega)) hE103) (EncL.cons (c := [.string (bs ((p_l.getD k11 d_Write).Key))]) rfl rfl EncL.nil) (Or.inr ⟨_, _, rfl, rfl, hB102.cells (o := 0) (n := 1) rfl⟩) rfl (by first | omega | (simp only [List.length_append, List.length_cons, List.length_nil, List.length_take, List.length_drop, List.length_replicate, List.length_set, toS_length]; omega)) (by first | omega | (simp only [List.length_append, List.length_cons, List.length_nil, List.length_take, List.length_drop, List.length_replicate, List.length_set, toS_length]; omega)) (by omega) (by omega) (fun _ h _ => False.elim h) (by omega) ?_)
   intro A108 c109 w110 row111 hO112 hG113 hrg114
   have hG113z := hG113.size
   refine sd rfl (yl_assign rfl rfl (SeqR.done (bn (tn (CW.region (sd rfl (yl_inc rfl rfl rfl (by omega) (sd rfl (yl_move rfl rfl (SeqR.done (tn ?_)))))))))))
   have hB115 : B_i_writeKeys_0 p_l k11 (x61) = .cont ((x61 ++ ([(p_l.getD k11 d_Write).Key] : List Str))) := by simp only [B_i_writeKeys_0, cond_true, cond_false, loopE_done, loopE_ret]
   exact ⟨p_l.length - (k11 + 1), by omega, k11 + 1, (x61 ++ ([(p_l.getD k11 d_Write).Key] : List Str)), A108, c109, w110.heap.size, rfl, hlt87, (by omega), rfl, rfl, rfl, rfl, hO112, (RdS.grown good_Write (RdS.ex good_Write (RdS.only good_Write (RdS.ex good_Write hf81 hE94) hO97 (by simp only [Iv]; omega)) hE103) hG113 (fun k hk => by have := hrg114 k hk; simp only [Iv]; omega)), (Below.grown (Ex.trans (Below.only (Ex.trans hf82 hE94) hO97 (by omega)) hE103) hG113 (by omega) (fun k hk => by have := hrg114 k hk; omega)), (by omega), (by first | omega | (simp only [List.length_append, List.length_cons, List.length_nil, List.length_set, toS_length]; omega)), (okE.append hok85 ((okL.mk (Nat.le_of_ble_eq_true rfl) (okE.cons (okL.getD o2 ok_d_Write _).1 okE.nil))).2), (loopM.cont hlt87 hB115).symm.trans hI74⟩
  ·refine CW.seq (CW.region (sd rfl (yl_lss rfl rfl rfl (SeqR.done (tn (CW.seq (CW.cond_f rfl (lt_f hlt87) (CW.exit (tx ?_)))))))))
   refine tx ?_
   have hL124 : loopM (B_i_writeKeys_0 p_l) (p_l.length - 0) 0 (([] : List Str)) = .done (x61) := hI74.symm.trans (loopM.stop hlt87)
   refine bx (tn (CW.seq (CW.region (sd rfl (yl_move rfl rfl (sd rfl (yl_assign rfl rfl (SeqR.done (tn (CW.ret ?_))))))))))
   refine rr rfl (.cons rfl .nil) ?_
   have hM125 : (i_writeKeys p_l) = (x61) := by simp only [i_writeKeys, hL124, cond_true, cond_false, loopE_done, loopE_ret]
   rw [hM125]
   exact ⟨A62, c63, b4, u64, rfl, hf80, (okL.mk (xs := x61) (by first | omega | (simp only [List.length_append, List.length_cons, List.length_nil, List.length_take, List.length_drop, List.length_replicate, List.length_set, toS_length]; omega)) hok85), (by omega), hf82⟩
set_option maxRecDepth 100000 in
set_option maxHeartbeats 2000000 in
theorem c_i_GoodVal {w : World} (p_s : Str) (o1 : okS p_s) : Cal Try.prog 217 #[.string (bs (p_s))] w fun v w' => v = .bool ((i_GoodVal p_s)) ∧ Ex w w' := by
 have hol2 : p_s.length ≤ 1073741824 := o1
 refine Cal.of (vs := [.string (bs (p_s))]) Try.func217 rfl Try.ntmps217 rfl (CW.seq (CW.region (sd rfl (yl_assign rfl rfl (SeqR.done (tn (CW.seq (CW.region (sd rfl (yl_move rfl rfl ?_))))))))))
 refine sd rfl (yl_slen Try.un9 (a := p_s) rfl rfl (sd rfl (yl_leq rfl rfl rfl (sd rfl (yl_move rfl rfl (bcase (decide ((p_s.length : Int) ≤ 24)) (fun hb3 => ?_) (fun hb3 => ?_)))))))
 ·have hb3p := dec_t hb3
  refine sy rfl rfl hb3 (yl_move rfl rfl (sy rfl rfl hb3 (yl_call Try.en190 rfl (opvs_cons rfl (opvs_cons rfl opvs_nil)) (Cal.mono (c_i_hasBytes p_s ([46, 45, 44, 95] : Str) o1 (okS.lit rfl)) ?_))))
  rintro v5 w4 ⟨rfl, hE6⟩
  have hE6z := Ex.size hE6
  refine sd rfl (yl_pick_t rfl rfl hb3 rfl (sd rfl (yl_assign rfl rfl (SeqR.done (tn (CW.ret (rr rfl (.cons rfl .nil) ?_)))))))
  have hM7 : (i_GoodVal p_s) = ((i_hasBytes p_s ([46, 45, 44, 95] : Str))) := by simp only [i_GoodVal, hb3, cond_true, cond_false, loopE_done, loopE_ret]
  rw [hM7]
  exact ⟨rfl, (Ex.trans (Ex.refl w) hE6)⟩
 ·have hb3p := dec_f hb3
  refine sz rfl rfl hb3 (sz rfl rfl hb3 (sd rfl (yl_pick_f rfl rfl hb3 rfl (sd rfl (yl_assign rfl rfl (SeqR.done (tn (CW.ret (rr rfl (.cons rfl .nil) ?_)))))))))
  have hM9 : (i_GoodVal p_s) = (false) := by simp only [i_GoodVal, hb3, cond_true, cond_false, loopE_done, loopE_ret]
  rw [hM9]
  exact ⟨rfl, (Ex.refl w)⟩
set_option maxRecDepth 100000 in
set_option maxHeartbeats 2000000 in
theorem c_i_isStored {w : World} (p_val : Str) (p_gone : Bool) (o1 : okS p_val) : Cal Try.prog 199 #[.string (bs (p_val)), .bool (p_gone)] w fun v w' => v = .bool ((i_isStored p_val p_gone)) ∧ Ex w w' := by
 have hol2 : p_val.length ≤ 1073741824 := o1
 refine Cal.of (vs := [.string (bs (p_val)), .bool (p_gone)]) Try.func199 rfl Try.ntmps199 rfl (CW.seq (CW.region (sd rfl (yl_assign rfl rfl (SeqR.done (tn (CW.seq (CW.region (sd rfl (yl_move rfl rfl ?_))))))))))
 refine sd rfl (yl_call Try.en217 rfl (opvs_cons rfl opvs_nil) (Cal.mono (c_i_GoodVal p_val o1) ?_))
 rintro v4 w3 ⟨rfl, hE5⟩
 have hE5z := Ex.size hE5
 refine sd rfl (yl_move rfl rfl (bcase (i_GoodVal p_val) (fun hb6 => ?_) (fun hb6 => ?_)))
 ·refine sy rfl rfl hb6 (yl_move rfl rfl (sy rfl rfl hb6 (yl_move rfl rfl (bcase (p_gone) (fun hb7 => ?_) (fun hb7 => ?_)))))
  ·refine sy rfl rfl hb7 (yl_move rfl rfl (sy rfl rfl hb7 (yl_sneq (a := p_val) (b := ([] : Str)) rfl rfl rfl (sy rfl rfl hb6 (yl_pick_t rfl rfl hb7 rfl (sy rfl rfl hb6 (yl_not rfl rfl (sd rfl (yl_pick_t rfl rfl hb6 rfl (sd rfl (yl_assign rfl rfl (SeqR.done (tn (CW.ret ?_))))))))))))))
   refine rr rfl (.cons rfl .nil) ?_
   have hM8 : (i_isStored p_val p_gone) = (!(!(p_val == ([] : Str)))) := by simp only [i_isStored, hb6, hb7, cond_true, cond_false, loopE_done, loopE_ret]
   rw [hM8]
   exact ⟨rfl, (Ex.trans (Ex.refl w) hE5)⟩
  ·refine sz rfl rfl hb7 (sz rfl rfl hb7 (sy rfl rfl hb6 (yl_pick_f rfl rfl hb7 rfl (sy rfl rfl hb6 (yl_not rfl rfl (sd rfl (yl_pick_t rfl rfl hb6 rfl (sd rfl (yl_assign rfl rfl (SeqR.done (tn (CW.ret ?_))))))))))))
   refine rr rfl (.cons rfl .nil) ?_
   have hM10 : (i_isStored p_val p_gone) = (!false) := by simp only [i_isStored, hb6, hb7, cond_true, cond_false, loopE_done, loopE_ret]
   rw [hM10]
   exact ⟨rfl, (Ex.trans (Ex.refl w) hE5)⟩
 ·refine sz rfl rfl hb6 (sz rfl rfl hb6 (sq rfl rfl (sq rfl rfl (sz rfl rfl hb6 (sz rfl rfl hb6 (sd rfl (yl_pick_f rfl rfl hb6 rfl (sd rfl (yl_assign rfl rfl (SeqR.done ?_))))))))))
  refine tn (CW.ret (rr rfl (.cons rfl .nil) ?_))
  have hM12 : (i_isStored p_val p_gone) = (false) := by simp only [i_isStored, hb6, cond_true, cond_false, loopE_done, loopE_ret]
  rw [hM12]
  exact ⟨rfl, (Ex.trans (Ex.refl w) hE5)⟩
set_option maxRecDepth 100000 in
set_option maxHeartbeats 2000000 in
theorem c_i_GoodWrites_c1 {w : World} (p_w : DWrite) (o1 : ok_Write p_w) : Cal Try.prog 209 #[.agg #[.string (bs (p_w.Key)), .string (bs (p_w.Val)), .bool (p_w.Gone)]] w fun v w' => v = .bool ((i_GoodWrites_c1 p_w)) ∧ Ex w w' := by
 have hol2 : p_w.Key.length ≤ 1073741824 := o1.1
 have hol3 : p_w.Val.length ≤ 1073741824 := o1.2
 refine Cal.of (vs := [.agg #[.string (bs (p_w.Key)), .string (bs (p_w.Val)), .bool (p_w.Gone)]]) Try.func209 rfl Try.ntmps209 rfl (CW.seq (CW.region (sd rfl (yl_box (cs := [.string (bs (p_w.Key)), .string (bs (p_w.Val)), .bool (p_w.Gone)]) rfl rfl rfl ?_))))
 intro b4 w5 hs6 hz7 hB8 hE9
 refine sd rfl (yl_assign rfl rfl (SeqR.done (tn (CW.seq (CW.region (sd rfl (yl_fieldAddr Try.fd144_1 rfl rfl (sd rfl (yl_load1 Try.ty9 rfl rfl ((hB8.cell 1).trans rfl) (sd rfl (yl_fieldAddr Try.fd144_2 rfl rfl (sd rfl (yl_load1 Try.ty4 rfl rfl ((hB8.cell 2).trans rfl) ?_)))))))))))))
 refine sd rfl (yl_call Try.en199 rfl (opvs_cons rfl (opvs_cons rfl opvs_nil)) (Cal.mono (c_i_isStored p_w.Val p_w.Gone o1.2) ?_))
 rintro v11 w10 ⟨rfl, hE12⟩
 have hE12z := Ex.size hE12
 refine sd rfl (yl_not rfl rfl (sd rfl (yl_assign rfl rfl (SeqR.done (tn (CW.ret (rr rfl (.cons rfl .nil) ?_)))))))
 have hM13 : (i_GoodWrites_c1 p_w) = (!(i_isStored p_w.Val p_w.Gone)) := by simp only [i_GoodWrites_c1, cond_true, cond_false, loopE_done, loopE_ret]
 rw [hM13]
 exact ⟨rfl, (Ex.trans (Ex.trans (Ex.refl w) hE9) hE12)⟩
set_option maxRecDepth 100000 in
set_option maxHeartbeats 2000000 in
theorem c_i_GoodWrites {A1 : Option Addr} {c1 : Nat} {w : World} (p_l : List DWrite) (h1 : RdS w (Iv 0 w.heap.size) (RF e_Write) 3 A1 p_l.length c1 p_l) (o2 : (okL ok_Write) p_l) : Cal Try.prog 180 #[.slice A1 p_l.length c1] w fun v w' => v = .bool ((i_GoodWrites p_l)) ∧ Ex w w' := by
 have hol3 := o2.1
 refine Cal.of (vs := [.slice A1 p_l.length c1]) Try.func180 rfl Try.ntmps180 rfl (CW.seq (CW.region (sd rfl (yl_assign rfl rfl (SeqR.done (tn (CW.seq (CW.region (sd rfl (yl_move rfl rfl ?_))))))))))
 refine sd rfl (yl_len Try.un80 rfl rfl (sd rfl (yl_leq rfl rfl rfl (sd rfl (yl_move rfl rfl (bcase (decide ((p_l.length : Int) ≤ 24)) (fun hb4 => ?_) (fun hb4 => ?_)))))))
 ·have hb4p := dec_t hb4
  refine sy rfl rfl hb4 (yl_move rfl rfl (sy rfl rfl hb4 (yl_call Try.en208 rfl (opvs_cons rfl opvs_nil) (Cal.mono (c_i_writeKeys p_l (RdS.up h1 good_Write) o2) ?_))))
  rintro v8 w5 ⟨A6, c6, lo6, hi6, rfl, h6, ho7, hrn10, hE9⟩
  have hE9z := Ex.size hE9
  refine sy rfl rfl hb4 (yl_call Try.en207 rfl (opvs_cons rfl opvs_nil) (Cal.mono (c_i_areRising (i_writeKeys p_l) (RdS.up (OwnL.rd good_Str h6) good_Str) ho7) ?_))
  rintro v13 w12 ⟨rfl, hE14⟩
  have hE14z := Ex.size hE14
  refine sd rfl (yl_pick_t rfl rfl hb4 rfl (sd rfl (yl_move rfl rfl (bcase (i_areRising (i_writeKeys p_l)) (fun hb15 => ?_) (fun hb15 => ?_)))))
  ·refine sy rfl rfl hb15 (yl_move rfl rfl (sy rfl rfl hb15 (yl_call Try.en181 rfl (opvs_cons rfl (opvs_cons rfl opvs_nil)) (Cal.mono (c_g_slices_ContainsFunc_Write p_l (fun y0 => i_GoodWrites_c1 y0) (RdS.up (RdS.ex good_Write (RdS.ex good_Write h1 hE9) hE14) good_Write) Try.en209 (fun _ y0 => fun hE hm0 ov0 => c_i_GoodWrites_c1 y0 ov0) o2) ?_))))
   rintro v19 w18 ⟨rfl, hE20⟩
   have hE20z := Ex.size hE20
   refine sy rfl rfl hb15 (yl_not rfl rfl (sd rfl (yl_pick_t rfl rfl hb15 rfl (sd rfl (yl_assign rfl rfl (SeqR.done (tn (CW.ret (rr rfl (.cons rfl .nil) ?_)))))))))
   have hM21 : (i_GoodWrites p_l) = (!(g_slices_ContainsFunc_Write p_l (fun y0 => i_GoodWrites_c1 y0))) := by simp only [i_GoodWrites, hb4, hb15, cond_true, cond_false, loopE_done, loopE_ret]
   rw [hM21]
   exact ⟨rfl, (Ex.trans (Ex.trans (Ex.trans (Ex.refl w) hE9) hE14) hE20)⟩
  ·refine sz rfl rfl hb15 (sz rfl rfl hb15 (sz rfl rfl hb15 (sd rfl (yl_pick_f rfl rfl hb15 rfl (sd rfl (yl_assign rfl rfl (SeqR.done (tn (CW.ret (rr rfl (.cons rfl .nil) ?_))))))))))
   have hM25 : (i_GoodWrites p_l) = (false) := by simp only [i_GoodWrites, hb4, hb15, cond_true, cond_false, loopE_done, loopE_ret]
   rw [hM25]
   exact ⟨rfl, (Ex.trans (Ex.trans (Ex.refl w) hE9) hE14)⟩
 ·have hb4p := dec_f hb4
  refine sz rfl rfl hb4 (sz rfl rfl hb4 (sz rfl rfl hb4 (sd rfl (yl_pick_f rfl rfl hb4 rfl (sd rfl (yl_move rfl rfl (sz rfl rfl rfl (sz rfl rfl rfl (sz rfl rfl rfl (sd rfl (yl_pick_f rfl rfl rfl rfl ?_)))))))))))
  refine sd rfl (yl_assign rfl rfl (SeqR.done (tn (CW.ret (rr rfl (.cons rfl .nil) ?_)))))
  have hM28 : (i_GoodWrites p_l) = (false) := by simp only [i_GoodWrites, hb4, cond_true, cond_false, loopE_done, loopE_ret]
  rw [hM28]
  exact ⟨rfl, (Ex.refl w)⟩
set_option maxRecDepth 100000 in
set_option maxHeartbeats 2000000 in
theorem c_i_isRows_c1 {w : World} (p_w : DWrite) (o1 : ok_Write p_w) : Cal Try.prog 182 #[.agg #[.string (bs (p_w.Key)), .string (bs (p_w.Val)), .bool (p_w.Gone)]] w fun v w' => v = .bool ((i_isRows_c1 p_w)) ∧ Ex w w' := by
 have hol2 : p_w.Key.length ≤ 1073741824 := o1.1
 have hol3 : p_w.Val.length ≤ 1073741824 := o1.2
 refine Cal.of (vs := [.agg #[.string (bs (p_w.Key)), .string (bs (p_w.Val)), .bool (p_w.Gone)]]) Try.func182 rfl Try.ntmps182 rfl (CW.seq (CW.region (sd rfl (yl_box (cs := [.string (bs (p_w.Key)), .string (bs (p_w.Val)), .bool (p_w.Gone)]) rfl rfl rfl ?_))))
 intro b4 w5 hs6 hz7 hB8 hE9
 refine sd rfl (yl_assign rfl rfl (SeqR.done (tn (CW.seq (CW.region (sd rfl (yl_fieldAddr Try.fd144_2 rfl rfl (sd rfl (yl_load1 Try.ty4 rfl rfl ((hB8.cell 2).trans rfl) (sd rfl (yl_assign rfl rfl (SeqR.done ?_))))))))))))
 refine tn (CW.ret (rr rfl (.cons rfl .nil) ?_))
 have hM10 : (i_isRows_c1 p_w) = (p_w.Gone) := by simp only [i_isRows_c1, cond_true, cond_false, loopE_done, loopE_ret]
 rw [hM10]
 exact ⟨rfl, (Ex.trans (Ex.refl w) hE9)⟩
set_option maxRecDepth 100000 in
set_option maxHeartbeats 2000000 in
theorem c_i_isRows {A1 : Option Addr} {c1 : Nat} {w : World} (p_rows : List DWrite) (h1 : RdS w (Iv 0 w.heap.size) (RF e_Write) 3 A1 p_rows.length c1 p_rows) (o2 : (okL ok_Write) p_rows) : Cal Try.prog 130 #[.slice A1 p_rows.length c1] w fun v w' => v = .bool ((i_isRows p_rows)) ∧ Ex w w' := by
 have hol3 := o2.1
 refine Cal.of (vs := [.slice A1 p_rows.length c1]) Try.func130 rfl Try.ntmps130 rfl (CW.seq (CW.region (sd rfl (yl_assign rfl rfl (SeqR.done (tn (CW.seq (CW.region (sd rfl (yl_move rfl rfl ?_))))))))))
 refine sd rfl (yl_call Try.en180 rfl (opvs_cons rfl opvs_nil) (Cal.mono (c_i_GoodWrites p_rows (RdS.up h1 good_Write) o2) ?_))
 rintro v5 w4 ⟨rfl, hE6⟩
 have hE6z := Ex.size hE6
 refine sd rfl (yl_move rfl rfl (bcase (i_GoodWrites p_rows) (fun hb7 => ?_) (fun hb7 => ?_)))
 ·refine sy rfl rfl hb7 (yl_move rfl rfl (sy rfl rfl hb7 (yl_call Try.en181 rfl (opvs_cons rfl (opvs_cons rfl opvs_nil)) (Cal.mono (c_g_slices_ContainsFunc_Write p_rows (fun y0 => i_isRows_c1 y0) (RdS.up (RdS.ex good_Write h1 hE6) good_Write) Try.en182 (fun _ y0 => fun hE hm0 ov0 => c_i_isRows_c1 y0 ov0) o2) ?_))))
  rintro v10 w9 ⟨rfl, hE11⟩
  have hE11z := Ex.size hE11
  refine sy rfl rfl hb7 (yl_not rfl rfl (sd rfl (yl_pick_t rfl rfl hb7 rfl (sd rfl (yl_assign rfl rfl (SeqR.done (tn (CW.ret (rr rfl (.cons rfl .nil) ?_)))))))))
  have hM12 : (i_isRows p_rows) = (!(g_slices_ContainsFunc_Write p_rows (fun y0 => i_isRows_c1 y0))) := by simp only [i_isRows, hb7, cond_true, cond_false, loopE_done, loopE_ret]
  rw [hM12]
  exact ⟨rfl, (Ex.trans (Ex.trans (Ex.refl w) hE6) hE11)⟩
 ·refine sz rfl rfl hb7 (sz rfl rfl hb7 (sz rfl rfl hb7 (sd rfl (yl_pick_f rfl rfl hb7 rfl (sd rfl (yl_assign rfl rfl (SeqR.done (tn (CW.ret (rr rfl (.cons rfl .nil) ?_))))))))))
  have hM15 : (i_isRows p_rows) = (false) := by simp only [i_isRows, hb7, cond_true, cond_false, loopE_done, loopE_ret]
  rw [hM15]
  exact ⟨rfl, (Ex.trans (Ex.refl w) hE6)⟩
set_option maxRecDepth 100000 in
set_option maxHeartbeats 2000000 in
theorem c_i_GoodCopy {A1 : Option Addr} {c1 : Nat} {w : World} (p_c : DCopy) (h1 : RdS w (Iv 0 w.heap.size) (RF e_Write) 3 A1 p_c.Rows.length c1 p_c.Rows) (o2 : ok_Copy p_c) : Cal Try.prog 99 #[.agg #[.int .i64 (p_c.Time), .slice A1 p_c.Rows.length c1]] w fun v w' => v = .bool ((i_GoodCopy p_c)) ∧ Ex w w' := by
 have hol3 := o2.1
 refine Cal.of (vs := [.agg #[.int .i64 (p_c.Time), .slice A1 p_c.Rows.length c1]]) Try.func99 rfl Try.ntmps99 rfl (CW.seq (CW.region (sd rfl (yl_box (cs := [.int .i64 (p_c.Time), .slice A1 p_c.Rows.length c1]) rfl rfl rfl ?_))))
 intro b4 w5 hs6 hz7 hB8 hE9
 refine sd rfl (yl_assign rfl rfl (SeqR.done (tn (CW.seq (CW.region (sd rfl (yl_fieldAddr Try.fd82_0 rfl rfl (sd rfl (yl_load1 Try.ty3 rfl rfl ((hB8.cell 0).trans rfl) (sd rfl (yl_call Try.en81 rfl (opvs_cons rfl opvs_nil) (Cal.mono (c_i_isTrue p_c.Time) ?_))))))))))))
 rintro v11 w10 ⟨rfl, hE12⟩
 have hE12z := Ex.size hE12
 refine sd rfl (yl_move rfl rfl (bcase (i_isTrue p_c.Time) (fun hb13 => ?_) (fun hb13 => ?_)))
 ·refine sy rfl rfl hb13 (yl_fieldAddr Try.fd82_1 rfl rfl ?_)
  have q14 := Box.ex hB8 hE12
  refine sy rfl rfl hb13 (yl_load1 Try.ty80 rfl rfl ((q14.cell 1).trans rfl) (sy rfl rfl hb13 (yl_call Try.en130 rfl (opvs_cons rfl opvs_nil) (Cal.mono (c_i_isRows p_c.Rows (RdS.up (RdS.ex good_Write (RdS.ex good_Write h1 hE9) hE12) good_Write) o2) ?_))))
  rintro v18 w17 ⟨rfl, hE19⟩
  have hE19z := Ex.size hE19
  refine sd rfl (yl_pick_t rfl rfl hb13 rfl (sd rfl (yl_move rfl rfl (bcase (i_isRows p_c.Rows) (fun hb20 => ?_) (fun hb20 => ?_)))))
  ·refine sy rfl rfl hb20 (yl_fieldAddr Try.fd82_0 rfl rfl ?_)
   have q21 := Box.ex q14 hE19
   refine sy rfl rfl hb20 (yl_load1 Try.ty3 rfl rfl ((q21.cell 0).trans rfl) (sy rfl rfl hb20 (yl_gtr rfl rfl rfl (sy rfl rfl hb20 (yl_move rfl rfl (bcase (decide (0 < p_c.Time)) (fun hb22 => ?_) (fun hb22 => ?_)))))))
   ·have hb22p := dec_t hb22
    refine sz rfl rfl hb22 (sz rfl rfl hb22 (sz rfl rfl hb22 (sz rfl rfl hb22 (sy rfl rfl hb20 (yl_pick_t rfl rfl hb22 rfl (sd rfl (yl_pick_t rfl rfl hb20 rfl (sd rfl (yl_assign rfl rfl (SeqR.done (tn ?_)))))))))))
    refine CW.ret (rr rfl (.cons rfl .nil) ?_)
    have hM23 : (i_GoodCopy p_c) = (true) := by simp only [i_GoodCopy, hb13, hb20, hb22, cond_true, cond_false, loopE_done, loopE_ret]
    rw [hM23]
    exact ⟨rfl, (Ex.trans (Ex.trans (Ex.trans (Ex.refl w) hE9) hE12) hE19)⟩
   ·have hb22p := dec_f hb22
    refine sy rfl rfl hb22 (yl_fieldAddr Try.fd82_1 rfl rfl (sy rfl rfl hb22 (yl_load1 Try.ty80 rfl rfl ((q21.cell 1).trans rfl) (sy rfl rfl hb22 (yl_len Try.un80 rfl rfl (sy rfl rfl hb22 (yl_eql rfl rfl rfl (sy rfl rfl hb20 (yl_pick_f rfl rfl hb22 rfl (sd rfl (yl_pick_t rfl rfl hb20 rfl (sd rfl (yl_assign rfl rfl (SeqR.done (tn ?_)))))))))))))))
    refine CW.ret (rr rfl (.cons rfl .nil) ?_)
    have hM27 : (i_GoodCopy p_c) = (decide ((p_c.Rows.length : Int) = 0)) := by simp only [i_GoodCopy, hb13, hb20, hb22, cond_true, cond_false, loopE_done, loopE_ret]
    rw [hM27]
    exact ⟨rfl, (Ex.trans (Ex.trans (Ex.trans (Ex.refl w) hE9) hE12) hE19)⟩
  ·refine sz rfl rfl hb20 (sz rfl rfl hb20 (sz rfl rfl hb20 (sz rfl rfl hb20 (sq rfl rfl (sq rfl rfl (sq rfl rfl (sq rfl rfl (sz rfl rfl hb20 ?_))))))))
   refine sd rfl (yl_pick_f rfl rfl hb20 rfl (sd rfl (yl_assign rfl rfl (SeqR.done (tn (CW.ret (rr rfl (.cons rfl .nil) ?_)))))))
   have hM31 : (i_GoodCopy p_c) = (false) := by simp only [i_GoodCopy, hb13, hb20, cond_true, cond_false, loopE_done, loopE_ret]
   rw [hM31]
   exact ⟨rfl, (Ex.trans (Ex.trans (Ex.trans (Ex.refl w) hE9) hE12) hE19)⟩
 ·refine sz rfl rfl hb13 (sz rfl rfl hb13 (sz rfl rfl hb13 (sd rfl (yl_pick_f rfl rfl hb13 rfl (sd rfl (yl_move rfl rfl (sz rfl rfl rfl (sz rfl rfl rfl (sz rfl rfl rfl (sz rfl rfl rfl ?_))))))))))
  refine sq rfl rfl (sq rfl rfl (sq rfl rfl (sq rfl rfl (sz rfl rfl rfl (sd rfl (yl_pick_f rfl rfl rfl rfl (sd rfl (yl_assign rfl rfl (SeqR.done (tn ?_))))))))))
  refine CW.ret (rr rfl (.cons rfl .nil) ?_)
  have hM35 : (i_GoodCopy p_c) = (false) := by simp only [i_GoodCopy, hb13, cond_true, cond_false, loopE_done, loopE_ret]
  rw [hM35]
  exact ⟨rfl, (Ex.trans (Ex.trans (Ex.refl w) hE9) hE12)⟩
set_option maxRecDepth 100000 in
set_option maxHeartbeats 2000000 in
theorem c_i_numBytes {w : World} (p_n : Int) (pre0 : (0 ≤ p_n ∧ p_n ≤ 1073741824)) : Cal Try.prog 174 #[.int .i64 (p_n)] w fun v w' => v = .string (bs ((i_numBytes p_n))) ∧ Ex w w' := by
 refine Cal.of (vs := [.int .i64 (p_n)]) Try.func174 rfl Try.ntmps174 rfl (CW.seq (CW.region (sd rfl (yl_assign rfl rfl (SeqR.done (tn (CW.seq (CW.region (sd rfl (yl_buildSlice (cs := []) Try.un200 Try.ty5 (by decide) rfl opvs_nil (by kernel_rfl) ?_))))))))))
 intro b1 w2 hs3 hz4 hB5 hE6
 have hO7 : OwnL w2 b1 (b1 + 1) 5 1 (RF e_U8) (some ⟨b1, 0, none⟩) 0 0 ([] : List Int) := OwnL.of_box (S := fun _ => False) hB5 (Nat.le_refl _) (Nat.lt_succ_self _) EncL.nil (Nat.le_of_ble_eq_true rfl) (fun h => h) (fun _ h => False.elim h)
 refine sd rfl (yl_assign rfl rfl (SeqR.done (tn (CW.seq (CW.block (CW.loop (fun m32 L33 w34 => ∃ (x27 : Int) (x28 : List Int) (A29 : Option Addr) (c30 : Nat) (u31 : Nat), ((x27).toNat) < m32 ∧ w2.heap.size ≤ w34.heap.size ∧ lkp L33 0 = some (.int .i64 (x27)) ∧ lkp L33 3 = some (.slice A29 x28.length c30) ∧ OwnL w34 b1 u31 5 1 (RF e_U8) A29 x28.length c30 x28 ∧ Ex w w34 ∧ (b1 ≤ u31 ∧ u31 ≤ w34.heap.size) ∧ x28.length + 1 * ((x27).toNat) ≤ 0 + 1 * ((p_n).toNat) ∧ 0 ≤ x27 ∧ x27 ≤ 1073741824 ∧ loopW (B_i_numBytes_0 p_n) m32 (x27, x28) = loopW (B_i_numBytes_0 p_n) (((p_n).toNat) + 1) (p_n, ([] : List Int))) (((p_n).toNat) + 1) ?_ ?_))))))
 ·exact ⟨p_n, ([] : List Int), (some ⟨b1, 0, none⟩), 0, (b1 + 1), Nat.lt_succ_self _, Nat.le_refl _, rfl, rfl, hO7, (Ex.trans (Ex.refl w) hE6), (by omega), (by first | (simp; done) | (first | omega | (simp only [List.length_append, List.length_cons, List.length_nil, List.length_set, toS_length]; omega))), (by first | omega | assumption | (simp only [IntKind.wrap_i64] at *; omega)), (by first | omega | assumption | (simp only [IntKind.wrap_i64] at *; omega)), rfl⟩
 ·rintro m36 L37 w38 ⟨x27, x28, A29, c30, u31, hk39, hsz41, hl42, hl43, hf44, hf45, hu46, hln47, hv48, hv49, hI40⟩
  refine CW.sub (Sub.cons hl42 (Sub.cons hl43 (Sub.nil _))) ?_
  have hf45z := Ex.size hf45
  refine CW.seq (CW.seq (CW.region (sd rfl (yl_move rfl rfl (sd rfl (yl_geq rfl rfl rfl (SeqR.done (tn (bcase (decide (128 ≤ x27)) (fun hb50 => ?_) (fun hb50 => ?_))))))))))
  ·have hb50p := dec_t hb50
   refine CW.cond_t rfl hb50 (CW.skip (tn (CW.block (CW.seq (CW.region (sd rfl (yl_move rfl rfl (sd rfl (yl_move rfl rfl (sd rfl (yl_rem rfl rfl rfl (by decide) ?_)))))))))))
   refine sd rfl (yl_conv Try.un3 Try.un5 rfl rfl (sd rfl (yl_add rfl rfl rfl (sd rfl (yl_buildSlice (cs := [.int .u8 (IntKind.wrap .u8 ((IntKind.wrap .u8 (Int.tmod x27 128)) + 128))]) Try.un200 Try.ty5 (by decide) rfl (opvs_cons rfl opvs_nil) (by kernel_rfl) ?_)))))
   intro b51 w52 hs53 hz54 hB55 hE56
   have hO57 : OwnL w52 b51 (b51 + 1) 5 1 (RF e_U8) (some ⟨b51, 0, none⟩) 1 1 ([IntKind.wrap .u8 ((IntKind.wrap .u8 (Int.tmod x27 128)) + 128)] : List Int) := OwnL.of_box (S := fun _ => False) hB55 (Nat.le_refl _) (Nat.lt_succ_self _) (EncL.cons (c := [.int .u8 (IntKind.wrap .u8 ((IntKind.wrap .u8 (Int.tmod x27 128)) + 128))]) rfl rfl EncL.nil) (Nat.le_of_ble_eq_true rfl) (fun h => h) (fun _ h => False.elim h)
   refine sd rfl (yl_appendL (S := (fun _ => False)) (lo := b1) (hi := u31) (xs := x28) (ys := ([IntKind.wrap .u8 ((IntKind.wrap .u8 (Int.tmod x27 128)) + 128)] : List Int)) good_U8 Try.un200 Try.ty5 rfl (Nat.le_of_ble_eq_true rfl) rfl rfl rfl (OwnL.ex good_U8 hf44 hE56) (EncL.cons (c := [.int .u8 (IntKind.wrap .u8 ((IntKind.wrap .u8 (Int.tmod x27 128)) + 128))]) rfl rfl EncL.nil) (Or.inr ⟨_, _, rfl, rfl, hB55.cells (o := 0) (n := 1) rfl⟩) rfl (by first | omega | (simp only [List.length_append, List.length_cons, List.length_nil, List.length_take, List.length_drop, List.length_replicate, List.length_set, toS_length]; omega)) (by first | omega | (simp only [List.length_append, List.length_cons, List.length_nil, List.length_take, List.length_drop, List.length_replicate, List.length_set, toS_length]; omega)) (by omega) (by omega) (fun _ h _ => False.elim h) (by omega) ?_)
   intro A59 c60 w61 row62 hO63 hG64 hrg65
   have hG64z := hG64.size
   refine sd rfl (yl_assign rfl rfl (SeqR.done (tn (CW.region (sd rfl (yl_move rfl rfl (sd rfl (yl_quo rfl rfl rfl (by decide) (sd rfl (yl_assign rfl rfl (SeqR.done (bn ?_))))))))))))
   refine tn ?_
   have hB66 : B_i_numBytes_0 p_n (x27, x28) = .cont (IntKind.wrap .i64 (Int.tdiv x27 128), (x28 ++ ([IntKind.wrap .u8 ((IntKind.wrap .u8 (Int.tmod x27 128)) + 128)] : List Int))) := by simp only [B_i_numBytes_0, hb50, cond_true, cond_false, loopE_done, loopE_ret]
   have hmu69 : ((IntKind.wrap .i64 (Int.tdiv x27 128)).toNat) < ((x27).toNat) := by (have hq := wtd (n := x27) (c := 128) (by decide) (by omega) (by omega); omega)
   exact ⟨m36 - 1, by omega, IntKind.wrap .i64 (Int.tdiv x27 128), (x28 ++ ([IntKind.wrap .u8 ((IntKind.wrap .u8 (Int.tmod x27 128)) + 128)] : List Int)), A59, c60, w61.heap.size, (by omega), (by omega), rfl, rfl, hO63, (Below.grown (Ex.trans hf45 hE56) hG64 (by omega) (fun k hk => by have := hrg65 k hk; omega)), (by omega), (by first | omega | (simp only [List.length_append, List.length_cons, List.length_nil, List.length_set, toS_length]; omega)), (by (have hq := wtd (n := x27) (c := 128) (by decide) (by omega) (by omega); omega)), (by (have hq := wtd (n := x27) (c := 128) (by decide) (by omega) (by omega); omega)), (loopW.cont hk39 hB66).symm.trans hI40⟩
  ·have hb50p := dec_f hb50
   refine CW.cond_f rfl hb50 (CW.exit (tx (tx ?_)))
   have hB71 : B_i_numBytes_0 p_n (x27, x28) = .brk (x27, x28) := by simp only [B_i_numBytes_0, hb50, cond_true, cond_false, loopE_done, loopE_ret]
   have hL70 : loopW (B_i_numBytes_0 p_n) (((p_n).toNat) + 1) (p_n, ([] : List Int)) = .done (x27, x28) := hI40.symm.trans (loopW.brk hk39 hB71)
   refine bx (tn (CW.seq (CW.region (sd rfl (yl_move rfl rfl (sd rfl (yl_move rfl rfl (sd rfl (yl_conv Try.un3 Try.un5 rfl rfl (sd rfl (yl_buildSlice (cs := [.int .u8 (IntKind.wrap .u8 x27)]) Try.un200 Try.ty5 (by decide) rfl (opvs_cons rfl opvs_nil) (by kernel_rfl) ?_)))))))))))
   intro b72 w73 hs74 hz75 hB76 hE77
   have hO78 : OwnL w73 b72 (b72 + 1) 5 1 (RF e_U8) (some ⟨b72, 0, none⟩) 1 1 ([IntKind.wrap .u8 x27] : List Int) := OwnL.of_box (S := fun _ => False) hB76 (Nat.le_refl _) (Nat.lt_succ_self _) (EncL.cons (c := [.int .u8 (IntKind.wrap .u8 x27)]) rfl rfl EncL.nil) (Nat.le_of_ble_eq_true rfl) (fun h => h) (fun _ h => False.elim h)
   refine sd rfl (yl_appendL (S := (fun _ => False)) (lo := b1) (hi := u31) (xs := x28) (ys := ([IntKind.wrap .u8 x27] : List Int)) good_U8 Try.un200 Try.ty5 rfl (Nat.le_of_ble_eq_true rfl) rfl rfl rfl (OwnL.ex good_U8 hf44 hE77) (EncL.cons (c := [.int .u8 (IntKind.wrap .u8 x27)]) rfl rfl EncL.nil) (Or.inr ⟨_, _, rfl, rfl, hB76.cells (o := 0) (n := 1) rfl⟩) rfl (by first | omega | (simp only [List.length_append, List.length_cons, List.length_nil, List.length_take, List.length_drop, List.length_replicate, List.length_set, toS_length]; omega)) (by first | omega | (simp only [List.length_append, List.length_cons, List.length_nil, List.length_take, List.length_drop, List.length_replicate, List.length_set, toS_length]; omega)) (by omega) (by omega) (fun _ h _ => False.elim h) (by omega) ?_)
   intro A80 c81 w82 row83 hO84 hG85 hrg86
   have hG85z := hG85.size
   refine sd rfl (yl_toS Try.un200 Try.un5 Try.un9 rfl rfl (OwnL.rd good_U8 hO84) (sd rfl (yl_assign rfl rfl (SeqR.done (tn (CW.ret (rr rfl (.cons rfl .nil) ?_)))))))
   have hM88 : (i_numBytes p_n) = (toS (x28 ++ ([IntKind.wrap .u8 x27] : List Int))) := by simp only [i_numBytes, hb50, hL70, cond_true, cond_false, loopE_done, loopE_ret]
   rw [hM88]
   exact ⟨rfl, (Below.grown (Ex.trans hf45 hE77) hG85 (by omega) (fun k hk => by have := hrg86 k hk; omega))⟩
set_option maxRecDepth 100000 in
set_option maxHeartbeats 2000000 in
theorem c_i_textBytes {w : World} (p_s : Str) (o1 : okS p_s) : Cal Try.prog 175 #[.string (bs (p_s))] w fun v w' => v = .string (bs ((i_textBytes p_s))) ∧ Ex w w' := by
 have hol2 : p_s.length ≤ 1073741824 := o1
 refine Cal.of (vs := [.string (bs (p_s))]) Try.func175 rfl Try.ntmps175 rfl (CW.seq (CW.region (sd rfl (yl_assign rfl rfl (SeqR.done (tn (CW.seq (CW.region (sd rfl (yl_move rfl rfl ?_))))))))))
 refine sd rfl (yl_slen Try.un9 (a := p_s) rfl rfl (sd rfl (yl_call Try.en174 rfl (opvs_cons rfl opvs_nil) (Cal.mono (c_i_numBytes (p_s.length : Int) (by first | omega | assumption | (simp only [IntKind.wrap_i64] at *; omega))) ?_))))
 rintro v4 w3 ⟨rfl, hE5⟩
 have hE5z := Ex.size hE5
 have hrf6 := rf_numBytes (p_s.length : Int) (by first | omega | assumption | (simp only [IntKind.wrap_i64] at *; omega))
 refine sd rfl (yl_move rfl rfl ?_)
 have hol7 : p_s.length ≤ 1073741824 := o1
 refine sd rfl (yl_sadd (a := (i_numBytes (p_s.length : Int))) (b := p_s) rfl rfl rfl (by first | omega | (simp only [List.length_append, List.length_cons, List.length_nil, List.length_take, List.length_drop, toS_length]; omega)) (sd rfl (yl_assign rfl rfl (SeqR.done (tn (CW.ret (rr rfl (.cons rfl .nil) ?_)))))))
 have hM8 : (i_textBytes p_s) = ((i_numBytes (p_s.length : Int)) ++ p_s) := by simp only [i_textBytes, cond_true, cond_false, loopE_done, loopE_ret]
 rw [hM8]
 exact ⟨rfl, (Ex.trans (Ex.refl w) hE5)⟩
set_option maxRecDepth 100000 in
set_option maxHeartbeats 2000000 in
theorem c_i_sumOf {w : World} (p_b : Str) (o1 : okS p_b) : Cal Try.prog 204 #[.string (bs (p_b))] w fun v w' => v = .int .i64 ((i_sumOf p_b)) ∧ Ex w w' := by
 have hol2 : p_b.length ≤ 1073741824 := o1
 refine Cal.of (vs := [.string (bs (p_b))]) Try.func204 rfl Try.ntmps204 rfl (CW.seq (CW.region (sd rfl (yl_assign rfl rfl (SeqR.done (tn (CW.seq (CW.region (sd rfl (yl_assign rfl rfl ?_))))))))))
 refine SeqR.done (tn (CW.seq (CW.seq (CW.region (sd rfl (yl_move rfl rfl (sd rfl (yl_slen Try.un9 (a := p_b) rfl rfl (sd rfl (yl_move rfl rfl (SeqR.done ?_)))))))))))
 refine tn (CW.block (CW.loop (fun m5 L6 w7 => ∃ (k3 : Nat) (x4 : Int), m5 = p_b.length - k3 ∧ k3 ≤ p_b.length ∧ w.heap.size ≤ w7.heap.size ∧ lkp L6 0 = some (.string (bs (p_b))) ∧ lkp L6 3 = some (.int .i64 (x4)) ∧ lkp L6 6 = some (.int .i64 ((p_b.length : Int))) ∧ lkp L6 7 = some (.int .i64 ((k3 : Int))) ∧ Ex w w7 ∧ loopM (B_i_sumOf_0 p_b) (p_b.length - k3) k3 (x4) = loopM (B_i_sumOf_0 p_b) (p_b.length - 0) 0 (7)) (p_b.length - 0) ?_ ?_))
 ·exact ⟨0, 7, rfl, (by omega), Nat.le_refl _, rfl, rfl, rfl, rfl, (Ex.refl w), rfl⟩
 ·rintro m8 L9 w10 ⟨k3, x4, rfl, hk11, hsz13, hl14, hl15, hl16, hl17, hf18, hI12⟩
  refine CW.sub (Sub.cons hl14 (Sub.cons hl15 (Sub.cons hl16 (Sub.cons hl17 (Sub.nil _))))) ?_
  have hf18z := Ex.size hf18
  have hbg19 : p_b.length ≤ 1073741824 := o1
  rcases Nat.lt_or_ge k3 p_b.length with hlt20 | hlt20
  ·refine CW.seq (CW.region (sd rfl (yl_lss rfl rfl rfl (SeqR.done (tn (CW.seq (CW.cond_t rfl (lt_t hlt20) (CW.skip (tn ?_)))))))))
   refine CW.seq (CW.block (CW.seq (CW.region (sd rfl (yl_move rfl rfl (sd rfl (yl_assign rfl rfl (SeqR.done (tn (CW.region ?_))))))))))
   refine sd rfl (yl_move rfl rfl (sd rfl (yl_mul rfl rfl rfl (sd rfl (yl_move rfl rfl (sd rfl (yl_move rfl rfl (sd rfl (yl_sindexN Try.un9 (a := p_b) rfl rfl rfl (by first | omega | assumption | (simp only [IntKind.wrap_i64] at *; omega)) (sd rfl (yl_conv Try.un5 Try.un3 rfl rfl (sd rfl (yl_add rfl rfl rfl (sd rfl (yl_add rfl rfl rfl (sd rfl (yl_rem rfl rfl rfl (by decide) ?_)))))))))))))))))
   refine sd rfl (yl_assign rfl rfl (SeqR.done (bn (tn (CW.region (sd rfl (yl_inc rfl rfl rfl (by omega) (sd rfl (yl_move rfl rfl (SeqR.done (tn ?_)))))))))))
   have hB21 : B_i_sumOf_0 p_b k3 (x4) = .cont (Int.tmod (IntKind.wrap .i64 ((IntKind.wrap .i64 ((IntKind.wrap .i64 (31 * x4)) + (IntKind.wrap .i64 ((p_b.getD k3 0).toNat : Int)))) + 1)) 16000057) := by simp only [B_i_sumOf_0, cond_true, cond_false, loopE_done, loopE_ret]
   exact ⟨p_b.length - (k3 + 1), by omega, k3 + 1, Int.tmod (IntKind.wrap .i64 ((IntKind.wrap .i64 ((IntKind.wrap .i64 (31 * x4)) + (IntKind.wrap .i64 ((p_b.getD k3 0).toNat : Int)))) + 1)) 16000057, rfl, hlt20, (by omega), rfl, rfl, rfl, rfl, hf18, (loopM.cont hlt20 hB21).symm.trans hI12⟩
  ·refine CW.seq (CW.region (sd rfl (yl_lss rfl rfl rfl (SeqR.done (tn (CW.seq (CW.cond_f rfl (lt_f hlt20) (CW.exit (tx ?_)))))))))
   refine tx ?_
   have hL22 : loopM (B_i_sumOf_0 p_b) (p_b.length - 0) 0 (7) = .done (x4) := hI12.symm.trans (loopM.stop hlt20)
   refine bx (tn (CW.seq (CW.region (sd rfl (yl_move rfl rfl (sd rfl (yl_assign rfl rfl (SeqR.done (tn (CW.ret ?_))))))))))
   refine rr rfl (.cons rfl .nil) ?_
   have hM23 : (i_sumOf p_b) = (x4) := by simp only [i_sumOf, hL22, cond_true, cond_false, loopE_done, loopE_ret]
   rw [hM23]
   exact ⟨rfl, hf18⟩
set_option maxRecDepth 100000 in
set_option maxHeartbeats 2000000 in
theorem c_i_seal {w : World} (p_b : Str) (o1 : okS p_b) : Cal Try.prog 176 #[.string (bs (p_b))] w fun v w' => v = .string (bs ((i_seal p_b))) ∧ Ex w w' := by
 have hol2 : p_b.length ≤ 1073741824 := o1
 refine Cal.of (vs := [.string (bs (p_b))]) Try.func176 rfl Try.ntmps176 rfl (CW.seq (CW.region (sd rfl (yl_assign rfl rfl (SeqR.done (tn (CW.seq (CW.region (sd rfl (yl_move rfl rfl ?_))))))))))
 refine sd rfl (yl_call Try.en204 rfl (opvs_cons rfl opvs_nil) (Cal.mono (c_i_sumOf p_b o1) ?_))
 rintro v4 w3 ⟨rfl, hE5⟩
 have hE5z := Ex.size hE5
 refine sd rfl (yl_assign rfl rfl (SeqR.done (tn (CW.seq (CW.region (sd rfl (yl_move rfl rfl (sd rfl (yl_move rfl rfl (sd rfl (yl_shr (q := 65536) rfl rfl rfl (by decide) (by decide) (by decide) (sd rfl (yl_conv Try.un3 Try.un5 rfl rfl ?_)))))))))))))
 refine sd rfl (yl_move rfl rfl (sd rfl (yl_shr (q := 256) rfl rfl rfl (by decide) (by decide) (by decide) (sd rfl (yl_conv Try.un3 Try.un5 rfl rfl (sd rfl (yl_move rfl rfl (sd rfl (yl_conv Try.un3 Try.un5 rfl rfl (sd rfl (yl_buildSlice (cs := [.int .u8 (IntKind.wrap .u8 (Int.fdiv (i_sumOf p_b) 65536)), .int .u8 (IntKind.wrap .u8 (Int.fdiv (i_sumOf p_b) 256)), .int .u8 (IntKind.wrap .u8 (i_sumOf p_b))]) Try.un200 Try.ty5 (by decide) rfl (opvs_cons rfl (opvs_cons rfl (opvs_cons rfl opvs_nil))) (by kernel_rfl) ?_)))))))))))
 intro b6 w7 hs8 hz9 hB10 hE11
 have hO12 : OwnL w7 b6 (b6 + 1) 5 1 (RF e_U8) (some ⟨b6, 0, none⟩) 3 3 ([IntKind.wrap .u8 (Int.fdiv (i_sumOf p_b) 65536), IntKind.wrap .u8 (Int.fdiv (i_sumOf p_b) 256), IntKind.wrap .u8 (i_sumOf p_b)] : List Int) := OwnL.of_box (S := fun _ => False) hB10 (Nat.le_refl _) (Nat.lt_succ_self _) (EncL.cons (c := [.int .u8 (IntKind.wrap .u8 (Int.fdiv (i_sumOf p_b) 65536))]) rfl rfl (EncL.cons (c := [.int .u8 (IntKind.wrap .u8 (Int.fdiv (i_sumOf p_b) 256))]) rfl rfl (EncL.cons (c := [.int .u8 (IntKind.wrap .u8 (i_sumOf p_b))]) rfl rfl EncL.nil))) (Nat.le_of_ble_eq_true rfl) (fun h => h) (fun _ h => False.elim h)
 refine sd rfl (yl_toS Try.un200 Try.un5 Try.un9 rfl rfl (OwnL.rd good_U8 hO12) ?_)
 have hol14 : p_b.length ≤ 1073741824 := o1
 have hol15 : (toS ([IntKind.wrap .u8 (Int.fdiv (i_sumOf p_b) 65536), IntKind.wrap .u8 (Int.fdiv (i_sumOf p_b) 256), IntKind.wrap .u8 (i_sumOf p_b)] : List Int)).length ≤ 1073741824 := (okS_toS (Nat.le_of_ble_eq_true rfl))
 refine sd rfl (yl_sadd (a := p_b) (b := (toS ([IntKind.wrap .u8 (Int.fdiv (i_sumOf p_b) 65536), IntKind.wrap .u8 (Int.fdiv (i_sumOf p_b) 256), IntKind.wrap .u8 (i_sumOf p_b)] : List Int))) rfl rfl rfl (by first | omega | (simp only [List.length_append, List.length_cons, List.length_nil, List.length_take, List.length_drop, toS_length]; omega)) (sd rfl (yl_assign rfl rfl (SeqR.done (tn (CW.ret (rr rfl (.cons rfl .nil) ?_)))))))
 have hM16 : (i_seal p_b) = (p_b ++ (toS ([IntKind.wrap .u8 (Int.fdiv (i_sumOf p_b) 65536), IntKind.wrap .u8 (Int.fdiv (i_sumOf p_b) 256), IntKind.wrap .u8 (i_sumOf p_b)] : List Int))) := by simp only [i_seal, cond_true, cond_false, loopE_done, loopE_ret]
 rw [hM16]
 exact ⟨rfl, (Ex.trans (Ex.trans (Ex.refl w) hE5) hE11)⟩
set_option maxRecDepth 100000 in
set_option maxHeartbeats 2000000 in
theorem c_i_copyBytes {A1 : Option Addr} {c1 : Nat} {w : World} (p_c : DCopy) (h1 : RdS w (Iv 0 w.heap.size) (RF e_Write) 3 A1 p_c.Rows.length c1 p_c.Rows) (o2 : ok_Copy p_c) (pre0 : i_GoodCopy p_c = true) : Cal Try.prog 116 #[.agg #[.int .i64 (p_c.Time), .slice A1 p_c.Rows.length c1]] w fun v w' => v = .string (bs ((i_copyBytes p_c))) ∧ Ex w w' := by
 have hol3 := o2.1
 obtain ⟨hcp1, hcp2⟩ := f_i_GoodCopy pre0
 refine Cal.of (vs := [.agg #[.int .i64 (p_c.Time), .slice A1 p_c.Rows.length c1]]) Try.func116 rfl Try.ntmps116 rfl (CW.seq (CW.region (sd rfl (yl_box (cs := [.int .i64 (p_c.Time), .slice A1 p_c.Rows.length c1]) rfl rfl rfl ?_))))
 intro b4 w5 hs6 hz7 hB8 hE9
 refine sd rfl (yl_assign rfl rfl (SeqR.done (tn (CW.seq ?_))))
 have hrf12 := rf_numBytes p_c.Time (by first | omega | assumption | (simp only [IntKind.wrap_i64] at *; omega))
 have hrf13 := rf_numBytes (p_c.Rows.length : Int) (by first | omega | assumption | (simp only [IntKind.wrap_i64] at *; omega))
 refine CW.drawsI 9 (vgetI [DetI (.pointer (some ⟨b4, 0 + 0, none⟩)), DetI (.int .i64 (p_c.Time)), DetI (.string (bs ((i_numBytes p_c.Time)))), DetI (.pointer (some ⟨b4, 0 + 1, none⟩)), DetI (.slice A1 p_c.Rows.length c1), DetI (.int .i64 ((p_c.Rows.length : Int))), DetI (.string (bs ((i_numBytes (p_c.Rows.length : Int))))), DetI (.string (bs ((i_numBytes p_c.Time) ++ (i_numBytes (p_c.Rows.length : Int))))), DetI (.string (bs ((i_numBytes p_c.Time) ++ (i_numBytes (p_c.Rows.length : Int)))))]) Try.follows rfl rfl rfl rfl rfl rfl (vgetI_stable ⟨StableI.det _, StableI.det _, StableI.det _, StableI.det _, StableI.det _, StableI.det _, StableI.det _, StableI.det _, StableI.det _, trivial⟩) ⟨?_, ?_, ?_, ?_, ?_, ?_, ?_, ?_, ?_, trivial⟩ ?_
 ·exact fun _ _ h => os rfl ((yl_fieldAddr Try.fd82_0 rfl (h.old 1 _ rfl rfl) kI))
 ·exact fun _ _ h => os rfl ((yl_load1 Try.ty3 rfl (h.dt 0 6 rfl rfl rfl) (((Box.ex hB8 h.ex).cell 0).trans rfl) kI))
 ·intro L25 w26 hi27
  have hE28 := hi27.ex
  have hE28z := Ex.size hE28
  refine OpR.op' rfl (yl_call Try.en174 rfl (opvs_cons (hi27.dt 1 7 rfl rfl rfl) opvs_nil) (Cal.mono (c_i_numBytes p_c.Time (by first | omega | assumption | (simp only [IntKind.wrap_i64] at *; omega))) ?_))
  rintro v31 w30 ⟨rfl, hE32⟩
  exact ⟨rfl, hE32⟩
 ·exact fun _ _ h => os rfl ((yl_fieldAddr Try.fd82_1 rfl (h.old 1 _ rfl rfl) kI))
 ·exact fun _ _ h => os rfl ((yl_load1 Try.ty80 rfl (h.dt 3 9 rfl rfl rfl) (((Box.ex hB8 h.ex).cell 1).trans rfl) kI))
 ·exact fun _ _ h => os rfl ((yl_len Try.un80 rfl (h.dt 4 10 rfl rfl rfl) kI))
 ·intro L49 w50 hi51
  have hE52 := hi51.ex
  have hE52z := Ex.size hE52
  refine OpR.op' rfl (yl_call Try.en174 rfl (opvs_cons (hi51.dt 5 11 rfl rfl rfl) opvs_nil) (Cal.mono (c_i_numBytes (p_c.Rows.length : Int) (by first | omega | assumption | (simp only [IntKind.wrap_i64] at *; omega))) ?_))
  rintro v55 w54 ⟨rfl, hE56⟩
  exact ⟨rfl, hE56⟩
 ·intro L57 w58 hi59
  have hE60 := hi59.ex
  have hE60z := Ex.size hE60
  exact os rfl ((yl_sadd (a := (i_numBytes p_c.Time)) (b := (i_numBytes (p_c.Rows.length : Int))) rfl (hi59.dt 2 8 rfl rfl rfl) (hi59.dt 6 12 rfl rfl rfl) (by first | omega | (simp only [List.length_append, List.length_cons, List.length_nil, List.length_take, List.length_drop, toS_length]; omega)) kI))
 ·exact fun _ _ h => os rfl ((yl_assign rfl (h.dt 7 13 rfl rfl rfl) kI))
 ·intro fl71 fh72 L68 w69 hp70
  have hE73 := hp70.ex
  have hE73z := Ex.size hE73
  refine SeqR.done (tn (CW.sub (Sub.cons (d := 1) (hp70.old 1 _ rfl rfl) (Sub.cons (d := 3) (hp70.nt 8 3 rfl rfl rfl) (Sub.nil _))) (CW.seq (CW.seq (CW.region (sd rfl (yl_fieldAddr Try.fd82_1 rfl rfl (sd rfl (yl_load1 Try.ty80 rfl rfl (((Box.ex hB8 hE73).cell 1).trans rfl) (sd rfl (yl_len Try.un80 rfl rfl ?_)))))))))))
  refine sd rfl (yl_move rfl rfl (SeqR.done (tn (CW.block (CW.loop (fun m107 L108 w109 => ∃ (k77 : Nat) (x106 : Str), m107 = p_c.Rows.length - k77 ∧ k77 ≤ p_c.Rows.length ∧ w69.heap.size ≤ w109.heap.size ∧ lkp L108 3 = some (.string (bs (x106))) ∧ lkp L108 15 = some (.slice A1 p_c.Rows.length c1) ∧ lkp L108 16 = some (.int .i64 ((p_c.Rows.length : Int))) ∧ lkp L108 17 = some (.int .i64 ((k77 : Int))) ∧ RdS w109 (Iv 0 w.heap.size) (RF e_Write) 3 A1 p_c.Rows.length c1 p_c.Rows ∧ Ex w w109 ∧ x106.length ≤ (i_numBytes p_c.Time).length + (i_numBytes (p_c.Rows.length : Int)).length + 46 * (k77 - 0) ∧ loopM (B_i_copyBytes_0 p_c) (p_c.Rows.length - k77) k77 (x106) = loopM (B_i_copyBytes_0 p_c) (p_c.Rows.length - 0) 0 ((i_numBytes p_c.Time) ++ (i_numBytes (p_c.Rows.length : Int)))) (p_c.Rows.length - 0) ?_ ?_)))))
  ·exact ⟨0, (i_numBytes p_c.Time) ++ (i_numBytes (p_c.Rows.length : Int)), rfl, (by omega), Nat.le_refl _, rfl, rfl, rfl, rfl, (RdS.ex good_Write (RdS.ex good_Write h1 hE9) hE73), (Ex.trans (Ex.trans (Ex.refl w) hE9) hE73), (by first | (simp; done) | (first | omega | (simp only [List.length_append, List.length_cons, List.length_nil, List.length_set, toS_length]; omega))), rfl⟩
  ·rintro m114 L115 w116 ⟨k77, x106, rfl, hk117, hsz119, hl120, hl121, hl122, hl123, hf124, hf125, hln126, hI118⟩
   refine CW.sub (Sub.cons hl120 (Sub.cons hl121 (Sub.cons hl122 (Sub.cons hl123 (Sub.nil _))))) ?_
   have hf125z := Ex.size hf125
   have hbg127 := RdS.big hf124
   rcases Nat.lt_or_ge k77 p_c.Rows.length with hlt128 | hlt128
   ·have hcp3 := hcp2 k77 hlt128
    refine CW.seq (CW.region (sd rfl (yl_lss rfl rfl rfl (SeqR.done (tn (CW.seq (CW.cond_t rfl (lt_t hlt128) (CW.skip (tn ?_)))))))))
    refine CW.seq (CW.block (CW.seq (CW.region ?_)))
    obtain ⟨eb129, eo129, ec129, eA129, eS129, ebl129, el129, eR129, eC129⟩ := RdS.atD hf124 d_Write (i := k77) (by first | omega | assumption)
    obtain rfl := eR129
    have eC129 : Cells w116 eb129 (eo129 + k77 * 3) [.string (bs ((p_c.Rows.getD k77 d_Write).Key)), .string (bs ((p_c.Rows.getD k77 d_Write).Val)), .bool ((p_c.Rows.getD k77 d_Write).Gone)] := eC129
    refine sd rfl (yl_indexAddrN Try.un80 Try.ty144 rfl rfl rfl eA129 (by first | omega | assumption | (simp only [IntKind.wrap_i64] at *; omega)) (sd rfl (yl_loadN (cs := [.string (bs ((p_c.Rows.getD k77 d_Write).Key)), .string (bs ((p_c.Rows.getD k77 d_Write).Val)), .bool ((p_c.Rows.getD k77 d_Write).Gone)]) Try.ty144 rfl rfl eC129 rfl (sd rfl (yl_alloc Try.ty144 (cs := [.string (bs (([] : Str))), .string (bs (([] : Str))), .bool (false)]) rfl rfl ?_)))))
    intro b130 w131 hs132 hz133 hB134 hE135
    refine SeqR.u rfl rfl (yl_store (vs := [.string (bs ((p_c.Rows.getD k77 d_Write).Key)), .string (bs ((p_c.Rows.getD k77 d_Write).Val)), .bool ((p_c.Rows.getD k77 d_Write).Gone)]) Try.ty144 rfl rfl rfl rfl rfl rfl hB134 (Nat.le_of_ble_eq_true rfl) ?_)
    intro w136 hB137 hO138
    have hB137 : Box w136 b130 144 [.string (bs ((p_c.Rows.getD k77 d_Write).Key)), .string (bs ((p_c.Rows.getD k77 d_Write).Val)), .bool ((p_c.Rows.getD k77 d_Write).Gone)] := hB137
    have hO138z := hO138.size
    refine SeqR.done (tn ?_)
    have hrf141 := rf_textBytes ((p_c.Rows.getD k77 d_Write).Key) (by omega)
    have hrf142 := rf_textBytes ((p_c.Rows.getD k77 d_Write).Val) (by omega)
    refine CW.drawsI 10 (vgetI [DetI (.string (bs (x106))), DetI (.pointer (some ⟨b130, 0 + 0, none⟩)), DetI (.string (bs ((p_c.Rows.getD k77 d_Write).Key))), DetI (.string (bs ((i_textBytes ((p_c.Rows.getD k77 d_Write).Key))))), DetI (.pointer (some ⟨b130, 0 + 1, none⟩)), DetI (.string (bs ((p_c.Rows.getD k77 d_Write).Val))), DetI (.string (bs ((i_textBytes ((p_c.Rows.getD k77 d_Write).Val))))), DetI (.string (bs ((i_textBytes ((p_c.Rows.getD k77 d_Write).Key)) ++ (i_textBytes ((p_c.Rows.getD k77 d_Write).Val))))), DetI (.string (bs (x106 ++ ((i_textBytes ((p_c.Rows.getD k77 d_Write).Key)) ++ (i_textBytes ((p_c.Rows.getD k77 d_Write).Val)))))), DetI (.string (bs (x106 ++ ((i_textBytes ((p_c.Rows.getD k77 d_Write).Key)) ++ (i_textBytes ((p_c.Rows.getD k77 d_Write).Val))))))]) Try.follows rfl rfl rfl rfl rfl rfl (vgetI_stable ⟨StableI.det _, StableI.det _, StableI.det _, StableI.det _, StableI.det _, StableI.det _, StableI.det _, StableI.det _, StableI.det _, StableI.det _, trivial⟩) ⟨?_, ?_, ?_, ?_, ?_, ?_, ?_, ?_, ?_, ?_, trivial⟩ ?_
    ·exact fun _ _ h => os rfl ((yl_move rfl (h.old 3 _ rfl rfl) kI))
    ·exact fun _ _ h => os rfl ((yl_fieldAddr Try.fd144_0 rfl (h.old 5 _ rfl rfl) kI))
    ·exact fun _ _ h => os rfl ((yl_load1 Try.ty9 rfl (h.dt 1 22 rfl rfl rfl) (((Box.ex hB137 h.ex).cell 0).trans rfl) kI))
    ·intro L159 w160 hi161
     refine OpR.op' rfl (yl_call Try.en175 rfl (opvs_cons (hi161.dt 2 23 rfl rfl rfl) opvs_nil) (Cal.mono (c_i_textBytes ((p_c.Rows.getD k77 d_Write).Key) ((okL.getD o2 ok_d_Write _).1)) ?_))
     rintro v165 w164 ⟨rfl, hE166⟩
     exact ⟨rfl, hE166⟩
    ·exact fun _ _ h => os rfl ((yl_fieldAddr Try.fd144_1 rfl (h.old 5 _ rfl rfl) kI))
    ·exact fun _ _ h => os rfl ((yl_load1 Try.ty9 rfl (h.dt 4 25 rfl rfl rfl) (((Box.ex hB137 h.ex).cell 1).trans rfl) kI))
    ·intro L178 w179 hi180
     refine OpR.op' rfl (yl_call Try.en175 rfl (opvs_cons (hi180.dt 5 26 rfl rfl rfl) opvs_nil) (Cal.mono (c_i_textBytes ((p_c.Rows.getD k77 d_Write).Val) ((okL.getD o2 ok_d_Write _).2)) ?_))
     rintro v184 w183 ⟨rfl, hE185⟩
     exact ⟨rfl, hE185⟩
    ·intro L186 w187 hi188
     have hE189 := hi188.ex
     have hE189z := Ex.size hE189
     exact os rfl ((yl_sadd (a := (i_textBytes ((p_c.Rows.getD k77 d_Write).Key))) (b := (i_textBytes ((p_c.Rows.getD k77 d_Write).Val))) rfl (hi188.dt 3 24 rfl rfl rfl) (hi188.dt 6 27 rfl rfl rfl) (by first | omega | (simp only [List.length_append, List.length_cons, List.length_nil, List.length_take, List.length_drop, toS_length]; omega)) kI))
    ·intro L192 w193 hi194
     have hE195 := hi194.ex
     have hE195z := Ex.size hE195
     exact os rfl ((yl_sadd (a := x106) (b := ((i_textBytes ((p_c.Rows.getD k77 d_Write).Key)) ++ (i_textBytes ((p_c.Rows.getD k77 d_Write).Val)))) rfl (hi194.dt 0 21 rfl rfl rfl) (hi194.dt 7 28 rfl rfl rfl) (by first | omega | (simp only [List.length_append, List.length_cons, List.length_nil, List.length_take, List.length_drop, toS_length]; omega)) kI))
    ·exact fun _ _ h => os rfl ((yl_assign rfl (h.dt 8 29 rfl rfl rfl) kI))
    ·intro fl206 fh207 L203 w204 hp205
     have hE208 := hp205.ex
     have hE208z := Ex.size hE208
     refine SeqR.done (bn (tn (CW.sub (Sub.cons (d := 3) (hp205.nt 9 3 rfl rfl rfl) (Sub.cons (d := 15) (hp205.old 15 _ rfl rfl) (Sub.cons (d := 16) (hp205.old 16 _ rfl rfl) (Sub.cons (d := 17) (hp205.old 17 _ rfl rfl) (Sub.nil _))))) (CW.region (sd rfl (yl_inc rfl rfl rfl (by omega) (sd rfl (yl_move rfl rfl (SeqR.done (tn ?_))))))))))
     have hB213 : B_i_copyBytes_0 p_c k77 (x106) = .cont (x106 ++ ((i_textBytes ((p_c.Rows.getD k77 d_Write).Key)) ++ (i_textBytes ((p_c.Rows.getD k77 d_Write).Val)))) := by simp only [B_i_copyBytes_0, cond_true, cond_false, loopE_done, loopE_ret]
     exact ⟨p_c.Rows.length - (k77 + 1), by omega, k77 + 1, x106 ++ ((i_textBytes ((p_c.Rows.getD k77 d_Write).Key)) ++ (i_textBytes ((p_c.Rows.getD k77 d_Write).Val))), rfl, hlt128, (by omega), rfl, rfl, rfl, rfl, (RdS.ex good_Write (RdS.only good_Write (RdS.ex good_Write hf124 hE135) hO138 (by simp only [Iv]; omega)) hE208), (Ex.trans (Below.only (Ex.trans hf125 hE135) hO138 (by omega)) hE208), (by first | omega | (simp only [List.length_append, List.length_cons, List.length_nil, List.length_set, toS_length]; omega)), (loopM.cont hlt128 hB213).symm.trans hI118⟩
   ·refine CW.seq (CW.region (sd rfl (yl_lss rfl rfl rfl (SeqR.done (tn (CW.seq (CW.cond_f rfl (lt_f hlt128) (CW.exit (tx ?_)))))))))
    refine tx ?_
    have hL220 : loopM (B_i_copyBytes_0 p_c) (p_c.Rows.length - 0) 0 ((i_numBytes p_c.Time) ++ (i_numBytes (p_c.Rows.length : Int))) = .done (x106) := hI118.symm.trans (loopM.stop hlt128)
    refine bx (tn (CW.seq (CW.region (sd rfl (yl_move rfl rfl (sd rfl (yl_call Try.en176 rfl (opvs_cons rfl opvs_nil) (Cal.mono (c_i_seal x106 (by unfold okS; omega)) ?_))))))))
    rintro v222 w221 ⟨rfl, hE223⟩
    have hE223z := Ex.size hE223
    have hrf224 := rf_seal x106
    refine sd rfl (yl_assign rfl rfl (SeqR.done (tn (CW.ret (rr rfl (.cons rfl .nil) ?_)))))
    have hM225 : (i_copyBytes p_c) = ((i_seal x106)) := by simp only [i_copyBytes, hL220, cond_true, cond_false, loopE_done, loopE_ret]
    rw [hM225]
    exact ⟨rfl, (Ex.trans hf125 hE223)⟩
set_option maxRecDepth 100000 in
set_option maxHeartbeats 2000000 in
theorem c_i_CopyBytes {A1 : Option Addr} {c1 : Nat} {w : World} (p_c : DCopy) (h1 : RdS w (Iv 0 w.heap.size) (RF e_Write) 3 A1 p_c.Rows.length c1 p_c.Rows) (o2 : ok_Copy p_c) : Cal Try.prog 53 #[.agg #[.int .i64 (p_c.Time), .slice A1 p_c.Rows.length c1]] w fun v w' => v = .tuple #[.string (bs ((i_CopyBytes p_c).1)), .bool ((i_CopyBytes p_c).2)] ∧ Ex w w' := by
 have hol3 := o2.1
 refine Cal.of (vs := [.agg #[.int .i64 (p_c.Time), .slice A1 p_c.Rows.length c1]]) Try.func53 rfl Try.ntmps53 rfl (CW.seq (CW.region (sd rfl (yl_box (cs := [.int .i64 (p_c.Time), .slice A1 p_c.Rows.length c1]) rfl rfl rfl ?_))))
 intro b4 w5 hs6 hz7 hB8 hE9
 refine sd rfl (yl_assign rfl rfl (sd rfl (yl_assign rfl rfl (SeqR.done (tn (CW.seq (CW.seq (CW.region (sd rfl (yl_loadN (cs := [.int .i64 (p_c.Time), .slice A1 p_c.Rows.length c1]) Try.ty82 rfl rfl (hB8.cells (n := 2) rfl) rfl ?_))))))))))
 have q10 := RdS.ex good_Write h1 hE9
 refine sd rfl (yl_call Try.en99 rfl (opvs_cons rfl opvs_nil) (Cal.mono (c_i_GoodCopy p_c (RdS.up q10 good_Write) o2) ?_))
 rintro v12 w11 ⟨rfl, hE13⟩
 have hE13z := Ex.size hE13
 refine sd rfl (yl_not rfl rfl (SeqR.done (tn (bcase (i_GoodCopy p_c) (fun hb14 => ?_) (fun hb14 => ?_)))))
 ·refine CW.cond_f rfl (not_t hb14) (CW.skip (tn (CW.seq (CW.region (sd rfl (yl_loadN (cs := [.int .i64 (p_c.Time), .slice A1 p_c.Rows.length c1]) Try.ty82 rfl rfl ((Box.ex hB8 hE13).cells (n := 2) rfl) rfl (sd rfl (yl_call Try.en116 rfl (opvs_cons rfl opvs_nil) (Cal.mono (c_i_copyBytes p_c (RdS.up (RdS.ex good_Write q10 hE13) good_Write) o2 (by first | omega | assumption | (simp only [IntKind.wrap_i64] at *; omega))) ?_)))))))))
  rintro v18 w17 ⟨rfl, hE19⟩
  have hE19z := Ex.size hE19
  refine sd rfl (yl_assign rfl rfl (sd rfl (yl_assign rfl rfl (SeqR.done (tn (CW.ret (rr rfl (.cons rfl (.cons rfl .nil)) ?_)))))))
  have hM20 : (i_CopyBytes p_c) = (((i_copyBytes p_c), true)) := by simp only [i_CopyBytes, hb14, cond_true, cond_false, loopE_done, loopE_ret]
  rw [hM20]
  exact ⟨rfl, (Ex.trans (Ex.trans (Ex.trans (Ex.refl w) hE9) hE13) hE19)⟩
 ·refine CW.cond_t rfl (not_f hb14) (CW.seq (CW.region (sd rfl (yl_assign rfl rfl (sd rfl (yl_assign rfl rfl (SeqR.done (tn (CW.ret (tr ?_))))))))))
  refine rr rfl (.cons rfl (.cons rfl .nil)) ?_
  have hM24 : (i_CopyBytes p_c) = ((([] : Str), false)) := by simp only [i_CopyBytes, hb14, cond_true, cond_false, loopE_done, loopE_ret]
  rw [hM24]
  exact ⟨rfl, (Ex.trans (Ex.trans (Ex.refl w) hE9) hE13)⟩
set_option maxRecDepth 100000 in
set_option maxHeartbeats 2000000 in
theorem c_l_FnExactCopyBytes {A1 : Option Addr} {c1 : Nat} {w : World} (p_aC : DCopy) (h1 : RdS w (Iv 0 w.heap.size) (RF e_Write) 3 A1 p_aC.Rows.length c1 p_aC.Rows) (pre0 : wf_Copy p_aC) : Cal Try.prog 10 #[.agg #[.int .i64 (p_aC.Time), .slice A1 p_aC.Rows.length c1]] w fun v w' => v = .bool ((l_FnExactCopyBytes p_aC)) ∧ Ex w w' := by
 refine Cal.of (vs := [.agg #[.int .i64 (p_aC.Time), .slice A1 p_aC.Rows.length c1]]) Try.func10 rfl Try.ntmps10 rfl (CW.seq (CW.region (sd rfl (yl_box (cs := [.int .i64 (p_aC.Time), .slice A1 p_aC.Rows.length c1]) rfl rfl rfl ?_))))
 intro b2 w3 hs4 hz5 hB6 hE7
 refine sd rfl (yl_assign rfl rfl (SeqR.done (tn (CW.seq (CW.region (sd rfl (yl_assign rfl rfl (SeqR.done (tn (CW.seq ?_))))))))))
 refine CW.region (sd rfl (yl_loadN (cs := [.int .i64 (p_aC.Time), .slice A1 p_aC.Rows.length c1]) Try.ty75 rfl rfl (hB6.cells (n := 2) rfl) rfl (sd rfl (yl_move rfl rfl ?_))))
 have q8 := RdS.ex good_Write h1 hE7
 refine sd rfl (yl_call Try.en39 rfl (opvs_cons rfl (opvs_cons rfl opvs_nil)) (Cal.mono (c_l_szCopy p_aC 1048576 (RdS.up q8 good_Write)) ?_))
 rintro v10 w9 ⟨rfl, hE11⟩
 have hE11z := Ex.size hE11
 refine sd rfl (yl_assign rfl rfl (SeqR.done (tn (CW.seq (CW.seq (CW.region (sd rfl (yl_move rfl rfl (sd rfl (yl_lss rfl rfl rfl (SeqR.done ?_)))))))))))
 refine tn (bcase (decide ((l_szCopy p_aC 1048576) < 0)) (fun hb12 => ?_) (fun hb12 => ?_))
 ·have hb12p := dec_t hb12
  refine CW.cond_t rfl hb12 (CW.seq (CW.region (sd rfl (yl_assign rfl rfl (SeqR.done (tn (CW.ret (tr (rr rfl (.cons rfl .nil) ?_)))))))))
  have hM13 : (l_FnExactCopyBytes p_aC) = (true) := by simp only [l_FnExactCopyBytes, hb12, cond_true, cond_false, loopE_done, loopE_ret]
  rw [hM13]
  exact ⟨rfl, (Ex.trans (Ex.trans (Ex.refl w) hE7) hE11)⟩
 ·have hb12p := dec_f hb12
  refine CW.cond_f rfl hb12 (CW.skip (tn (CW.seq (CW.region ?_))))
  have q16 := Box.ex hB6 hE11
  refine sd rfl (yl_loadN (cs := [.int .i64 (p_aC.Time), .slice A1 p_aC.Rows.length c1]) Try.ty75 rfl rfl (q16.cells (n := 2) rfl) rfl ?_)
  have q17 := RdS.ex good_Write q8 hE11
  refine sd rfl (yl_call Try.en41 rfl (opvs_cons rfl opvs_nil) (Cal.mono (c_l_toCopy p_aC (RdS.up q17 good_Write) ((szok_Copy pre0 (by decide) (dec_f hb12)).1)) ?_))
  rintro v20 w18 ⟨A19, c19, lo19, hi19, rfl, h19, hrn22, hE21⟩
  have hE21z := Ex.size hE21
  refine sd rfl (yl_call Try.en52 rfl (opvs_cons rfl opvs_nil) (Cal.mono (c_s_CopyBytes p_aC (RdS.up (OwnL.rd good_Write h19) good_Write) ((szok_Copy pre0 (by decide) (dec_f hb12)).1)) ?_))
  rintro v25 w24 ⟨rfl, hE26⟩
  have hE26z := Ex.size hE26
  refine sd rfl (yl_move rfl rfl (sd rfl (yl_extract rfl rfl rfl (sd rfl (yl_extract rfl rfl rfl (sd rfl (yl_assign rfl rfl (sd rfl (yl_assign rfl rfl (SeqR.done (tn (CW.seq (CW.region ?_)))))))))))))
  have q28 := Box.ex (Box.ex q16 hE21) hE26
  refine sd rfl (yl_loadN (cs := [.int .i64 (p_aC.Time), .slice A1 p_aC.Rows.length c1]) Try.ty75 rfl rfl (q28.cells (n := 2) rfl) rfl ?_)
  have q30 := RdS.ex good_Write (RdS.ex good_Write q17 hE21) hE26
  refine sd rfl (yl_call Try.en41 rfl (opvs_cons rfl opvs_nil) (Cal.mono (c_l_toCopy p_aC (RdS.up q30 good_Write) ((szok_Copy pre0 (by decide) (dec_f hb12)).1)) ?_))
  rintro v33 w31 ⟨A32, c32, lo32, hi32, rfl, h32, hrn35, hE34⟩
  have hE34z := Ex.size hE34
  refine sd rfl (yl_alloc Try.ty82 (cs := [.int .i64 (0), .slice none 0 0]) rfl rfl ?_)
  intro b36 w37 hs38 hz39 hB40 hE41
  refine SeqR.u rfl rfl (yl_store (vs := [.int .i64 (p_aC.Time), .slice A32 p_aC.Rows.length c32]) Try.ty82 rfl rfl rfl rfl rfl rfl hB40 (Nat.le_of_ble_eq_true rfl) ?_)
  intro w42 hB43 hO44
  have hB43 : Box w42 b36 82 [.int .i64 (p_aC.Time), .slice A32 p_aC.Rows.length c32] := hB43
  have hO44z := hO44.size
  refine SeqR.done (tn (CW.seq (CW.region (sd rfl (yl_loadN (cs := [.int .i64 (p_aC.Time), .slice A32 p_aC.Rows.length c32]) Try.ty82 rfl rfl (hB43.cells (n := 2) rfl) rfl ?_)))))
  have q47 := OwnL.only good_Write (OwnL.ex good_Write h32 hE41) hO44 (by omega)
  refine sd rfl (yl_call Try.en53 rfl (opvs_cons rfl opvs_nil) (Cal.mono (c_i_CopyBytes p_aC (RdS.up (OwnL.rd good_Write q47) good_Write) ((szok_Copy pre0 (by decide) (dec_f hb12)).1)) ?_))
  rintro v49 w48 ⟨rfl, hE50⟩
  have hE50z := Ex.size hE50
  refine sd rfl (yl_move rfl rfl (sd rfl (yl_extract rfl rfl rfl (sd rfl (yl_extract rfl rfl rfl (sd rfl (yl_assign rfl rfl (sd rfl (yl_assign rfl rfl (SeqR.done (tn (CW.seq (CW.seq ?_)))))))))))))
  refine CW.region (sd rfl (yl_move rfl rfl (sd rfl (yl_move rfl rfl (sd rfl (yl_sneq (a := ((i_CopyBytes p_aC).1)) (b := ((s_CopyBytes p_aC).1)) rfl rfl rfl (sd rfl (yl_move rfl rfl (bcase (((i_CopyBytes p_aC).1) == ((s_CopyBytes p_aC).1)) (fun hb51 => ?_) (fun hb51 => ?_))))))))))
  ·refine sy rfl rfl (not_t hb51) (yl_move rfl rfl (sy rfl rfl (not_t hb51) (yl_move rfl rfl (sy rfl rfl (not_t hb51) (yl_bneq Try.un4 rfl rfl rfl (sd rfl (yl_pick_f rfl rfl (not_t hb51) rfl (SeqR.done (tn (bcase (((i_CopyBytes p_aC).2) == ((s_CopyBytes p_aC).2)) (fun hb52 => ?_) (fun hb52 => ?_)))))))))))
   ·refine CW.cond_f rfl (not_t hb52) (CW.skip (tn (CW.seq (CW.seq (CW.drawsI 5 (vgetI [DetI (.agg #[.int .i64 (p_aC.Time), .slice A32 p_aC.Rows.length c32]), DetI (.agg #[.int .i64 (p_aC.Time), .slice A1 p_aC.Rows.length c1]), fun lo hi v wq => ∃ A63 c63 lo63 hi63, v = .agg #[.int .i64 (p_aC.Time), .slice A63 p_aC.Rows.length c63] ∧ OwnL wq lo63 hi63 144 3 (RF e_Write) A63 p_aC.Rows.length c63 p_aC.Rows ∧ (lo ≤ lo63 ∧ lo63 ≤ hi63 ∧ hi63 ≤ hi), DetI (.bool ((l_eqCopy p_aC p_aC))), DetI (.bool (!(l_eqCopy p_aC p_aC)))]) Try.follows rfl rfl rfl rfl rfl rfl (vgetI_stable ⟨StableI.det _, StableI.det _, (fun _ _ _ _ _ ⟨A63, c63, lo63, hi63, hv, h63, hr0⟩ e => ⟨A63, c63, lo63, hi63, hv, OwnL.ex good_Write h63 e, hr0⟩), StableI.det _, StableI.det _, trivial⟩) ⟨?_, ?_, ?_, ?_, ?_, trivial⟩ ?_)))))
    ·exact fun _ _ h => os rfl ((yl_loadN (cs := [.int .i64 (p_aC.Time), .slice A32 p_aC.Rows.length c32]) Try.ty82 rfl (h.old 6 _ rfl rfl) ((Box.ex (Box.ex hB43 hE50) h.ex).cells (n := 2) rfl) rfl kI))
    ·intro L73 w74 hi75
     have hE76 := hi75.ex
     have hE76z := Ex.size hE76
     exact os rfl ((yl_loadN (cs := [.int .i64 (p_aC.Time), .slice A1 p_aC.Rows.length c1]) Try.ty75 rfl (hi75.old 1 _ rfl rfl) ((Box.ex (Box.ex (Box.only (Box.ex (Box.ex q28 hE34) hE41) hO44 (by omega)) hE50) hE76).cells (n := 2) rfl) rfl kI))
    ·intro L79 w80 hi81
     have hE82 := hi81.ex
     have hE82z := Ex.size hE82
     refine OpR.op' rfl (yl_call Try.en41 rfl (opvs_cons (hi81.dt 1 36 rfl rfl rfl) opvs_nil) (Cal.mono (c_l_toCopy p_aC (RdS.up (RdS.ex good_Write (RdS.ex good_Write (RdS.only good_Write (RdS.ex good_Write (RdS.ex good_Write q30 hE34) hE41) hO44 (by simp only [Iv]; omega)) hE50) hE82) good_Write) ((szok_Copy pre0 (by decide) (dec_f hb12)).1)) ?_))
     rintro v87 w85 ⟨A86, c86, lo86, hi86, rfl, h86, hrn89, hE88⟩
     exact ⟨⟨A86, c86, lo86, hi86, rfl, h86, hrn89⟩, hE88⟩
    ·intro L90 w91 hi92
     have hE93 := hi92.ex
     obtain ⟨lo96, hh97, _, hx95, hr98, hr99, hr100, A63_101, c63_102, lo63_103, hi63_104, rfl, h105, hrn106⟩ := hi92.dep 2 37 rfl rfl
     refine OpR.op' rfl (yl_call Try.en44 rfl (opvs_cons (hi92.dt 0 35 rfl rfl rfl) (opvs_cons hx95 opvs_nil)) (Cal.mono (c_l_eqCopy p_aC p_aC (RdS.up (OwnL.rd good_Write (OwnL.ex good_Write (OwnL.ex good_Write q47 hE50) hE93)) good_Write) (RdS.up (OwnL.rd good_Write h105) good_Write)) ?_))
     rintro v111 w110 ⟨rfl, hE112⟩
     exact ⟨rfl, hE112⟩
    ·exact fun _ _ h => os rfl ((yl_not rfl (h.dt 3 38 rfl rfl rfl) kI))
    ·intro fl121 fh122 L118 w119 hp120
     have hE123 := hp120.ex
     have hE123z := Ex.size hE123
     have hr125 := hp120.rng 2 rfl
     obtain ⟨_, hx124, A63_126, c63_127, lo63_128, hi63_129, rfl, h130, hrn131⟩ := hp120.new 2 37 rfl rfl
     refine SeqR.done (tn (CW.sub (Sub.cons (d := 39) (hp120.nt 4 39 rfl rfl rfl) (Sub.nil _)) (bcase (l_eqCopy p_aC p_aC) (fun hb133 => ?_) (fun hb133 => ?_))))
     ·refine CW.cond_f rfl (not_t hb133) (CW.skip (tn (CW.seq (CW.region (sd rfl (yl_assign rfl rfl (SeqR.done (tn (CW.ret ?_)))))))))
      refine rr rfl (.cons rfl .nil) ?_
      have hM134 : (l_FnExactCopyBytes p_aC) = (true) := by simp only [l_FnExactCopyBytes, hb12, hb51, hb52, hb133, cond_true, cond_false, loopE_done, loopE_ret]
      rw [hM134]
      exact ⟨rfl, (Ex.trans (Ex.trans (Below.only (Ex.trans (Ex.trans (Ex.trans (Ex.trans (Ex.trans (Ex.trans (Ex.refl w) hE7) hE11) hE21) hE26) hE34) hE41) hO44 (by omega)) hE50) hE123)⟩
     ·refine CW.cond_t rfl (not_f hb133) (CW.seq (CW.region (sd rfl (yl_assign rfl rfl (SeqR.done (tn (CW.ret (tr (rr rfl (.cons rfl .nil) ?_)))))))))
      have hM144 : (l_FnExactCopyBytes p_aC) = (false) := by simp only [l_FnExactCopyBytes, hb12, hb51, hb52, hb133, cond_true, cond_false, loopE_done, loopE_ret]
      rw [hM144]
      exact ⟨rfl, (Ex.trans (Ex.trans (Below.only (Ex.trans (Ex.trans (Ex.trans (Ex.trans (Ex.trans (Ex.trans (Ex.refl w) hE7) hE11) hE21) hE26) hE34) hE41) hO44 (by omega)) hE50) hE123)⟩
   ·refine CW.cond_t rfl (not_f hb52) (CW.seq (CW.region (sd rfl (yl_assign rfl rfl (SeqR.done (tn (CW.ret (tr (rr rfl (.cons rfl .nil) ?_)))))))))
    have hM154 : (l_FnExactCopyBytes p_aC) = (false) := by simp only [l_FnExactCopyBytes, hb12, hb51, hb52, cond_true, cond_false, loopE_done, loopE_ret]
    rw [hM154]
    exact ⟨rfl, (Ex.trans (Below.only (Ex.trans (Ex.trans (Ex.trans (Ex.trans (Ex.trans (Ex.trans (Ex.refl w) hE7) hE11) hE21) hE26) hE34) hE41) hO44 (by omega)) hE50)⟩
  ·refine sz rfl rfl (not_f hb51) (sz rfl rfl (not_f hb51) (sz rfl rfl (not_f hb51) (sd rfl (yl_pick_t rfl rfl (not_f hb51) rfl (SeqR.done (tn (CW.cond_t rfl rfl (CW.seq (CW.region ?_)))))))))
   refine sd rfl (yl_assign rfl rfl (SeqR.done (tn (CW.ret (tr (rr rfl (.cons rfl .nil) ?_))))))
   have hM163 : (l_FnExactCopyBytes p_aC) = (false) := by simp only [l_FnExactCopyBytes, hb12, hb51, cond_true, cond_false, loopE_done, loopE_ret]
   rw [hM163]
   exact ⟨rfl, (Ex.trans (Below.only (Ex.trans (Ex.trans (Ex.trans (Ex.trans (Ex.trans (Ex.trans (Ex.refl w) hE7) hE11) hE21) hE26) hE34) hE41) hO44 (by omega)) hE50)⟩
end Go.Proofs.Ytmlfbjlkccnpmaa
