/- Put Back: what each call returns, part 2. -/
import Derived.Test.YtdbobbmagmcpnaaPutBackC1
set_option linter.unusedVariables false
set_option linter.unusedSimpArgs false
namespace Go.Proofs.Ytdbobbmagmcpnaa
open Go.RowKit Go.X
set_option maxRecDepth 100000 in
set_option maxHeartbeats 2000000 in
theorem c_l_markWriteS {A1 : Option Addr} {c1 : Nat} {lo1 hi1 : Nat} {w : World} (p_a : List DWrite) (p_k : Int) (h1 : OwnL w lo1 hi1 31 3 (RF e_Write) A1 p_a.length c1 p_a) (hrn2 : (0 ≤ lo1 ∧ lo1 ≤ hi1 ∧ hi1 ≤ w.heap.size)) (pre0 : p_k ≤ 9223372036854775807) : Cal Try.prog 27 #[.slice A1 p_a.length c1, .int .i64 (p_k)] w fun v w' => v = .int .i64 ((l_markWriteS p_a p_k).1) ∧ OwnL w' lo1 hi1 31 3 (RF e_Write) A1 p_a.length c1 ((l_markWriteS p_a p_k).2) ∧ Mut [(lo1, hi1)] w w' := by
 refine Cal.of (vs := [.slice A1 p_a.length c1, .int .i64 (p_k)]) Try.func27 rfl Try.ntmps27 rfl (CW.seq (CW.region (sd rfl (yl_assign rfl rfl (SeqR.done (tn (CW.seq (CW.seq (CW.region ?_)))))))))
 refine sd rfl (yl_assign rfl rfl (SeqR.done (tn (CW.block (CW.loop (fun m31 L32 w33 => ∃ (k3 : Nat) (x29 : Int) (x30 : List DWrite), m31 = p_a.length - k3 ∧ k3 ≤ p_a.length ∧ w.heap.size ≤ w33.heap.size ∧ lkp L32 0 = some (.slice A1 p_a.length c1) ∧ lkp L32 1 = some (.int .i64 (x29)) ∧ lkp L32 5 = some (.int .i64 ((k3 : Int))) ∧ OwnL w33 lo1 hi1 31 3 (RF e_Write) A1 p_a.length c1 x30 ∧ Mut [(lo1, hi1)] w w33 ∧ x29 ≤ 9223372036854775807 ∧ loopM (B_l_markWriteS_0 p_a p_k) (p_a.length - k3) k3 (x29, x30) = loopM (B_l_markWriteS_0 p_a p_k) (p_a.length - 0) 0 (p_k, p_a)) (p_a.length - 0) ?_ ?_)))))
 ·exact ⟨0, p_k, p_a, rfl, (by omega), Nat.le_refl _, rfl, rfl, rfl, h1, (Mut.refl (l := [(lo1, hi1)]) w), (by first | omega | assumption | (simp only [IntKind.wrap_i64] at *; omega)), rfl⟩
 ·rintro m34 L35 w36 ⟨k3, x29, x30, rfl, hk37, hsz39, hl40, hl41, hl42, hf43, hf44, hv45, hI38⟩
  refine CW.sub (Sub.cons hl40 (Sub.cons hl41 (Sub.cons hl42 (Sub.nil _)))) ?_
  have hf44z := Mut.size hf44
  have hbg46 := RdS.big (OwnL.rd good_Write hf43)
  rcases Nat.lt_or_ge k3 p_a.length with hlt48 | hlt48
  ·refine CW.seq (CW.seq (CW.region (sd rfl (yl_move rfl rfl (sd rfl (yl_move rfl rfl (sd rfl (yl_len Try.un48 rfl rfl (sd rfl (yl_lss rfl rfl rfl (SeqR.done (tn ?_))))))))))))
   refine CW.cond_t rfl (lt_t hlt48) (CW.skip (tn (CW.seq (CW.block (CW.seq (CW.region (sd rfl (yl_move rfl rfl (sd rfl (yl_move rfl rfl ?_))))))))))
   refine sd rfl (yl_move rfl rfl (sd rfl (yl_call Try.en83 rfl (opvs_cons rfl opvs_nil) (Cal.mono (c_l_markText x29 (by first | omega | assumption | (simp only [IntKind.wrap_i64] at *; omega))) ?_))))
   rintro v50 w49 ⟨rfl, hE51⟩
   have hE51z := Ex.size hE51
   have q53 := OwnL.ex good_Write hf43 hE51
   obtain ⟨eb54, eo54, ec54, eA54, eS54, ebl54, el54, eR54, eC54⟩ := RdS.atD (OwnL.rd good_Write q53) d_Write (i := k3) (by first | omega | assumption)
   obtain rfl := eR54
   have eC54 : Cells w49 eb54 (eo54 + k3 * 3) [.string (bs ((x30.getD k3 d_Write).Key)), .string (bs ((x30.getD k3 d_Write).Val)), .bool ((x30.getD k3 d_Write).Gone)] := eC54
   refine sd rfl (yl_indexAddrN Try.un48 Try.ty31 rfl rfl rfl eA54 (by first | omega | assumption | (simp only [IntKind.wrap_i64] at *; omega)) (sd rfl (yl_fieldAddr Try.fd31_0 rfl rfl ?_)))
   have hrg55 := OwnL.rng q53 (i := k3) (by first | omega | assumption | (simp only [IntKind.wrap_i64] at *; omega)) eb54 (by rw [eA54]; rfl)
   refine SeqR.u rfl rfl (yl_storeF (off := eo54) (i := k3) (d := 0) (dx := d_Write) (x' := (⟨(l_markText x29), (x30.getD k3 d_Write).Val, (x30.getD k3 d_Write).Gone⟩ : DWrite)) (vs := [.string (bs ((l_markText x29)))]) Try.ty9 rfl q53 eA54 rfl rfl rfl rfl rfl (by first | omega | assumption | (simp only [IntKind.wrap_i64] at *; omega)) (Nat.le_of_ble_eq_true rfl) rfl rfl ?_)
   intro w56 hB57 hO58
   have hO58z := hO58.size
   refine SeqR.done (tn (CW.seq (CW.region (sd rfl (yl_move rfl rfl (sd rfl (yl_add rfl rfl rfl (sd rfl (yl_assign rfl rfl (SeqR.done (tn ?_)))))))))))
   refine CW.seq (CW.region (sd rfl (yl_move rfl rfl (sd rfl (yl_move rfl rfl (sd rfl (yl_move rfl rfl (sd rfl (yl_call Try.en83 rfl (opvs_cons rfl opvs_nil) (Cal.mono (c_l_markText (IntKind.wrap .i64 (x29 + 1)) (by first | omega | assumption | (simp only [IntKind.wrap_i64] at *; omega))) ?_))))))))))
   rintro v60 w59 ⟨rfl, hE61⟩
   have hE61z := Ex.size hE61
   have q63 := OwnL.ex good_Write hB57 hE61
   obtain ⟨eb64, eo64, ec64, eA64, eS64, ebl64, el64, eR64, eC64⟩ := RdS.atD (OwnL.rd good_Write q63) d_Write (i := k3) (by first | omega | assumption)
   obtain rfl := eR64
   have eC64 : Cells w59 eb64 (eo64 + k3 * 3) [.string (bs (((x30.set k3 (⟨(l_markText x29), (x30.getD k3 d_Write).Val, (x30.getD k3 d_Write).Gone⟩ : DWrite)).getD k3 d_Write).Key)), .string (bs (((x30.set k3 (⟨(l_markText x29), (x30.getD k3 d_Write).Val, (x30.getD k3 d_Write).Gone⟩ : DWrite)).getD k3 d_Write).Val)), .bool (((x30.set k3 (⟨(l_markText x29), (x30.getD k3 d_Write).Val, (x30.getD k3 d_Write).Gone⟩ : DWrite)).getD k3 d_Write).Gone)] := eC64
   refine sd rfl (yl_indexAddrN Try.un48 Try.ty31 rfl rfl rfl eA64 (by first | omega | assumption | (simp only [IntKind.wrap_i64] at *; omega)) (sd rfl (yl_fieldAddr Try.fd31_1 rfl rfl ?_)))
   have hrg65 := OwnL.rng q63 (i := k3) (by first | omega | assumption | (simp only [IntKind.wrap_i64] at *; omega)) eb64 (by rw [eA64]; rfl)
   refine SeqR.u rfl rfl (yl_storeF (off := eo64) (i := k3) (d := 1) (dx := d_Write) (x' := (⟨((x30.set k3 (⟨(l_markText x29), (x30.getD k3 d_Write).Val, (x30.getD k3 d_Write).Gone⟩ : DWrite)).getD k3 d_Write).Key, (l_markText (IntKind.wrap .i64 (x29 + 1))), ((x30.set k3 (⟨(l_markText x29), (x30.getD k3 d_Write).Val, (x30.getD k3 d_Write).Gone⟩ : DWrite)).getD k3 d_Write).Gone⟩ : DWrite)) (vs := [.string (bs ((l_markText (IntKind.wrap .i64 (x29 + 1)))))]) Try.ty9 rfl q63 eA64 rfl rfl rfl rfl rfl (by first | omega | assumption | (simp only [IntKind.wrap_i64] at *; omega)) (Nat.le_of_ble_eq_true rfl) rfl rfl ?_)
   intro w66 hB67 hO68
   have hO68z := hO68.size
   refine SeqR.done (tn (CW.seq (CW.region (sd rfl (yl_move rfl rfl (sd rfl (yl_add rfl rfl rfl (sd rfl (yl_assign rfl rfl (SeqR.done (tn ?_)))))))))))
   refine CW.seq (CW.region (sd rfl (yl_move rfl rfl (sd rfl (yl_move rfl rfl (sd rfl (yl_move rfl rfl (sd rfl (yl_rem rfl rfl rfl (by decide) (sd rfl (yl_eql rfl rfl rfl ?_)))))))))))
   obtain ⟨eb70, eo70, ec70, eA70, eS70, ebl70, el70, eR70, eC70⟩ := RdS.atD (OwnL.rd good_Write hB67) d_Write (i := k3) (by first | omega | assumption)
   obtain rfl := eR70
   have eC70 : Cells w66 eb70 (eo70 + k3 * 3) [.string (bs ((((x30.set k3 (⟨(l_markText x29), (x30.getD k3 d_Write).Val, (x30.getD k3 d_Write).Gone⟩ : DWrite)).set k3 (⟨((x30.set k3 (⟨(l_markText x29), (x30.getD k3 d_Write).Val, (x30.getD k3 d_Write).Gone⟩ : DWrite)).getD k3 d_Write).Key, (l_markText (IntKind.wrap .i64 (x29 + 1))), ((x30.set k3 (⟨(l_markText x29), (x30.getD k3 d_Write).Val, (x30.getD k3 d_Write).Gone⟩ : DWrite)).getD k3 d_Write).Gone⟩ : DWrite)).getD k3 d_Write).Key)), .string (bs ((((x30.set k3 (⟨(l_markText x29), (x30.getD k3 d_Write).Val, (x30.getD k3 d_Write).Gone⟩ : DWrite)).set k3 (⟨((x30.set k3 (⟨(l_markText x29), (x30.getD k3 d_Write).Val, (x30.getD k3 d_Write).Gone⟩ : DWrite)).getD k3 d_Write).Key, (l_markText (IntKind.wrap .i64 (x29 + 1))), ((x30.set k3 (⟨(l_markText x29), (x30.getD k3 d_Write).Val, (x30.getD k3 d_Write).Gone⟩ : DWrite)).getD k3 d_Write).Gone⟩ : DWrite)).getD k3 d_Write).Val)), .bool ((((x30.set k3 (⟨(l_markText x29), (x30.getD k3 d_Write).Val, (x30.getD k3 d_Write).Gone⟩ : DWrite)).set k3 (⟨((x30.set k3 (⟨(l_markText x29), (x30.getD k3 d_Write).Val, (x30.getD k3 d_Write).Gone⟩ : DWrite)).getD k3 d_Write).Key, (l_markText (IntKind.wrap .i64 (x29 + 1))), ((x30.set k3 (⟨(l_markText x29), (x30.getD k3 d_Write).Val, (x30.getD k3 d_Write).Gone⟩ : DWrite)).getD k3 d_Write).Gone⟩ : DWrite)).getD k3 d_Write).Gone)] := eC70
   refine sd rfl (yl_indexAddrN Try.un48 Try.ty31 rfl rfl rfl eA70 (by first | omega | assumption | (simp only [IntKind.wrap_i64] at *; omega)) (sd rfl (yl_fieldAddr Try.fd31_2 rfl rfl ?_)))
   have hrg71 := OwnL.rng hB67 (i := k3) (by first | omega | assumption | (simp only [IntKind.wrap_i64] at *; omega)) eb70 (by rw [eA70]; rfl)
   refine SeqR.u rfl rfl (yl_storeF (off := eo70) (i := k3) (d := 2) (dx := d_Write) (x' := (⟨(((x30.set k3 (⟨(l_markText x29), (x30.getD k3 d_Write).Val, (x30.getD k3 d_Write).Gone⟩ : DWrite)).set k3 (⟨((x30.set k3 (⟨(l_markText x29), (x30.getD k3 d_Write).Val, (x30.getD k3 d_Write).Gone⟩ : DWrite)).getD k3 d_Write).Key, (l_markText (IntKind.wrap .i64 (x29 + 1))), ((x30.set k3 (⟨(l_markText x29), (x30.getD k3 d_Write).Val, (x30.getD k3 d_Write).Gone⟩ : DWrite)).getD k3 d_Write).Gone⟩ : DWrite)).getD k3 d_Write).Key, (((x30.set k3 (⟨(l_markText x29), (x30.getD k3 d_Write).Val, (x30.getD k3 d_Write).Gone⟩ : DWrite)).set k3 (⟨((x30.set k3 (⟨(l_markText x29), (x30.getD k3 d_Write).Val, (x30.getD k3 d_Write).Gone⟩ : DWrite)).getD k3 d_Write).Key, (l_markText (IntKind.wrap .i64 (x29 + 1))), ((x30.set k3 (⟨(l_markText x29), (x30.getD k3 d_Write).Val, (x30.getD k3 d_Write).Gone⟩ : DWrite)).getD k3 d_Write).Gone⟩ : DWrite)).getD k3 d_Write).Val, decide ((Int.tmod (IntKind.wrap .i64 ((IntKind.wrap .i64 (x29 + 1)) + 1)) 3) = 0)⟩ : DWrite)) (vs := [.bool (decide ((Int.tmod (IntKind.wrap .i64 ((IntKind.wrap .i64 (x29 + 1)) + 1)) 3) = 0))]) Try.ty4 rfl hB67 eA70 rfl rfl rfl rfl rfl (by first | omega | assumption | (simp only [IntKind.wrap_i64] at *; omega)) (Nat.le_of_ble_eq_true rfl) rfl rfl ?_)
   intro w72 hB73 hO74
   have hO74z := hO74.size
   refine SeqR.done (tn (CW.region (sd rfl (yl_move rfl rfl (sd rfl (yl_add rfl rfl rfl (sd rfl (yl_assign rfl rfl (SeqR.done (bn (tn ?_)))))))))))
   refine CW.region (sd rfl (yl_move rfl rfl (sd rfl (yl_inc rfl rfl rfl (by omega) (sd rfl (yl_assign rfl rfl (SeqR.done (tn ?_))))))))
   have hB75 : B_l_markWriteS_0 p_a p_k k3 (x29, x30) = .cont (IntKind.wrap .i64 ((IntKind.wrap .i64 ((IntKind.wrap .i64 (x29 + 1)) + 1)) + 1), (((x30.set k3 (⟨(l_markText x29), (x30.getD k3 d_Write).Val, (x30.getD k3 d_Write).Gone⟩ : DWrite)).set k3 (⟨((x30.set k3 (⟨(l_markText x29), (x30.getD k3 d_Write).Val, (x30.getD k3 d_Write).Gone⟩ : DWrite)).getD k3 d_Write).Key, (l_markText (IntKind.wrap .i64 (x29 + 1))), ((x30.set k3 (⟨(l_markText x29), (x30.getD k3 d_Write).Val, (x30.getD k3 d_Write).Gone⟩ : DWrite)).getD k3 d_Write).Gone⟩ : DWrite)).set k3 (⟨(((x30.set k3 (⟨(l_markText x29), (x30.getD k3 d_Write).Val, (x30.getD k3 d_Write).Gone⟩ : DWrite)).set k3 (⟨((x30.set k3 (⟨(l_markText x29), (x30.getD k3 d_Write).Val, (x30.getD k3 d_Write).Gone⟩ : DWrite)).getD k3 d_Write).Key, (l_markText (IntKind.wrap .i64 (x29 + 1))), ((x30.set k3 (⟨(l_markText x29), (x30.getD k3 d_Write).Val, (x30.getD k3 d_Write).Gone⟩ : DWrite)).getD k3 d_Write).Gone⟩ : DWrite)).getD k3 d_Write).Key, (((x30.set k3 (⟨(l_markText x29), (x30.getD k3 d_Write).Val, (x30.getD k3 d_Write).Gone⟩ : DWrite)).set k3 (⟨((x30.set k3 (⟨(l_markText x29), (x30.getD k3 d_Write).Val, (x30.getD k3 d_Write).Gone⟩ : DWrite)).getD k3 d_Write).Key, (l_markText (IntKind.wrap .i64 (x29 + 1))), ((x30.set k3 (⟨(l_markText x29), (x30.getD k3 d_Write).Val, (x30.getD k3 d_Write).Gone⟩ : DWrite)).getD k3 d_Write).Gone⟩ : DWrite)).getD k3 d_Write).Val, decide ((Int.tmod (IntKind.wrap .i64 ((IntKind.wrap .i64 (x29 + 1)) + 1)) 3) = 0)⟩ : DWrite))) := by simp only [B_l_markWriteS_0, cond_true, cond_false, loopE_done, loopE_ret]
   exact ⟨p_a.length - (k3 + 1), by omega, k3 + 1, IntKind.wrap .i64 ((IntKind.wrap .i64 ((IntKind.wrap .i64 (x29 + 1)) + 1)) + 1), (((x30.set k3 (⟨(l_markText x29), (x30.getD k3 d_Write).Val, (x30.getD k3 d_Write).Gone⟩ : DWrite)).set k3 (⟨((x30.set k3 (⟨(l_markText x29), (x30.getD k3 d_Write).Val, (x30.getD k3 d_Write).Gone⟩ : DWrite)).getD k3 d_Write).Key, (l_markText (IntKind.wrap .i64 (x29 + 1))), ((x30.set k3 (⟨(l_markText x29), (x30.getD k3 d_Write).Val, (x30.getD k3 d_Write).Gone⟩ : DWrite)).getD k3 d_Write).Gone⟩ : DWrite)).set k3 (⟨(((x30.set k3 (⟨(l_markText x29), (x30.getD k3 d_Write).Val, (x30.getD k3 d_Write).Gone⟩ : DWrite)).set k3 (⟨((x30.set k3 (⟨(l_markText x29), (x30.getD k3 d_Write).Val, (x30.getD k3 d_Write).Gone⟩ : DWrite)).getD k3 d_Write).Key, (l_markText (IntKind.wrap .i64 (x29 + 1))), ((x30.set k3 (⟨(l_markText x29), (x30.getD k3 d_Write).Val, (x30.getD k3 d_Write).Gone⟩ : DWrite)).getD k3 d_Write).Gone⟩ : DWrite)).getD k3 d_Write).Key, (((x30.set k3 (⟨(l_markText x29), (x30.getD k3 d_Write).Val, (x30.getD k3 d_Write).Gone⟩ : DWrite)).set k3 (⟨((x30.set k3 (⟨(l_markText x29), (x30.getD k3 d_Write).Val, (x30.getD k3 d_Write).Gone⟩ : DWrite)).getD k3 d_Write).Key, (l_markText (IntKind.wrap .i64 (x29 + 1))), ((x30.set k3 (⟨(l_markText x29), (x30.getD k3 d_Write).Val, (x30.getD k3 d_Write).Gone⟩ : DWrite)).getD k3 d_Write).Gone⟩ : DWrite)).getD k3 d_Write).Val, decide ((Int.tmod (IntKind.wrap .i64 ((IntKind.wrap .i64 (x29 + 1)) + 1)) 3) = 0)⟩ : DWrite)), rfl, hlt48, (by omega), rfl, rfl, rfl, hB73, (Mut.only (Mut.only (Mut.ex (Mut.only (Mut.ex hf44 hE51) hO58 (by simp only [InR, or_false]; omega)) hE61) hO68 (by simp only [InR, or_false]; omega)) hO74 (by simp only [InR, or_false]; omega)), (by first | omega | assumption | (simp only [IntKind.wrap_i64] at *; omega)), (loopM.cont hlt48 hB75).symm.trans hI38⟩
  ·refine CW.seq (CW.seq (CW.region (sd rfl (yl_move rfl rfl (sd rfl (yl_move rfl rfl (sd rfl (yl_len Try.un48 rfl rfl (sd rfl (yl_lss rfl rfl rfl (SeqR.done (tn ?_))))))))))))
   refine CW.cond_f rfl (lt_f hlt48) (CW.exit (tx (tx ?_)))
   have hL81 : loopM (B_l_markWriteS_0 p_a p_k) (p_a.length - 0) 0 (p_k, p_a) = .done (x29, x30) := hI38.symm.trans (loopM.stop hlt48)
   refine bx (tn (CW.seq (CW.region (sd rfl (yl_move rfl rfl (sd rfl (yl_assign rfl rfl (SeqR.done (tn (CW.ret ?_))))))))))
   refine rr rfl (.cons rfl .nil) ?_
   have hM82 : (l_markWriteS p_a p_k) = ((x29, x30)) := by simp only [l_markWriteS, hL81, cond_true, cond_false, loopE_done, loopE_ret]
   rw [hM82]
   exact ⟨rfl, hf43, hf44⟩
set_option maxRecDepth 100000 in
set_option maxHeartbeats 2000000 in
theorem c_l_markCopy {A1 : Option Addr} {c1 : Nat} {lo1 hi1 : Nat} {w : World} (p_a : DCopy) (p_k : Int) (h1 : OwnL w lo1 hi1 31 3 (RF e_Write) A1 p_a.Rows.length c1 p_a.Rows) (hrn2 : (0 ≤ lo1 ∧ lo1 ≤ hi1 ∧ hi1 ≤ w.heap.size)) (pre0 : p_k ≤ 9223372036854775807) : Cal Try.prog 36 #[.agg #[.int .i64 (p_a.Time), .slice A1 p_a.Rows.length c1], .int .i64 (p_k)] w fun v w' => v = .int .i64 ((l_markCopy p_a p_k).1) ∧ OwnL w' lo1 hi1 31 3 (RF e_Write) A1 p_a.Rows.length c1 ((l_markCopy p_a p_k).2.Rows) ∧ Mut [(lo1, hi1)] w w' := by
 refine Cal.of (vs := [.agg #[.int .i64 (p_a.Time), .slice A1 p_a.Rows.length c1], .int .i64 (p_k)]) Try.func36 rfl Try.ntmps36 rfl (CW.seq (CW.region (sd rfl (yl_box (cs := [.int .i64 (p_a.Time), .slice A1 p_a.Rows.length c1]) rfl rfl rfl ?_))))
 intro b3 w4 hs5 hz6 hB7 hE8
 refine sd rfl (yl_assign rfl rfl (SeqR.done (tn (CW.seq (CW.region (sd rfl (yl_fieldAddr Try.fd67_1 rfl rfl (sd rfl (yl_load1 Try.ty48 rfl rfl ((hB7.cell 1).trans rfl) (sd rfl (yl_move rfl rfl (sd rfl (yl_call Try.en27 rfl (opvs_cons rfl (opvs_cons rfl opvs_nil)) (Cal.mono (c_l_markWriteS p_a.Rows p_k (OwnL.ex good_Write h1 hE8) (by omega) (by first | omega | assumption | (simp only [IntKind.wrap_i64] at *; omega))) ?_))))))))))))))
 rintro v11 w10 ⟨rfl, h13, hm12⟩
 have hm12z := Mut.size hm12
 have hrf14 := rf_markWriteS p_a.Rows p_k (by first | omega | assumption | (simp only [IntKind.wrap_i64] at *; omega))
 refine sd rfl (yl_assign rfl rfl (SeqR.done (tn (CW.seq (CW.region (sd rfl (yl_move rfl rfl (sd rfl (yl_assign rfl rfl (SeqR.done (tn ?_)))))))))))
 refine CW.ret (rr rfl (.cons rfl .nil) ?_)
 have hM15 : (l_markCopy p_a p_k) = (((l_markWriteS p_a.Rows p_k).1, (⟨p_a.Time, (l_markWriteS p_a.Rows p_k).2⟩ : DCopy))) := by simp only [l_markCopy, cond_true, cond_false, loopE_done, loopE_ret]
 rw [hM15]
 exact ⟨rfl, h13, (Mut.mut (Mut.ex (Mut.refl (l := [(lo1, hi1)]) w) hE8) hm12 (fun k hk => by simp only [InR, or_false] at hk ⊢; omega))⟩
set_option maxRecDepth 100000 in
set_option maxHeartbeats 2000000 in
theorem c_l_markVerS {A1 : Option Addr} {c1 : Nat} {lo1 hi1 : Nat} {w : World} (p_a : List DVer) (p_k : Int) (h1 : OwnL w lo1 hi1 125 3 (RF e_Ver) A1 p_a.length c1 p_a) (hrn2 : (0 ≤ lo1 ∧ lo1 ≤ hi1 ∧ hi1 ≤ w.heap.size)) (pre0 : p_k ≤ 9223372036854775807) : Cal Try.prog 90 #[.slice A1 p_a.length c1, .int .i64 (p_k)] w fun v w' => v = .int .i64 ((l_markVerS p_a p_k).1) ∧ OwnL w' lo1 hi1 125 3 (RF e_Ver) A1 p_a.length c1 ((l_markVerS p_a p_k).2) ∧ Mut [(lo1, hi1)] w w' := by
 refine Cal.of (vs := [.slice A1 p_a.length c1, .int .i64 (p_k)]) Try.func90 rfl Try.ntmps90 rfl (CW.seq (CW.region (sd rfl (yl_assign rfl rfl (SeqR.done (tn (CW.seq (CW.seq (CW.region ?_)))))))))
 refine sd rfl (yl_assign rfl rfl (SeqR.done (tn (CW.block (CW.loop (fun m28 L29 w30 => ∃ (k3 : Nat) (x26 : Int) (x27 : List DVer), m28 = p_a.length - k3 ∧ k3 ≤ p_a.length ∧ w.heap.size ≤ w30.heap.size ∧ lkp L29 0 = some (.slice A1 p_a.length c1) ∧ lkp L29 1 = some (.int .i64 (x26)) ∧ lkp L29 5 = some (.int .i64 ((k3 : Int))) ∧ OwnL w30 lo1 hi1 125 3 (RF e_Ver) A1 p_a.length c1 x27 ∧ Mut [(lo1, hi1)] w w30 ∧ x26 ≤ 9223372036854775807 ∧ loopM (B_l_markVerS_0 p_a p_k) (p_a.length - k3) k3 (x26, x27) = loopM (B_l_markVerS_0 p_a p_k) (p_a.length - 0) 0 (p_k, p_a)) (p_a.length - 0) ?_ ?_)))))
 ·exact ⟨0, p_k, p_a, rfl, (by omega), Nat.le_refl _, rfl, rfl, rfl, h1, (Mut.refl (l := [(lo1, hi1)]) w), (by first | omega | assumption | (simp only [IntKind.wrap_i64] at *; omega)), rfl⟩
 ·rintro m31 L32 w33 ⟨k3, x26, x27, rfl, hk34, hsz36, hl37, hl38, hl39, hf40, hf41, hv42, hI35⟩
  refine CW.sub (Sub.cons hl37 (Sub.cons hl38 (Sub.cons hl39 (Sub.nil _)))) ?_
  have hf41z := Mut.size hf41
  have hbg43 := RdS.big (OwnL.rd good_Ver hf40)
  rcases Nat.lt_or_ge k3 p_a.length with hlt45 | hlt45
  ·refine CW.seq (CW.seq (CW.region (sd rfl (yl_move rfl rfl (sd rfl (yl_move rfl rfl (sd rfl (yl_len Try.un126 rfl rfl (sd rfl (yl_lss rfl rfl rfl (SeqR.done (tn ?_))))))))))))
   refine CW.cond_t rfl (lt_t hlt45) (CW.skip (tn (CW.seq (CW.block (CW.seq (CW.region (sd rfl (yl_move rfl rfl (sd rfl (yl_move rfl rfl ?_))))))))))
   refine sd rfl (yl_move rfl rfl ?_)
   obtain ⟨eb47, eo47, ec47, eA47, eS47, ebl47, el47, eR47, eC47⟩ := RdS.atD (OwnL.rd good_Ver hf40) d_Ver (i := k3) (by first | omega | assumption)
   obtain rfl := eR47
   have eC47 : Cells w33 eb47 (eo47 + k3 * 3) [.int .i64 ((x27.getD k3 d_Ver).Time), .string (bs ((x27.getD k3 d_Ver).Val)), .bool ((x27.getD k3 d_Ver).Gone)] := eC47
   refine sd rfl (yl_indexAddrN Try.un126 Try.ty125 rfl rfl rfl eA47 (by first | omega | assumption | (simp only [IntKind.wrap_i64] at *; omega)) (sd rfl (yl_fieldAddr Try.fd125_0 rfl rfl ?_)))
   have hrg48 := OwnL.rng hf40 (i := k3) (by first | omega | assumption | (simp only [IntKind.wrap_i64] at *; omega)) eb47 (by rw [eA47]; rfl)
   refine SeqR.u rfl rfl (yl_storeF (off := eo47) (i := k3) (d := 0) (dx := d_Ver) (x' := (⟨x26, (x27.getD k3 d_Ver).Val, (x27.getD k3 d_Ver).Gone⟩ : DVer)) (vs := [.int .i64 (x26)]) Try.ty3 rfl hf40 eA47 rfl rfl rfl rfl rfl (by first | omega | assumption | (simp only [IntKind.wrap_i64] at *; omega)) (Nat.le_of_ble_eq_true rfl) rfl rfl ?_)
   intro w49 hB50 hO51
   have hO51z := hO51.size
   refine SeqR.done (tn (CW.seq (CW.region (sd rfl (yl_move rfl rfl (sd rfl (yl_add rfl rfl rfl (sd rfl (yl_assign rfl rfl (SeqR.done (tn ?_)))))))))))
   refine CW.seq (CW.region (sd rfl (yl_move rfl rfl (sd rfl (yl_move rfl rfl (sd rfl (yl_move rfl rfl (sd rfl (yl_call Try.en83 rfl (opvs_cons rfl opvs_nil) (Cal.mono (c_l_markText (IntKind.wrap .i64 (x26 + 1)) (by first | omega | assumption | (simp only [IntKind.wrap_i64] at *; omega))) ?_))))))))))
   rintro v53 w52 ⟨rfl, hE54⟩
   have hE54z := Ex.size hE54
   have q56 := OwnL.ex good_Ver hB50 hE54
   obtain ⟨eb57, eo57, ec57, eA57, eS57, ebl57, el57, eR57, eC57⟩ := RdS.atD (OwnL.rd good_Ver q56) d_Ver (i := k3) (by first | omega | assumption)
   obtain rfl := eR57
   have eC57 : Cells w52 eb57 (eo57 + k3 * 3) [.int .i64 (((x27.set k3 (⟨x26, (x27.getD k3 d_Ver).Val, (x27.getD k3 d_Ver).Gone⟩ : DVer)).getD k3 d_Ver).Time), .string (bs (((x27.set k3 (⟨x26, (x27.getD k3 d_Ver).Val, (x27.getD k3 d_Ver).Gone⟩ : DVer)).getD k3 d_Ver).Val)), .bool (((x27.set k3 (⟨x26, (x27.getD k3 d_Ver).Val, (x27.getD k3 d_Ver).Gone⟩ : DVer)).getD k3 d_Ver).Gone)] := eC57
   refine sd rfl (yl_indexAddrN Try.un126 Try.ty125 rfl rfl rfl eA57 (by first | omega | assumption | (simp only [IntKind.wrap_i64] at *; omega)) (sd rfl (yl_fieldAddr Try.fd125_1 rfl rfl ?_)))
   have hrg58 := OwnL.rng q56 (i := k3) (by first | omega | assumption | (simp only [IntKind.wrap_i64] at *; omega)) eb57 (by rw [eA57]; rfl)
   refine SeqR.u rfl rfl (yl_storeF (off := eo57) (i := k3) (d := 1) (dx := d_Ver) (x' := (⟨((x27.set k3 (⟨x26, (x27.getD k3 d_Ver).Val, (x27.getD k3 d_Ver).Gone⟩ : DVer)).getD k3 d_Ver).Time, (l_markText (IntKind.wrap .i64 (x26 + 1))), ((x27.set k3 (⟨x26, (x27.getD k3 d_Ver).Val, (x27.getD k3 d_Ver).Gone⟩ : DVer)).getD k3 d_Ver).Gone⟩ : DVer)) (vs := [.string (bs ((l_markText (IntKind.wrap .i64 (x26 + 1)))))]) Try.ty9 rfl q56 eA57 rfl rfl rfl rfl rfl (by first | omega | assumption | (simp only [IntKind.wrap_i64] at *; omega)) (Nat.le_of_ble_eq_true rfl) rfl rfl ?_)
   intro w59 hB60 hO61
   have hO61z := hO61.size
   refine SeqR.done (tn (CW.seq (CW.region (sd rfl (yl_move rfl rfl (sd rfl (yl_add rfl rfl rfl (sd rfl (yl_assign rfl rfl (SeqR.done (tn ?_)))))))))))
   refine CW.seq (CW.region (sd rfl (yl_move rfl rfl (sd rfl (yl_move rfl rfl (sd rfl (yl_move rfl rfl (sd rfl (yl_rem rfl rfl rfl (by decide) (sd rfl (yl_eql rfl rfl rfl ?_)))))))))))
   obtain ⟨eb63, eo63, ec63, eA63, eS63, ebl63, el63, eR63, eC63⟩ := RdS.atD (OwnL.rd good_Ver hB60) d_Ver (i := k3) (by first | omega | assumption)
   obtain rfl := eR63
   have eC63 : Cells w59 eb63 (eo63 + k3 * 3) [.int .i64 ((((x27.set k3 (⟨x26, (x27.getD k3 d_Ver).Val, (x27.getD k3 d_Ver).Gone⟩ : DVer)).set k3 (⟨((x27.set k3 (⟨x26, (x27.getD k3 d_Ver).Val, (x27.getD k3 d_Ver).Gone⟩ : DVer)).getD k3 d_Ver).Time, (l_markText (IntKind.wrap .i64 (x26 + 1))), ((x27.set k3 (⟨x26, (x27.getD k3 d_Ver).Val, (x27.getD k3 d_Ver).Gone⟩ : DVer)).getD k3 d_Ver).Gone⟩ : DVer)).getD k3 d_Ver).Time), .string (bs ((((x27.set k3 (⟨x26, (x27.getD k3 d_Ver).Val, (x27.getD k3 d_Ver).Gone⟩ : DVer)).set k3 (⟨((x27.set k3 (⟨x26, (x27.getD k3 d_Ver).Val, (x27.getD k3 d_Ver).Gone⟩ : DVer)).getD k3 d_Ver).Time, (l_markText (IntKind.wrap .i64 (x26 + 1))), ((x27.set k3 (⟨x26, (x27.getD k3 d_Ver).Val, (x27.getD k3 d_Ver).Gone⟩ : DVer)).getD k3 d_Ver).Gone⟩ : DVer)).getD k3 d_Ver).Val)), .bool ((((x27.set k3 (⟨x26, (x27.getD k3 d_Ver).Val, (x27.getD k3 d_Ver).Gone⟩ : DVer)).set k3 (⟨((x27.set k3 (⟨x26, (x27.getD k3 d_Ver).Val, (x27.getD k3 d_Ver).Gone⟩ : DVer)).getD k3 d_Ver).Time, (l_markText (IntKind.wrap .i64 (x26 + 1))), ((x27.set k3 (⟨x26, (x27.getD k3 d_Ver).Val, (x27.getD k3 d_Ver).Gone⟩ : DVer)).getD k3 d_Ver).Gone⟩ : DVer)).getD k3 d_Ver).Gone)] := eC63
   refine sd rfl (yl_indexAddrN Try.un126 Try.ty125 rfl rfl rfl eA63 (by first | omega | assumption | (simp only [IntKind.wrap_i64] at *; omega)) (sd rfl (yl_fieldAddr Try.fd125_2 rfl rfl ?_)))
   have hrg64 := OwnL.rng hB60 (i := k3) (by first | omega | assumption | (simp only [IntKind.wrap_i64] at *; omega)) eb63 (by rw [eA63]; rfl)
   refine SeqR.u rfl rfl (yl_storeF (off := eo63) (i := k3) (d := 2) (dx := d_Ver) (x' := (⟨(((x27.set k3 (⟨x26, (x27.getD k3 d_Ver).Val, (x27.getD k3 d_Ver).Gone⟩ : DVer)).set k3 (⟨((x27.set k3 (⟨x26, (x27.getD k3 d_Ver).Val, (x27.getD k3 d_Ver).Gone⟩ : DVer)).getD k3 d_Ver).Time, (l_markText (IntKind.wrap .i64 (x26 + 1))), ((x27.set k3 (⟨x26, (x27.getD k3 d_Ver).Val, (x27.getD k3 d_Ver).Gone⟩ : DVer)).getD k3 d_Ver).Gone⟩ : DVer)).getD k3 d_Ver).Time, (((x27.set k3 (⟨x26, (x27.getD k3 d_Ver).Val, (x27.getD k3 d_Ver).Gone⟩ : DVer)).set k3 (⟨((x27.set k3 (⟨x26, (x27.getD k3 d_Ver).Val, (x27.getD k3 d_Ver).Gone⟩ : DVer)).getD k3 d_Ver).Time, (l_markText (IntKind.wrap .i64 (x26 + 1))), ((x27.set k3 (⟨x26, (x27.getD k3 d_Ver).Val, (x27.getD k3 d_Ver).Gone⟩ : DVer)).getD k3 d_Ver).Gone⟩ : DVer)).getD k3 d_Ver).Val, decide ((Int.tmod (IntKind.wrap .i64 ((IntKind.wrap .i64 (x26 + 1)) + 1)) 3) = 0)⟩ : DVer)) (vs := [.bool (decide ((Int.tmod (IntKind.wrap .i64 ((IntKind.wrap .i64 (x26 + 1)) + 1)) 3) = 0))]) Try.ty4 rfl hB60 eA63 rfl rfl rfl rfl rfl (by first | omega | assumption | (simp only [IntKind.wrap_i64] at *; omega)) (Nat.le_of_ble_eq_true rfl) rfl rfl ?_)
   intro w65 hB66 hO67
   have hO67z := hO67.size
   refine SeqR.done (tn (CW.region (sd rfl (yl_move rfl rfl (sd rfl (yl_add rfl rfl rfl (sd rfl (yl_assign rfl rfl (SeqR.done (bn (tn ?_)))))))))))
   refine CW.region (sd rfl (yl_move rfl rfl (sd rfl (yl_inc rfl rfl rfl (by omega) (sd rfl (yl_assign rfl rfl (SeqR.done (tn ?_))))))))
   have hB68 : B_l_markVerS_0 p_a p_k k3 (x26, x27) = .cont (IntKind.wrap .i64 ((IntKind.wrap .i64 ((IntKind.wrap .i64 (x26 + 1)) + 1)) + 1), (((x27.set k3 (⟨x26, (x27.getD k3 d_Ver).Val, (x27.getD k3 d_Ver).Gone⟩ : DVer)).set k3 (⟨((x27.set k3 (⟨x26, (x27.getD k3 d_Ver).Val, (x27.getD k3 d_Ver).Gone⟩ : DVer)).getD k3 d_Ver).Time, (l_markText (IntKind.wrap .i64 (x26 + 1))), ((x27.set k3 (⟨x26, (x27.getD k3 d_Ver).Val, (x27.getD k3 d_Ver).Gone⟩ : DVer)).getD k3 d_Ver).Gone⟩ : DVer)).set k3 (⟨(((x27.set k3 (⟨x26, (x27.getD k3 d_Ver).Val, (x27.getD k3 d_Ver).Gone⟩ : DVer)).set k3 (⟨((x27.set k3 (⟨x26, (x27.getD k3 d_Ver).Val, (x27.getD k3 d_Ver).Gone⟩ : DVer)).getD k3 d_Ver).Time, (l_markText (IntKind.wrap .i64 (x26 + 1))), ((x27.set k3 (⟨x26, (x27.getD k3 d_Ver).Val, (x27.getD k3 d_Ver).Gone⟩ : DVer)).getD k3 d_Ver).Gone⟩ : DVer)).getD k3 d_Ver).Time, (((x27.set k3 (⟨x26, (x27.getD k3 d_Ver).Val, (x27.getD k3 d_Ver).Gone⟩ : DVer)).set k3 (⟨((x27.set k3 (⟨x26, (x27.getD k3 d_Ver).Val, (x27.getD k3 d_Ver).Gone⟩ : DVer)).getD k3 d_Ver).Time, (l_markText (IntKind.wrap .i64 (x26 + 1))), ((x27.set k3 (⟨x26, (x27.getD k3 d_Ver).Val, (x27.getD k3 d_Ver).Gone⟩ : DVer)).getD k3 d_Ver).Gone⟩ : DVer)).getD k3 d_Ver).Val, decide ((Int.tmod (IntKind.wrap .i64 ((IntKind.wrap .i64 (x26 + 1)) + 1)) 3) = 0)⟩ : DVer))) := by simp only [B_l_markVerS_0, cond_true, cond_false, loopE_done, loopE_ret]
   exact ⟨p_a.length - (k3 + 1), by omega, k3 + 1, IntKind.wrap .i64 ((IntKind.wrap .i64 ((IntKind.wrap .i64 (x26 + 1)) + 1)) + 1), (((x27.set k3 (⟨x26, (x27.getD k3 d_Ver).Val, (x27.getD k3 d_Ver).Gone⟩ : DVer)).set k3 (⟨((x27.set k3 (⟨x26, (x27.getD k3 d_Ver).Val, (x27.getD k3 d_Ver).Gone⟩ : DVer)).getD k3 d_Ver).Time, (l_markText (IntKind.wrap .i64 (x26 + 1))), ((x27.set k3 (⟨x26, (x27.getD k3 d_Ver).Val, (x27.getD k3 d_Ver).Gone⟩ : DVer)).getD k3 d_Ver).Gone⟩ : DVer)).set k3 (⟨(((x27.set k3 (⟨x26, (x27.getD k3 d_Ver).Val, (x27.getD k3 d_Ver).Gone⟩ : DVer)).set k3 (⟨((x27.set k3 (⟨x26, (x27.getD k3 d_Ver).Val, (x27.getD k3 d_Ver).Gone⟩ : DVer)).getD k3 d_Ver).Time, (l_markText (IntKind.wrap .i64 (x26 + 1))), ((x27.set k3 (⟨x26, (x27.getD k3 d_Ver).Val, (x27.getD k3 d_Ver).Gone⟩ : DVer)).getD k3 d_Ver).Gone⟩ : DVer)).getD k3 d_Ver).Time, (((x27.set k3 (⟨x26, (x27.getD k3 d_Ver).Val, (x27.getD k3 d_Ver).Gone⟩ : DVer)).set k3 (⟨((x27.set k3 (⟨x26, (x27.getD k3 d_Ver).Val, (x27.getD k3 d_Ver).Gone⟩ : DVer)).getD k3 d_Ver).Time, (l_markText (IntKind.wrap .i64 (x26 + 1))), ((x27.set k3 (⟨x26, (x27.getD k3 d_Ver).Val, (x27.getD k3 d_Ver).Gone⟩ : DVer)).getD k3 d_Ver).Gone⟩ : DVer)).getD k3 d_Ver).Val, decide ((Int.tmod (IntKind.wrap .i64 ((IntKind.wrap .i64 (x26 + 1)) + 1)) 3) = 0)⟩ : DVer)), rfl, hlt45, (by omega), rfl, rfl, rfl, hB66, (Mut.only (Mut.only (Mut.ex (Mut.only hf41 hO51 (by simp only [InR, or_false]; omega)) hE54) hO61 (by simp only [InR, or_false]; omega)) hO67 (by simp only [InR, or_false]; omega)), (by first | omega | assumption | (simp only [IntKind.wrap_i64] at *; omega)), (loopM.cont hlt45 hB68).symm.trans hI35⟩
  ·refine CW.seq (CW.seq (CW.region (sd rfl (yl_move rfl rfl (sd rfl (yl_move rfl rfl (sd rfl (yl_len Try.un126 rfl rfl (sd rfl (yl_lss rfl rfl rfl (SeqR.done (tn ?_))))))))))))
   refine CW.cond_f rfl (lt_f hlt45) (CW.exit (tx (tx ?_)))
   have hL73 : loopM (B_l_markVerS_0 p_a p_k) (p_a.length - 0) 0 (p_k, p_a) = .done (x26, x27) := hI35.symm.trans (loopM.stop hlt45)
   refine bx (tn (CW.seq (CW.region (sd rfl (yl_move rfl rfl (sd rfl (yl_assign rfl rfl (SeqR.done (tn (CW.ret ?_))))))))))
   refine rr rfl (.cons rfl .nil) ?_
   have hM74 : (l_markVerS p_a p_k) = ((x26, x27)) := by simp only [l_markVerS, hL73, cond_true, cond_false, loopE_done, loopE_ret]
   rw [hM74]
   exact ⟨rfl, hf40, hf41⟩
set_option maxRecDepth 100000 in
set_option maxHeartbeats 2000000 in
theorem c_l_markCellS {A1 : Option Addr} {c1 : Nat} {lo1 hi1 : Nat} {w : World} (p_a : List DCell) (p_k : Int) (h1 : OwnD w lo1 hi1 128 2 RO_Cell A1 p_a.length c1 p_a) (hrn2 : (0 ≤ lo1 ∧ lo1 ≤ hi1 ∧ hi1 ≤ w.heap.size)) (pre0 : p_k ≤ 9223372036854775807) : Cal Try.prog 37 #[.slice A1 p_a.length c1, .int .i64 (p_k)] w fun v w' => v = .int .i64 ((l_markCellS p_a p_k).1) ∧ OwnD w' lo1 hi1 128 2 RO_Cell A1 p_a.length c1 ((l_markCellS p_a p_k).2) ∧ Mut [(lo1, hi1)] w w' := by
 refine Cal.of (vs := [.slice A1 p_a.length c1, .int .i64 (p_k)]) Try.func37 rfl Try.ntmps37 rfl (CW.seq (CW.region (sd rfl (yl_assign rfl rfl (SeqR.done (tn (CW.seq (CW.seq (CW.region ?_)))))))))
 refine sd rfl (yl_assign rfl rfl (SeqR.done (tn (CW.block (CW.loop (fun m21 L22 w23 => ∃ (k3 : Nat) (x19 : Int) (x20 : List DCell), m21 = p_a.length - k3 ∧ k3 ≤ p_a.length ∧ w.heap.size ≤ w23.heap.size ∧ lkp L22 0 = some (.slice A1 p_a.length c1) ∧ lkp L22 1 = some (.int .i64 (x19)) ∧ lkp L22 5 = some (.int .i64 ((k3 : Int))) ∧ OwnD w23 lo1 hi1 128 2 RO_Cell A1 p_a.length c1 x20 ∧ Mut [(lo1, hi1)] w w23 ∧ x19 ≤ 9223372036854775807 ∧ loopM (B_l_markCellS_0 p_a p_k) (p_a.length - k3) k3 (x19, x20) = loopM (B_l_markCellS_0 p_a p_k) (p_a.length - 0) 0 (p_k, p_a)) (p_a.length - 0) ?_ ?_)))))
 ·exact ⟨0, p_k, p_a, rfl, (by omega), Nat.le_refl _, rfl, rfl, rfl, h1, (Mut.refl (l := [(lo1, hi1)]) w), (by first | omega | assumption | (simp only [IntKind.wrap_i64] at *; omega)), rfl⟩
 ·rintro m24 L25 w26 ⟨k3, x19, x20, rfl, hk27, hsz29, hl30, hl31, hl32, hf33, hf34, hv35, hI28⟩
  refine CW.sub (Sub.cons hl30 (Sub.cons hl31 (Sub.cons hl32 (Sub.nil _)))) ?_
  have hf34z := Mut.size hf34
  have hbg36 := RdS.big (OwnL.rd good_Cell (OwnD.own goodO_Cell good_Cell hf33))
  rcases Nat.lt_or_ge k3 p_a.length with hlt38 | hlt38
  ·refine CW.seq (CW.seq (CW.region (sd rfl (yl_move rfl rfl (sd rfl (yl_move rfl rfl (sd rfl (yl_len Try.un63 rfl rfl (sd rfl (yl_lss rfl rfl rfl (SeqR.done (tn ?_))))))))))))
   refine CW.cond_t rfl (lt_t hlt38) (CW.skip (tn (CW.seq (CW.block (CW.seq (CW.region (sd rfl (yl_move rfl rfl (sd rfl (yl_move rfl rfl ?_))))))))))
   refine sd rfl (yl_move rfl rfl (sd rfl (yl_call Try.en83 rfl (opvs_cons rfl opvs_nil) (Cal.mono (c_l_markText x19 (by first | omega | assumption | (simp only [IntKind.wrap_i64] at *; omega))) ?_))))
   rintro v40 w39 ⟨rfl, hE41⟩
   have hE41z := Ex.size hE41
   obtain ⟨dg43, dl43, dh43, _, dA43, dr43, ds43, dx43, dlh43, ⟨A44, c44, lo44, hi44, rfl, h44, hrn45⟩, dR43⟩ := OwnD.open d_Cell (i := k3) (OwnD.ex goodO_Cell hf33 hE41) (by first | omega | assumption | (simp only [IntKind.wrap_i64] at *; omega))
   refine sd rfl (yl_indexAddrN Try.un63 Try.ty128 rfl rfl rfl dA43 (by first | omega | assumption | (simp only [IntKind.wrap_i64] at *; omega)) (sd rfl (yl_fieldAddr Try.fd128_0 rfl rfl (SeqR.u rfl rfl (yl_storeR (vs := [.string (bs ((l_markText x19)))]) (d := 0) Try.ty9 rfl dR43 dA43 goodO_Cell rfl rfl rfl rfl rfl (Nat.le_of_ble_eq_true rfl) ?_)))))
   intro w46 hB47 hO48
   have hO48z := hO48.size
   refine SeqR.done (tn (CW.seq (CW.region (sd rfl (yl_move rfl rfl (sd rfl (yl_add rfl rfl rfl (sd rfl (yl_assign rfl rfl (SeqR.done (tn ?_)))))))))))
   refine CW.region (sd rfl (yl_move rfl rfl (sd rfl (yl_move rfl rfl (sd rfl (yl_indexAddrN Try.un63 Try.ty128 rfl rfl rfl dA43 (by first | omega | assumption | (simp only [IntKind.wrap_i64] at *; omega)) (sd rfl (yl_fieldAddr Try.fd128_1 rfl rfl (sd rfl (yl_load1 Try.ty126 rfl rfl ((OwnR.cells' dA43 hB47) 1 _ rfl) (sd rfl (yl_move rfl rfl (sd rfl (yl_call Try.en90 rfl (opvs_cons rfl (opvs_cons rfl opvs_nil)) (Cal.mono (c_l_markVerS ((x20.getD k3 d_Cell).Vers) (IntKind.wrap .i64 (x19 + 1)) (OwnL.only good_Ver h44 hO48 (by omega)) (by omega) (by first | omega | assumption | (simp only [IntKind.wrap_i64] at *; omega))) ?_)))))))))))))))
   rintro v51 w50 ⟨rfl, h53, hm52⟩
   have hm52z := Mut.size hm52
   have hrf54 := rf_markVerS ((x20.getD k3 d_Cell).Vers) (IntKind.wrap .i64 (x19 + 1)) (by first | omega | assumption | (simp only [IntKind.wrap_i64] at *; omega))
   refine sd rfl (yl_assign rfl rfl (SeqR.done (bn (tn (CW.region (sd rfl (yl_move rfl rfl (sd rfl (yl_inc rfl rfl rfl (by omega) (sd rfl (yl_assign rfl rfl (SeqR.done ?_))))))))))))
   refine tn ?_
   have hB55 : B_l_markCellS_0 p_a p_k k3 (x19, x20) = .cont ((l_markVerS ((x20.getD k3 d_Cell).Vers) (IntKind.wrap .i64 (x19 + 1))).1, (x20.set k3 (⟨(l_markText x19), (l_markVerS ((x20.getD k3 d_Cell).Vers) (IntKind.wrap .i64 (x19 + 1))).2⟩ : DCell))) := by simp only [B_l_markCellS_0, cond_true, cond_false, loopE_done, loopE_ret]
   exact ⟨p_a.length - (k3 + 1), by omega, k3 + 1, (l_markVerS ((x20.getD k3 d_Cell).Vers) (IntKind.wrap .i64 (x19 + 1))).1, (x20.set k3 (⟨(l_markText x19), (l_markVerS ((x20.getD k3 d_Cell).Vers) (IntKind.wrap .i64 (x19 + 1))).2⟩ : DCell)), rfl, hlt38, (by omega), rfl, rfl, rfl, (OwnR.close (OwnR.mut goodO_Cell hB47 hm52 (fun k hk => by simp only [InR, or_false] at hk; omega)) (mkO_Cell (l := dl43) (h := dh43) h53 (by omega))), (Mut.mut (Mut.only (Mut.ex hf34 hE41) hO48 (by simp only [InR, or_false]; omega)) hm52 (fun k hk => by simp only [InR, or_false] at hk ⊢; omega)), (by first | omega | assumption | (simp only [IntKind.wrap_i64] at *; omega)), (loopM.cont hlt38 hB55).symm.trans hI28⟩
  ·refine CW.seq (CW.seq (CW.region (sd rfl (yl_move rfl rfl (sd rfl (yl_move rfl rfl (sd rfl (yl_len Try.un63 rfl rfl (sd rfl (yl_lss rfl rfl rfl (SeqR.done (tn ?_))))))))))))
   refine CW.cond_f rfl (lt_f hlt38) (CW.exit (tx (tx ?_)))
   have hL60 : loopM (B_l_markCellS_0 p_a p_k) (p_a.length - 0) 0 (p_k, p_a) = .done (x19, x20) := hI28.symm.trans (loopM.stop hlt38)
   refine bx (tn (CW.seq (CW.region (sd rfl (yl_move rfl rfl (sd rfl (yl_assign rfl rfl (SeqR.done (tn (CW.ret ?_))))))))))
   refine rr rfl (.cons rfl .nil) ?_
   have hM61 : (l_markCellS p_a p_k) = ((x19, x20)) := by simp only [l_markCellS, hL60, cond_true, cond_false, loopE_done, loopE_ret]
   rw [hM61]
   exact ⟨rfl, hf33, hf34⟩
set_option maxRecDepth 100000 in
set_option maxHeartbeats 2000000 in
theorem c_l_heldVerS {A1 : Option Addr} {c1 : Nat} {w : World} (p_a : List DVer) (p_k : Int) (h1 : RdS w (Iv 0 w.heap.size) (RF e_Ver) 3 A1 p_a.length c1 p_a) (pre0 : p_k ≤ 9223372036854775807) : Cal Try.prog 91 #[.slice A1 p_a.length c1, .int .i64 (p_k)] w fun v w' => v = .int .i64 ((l_heldVerS p_a p_k)) ∧ Ex w w' := by
 refine Cal.of (vs := [.slice A1 p_a.length c1, .int .i64 (p_k)]) Try.func91 rfl Try.ntmps91 rfl (CW.seq (CW.region (sd rfl (yl_assign rfl rfl (SeqR.done (tn (CW.seq (CW.seq (CW.region ?_)))))))))
 refine sd rfl (yl_assign rfl rfl (SeqR.done (tn (CW.block (CW.loop (fun m4 L5 w6 => ∃ (k2 : Nat) (x3 : Int), m4 = p_a.length - k2 ∧ k2 ≤ p_a.length ∧ w.heap.size ≤ w6.heap.size ∧ lkp L5 0 = some (.slice A1 p_a.length c1) ∧ lkp L5 1 = some (.int .i64 (x3)) ∧ lkp L5 5 = some (.int .i64 ((k2 : Int))) ∧ RdS w6 (Iv 0 w.heap.size) (RF e_Ver) 3 A1 p_a.length c1 p_a ∧ Ex w w6 ∧ x3 ≤ 9223372036854775807 ∧ loopM (B_l_heldVerS_0 p_a p_k) (p_a.length - k2) k2 (x3) = loopM (B_l_heldVerS_0 p_a p_k) (p_a.length - 0) 0 (p_k)) (p_a.length - 0) ?_ ?_)))))
 ·exact ⟨0, p_k, rfl, (by omega), Nat.le_refl _, rfl, rfl, rfl, h1, (Ex.refl w), (by first | omega | assumption | (simp only [IntKind.wrap_i64] at *; omega)), rfl⟩
 ·rintro m7 L8 w9 ⟨k2, x3, rfl, hk10, hsz12, hl13, hl14, hl15, hf16, hf17, hv18, hI11⟩
  refine CW.sub (Sub.cons hl13 (Sub.cons hl14 (Sub.cons hl15 (Sub.nil _)))) ?_
  have hf17z := Ex.size hf17
  have hbg19 := RdS.big hf16
  rcases Nat.lt_or_ge k2 p_a.length with hlt20 | hlt20
  ·refine CW.seq (CW.seq (CW.region (sd rfl (yl_move rfl rfl (sd rfl (yl_move rfl rfl (sd rfl (yl_len Try.un126 rfl rfl (sd rfl (yl_lss rfl rfl rfl (SeqR.done (tn ?_))))))))))))
   refine CW.cond_t rfl (lt_t hlt20) (CW.skip (tn (CW.seq (CW.block (CW.seq (CW.seq (CW.region (sd rfl (yl_move rfl rfl ?_)))))))))
   refine sd rfl (yl_move rfl rfl ?_)
   obtain ⟨eb21, eo21, ec21, eA21, eS21, ebl21, el21, eR21, eC21⟩ := RdS.atD hf16 d_Ver (i := k2) (by first | omega | assumption)
   obtain rfl := eR21
   have eC21 : Cells w9 eb21 (eo21 + k2 * 3) [.int .i64 ((p_a.getD k2 d_Ver).Time), .string (bs ((p_a.getD k2 d_Ver).Val)), .bool ((p_a.getD k2 d_Ver).Gone)] := eC21
   refine sd rfl (yl_indexAddrN Try.un126 Try.ty125 rfl rfl rfl eA21 (by first | omega | assumption | (simp only [IntKind.wrap_i64] at *; omega)) (sd rfl (yl_fieldAddr Try.fd125_0 rfl rfl (sd rfl (yl_load1 Try.ty3 rfl rfl (eC21 0 _ rfl) (sd rfl (yl_move rfl rfl (sd rfl (yl_neq rfl rfl rfl (SeqR.done (tn (bcase (decide (((p_a.getD k2 d_Ver).Time) = x3)) (fun hb22 => ?_) (fun hb22 => ?_)))))))))))))
   ·have hb22p := dec_t hb22
    refine CW.cond_f rfl (not_t hb22) (CW.skip (tn (CW.seq (CW.region (sd rfl (yl_move rfl rfl (sd rfl (yl_add rfl rfl rfl (sd rfl (yl_assign rfl rfl (SeqR.done ?_)))))))))))
    refine tn (CW.seq (CW.seq (CW.drawsI 8 (vgetI [DetI (.slice A1 p_a.length c1), DetI (.int .i64 ((k2 : Int))), DetI (.pointer (some ⟨eb21, eo21 + k2 * 3, none⟩)), DetI (.pointer (some ⟨eb21, eo21 + k2 * 3 + 1, none⟩)), DetI (.string (bs ((p_a.getD k2 d_Ver).Val))), DetI (.int .i64 (IntKind.wrap .i64 (x3 + 1))), DetI (.string (bs ((l_markText (IntKind.wrap .i64 (x3 + 1)))))), DetI (.bool (!(((p_a.getD k2 d_Ver).Val) == (l_markText (IntKind.wrap .i64 (x3 + 1))))))]) Try.follows rfl rfl rfl rfl rfl rfl (vgetI_stable ⟨StableI.det _, StableI.det _, StableI.det _, StableI.det _, StableI.det _, StableI.det _, StableI.det _, StableI.det _, trivial⟩) ⟨?_, ?_, ?_, ?_, ?_, ?_, ?_, ?_, trivial⟩ ?_)))
    ·exact fun _ _ h => os rfl ((yl_move rfl (h.old 0 _ rfl rfl) kI))
    ·exact fun _ _ h => os rfl ((yl_move rfl (h.old 5 _ rfl rfl) kI))
    ·intro L34 w35 hi36
     have hE37 := hi36.ex
     have hE37z := Ex.size hE37
     exact os rfl ((yl_indexAddrN Try.un126 Try.ty125 rfl (hi36.dt 0 21 rfl rfl rfl) (hi36.dt 1 22 rfl rfl rfl) eA21 (by first | omega | assumption | (simp only [IntKind.wrap_i64] at *; omega)) kI))
    ·exact fun _ _ h => os rfl ((yl_fieldAddr Try.fd125_1 rfl (h.dt 2 23 rfl rfl rfl) kI))
    ·exact fun _ _ h => os rfl ((yl_load1 Try.ty9 rfl (h.dt 3 24 rfl rfl rfl) ((Cells.ex eC21 h.ex) 1 _ rfl) kI))
    ·exact fun _ _ h => os rfl ((yl_move rfl (h.old 1 _ rfl rfl) kI))
    ·intro L56 w57 hi58
     have hE59 := hi58.ex
     have hE59z := Ex.size hE59
     refine OpR.op' rfl (yl_call Try.en83 rfl (opvs_cons (hi58.dt 5 26 rfl rfl rfl) opvs_nil) (Cal.mono (c_l_markText (IntKind.wrap .i64 (x3 + 1)) (by first | omega | assumption | (simp only [IntKind.wrap_i64] at *; omega))) ?_))
     rintro v62 w61 ⟨rfl, hE63⟩
     exact ⟨rfl, hE63⟩
    ·exact fun _ _ h => os rfl ((yl_sneq (a := ((p_a.getD k2 d_Ver).Val)) (b := (l_markText (IntKind.wrap .i64 (x3 + 1)))) rfl (h.dt 4 25 rfl rfl rfl) (h.dt 6 27 rfl rfl rfl) kI))
    ·intro fl73 fh74 L70 w71 hp72
     have hE75 := hp72.ex
     have hE75z := Ex.size hE75
     refine SeqR.done (tn (CW.sub (Sub.cons (d := 0) (hp72.old 0 _ rfl rfl) (Sub.cons (d := 1) (hp72.old 1 _ rfl rfl) (Sub.cons (d := 5) (hp72.old 5 _ rfl rfl) (Sub.cons (d := 28) (hp72.nt 7 28 rfl rfl rfl) (Sub.nil _))))) (bcase (((p_a.getD k2 d_Ver).Val) == (l_markText (IntKind.wrap .i64 (x3 + 1)))) (fun hb80 => ?_) (fun hb80 => ?_))))
     ·refine CW.cond_f rfl (not_t hb80) (CW.skip (tn (CW.seq (CW.region (sd rfl (yl_move rfl rfl (sd rfl (yl_add rfl rfl rfl (sd rfl (yl_assign rfl rfl (SeqR.done ?_)))))))))))
      refine tn (CW.seq (CW.seq (CW.region (sd rfl (yl_move rfl rfl (sd rfl (yl_move rfl rfl (sd rfl (yl_indexAddrN Try.un126 Try.ty125 rfl rfl rfl eA21 (by first | omega | assumption | (simp only [IntKind.wrap_i64] at *; omega)) (sd rfl (yl_fieldAddr Try.fd125_2 rfl rfl (sd rfl (yl_load1 Try.ty4 rfl rfl ((Cells.ex eC21 hE75) 2 _ rfl) ?_)))))))))))))
      refine sd rfl (yl_move rfl rfl (sd rfl (yl_rem rfl rfl rfl (by decide) (sd rfl (yl_eql rfl rfl rfl (sd rfl (yl_bneq Try.un4 rfl rfl rfl (SeqR.done (tn (bcase (((p_a.getD k2 d_Ver).Gone) == (decide ((Int.tmod (IntKind.wrap .i64 ((IntKind.wrap .i64 (x3 + 1)) + 1)) 3) = 0))) (fun hb82 => ?_) (fun hb82 => ?_)))))))))))
      ·refine CW.cond_f rfl (not_t hb82) (CW.skip (tn (CW.region (sd rfl (yl_move rfl rfl (sd rfl (yl_add rfl rfl rfl (sd rfl (yl_assign rfl rfl (SeqR.done (bn ?_)))))))))))
       refine tn (CW.region (sd rfl (yl_move rfl rfl (sd rfl (yl_inc rfl rfl rfl (by omega) (sd rfl (yl_assign rfl rfl (SeqR.done (tn ?_)))))))))
       have hB83 : B_l_heldVerS_0 p_a p_k k2 (x3) = .cont (IntKind.wrap .i64 ((IntKind.wrap .i64 ((IntKind.wrap .i64 (x3 + 1)) + 1)) + 1)) := by simp only [B_l_heldVerS_0, hb22, hb80, hb82, cond_true, cond_false, loopE_done, loopE_ret]
       exact ⟨p_a.length - (k2 + 1), by omega, k2 + 1, IntKind.wrap .i64 ((IntKind.wrap .i64 ((IntKind.wrap .i64 (x3 + 1)) + 1)) + 1), rfl, hlt20, (by omega), rfl, rfl, rfl, (RdS.ex good_Ver hf16 hE75), (Ex.trans hf17 hE75), (by first | omega | assumption | (simp only [IntKind.wrap_i64] at *; omega)), (loopM.cont hlt20 hB83).symm.trans hI11⟩
      ·refine CW.cond_t rfl (not_f hb82) (CW.seq (CW.region (sd rfl (yl_assign rfl rfl (SeqR.done (tn (CW.ret (tr (br ?_)))))))))
       refine tr (tr ?_)
       have hB87 : B_l_heldVerS_0 p_a p_k k2 (x3) = .ret (-1) := by simp only [B_l_heldVerS_0, hb22, hb80, hb82, cond_true, cond_false, loopE_done, loopE_ret]
       have hL86 : loopM (B_l_heldVerS_0 p_a p_k) (p_a.length - 0) 0 (p_k) = .ret (-1) := hI11.symm.trans (loopM.ret hlt20 hB87)
       refine br (tr (rr rfl (.cons rfl .nil) ?_))
       have hM88 : (l_heldVerS p_a p_k) = (-1) := by simp only [l_heldVerS, hb22, hb80, hb82, hL86, cond_true, cond_false, loopE_done, loopE_ret]
       rw [hM88]
       exact ⟨rfl, (Ex.trans hf17 hE75)⟩
     ·refine CW.cond_t rfl (not_f hb80) (CW.seq (CW.region (sd rfl (yl_assign rfl rfl (SeqR.done (tn (CW.ret (tr (br ?_)))))))))
      refine tr (tr ?_)
      have hB91 : B_l_heldVerS_0 p_a p_k k2 (x3) = .ret (-1) := by simp only [B_l_heldVerS_0, hb22, hb80, cond_true, cond_false, loopE_done, loopE_ret]
      have hL90 : loopM (B_l_heldVerS_0 p_a p_k) (p_a.length - 0) 0 (p_k) = .ret (-1) := hI11.symm.trans (loopM.ret hlt20 hB91)
      refine br (tr (rr rfl (.cons rfl .nil) ?_))
      have hM92 : (l_heldVerS p_a p_k) = (-1) := by simp only [l_heldVerS, hb22, hb80, hL90, cond_true, cond_false, loopE_done, loopE_ret]
      rw [hM92]
      exact ⟨rfl, (Ex.trans hf17 hE75)⟩
   ·have hb22p := dec_f hb22
    refine CW.cond_t rfl (not_f hb22) (CW.seq (CW.region (sd rfl (yl_assign rfl rfl (SeqR.done (tn (CW.ret (tr (br ?_)))))))))
    refine tr (tr ?_)
    have hB95 : B_l_heldVerS_0 p_a p_k k2 (x3) = .ret (-1) := by simp only [B_l_heldVerS_0, hb22, cond_true, cond_false, loopE_done, loopE_ret]
    have hL94 : loopM (B_l_heldVerS_0 p_a p_k) (p_a.length - 0) 0 (p_k) = .ret (-1) := hI11.symm.trans (loopM.ret hlt20 hB95)
    refine br (tr (rr rfl (.cons rfl .nil) ?_))
    have hM96 : (l_heldVerS p_a p_k) = (-1) := by simp only [l_heldVerS, hb22, hL94, cond_true, cond_false, loopE_done, loopE_ret]
    rw [hM96]
    exact ⟨rfl, hf17⟩
  ·refine CW.seq (CW.seq (CW.region (sd rfl (yl_move rfl rfl (sd rfl (yl_move rfl rfl (sd rfl (yl_len Try.un126 rfl rfl (sd rfl (yl_lss rfl rfl rfl (SeqR.done (tn ?_))))))))))))
   refine CW.cond_f rfl (lt_f hlt20) (CW.exit (tx (tx ?_)))
   have hL97 : loopM (B_l_heldVerS_0 p_a p_k) (p_a.length - 0) 0 (p_k) = .done (x3) := hI11.symm.trans (loopM.stop hlt20)
   refine bx (tn (CW.seq (CW.region (sd rfl (yl_move rfl rfl (sd rfl (yl_assign rfl rfl (SeqR.done (tn (CW.ret ?_))))))))))
   refine rr rfl (.cons rfl .nil) ?_
   have hM98 : (l_heldVerS p_a p_k) = (x3) := by simp only [l_heldVerS, hL97, cond_true, cond_false, loopE_done, loopE_ret]
   rw [hM98]
   exact ⟨rfl, hf17⟩
set_option maxRecDepth 100000 in
set_option maxHeartbeats 2000000 in
theorem c_l_heldCellS {A1 : Option Addr} {c1 : Nat} {w : World} (p_a : List DCell) (p_k : Int) (h1 : RdS w (Iv 0 w.heap.size) R_Cell 2 A1 p_a.length c1 p_a) (pre0 : p_k ≤ 9223372036854775807) : Cal Try.prog 38 #[.slice A1 p_a.length c1, .int .i64 (p_k)] w fun v w' => v = .int .i64 ((l_heldCellS p_a p_k)) ∧ Ex w w' := by
 refine Cal.of (vs := [.slice A1 p_a.length c1, .int .i64 (p_k)]) Try.func38 rfl Try.ntmps38 rfl (CW.seq (CW.region (sd rfl (yl_assign rfl rfl (SeqR.done (tn (CW.seq (CW.seq (CW.region ?_)))))))))
 refine sd rfl (yl_assign rfl rfl (SeqR.done (tn (CW.block (CW.loop (fun m4 L5 w6 => ∃ (k2 : Nat) (x3 : Int), m4 = p_a.length - k2 ∧ k2 ≤ p_a.length ∧ w.heap.size ≤ w6.heap.size ∧ lkp L5 0 = some (.slice A1 p_a.length c1) ∧ lkp L5 1 = some (.int .i64 (x3)) ∧ lkp L5 5 = some (.int .i64 ((k2 : Int))) ∧ RdS w6 (Iv 0 w.heap.size) R_Cell 2 A1 p_a.length c1 p_a ∧ Ex w w6 ∧ x3 ≤ 9223372036854775807 ∧ loopM (B_l_heldCellS_0 p_a p_k) (p_a.length - k2) k2 (x3) = loopM (B_l_heldCellS_0 p_a p_k) (p_a.length - 0) 0 (p_k)) (p_a.length - 0) ?_ ?_)))))
 ·exact ⟨0, p_k, rfl, (by omega), Nat.le_refl _, rfl, rfl, rfl, h1, (Ex.refl w), (by first | omega | assumption | (simp only [IntKind.wrap_i64] at *; omega)), rfl⟩
 ·rintro m7 L8 w9 ⟨k2, x3, rfl, hk10, hsz12, hl13, hl14, hl15, hf16, hf17, hv18, hI11⟩
  refine CW.sub (Sub.cons hl13 (Sub.cons hl14 (Sub.cons hl15 (Sub.nil _)))) ?_
  have hf17z := Ex.size hf17
  have hbg19 := RdS.big hf16
  rcases Nat.lt_or_ge k2 p_a.length with hlt20 | hlt20
  ·refine CW.seq (CW.seq (CW.region (sd rfl (yl_move rfl rfl (sd rfl (yl_move rfl rfl (sd rfl (yl_len Try.un63 rfl rfl (sd rfl (yl_lss rfl rfl rfl (SeqR.done (tn ?_))))))))))))
   refine CW.cond_t rfl (lt_t hlt20) (CW.skip (tn (CW.seq (CW.block (CW.seq (CW.seq ?_))))))
   obtain ⟨eb21, eo21, ec21, eA21, eS21, ebl21, el21, eR21, eC21⟩ := RdS.atD hf16 d_Cell (i := k2) (by first | omega | assumption)
   obtain ⟨A22, c22, rfl, h22⟩ := eR21
   have eC21 : Cells w9 eb21 (eo21 + k2 * 2) [.string (bs ((p_a.getD k2 d_Cell).Key)), .slice A22 (((p_a.getD k2 d_Cell).Vers).length) c22] := eC21
   refine CW.drawsI 8 (vgetI [DetI (.slice A1 p_a.length c1), DetI (.int .i64 ((k2 : Int))), DetI (.pointer (some ⟨eb21, eo21 + k2 * 2, none⟩)), DetI (.pointer (some ⟨eb21, eo21 + k2 * 2 + 0, none⟩)), DetI (.string (bs ((p_a.getD k2 d_Cell).Key))), DetI (.int .i64 (x3)), DetI (.string (bs ((l_markText x3)))), DetI (.bool (!(((p_a.getD k2 d_Cell).Key) == (l_markText x3))))]) Try.follows rfl rfl rfl rfl rfl rfl (vgetI_stable ⟨StableI.det _, StableI.det _, StableI.det _, StableI.det _, StableI.det _, StableI.det _, StableI.det _, StableI.det _, trivial⟩) ⟨?_, ?_, ?_, ?_, ?_, ?_, ?_, ?_, trivial⟩ ?_
   ·exact fun _ _ h => os rfl ((yl_move rfl (h.old 0 _ rfl rfl) kI))
   ·exact fun _ _ h => os rfl ((yl_move rfl (h.old 5 _ rfl rfl) kI))
   ·intro L34 w35 hi36
    have hE37 := hi36.ex
    have hE37z := Ex.size hE37
    exact os rfl ((yl_indexAddrN Try.un63 Try.ty128 rfl (hi36.dt 0 12 rfl rfl rfl) (hi36.dt 1 13 rfl rfl rfl) eA21 (by first | omega | assumption | (simp only [IntKind.wrap_i64] at *; omega)) kI))
   ·exact fun _ _ h => os rfl ((yl_fieldAddr Try.fd128_0 rfl (h.dt 2 14 rfl rfl rfl) kI))
   ·exact fun _ _ h => os rfl ((yl_load1 Try.ty9 rfl (h.dt 3 15 rfl rfl rfl) ((Cells.ex eC21 h.ex) 0 _ rfl) kI))
   ·exact fun _ _ h => os rfl ((yl_move rfl (h.old 1 _ rfl rfl) kI))
   ·intro L56 w57 hi58
    have hE59 := hi58.ex
    have hE59z := Ex.size hE59
    refine OpR.op' rfl (yl_call Try.en83 rfl (opvs_cons (hi58.dt 5 17 rfl rfl rfl) opvs_nil) (Cal.mono (c_l_markText x3 (by first | omega | assumption | (simp only [IntKind.wrap_i64] at *; omega))) ?_))
    rintro v62 w61 ⟨rfl, hE63⟩
    exact ⟨rfl, hE63⟩
   ·exact fun _ _ h => os rfl ((yl_sneq (a := ((p_a.getD k2 d_Cell).Key)) (b := (l_markText x3)) rfl (h.dt 4 16 rfl rfl rfl) (h.dt 6 18 rfl rfl rfl) kI))
   ·intro fl73 fh74 L70 w71 hp72
    have hE75 := hp72.ex
    have hE75z := Ex.size hE75
    refine SeqR.done (tn (CW.sub (Sub.cons (d := 0) (hp72.old 0 _ rfl rfl) (Sub.cons (d := 1) (hp72.old 1 _ rfl rfl) (Sub.cons (d := 5) (hp72.old 5 _ rfl rfl) (Sub.cons (d := 19) (hp72.nt 7 19 rfl rfl rfl) (Sub.nil _))))) (bcase (((p_a.getD k2 d_Cell).Key) == (l_markText x3)) (fun hb80 => ?_) (fun hb80 => ?_))))
    ·refine CW.cond_f rfl (not_t hb80) (CW.skip (tn (CW.seq (CW.region (sd rfl (yl_move rfl rfl (sd rfl (yl_add rfl rfl rfl (sd rfl (yl_assign rfl rfl (SeqR.done ?_)))))))))))
     refine tn (CW.seq (CW.region (sd rfl (yl_move rfl rfl (sd rfl (yl_move rfl rfl (sd rfl (yl_indexAddrN Try.un63 Try.ty128 rfl rfl rfl eA21 (by first | omega | assumption | (simp only [IntKind.wrap_i64] at *; omega)) (sd rfl (yl_fieldAddr Try.fd128_1 rfl rfl (sd rfl (yl_load1 Try.ty126 rfl rfl ((Cells.ex eC21 hE75) 1 _ rfl) (sd rfl (yl_move rfl rfl ?_))))))))))))))
     refine sd rfl (yl_call Try.en91 rfl (opvs_cons rfl (opvs_cons rfl opvs_nil)) (Cal.mono (c_l_heldVerS ((p_a.getD k2 d_Cell).Vers) (IntKind.wrap .i64 (x3 + 1)) (RdS.up (RdS.ex good_Ver h22 hE75) good_Ver) (by first | omega | assumption | (simp only [IntKind.wrap_i64] at *; omega))) ?_))
     rintro v84 w83 ⟨rfl, hE85⟩
     have hE85z := Ex.size hE85
     have hrf86 := rf_heldVerS ((p_a.getD k2 d_Cell).Vers) (IntKind.wrap .i64 (x3 + 1)) (by first | omega | assumption | (simp only [IntKind.wrap_i64] at *; omega))
     refine sd rfl (yl_assign rfl rfl (SeqR.done (tn (CW.seq (CW.region (sd rfl (yl_move rfl rfl (sd rfl (yl_lss rfl rfl rfl (SeqR.done (tn ?_)))))))))))
     refine bcase (decide ((l_heldVerS ((p_a.getD k2 d_Cell).Vers) (IntKind.wrap .i64 (x3 + 1))) < 0)) (fun hb87 => ?_) (fun hb87 => ?_)
     ·have hb87p := dec_t hb87
      refine CW.cond_t rfl hb87 (CW.seq (CW.region (sd rfl (yl_assign rfl rfl (SeqR.done (tn (CW.ret (br (tr ?_)))))))))
      refine tr ?_
      have hB89 : B_l_heldCellS_0 p_a p_k k2 (x3) = .ret (-1) := by simp only [B_l_heldCellS_0, hb80, hb87, cond_true, cond_false, loopE_done, loopE_ret]
      have hL88 : loopM (B_l_heldCellS_0 p_a p_k) (p_a.length - 0) 0 (p_k) = .ret (-1) := hI11.symm.trans (loopM.ret hlt20 hB89)
      refine br (tr (rr rfl (.cons rfl .nil) ?_))
      have hM90 : (l_heldCellS p_a p_k) = (-1) := by simp only [l_heldCellS, hb80, hb87, hL88, cond_true, cond_false, loopE_done, loopE_ret]
      rw [hM90]
      exact ⟨rfl, (Ex.trans (Ex.trans hf17 hE75) hE85)⟩
     ·have hb87p := dec_f hb87
      refine CW.cond_f rfl hb87 (CW.skip (bn (tn (CW.region (sd rfl (yl_move rfl rfl (sd rfl (yl_inc rfl rfl rfl (by omega) (sd rfl (yl_assign rfl rfl (SeqR.done ?_)))))))))))
      refine tn ?_
      have hB93 : B_l_heldCellS_0 p_a p_k k2 (x3) = .cont ((l_heldVerS ((p_a.getD k2 d_Cell).Vers) (IntKind.wrap .i64 (x3 + 1)))) := by simp only [B_l_heldCellS_0, hb80, hb87, cond_true, cond_false, loopE_done, loopE_ret]
      exact ⟨p_a.length - (k2 + 1), by omega, k2 + 1, (l_heldVerS ((p_a.getD k2 d_Cell).Vers) (IntKind.wrap .i64 (x3 + 1))), rfl, hlt20, (by omega), rfl, rfl, rfl, (RdS.ex good_Cell (RdS.ex good_Cell hf16 hE75) hE85), (Ex.trans (Ex.trans hf17 hE75) hE85), (by first | omega | assumption | (simp only [IntKind.wrap_i64] at *; omega)), (loopM.cont hlt20 hB93).symm.trans hI11⟩
    ·refine CW.cond_t rfl (not_f hb80) (CW.seq (CW.region (sd rfl (yl_assign rfl rfl (SeqR.done (tn (CW.ret (tr (br ?_)))))))))
     refine tr (tr ?_)
     have hB99 : B_l_heldCellS_0 p_a p_k k2 (x3) = .ret (-1) := by simp only [B_l_heldCellS_0, hb80, cond_true, cond_false, loopE_done, loopE_ret]
     have hL98 : loopM (B_l_heldCellS_0 p_a p_k) (p_a.length - 0) 0 (p_k) = .ret (-1) := hI11.symm.trans (loopM.ret hlt20 hB99)
     refine br (tr (rr rfl (.cons rfl .nil) ?_))
     have hM100 : (l_heldCellS p_a p_k) = (-1) := by simp only [l_heldCellS, hb80, hL98, cond_true, cond_false, loopE_done, loopE_ret]
     rw [hM100]
     exact ⟨rfl, (Ex.trans hf17 hE75)⟩
  ·refine CW.seq (CW.seq (CW.region (sd rfl (yl_move rfl rfl (sd rfl (yl_move rfl rfl (sd rfl (yl_len Try.un63 rfl rfl (sd rfl (yl_lss rfl rfl rfl (SeqR.done (tn ?_))))))))))))
   refine CW.cond_f rfl (lt_f hlt20) (CW.exit (tx (tx ?_)))
   have hL102 : loopM (B_l_heldCellS_0 p_a p_k) (p_a.length - 0) 0 (p_k) = .done (x3) := hI11.symm.trans (loopM.stop hlt20)
   refine bx (tn (CW.seq (CW.region (sd rfl (yl_move rfl rfl (sd rfl (yl_assign rfl rfl (SeqR.done (tn (CW.ret ?_))))))))))
   refine rr rfl (.cons rfl .nil) ?_
   have hM103 : (l_heldCellS p_a p_k) = (x3) := by simp only [l_heldCellS, hL102, cond_true, cond_false, loopE_done, loopE_ret]
   rw [hM103]
   exact ⟨rfl, hf17⟩
set_option maxRecDepth 100000 in
set_option maxHeartbeats 2000000 in
theorem c_l_FnExactPutBack {A1 : Option Addr} {c1 : Nat} {w : World} (p_0 : DCopy) (h1 : RdS w (Iv 0 w.heap.size) (RF e_Write) 3 A1 p_0.Rows.length c1 p_0.Rows) (pre0 : wf_Copy p_0) : Cal Try.prog 5 #[.agg #[.int .i64 (p_0.Time), .slice A1 p_0.Rows.length c1]] w fun v w' => v = .bool ((l_FnExactPutBack p_0)) ∧ Ex w w' := by
 refine Cal.of (vs := [.agg #[.int .i64 (p_0.Time), .slice A1 p_0.Rows.length c1]]) Try.func5 rfl Try.ntmps5 rfl (CW.seq (CW.region (sd rfl (yl_box (cs := [.int .i64 (p_0.Time), .slice A1 p_0.Rows.length c1]) rfl rfl rfl ?_))))
 intro b2 w3 hs4 hz5 hB6 hE7
 refine sd rfl (yl_assign rfl rfl (SeqR.done (tn (CW.seq (CW.region (sd rfl (yl_assign rfl rfl (SeqR.done (tn (CW.seq ?_))))))))))
 refine CW.region (sd rfl (yl_loadN (cs := [.int .i64 (p_0.Time), .slice A1 p_0.Rows.length c1]) Try.ty61 rfl rfl (hB6.cells (n := 2) rfl) rfl (sd rfl (yl_move rfl rfl ?_))))
 have q8 := RdS.ex good_Write h1 hE7
 refine sd rfl (yl_call Try.en30 rfl (opvs_cons rfl (opvs_cons rfl opvs_nil)) (Cal.mono (c_l_szCopy p_0 1048576 (RdS.up q8 good_Write)) ?_))
 rintro v10 w9 ⟨rfl, hE11⟩
 have hE11z := Ex.size hE11
 refine sd rfl (yl_assign rfl rfl (SeqR.done (tn (CW.seq (CW.seq (CW.region (sd rfl (yl_move rfl rfl (sd rfl (yl_lss rfl rfl rfl (SeqR.done ?_)))))))))))
 refine tn (bcase (decide ((l_szCopy p_0 1048576) < 0)) (fun hb12 => ?_) (fun hb12 => ?_))
 ·have hb12p := dec_t hb12
  refine CW.cond_t rfl hb12 (CW.seq (CW.region (sd rfl (yl_assign rfl rfl (SeqR.done (tn (CW.ret (tr (rr rfl (.cons rfl .nil) ?_)))))))))
  have hM13 : (l_FnExactPutBack p_0) = (true) := by simp only [l_FnExactPutBack, hb12, cond_true, cond_false, loopE_done, loopE_ret]
  rw [hM13]
  exact ⟨rfl, (Ex.trans (Ex.trans (Ex.refl w) hE7) hE11)⟩
 ·have hb12p := dec_f hb12
  refine CW.cond_f rfl hb12 (CW.skip (tn (CW.seq (CW.region ?_))))
  have q16 := Box.ex hB6 hE11
  refine sd rfl (yl_loadN (cs := [.int .i64 (p_0.Time), .slice A1 p_0.Rows.length c1]) Try.ty61 rfl rfl (q16.cells (n := 2) rfl) rfl ?_)
  have q17 := RdS.ex good_Write q8 hE11
  refine sd rfl (yl_call Try.en32 rfl (opvs_cons rfl opvs_nil) (Cal.mono (c_l_toCopy p_0 (RdS.up q17 good_Write) ((szok_Copy pre0 (by decide) (dec_f hb12)).1)) ?_))
  rintro v20 w18 ⟨A19, c19, lo19, hi19, rfl, h19, hrn22, hE21⟩
  have hE21z := Ex.size hE21
  refine sd rfl (yl_call Try.en31 rfl (opvs_cons rfl opvs_nil) (Cal.mono (c_s_PutBack p_0 (RdS.up (OwnL.rd good_Write h19) good_Write) ((szok_Copy pre0 (by decide) (dec_f hb12)).1)) ?_))
  rintro v27 w24 ⟨A25, c25, lo25, hi25, rfl, h25, ho26, hrn29, hE28⟩
  have hE28z := Ex.size hE28
  refine sd rfl (yl_move rfl rfl (sd rfl (yl_extract rfl rfl rfl (sd rfl (yl_extract rfl rfl rfl (sd rfl (yl_assign rfl rfl (sd rfl (yl_assign rfl rfl (SeqR.done (tn (CW.seq (CW.region ?_)))))))))))))
  have q31 := Box.ex (Box.ex q16 hE21) hE28
  refine sd rfl (yl_loadN (cs := [.int .i64 (p_0.Time), .slice A1 p_0.Rows.length c1]) Try.ty61 rfl rfl (q31.cells (n := 2) rfl) rfl ?_)
  have q33 := RdS.ex good_Write (RdS.ex good_Write q17 hE21) hE28
  refine sd rfl (yl_call Try.en32 rfl (opvs_cons rfl opvs_nil) (Cal.mono (c_l_toCopy p_0 (RdS.up q33 good_Write) ((szok_Copy pre0 (by decide) (dec_f hb12)).1)) ?_))
  rintro v36 w34 ⟨A35, c35, lo35, hi35, rfl, h35, hrn38, hE37⟩
  have hE37z := Ex.size hE37
  refine sd rfl (yl_alloc Try.ty67 (cs := [.int .i64 (0), .slice none 0 0]) rfl rfl ?_)
  intro b39 w40 hs41 hz42 hB43 hE44
  refine SeqR.u rfl rfl (yl_store (vs := [.int .i64 (p_0.Time), .slice A35 p_0.Rows.length c35]) Try.ty67 rfl rfl rfl rfl rfl rfl hB43 (Nat.le_of_ble_eq_true rfl) ?_)
  intro w45 hB46 hO47
  have hB46 : Box w45 b39 67 [.int .i64 (p_0.Time), .slice A35 p_0.Rows.length c35] := hB46
  have hO47z := hO47.size
  refine SeqR.done (tn (CW.seq (CW.region (sd rfl (yl_loadN (cs := [.int .i64 (p_0.Time), .slice A35 p_0.Rows.length c35]) Try.ty67 rfl rfl (hB46.cells (n := 2) rfl) rfl ?_)))))
  have q50 := OwnL.only good_Write (OwnL.ex good_Write h35 hE44) hO47 (by omega)
  refine sd rfl (yl_call Try.en33 rfl (opvs_cons rfl opvs_nil) (Cal.mono (c_i_PutBack p_0 (RdS.up (OwnL.rd good_Write q50) good_Write) ((szok_Copy pre0 (by decide) (dec_f hb12)).1)) ?_))
  rintro v54 w51 ⟨A52, c52, lo52, hi52, rfl, h52, ho53, hrn56, hE55⟩
  have hE55z := Ex.size hE55
  refine sd rfl (yl_move rfl rfl (sd rfl (yl_extract rfl rfl rfl (sd rfl (yl_extract rfl rfl rfl (sd rfl (yl_assign rfl rfl (sd rfl (yl_assign rfl rfl (SeqR.done (tn (CW.seq (CW.seq ?_)))))))))))))
  refine CW.region (sd rfl (yl_move rfl rfl (sd rfl (yl_move rfl rfl ?_))))
  have q62 := OwnL.ex good_Cell (OwnL.only good_Cell (OwnL.ex good_Cell (OwnL.ex good_Cell h25 hE37) hE44) hO47 (by omega)) hE55
  refine sd rfl (yl_call Try.en34 rfl (opvs_cons rfl (opvs_cons rfl opvs_nil)) (Cal.mono (c_l_eqCellS ((i_PutBack p_0).1) ((s_PutBack p_0).1) (RdS.up (OwnL.rd good_Cell (OwnD.own goodO_Cell good_Cell h52)) good_Cell) (RdS.up (OwnL.rd good_Cell q62) good_Cell)) ?_))
  rintro v64 w63 ⟨rfl, hE65⟩
  have hE65z := Ex.size hE65
  refine sd rfl (yl_not rfl rfl (sd rfl (yl_move rfl rfl (bcase (l_eqCellS ((i_PutBack p_0).1) ((s_PutBack p_0).1)) (fun hb66 => ?_) (fun hb66 => ?_)))))
  ·refine sy rfl rfl (not_t hb66) (yl_move rfl rfl (sy rfl rfl (not_t hb66) (yl_move rfl rfl (sy rfl rfl (not_t hb66) (yl_bneq Try.un4 rfl rfl rfl (sd rfl (yl_pick_f rfl rfl (not_t hb66) rfl (SeqR.done (tn (bcase (((i_PutBack p_0).2) == ((s_PutBack p_0).2)) (fun hb67 => ?_) (fun hb67 => ?_)))))))))))
   ·refine CW.cond_f rfl (not_t hb67) (CW.skip (tn (CW.seq (CW.seq ?_))))
    have q69 := Box.ex (Box.ex hB46 hE55) hE65
    have q74 := Box.ex (Box.ex (Box.only (Box.ex (Box.ex q31 hE37) hE44) hO47 (by omega)) hE55) hE65
    have q79 := RdS.ex good_Write (RdS.ex good_Write (RdS.only good_Write (RdS.ex good_Write (RdS.ex good_Write q33 hE37) hE44) hO47 (by simp only [Iv]; omega)) hE55) hE65
    have q84 := OwnL.ex good_Write (OwnL.ex good_Write q50 hE55) hE65
    refine CW.drawsI 5 (vgetI [DetI (.agg #[.int .i64 (p_0.Time), .slice A35 p_0.Rows.length c35]), DetI (.agg #[.int .i64 (p_0.Time), .slice A1 p_0.Rows.length c1]), fun lo hi v wq => ∃ A81 c81 lo81 hi81, v = .agg #[.int .i64 (p_0.Time), .slice A81 p_0.Rows.length c81] ∧ OwnL wq lo81 hi81 31 3 (RF e_Write) A81 p_0.Rows.length c81 p_0.Rows ∧ (lo ≤ lo81 ∧ lo81 ≤ hi81 ∧ hi81 ≤ hi), DetI (.bool ((l_eqCopy p_0 p_0))), DetI (.bool (!(l_eqCopy p_0 p_0)))]) Try.follows rfl rfl rfl rfl rfl rfl (vgetI_stable ⟨StableI.det _, StableI.det _, (fun _ _ _ _ _ ⟨A81, c81, lo81, hi81, hv, h81, hr0⟩ e => ⟨A81, c81, lo81, hi81, hv, OwnL.ex good_Write h81 e, hr0⟩), StableI.det _, StableI.det _, trivial⟩) ⟨?_, ?_, ?_, ?_, ?_, trivial⟩ ?_
    ·exact fun _ _ h => os rfl ((yl_loadN (cs := [.int .i64 (p_0.Time), .slice A35 p_0.Rows.length c35]) Try.ty67 rfl (h.old 6 _ rfl rfl) ((Box.ex q69 h.ex).cells (n := 2) rfl) rfl kI))
    ·exact fun _ _ h => os rfl ((yl_loadN (cs := [.int .i64 (p_0.Time), .slice A1 p_0.Rows.length c1]) Try.ty61 rfl (h.old 1 _ rfl rfl) ((Box.ex q74 h.ex).cells (n := 2) rfl) rfl kI))
    ·intro L98 w99 hi100
     have hE101 := hi100.ex
     refine OpR.op' rfl (yl_call Try.en32 rfl (opvs_cons (hi100.dt 1 42 rfl rfl rfl) opvs_nil) (Cal.mono (c_l_toCopy p_0 (RdS.up (RdS.ex good_Write q79 hE101) good_Write) ((szok_Copy pre0 (by decide) (dec_f hb12)).1)) ?_))
     rintro v106 w104 ⟨A105, c105, lo105, hi105, rfl, h105, hrn108, hE107⟩
     exact ⟨⟨A105, c105, lo105, hi105, rfl, h105, hrn108⟩, hE107⟩
    ·intro L109 w110 hi111
     have hE112 := hi111.ex
     obtain ⟨lo115, hh116, _, hx114, hr117, hr118, hr119, A81_120, c81_121, lo81_122, hi81_123, rfl, h124, hrn125⟩ := hi111.dep 2 43 rfl rfl
     refine OpR.op' rfl (yl_call Try.en35 rfl (opvs_cons (hi111.dt 0 41 rfl rfl rfl) (opvs_cons hx114 opvs_nil)) (Cal.mono (c_l_eqCopy p_0 p_0 (RdS.up (OwnL.rd good_Write (OwnL.ex good_Write q84 hE112)) good_Write) (RdS.up (OwnL.rd good_Write h124) good_Write)) ?_))
     rintro v130 w129 ⟨rfl, hE131⟩
     exact ⟨rfl, hE131⟩
    ·exact fun _ _ h => os rfl ((yl_not rfl (h.dt 3 44 rfl rfl rfl) kI))
    ·intro fl140 fh141 L137 w138 hp139
     have hE142 := hp139.ex
     have hE142z := Ex.size hE142
     have hr150 := hp139.rng 2 rfl
     obtain ⟨_, hx149, A81_151, c81_152, lo81_153, hi81_154, rfl, h155, hrn156⟩ := hp139.new 2 43 rfl rfl
     refine SeqR.done (tn (CW.sub (Sub.cons (d := 1) (hp139.old 1 _ rfl rfl) (Sub.cons (d := 4) (hp139.old 4 _ rfl rfl) (Sub.cons (d := 5) (hp139.old 5 _ rfl rfl) (Sub.cons (d := 6) (hp139.old 6 _ rfl rfl) (Sub.cons (d := 7) (hp139.old 7 _ rfl rfl) (Sub.cons (d := 8) (hp139.old 8 _ rfl rfl) (Sub.cons (d := 45) (hp139.nt 4 45 rfl rfl rfl) (Sub.nil _)))))))) (bcase (l_eqCopy p_0 p_0) (fun hb158 => ?_) (fun hb158 => ?_))))
     ·refine CW.cond_f rfl (not_t hb158) (CW.skip (tn (CW.seq (CW.region (sd rfl (yl_assign rfl rfl (SeqR.done (tn (CW.seq ?_)))))))))
      refine CW.region (sd rfl (yl_loadN (cs := [.int .i64 (p_0.Time), .slice A35 p_0.Rows.length c35]) Try.ty67 rfl rfl ((Box.ex q69 hE142).cells (n := 2) rfl) rfl (sd rfl (yl_move rfl rfl (sd rfl (yl_call Try.en36 rfl (opvs_cons rfl (opvs_cons rfl opvs_nil)) (Cal.mono (c_l_markCopy p_0 1 (OwnL.ex good_Write q84 hE142) (by omega) (by first | omega | assumption | (simp only [IntKind.wrap_i64] at *; omega))) ?_)))))))
      rintro v162 w161 ⟨rfl, h164, hm163⟩
      have hm163z := Mut.size hm163
      have hrf165 := rf_markCopy p_0 1 (by first | omega | assumption | (simp only [IntKind.wrap_i64] at *; omega))
      refine sd rfl (yl_assign rfl rfl (SeqR.done (tn (CW.seq (CW.seq (CW.region (sd rfl (yl_move rfl rfl (sd rfl (yl_lss rfl rfl rfl (sd rfl (yl_move rfl rfl ?_))))))))))))
      refine bcase (decide (((l_markCopy p_0 1).1) < 0)) (fun hb166 => ?_) (fun hb166 => ?_)
      ·have hb166p := dec_t hb166
       refine sz rfl rfl hb166 (sz rfl rfl hb166 (sz rfl rfl hb166 (sz rfl rfl hb166 (sd rfl (yl_pick_t rfl rfl hb166 rfl (sd rfl (yl_move rfl rfl (sz rfl rfl rfl (sz rfl rfl rfl (sz rfl rfl rfl ?_))))))))))
       refine sd rfl (yl_pick_t rfl rfl rfl rfl (SeqR.done (tn (CW.cond_t rfl rfl (CW.seq (CW.region (sd rfl (yl_assign rfl rfl (SeqR.done (tn ?_))))))))))
       refine CW.ret (tr (rr rfl (.cons rfl .nil) ?_))
       have hM167 : (l_FnExactPutBack p_0) = (false) := by simp only [l_FnExactPutBack, hb12, hb66, hb67, hb158, hb166, cond_true, cond_false, loopE_done, loopE_ret]
       rw [hM167]
       exact ⟨rfl, (Ex.mut (Ex.trans (Ex.trans (Ex.trans (Below.only (Ex.trans (Ex.trans (Ex.trans (Ex.trans (Ex.trans (Ex.trans (Ex.refl w) hE7) hE11) hE21) hE28) hE37) hE44) hO47 (by omega)) hE55) hE65) hE142) hm163 (fun k hk => by simp only [InR, or_false] at hk; omega))⟩
      ·have hb166p := dec_f hb166
       refine sy rfl rfl hb166 (yl_move rfl rfl (sy rfl rfl hb166 (yl_move rfl rfl ?_)))
       have q182 := OwnD.mut goodO_Cell (OwnD.ex goodO_Cell (OwnD.ex goodO_Cell h52 hE65) hE142) hm163 (fun k hk => by simp only [InR, or_false] at hk; omega)
       have q186 := OwnL.mut good_Cell (OwnL.ex good_Cell (OwnL.ex good_Cell q62 hE65) hE142) hm163 (fun k hk => by simp only [InR, or_false] at hk; omega)
       refine sy rfl rfl hb166 (yl_call Try.en34 rfl (opvs_cons rfl (opvs_cons rfl opvs_nil)) (Cal.mono (c_l_eqCellS ((i_PutBack p_0).1) ((s_PutBack p_0).1) (RdS.up (OwnL.rd good_Cell (OwnD.own goodO_Cell good_Cell q182)) good_Cell) (RdS.up (OwnL.rd good_Cell q186) good_Cell)) ?_))
       rintro v188 w187 ⟨rfl, hE189⟩
       have hE189z := Ex.size hE189
       refine sy rfl rfl hb166 (yl_not rfl rfl (sd rfl (yl_pick_f rfl rfl hb166 rfl (sd rfl (yl_move rfl rfl (sy rfl rfl (not_t hb66) (yl_move rfl rfl (sy rfl rfl (not_t hb66) (yl_move rfl rfl (sy rfl rfl (not_t hb66) (yl_bneq Try.un4 rfl rfl rfl (sd rfl (yl_pick_f rfl rfl (not_t hb66) rfl (SeqR.done (tn ?_)))))))))))))))
       refine CW.cond_f rfl (not_t hb67) (CW.skip (tn (CW.seq (CW.region (sd rfl (yl_assign rfl rfl (SeqR.done (tn (CW.seq ?_)))))))))
       refine CW.region (sd rfl (yl_move rfl rfl (sd rfl (yl_move rfl rfl (sd rfl (yl_call Try.en37 rfl (opvs_cons rfl (opvs_cons rfl opvs_nil)) (Cal.mono (c_l_markCellS ((i_PutBack p_0).1) 1 (OwnD.ex goodO_Cell q182 hE189) (by omega) (by first | omega | assumption | (simp only [IntKind.wrap_i64] at *; omega))) ?_)))))))
       rintro v192 w191 ⟨rfl, h194, hm193⟩
       have hm193z := Mut.size hm193
       have hrf195 := rf_markCellS ((i_PutBack p_0).1) 1 (by first | omega | assumption | (simp only [IntKind.wrap_i64] at *; omega))
       refine sd rfl (yl_assign rfl rfl (SeqR.done (tn (CW.seq (CW.region (sd rfl (yl_assign rfl rfl (SeqR.done (tn (CW.seq ?_))))))))))
       refine CW.region (sd rfl (yl_move rfl rfl (sd rfl (yl_move rfl rfl ?_))))
       have hle196 := OwnD.len h194
       refine sd rfl (yl_call Try.en38 rfl (opvs_cons rfl (opvs_cons rfl opvs_nil)) (Cal.mono (Cal.args (by rw [← hle196] <;> rfl) (c_l_heldCellS ((l_markCellS ((i_PutBack p_0).1) 1).2) 1 (RdS.fix (RdS.up (OwnL.rd good_Cell (OwnD.own goodO_Cell good_Cell h194)) good_Cell)) (by first | omega | assumption | (simp only [IntKind.wrap_i64] at *; omega)))) ?_))
       rintro v199 w198 ⟨rfl, hE200⟩
       have hE200z := Ex.size hE200
       have hrf201 := rf_heldCellS ((l_markCellS ((i_PutBack p_0).1) 1).2) 1 (by first | omega | assumption | (simp only [IntKind.wrap_i64] at *; omega))
       refine sd rfl (yl_assign rfl rfl (SeqR.done (tn (CW.seq (CW.seq (CW.region (sd rfl (yl_move rfl rfl (sd rfl (yl_lss rfl rfl rfl (SeqR.done ?_)))))))))))
       refine tn (bcase (decide ((l_heldCellS ((l_markCellS ((i_PutBack p_0).1) 1).2) 1) < 0)) (fun hb202 => ?_) (fun hb202 => ?_))
       ·have hb202p := dec_t hb202
        refine CW.cond_t rfl hb202 (CW.seq (CW.region (sd rfl (yl_assign rfl rfl (SeqR.done (tn (CW.ret (tr (rr rfl (.cons rfl .nil) ?_)))))))))
        have hM203 : (l_FnExactPutBack p_0) = (false) := by simp only [l_FnExactPutBack, hb12, hb66, hb67, hb158, hb166, hb202, cond_true, cond_false, loopE_done, loopE_ret]
        rw [hM203]
        exact ⟨rfl, (Ex.trans (Ex.mut (Ex.trans (Ex.mut (Ex.trans (Ex.trans (Ex.trans (Below.only (Ex.trans (Ex.trans (Ex.trans (Ex.trans (Ex.trans (Ex.trans (Ex.refl w) hE7) hE11) hE21) hE28) hE37) hE44) hO47 (by omega)) hE55) hE65) hE142) hm163 (fun k hk => by simp only [InR, or_false] at hk; omega)) hE189) hm193 (fun k hk => by simp only [InR, or_false] at hk; omega)) hE200)⟩
       ·have hb202p := dec_f hb202
        refine CW.cond_f rfl hb202 (CW.skip (tn (CW.seq (CW.seq (CW.region (sd rfl (yl_move rfl rfl (sd rfl (yl_move rfl rfl (sd rfl (yl_neq rfl rfl rfl ?_)))))))))))
        refine SeqR.done (tn (bcase (decide ((l_heldCellS ((l_markCellS ((i_PutBack p_0).1) 1).2) 1) = ((l_markCellS ((i_PutBack p_0).1) 1).1))) (fun hb218 => ?_) (fun hb218 => ?_)))
        ·have hb218p := dec_t hb218
         refine CW.cond_f rfl (not_t hb218) (CW.skip (tn (CW.seq (CW.region (sd rfl (yl_loadN (cs := [.int .i64 (p_0.Time), .slice A1 p_0.Rows.length c1]) Try.ty61 rfl rfl ((Box.ex (Box.mut (Box.ex (Box.mut (Box.ex q74 hE142) hm163 (fun k hk => by simp only [InR, or_false] at hk; omega)) hE189) hm193 (fun k hk => by simp only [InR, or_false] at hk; omega)) hE200).cells (n := 2) rfl) rfl (sd rfl (yl_call Try.en32 rfl (opvs_cons rfl opvs_nil) (Cal.mono (c_l_toCopy p_0 (RdS.up (RdS.ex good_Write (RdS.mut good_Write (RdS.ex good_Write (RdS.mut good_Write (RdS.ex good_Write q79 hE142) hm163 (fun k hk => by simp only [InR, or_false, Iv, Ge] at hk ⊢; omega)) hE189) hm193 (fun k hk => by simp only [InR, or_false, Iv, Ge] at hk ⊢; omega)) hE200) good_Write) ((szok_Copy pre0 (by decide) (dec_f hb12)).1)) ?_)))))))))
         rintro v231 w229 ⟨A230, c230, lo230, hi230, rfl, h230, hrn233, hE232⟩
         have hE232z := Ex.size hE232
         refine sd rfl (yl_call Try.en33 rfl (opvs_cons rfl opvs_nil) (Cal.mono (c_i_PutBack p_0 (RdS.up (OwnL.rd good_Write h230) good_Write) ((szok_Copy pre0 (by decide) (dec_f hb12)).1)) ?_))
         rintro v238 w235 ⟨A236, c236, lo236, hi236, rfl, h236, ho237, hrn240, hE239⟩
         have hE239z := Ex.size hE239
         refine sd rfl (yl_move rfl rfl (sd rfl (yl_extract rfl rfl rfl (sd rfl (yl_extract rfl rfl rfl (sd rfl (yl_assign rfl rfl (sd rfl (yl_assign rfl rfl (SeqR.done (tn (CW.seq (CW.seq ?_)))))))))))))
         refine CW.region (sd rfl (yl_move rfl rfl (sd rfl (yl_move rfl rfl (sd rfl (yl_call Try.en34 rfl (opvs_cons rfl (opvs_cons rfl opvs_nil)) (Cal.mono (c_l_eqCellS ((i_PutBack p_0).1) ((s_PutBack p_0).1) (RdS.up (OwnL.rd good_Cell (OwnD.own goodO_Cell good_Cell h236)) good_Cell) (RdS.up (OwnL.rd good_Cell (OwnL.ex good_Cell (OwnL.ex good_Cell (OwnL.ex good_Cell (OwnL.mut good_Cell (OwnL.ex good_Cell q186 hE189) hm193 (fun k hk => by simp only [InR, or_false] at hk; omega)) hE200) hE232) hE239)) good_Cell)) ?_)))))))
         rintro v249 w248 ⟨rfl, hE250⟩
         have hE250z := Ex.size hE250
         refine sd rfl (yl_not rfl rfl (sd rfl (yl_move rfl rfl (sy rfl rfl (not_t hb66) (yl_move rfl rfl (sy rfl rfl (not_t hb66) (yl_move rfl rfl (sy rfl rfl (not_t hb66) (yl_bneq Try.un4 rfl rfl rfl (sd rfl (yl_pick_f rfl rfl (not_t hb66) rfl (SeqR.done (tn (CW.cond_f rfl (not_t hb67) ?_))))))))))))))
         refine CW.skip (tn (CW.seq (CW.region (sd rfl (yl_assign rfl rfl (SeqR.done (tn (CW.seq (CW.region ?_)))))))))
         refine sd rfl (yl_move rfl rfl (sd rfl (yl_move rfl rfl ?_)))
         have q255 := OwnD.ex goodO_Cell (OwnD.ex goodO_Cell (OwnD.ex goodO_Cell (OwnD.ex goodO_Cell h194 hE200) hE232) hE239) hE250
         have hle251 := OwnD.len q255
         refine sd rfl (yl_call Try.en38 rfl (opvs_cons rfl (opvs_cons rfl opvs_nil)) (Cal.mono (Cal.args (by rw [← hle251] <;> rfl) (c_l_heldCellS ((l_markCellS ((i_PutBack p_0).1) 1).2) 1 (RdS.fix (RdS.up (OwnL.rd good_Cell (OwnD.own goodO_Cell good_Cell q255)) good_Cell)) (by first | omega | assumption | (simp only [IntKind.wrap_i64] at *; omega)))) ?_))
         rintro v258 w257 ⟨rfl, hE259⟩
         have hE259z := Ex.size hE259
         have hrf260 := rf_heldCellS ((l_markCellS ((i_PutBack p_0).1) 1).2) 1 (by first | omega | assumption | (simp only [IntKind.wrap_i64] at *; omega))
         refine sd rfl (yl_assign rfl rfl (SeqR.done (tn (CW.seq (CW.seq (CW.region (sd rfl (yl_move rfl rfl (sd rfl (yl_lss rfl rfl rfl (SeqR.done ?_)))))))))))
         refine tn (CW.cond_f rfl hb202 (CW.skip (tn (CW.seq (CW.seq (CW.region (sd rfl (yl_move rfl rfl (sd rfl (yl_move rfl rfl ?_))))))))))
         refine sd rfl (yl_neq rfl rfl rfl (SeqR.done (tn (CW.cond_f rfl (not_t hb218) (CW.skip (tn (CW.seq (CW.region (sd rfl (yl_assign rfl rfl ?_))))))))))
         refine SeqR.done (tn (CW.ret (rr rfl (.cons rfl .nil) ?_)))
         have hM261 : (l_FnExactPutBack p_0) = (true) := by simp only [l_FnExactPutBack, hb12, hb66, hb67, hb158, hb166, hb202, hb218, cond_true, cond_false, loopE_done, loopE_ret]
         rw [hM261]
         have q278 := Ex.trans (Ex.trans (Ex.trans (Ex.trans (Ex.mut (Ex.trans (Ex.mut (Ex.trans (Ex.trans (Ex.trans (Below.only (Ex.trans (Ex.trans (Ex.trans (Ex.trans (Ex.trans (Ex.trans (Ex.refl w) hE7) hE11) hE21) hE28) hE37) hE44) hO47 (by omega)) hE55) hE65) hE142) hm163 (fun k hk => by simp only [InR, or_false] at hk; omega)) hE189) hm193 (fun k hk => by simp only [InR, or_false] at hk; omega)) hE200) hE232) hE239) hE250
         exact ⟨rfl, (Ex.trans q278 hE259)⟩
        ·have hb218p := dec_f hb218
         refine CW.cond_t rfl (not_f hb218) (CW.seq (CW.region (sd rfl (yl_assign rfl rfl (SeqR.done (tn (CW.ret (tr (rr rfl (.cons rfl .nil) ?_)))))))))
         have hM280 : (l_FnExactPutBack p_0) = (false) := by simp only [l_FnExactPutBack, hb12, hb66, hb67, hb158, hb166, hb202, hb218, cond_true, cond_false, loopE_done, loopE_ret]
         rw [hM280]
         exact ⟨rfl, (Ex.trans (Ex.mut (Ex.trans (Ex.mut (Ex.trans (Ex.trans (Ex.trans (Below.only (Ex.trans (Ex.trans (Ex.trans (Ex.trans (Ex.trans (Ex.trans (Ex.refl w) hE7) hE11) hE21) hE28) hE37) hE44) hO47 (by omega)) hE55) hE65) hE142) hm163 (fun k hk => by simp only [InR, or_false] at hk; omega)) hE189) hm193 (fun k hk => by simp only [InR, or_false] at hk; omega)) hE200)⟩
     ·refine CW.cond_t rfl (not_f hb158) (CW.seq (CW.region (sd rfl (yl_assign rfl rfl (SeqR.done (tn (CW.ret (tr (rr rfl (.cons rfl .nil) ?_)))))))))
      have hM295 : (l_FnExactPutBack p_0) = (false) := by simp only [l_FnExactPutBack, hb12, hb66, hb67, hb158, cond_true, cond_false, loopE_done, loopE_ret]
      rw [hM295]
      exact ⟨rfl, (Ex.trans (Ex.trans (Ex.trans (Below.only (Ex.trans (Ex.trans (Ex.trans (Ex.trans (Ex.trans (Ex.trans (Ex.refl w) hE7) hE11) hE21) hE28) hE37) hE44) hO47 (by omega)) hE55) hE65) hE142)⟩
   ·refine CW.cond_t rfl (not_f hb67) (CW.seq (CW.region (sd rfl (yl_assign rfl rfl (SeqR.done (tn (CW.ret (tr (rr rfl (.cons rfl .nil) ?_)))))))))
    have hM306 : (l_FnExactPutBack p_0) = (false) := by simp only [l_FnExactPutBack, hb12, hb66, hb67, cond_true, cond_false, loopE_done, loopE_ret]
    rw [hM306]
    exact ⟨rfl, (Ex.trans (Ex.trans (Below.only (Ex.trans (Ex.trans (Ex.trans (Ex.trans (Ex.trans (Ex.trans (Ex.refl w) hE7) hE11) hE21) hE28) hE37) hE44) hO47 (by omega)) hE55) hE65)⟩
  ·refine sz rfl rfl (not_f hb66) (sz rfl rfl (not_f hb66) (sz rfl rfl (not_f hb66) (sd rfl (yl_pick_t rfl rfl (not_f hb66) rfl (SeqR.done (tn (CW.cond_t rfl rfl (CW.seq (CW.region ?_)))))))))
   refine sd rfl (yl_assign rfl rfl (SeqR.done (tn (CW.ret (tr (rr rfl (.cons rfl .nil) ?_))))))
   have hM316 : (l_FnExactPutBack p_0) = (false) := by simp only [l_FnExactPutBack, hb12, hb66, cond_true, cond_false, loopE_done, loopE_ret]
   rw [hM316]
   exact ⟨rfl, (Ex.trans (Ex.trans (Below.only (Ex.trans (Ex.trans (Ex.trans (Ex.trans (Ex.trans (Ex.trans (Ex.refl w) hE7) hE11) hE21) hE28) hE37) hE44) hO47 (by omega)) hE55) hE65)⟩
end Go.Proofs.Ytdbobbmagmcpnaa
