/- Scan Range: what each call returns, part 3. -/
import Derived.Test.YtdhfokkkpcelpaaGreatDoorScanRangeC2
set_option maxRecDepth 100000
set_option maxHeartbeats 2000000
open Go.Proofs.Tryz Go.Proofs.YtdhfokkkpcelpaaGreatDoor.Tryz
set_option linter.unusedVariables false
set_option linter.unusedSimpArgs false
namespace Go.Proofs.YtdhfokkkpcelpaaGreatDoor
open Go.RowKit Go.X
theorem c_g_slices_symMergeCmpFunc_Row (kf : Nat) : ∀ {cl : Nat → Value} {A1 : Option Addr} {c1 : Nat} {lo1 hi1 : Nat} {g2 : Nat} {cp3 : List Value} {w : World} (p_0 : List Nat) (p_1 : Int) (p_2 : Int) (p_3 : Int) (p_4 : Nat → Nat → Int) (hcl : ∀ i, (cl i).oneCell' = true) (h1 : OwnL w lo1 hi1 61 1 (RF (e_Opq cl)) A1 p_0.length c1 p_0) (hen4 : Go.X.Enters Tryz.prog g2) (hfn5 : ∀ (w1 : World) (y0 y1 : Nat), 0 < p_0.length → Mut [(lo1, hi1)] w w1 → Cal Tryz.prog g2 (([.agg #[cl y0], .agg #[cl y1]] : List Value) ++ cp3).toArray w1 fun v w2 => v = .int .i64 (p_4 y0 y1) ∧ Ex w1 w2) (hrn6 : (0 ≤ lo1 ∧ lo1 ≤ hi1 ∧ hi1 ≤ w.heap.size)) (pre0 : (0 ≤ p_1 ∧ p_1 < p_2 ∧ p_2 < p_3 ∧ p_3 ≤ (p_0.length : Int) ∧ (p_0.length : Int) ≤ 1000)) (prek : (p_3 - p_1).toNat < kf), Cal Tryz.prog 83 #[.slice A1 p_0.length c1, .int .i64 (p_1), .int .i64 (p_2), .int .i64 (p_3), .func (.func g2) #[] cp3.toArray] w fun v w' => v = .tuple #[] ∧ OwnL w' lo1 hi1 61 1 (RF (e_Opq cl)) A1 p_0.length c1 (g_slices_symMergeCmpFunc_Row kf p_0 p_1 p_2 p_3 p_4) ∧ Mut [(lo1, hi1)] w w' := by
 induction kf
 ·intros; exfalso; omega
 rename_i kf ih
 intro cl A1 c1 lo1 hi1 g2 cp3 w p_0 p_1 p_2 p_3 p_4 hcl h1 hen4 hfn5 hrn6 pre0 prek
 have hmid := bs_mid (i := p_1) (j := p_3) (by omega) (by omega) (by omega)
 refine Cal.of func83 rfl ntmps83 rfl (CW.seq (CW.seq (CW.region (sd rfl (yl_move rfl rfl (sd rfl (yl_move rfl rfl (sd rfl (yl_sub rfl rfl rfl (sd rfl (yl_eql rfl rfl rfl (SeqR.done ?_))))))))))))
 refine tn (bcD (q := (IntKind.wrap .i64 (p_2 - p_1)) = 1) (fun hb7 hb7p => ?_) (fun hb7 hb7p => ?_))
 ·refine CW.cond_t rfl hb7 (CW.seq (CW.region (sd rfl (yl_move rfl rfl (sd rfl (yl_assign rfl rfl (dn (CW.seq (CW.region ?_)))))))))
  refine sd rfl (yl_move rfl rfl (sd rfl (yl_assign rfl rfl (dn (CW.seq (CW.block (CW.loop (fun m11 L12 w13 => ∃ (x9 : Int) (x10 : Int), ((x10 - x9).toNat) < m11 ∧ w.heap.size ≤ w13.heap.size ∧ Sub [(0, .slice A1 p_0.length c1), (1, .int .i64 (p_1)), (4, .func (.func g2) #[] cp3.toArray), (10, .int .i64 (x9)), (11, .int .i64 (x10))] L12 ∧ OwnL w13 lo1 hi1 61 1 (RF (e_Opq cl)) A1 p_0.length c1 p_0 ∧ Mut [(lo1, hi1)] w w13 ∧ (p_2 ≤ x9 ∧ x9 ≤ x10 ∧ x10 ≤ p_3) ∧ loopW (B_g_slices_symMergeCmpFunc_Row_0 kf p_0 p_1 p_2 p_3 p_4) m11 (x9, x10) = loopW (B_g_slices_symMergeCmpFunc_Row_0 kf p_0 p_1 p_2 p_3 p_4) (((p_3 - p_2).toNat) + 1) (p_2, p_3)) (((p_3 - p_2).toNat) + 1) ?_ ?_)))))))
  ·exact ⟨p_2, p_3, Nat.lt_succ_self _, Nat.le_refl _, (sR rfl), h1, (Mut.refl (l := [(lo1, hi1)]) w), (by first | omega | assumption | (simp only [wI] at *; omega)), rfl⟩
  ·rintro m14 L15 w16 ⟨x9, x10, hk17, hsz19, hl20, hf21, hf22, hv23, hI18⟩
   refine CW.sub hl20 ?_
   have hf22z := Mut.size hf22
   refine CW.seq (CW.seq (CW.region (sd rfl (yl_move rfl rfl (sd rfl (yl_move rfl rfl (sd rfl (yl_lss rfl rfl rfl (dn (bcD (q := x9 < x10) (fun hb24 hb24p => ?_) (fun hb24 hb24p => ?_)))))))))))
   ·have hb24m := bs_mid (i := x9) (j := x10) (by omega) (by omega) (by omega)
    refine CW.cond_t rfl hb24 (CW.skip (tn (CW.block (CW.seq (CW.region (sd rfl (yl_move rfl rfl (sd rfl (yl_move rfl rfl (sd rfl (yl_add rfl rfl rfl ?_)))))))))))
    refine sd rfl (yl_conv un3 un115 rfl rfl (sd rfl (yl_shr (q := 2) rfl rfl rfl (by decide) (by decide) (by decide) (sd rfl (yl_conv un115 un3 rfl rfl (sd rfl (yl_assign rfl rfl (dn (CW.seq ?_)))))))))
    obtain ⟨eb26, eo26, _, eA26, _, ebl26, _, eR26, eC26⟩ := RdS.atD (OwnL.rd (good_Opq hcl) hf21) d_Opq (i := (IntKind.wrap .i64 (Int.fdiv (IntKind.wrap .u64 (IntKind.wrap .i64 (x9 + x10))) 2)).toNat) (by first | omega | assumption | (simp only [wI] at *; omega))
    obtain rfl := eR26
    obtain ⟨eb28, eo28, _, eA28, _, ebl28, _, eR28, eC28⟩ := RdS.atD (OwnL.rd (good_Opq hcl) hf21) d_Opq (i := (p_1).toNat) (by first | omega | assumption | (simp only [wI] at *; omega))
    obtain rfl := eR28
    refine drJ 9 [.func (.func g2) #[] cp3.toArray, .slice A1 p_0.length c1, .int .i64 (IntKind.wrap .i64 (Int.fdiv (IntKind.wrap .u64 (IntKind.wrap .i64 (x9 + x10))) 2)), .pointer (some ⟨eb26, eo26 + ((IntKind.wrap .i64 (Int.fdiv (IntKind.wrap .u64 (IntKind.wrap .i64 (x9 + x10))) 2)).toNat) * 1, none⟩), .agg #[cl (p_0.getD ((IntKind.wrap .i64 (Int.fdiv (IntKind.wrap .u64 (IntKind.wrap .i64 (x9 + x10))) 2)).toNat) d_Opq)], .slice A1 p_0.length c1, .int .i64 (p_1), .pointer (some ⟨eb28, eo28 + ((p_1).toNat) * 1, none⟩), .agg #[cl (p_0.getD ((p_1).toNat) d_Opq)]] Tryz.follows rfl ⟨oI rfl fun h => yl_move rfl (h.g 4 rfl) kI, oI rfl fun h => yl_move rfl (h.g 0 rfl) kI, oI rfl fun h => yl_move rfl (h.g 12 rfl) kI, ?_, oI rfl fun h => yl_loadN ty61 rfl (h.g 43 rfl) (Cells.ex eC26 h.ex) rfl kI, oI rfl fun h => yl_move rfl (h.g 0 rfl) kI, oI rfl fun h => yl_move rfl (h.g 1 rfl) kI, ?_, oI rfl fun h => yl_loadN ty61 rfl (h.g 47 rfl) (Cells.ex eC28 h.ex) rfl kI, trivial⟩ ?_
    ·intro L44 w45 hi46
     have hE47 := hi46.ex
     have hE47z := Ex.size hE47
     exact os rfl ((yl_indexAddr un29 ty61 rfl (hi46.g 41 rfl) (hi46.g 42 rfl) eA26 (by first | omega | assumption | (simp only [wI] at *; omega)) (by first | omega | assumption | (simp only [wI] at *; omega)) kI))
    ·intro L66 w67 hi68
     have hE69 := hi68.ex
     have hE69z := Ex.size hE69
     exact os rfl ((yl_indexAddr un29 ty61 rfl (hi68.g 45 rfl) (hi68.g 46 rfl) eA28 (by first | omega | assumption | (simp only [wI] at *; omega)) (by first | omega | assumption | (simp only [wI] at *; omega)) kI))
    ·intro fl81 fh82 L78 w79 hp80
     have hE83 := hp80.ex
     have hE83z := Ex.size hE83
     have q96 := Mut.ex hf22 hE83
     refine sd rfl (yl_callv hen4 rfl (hp80.nt 0 40 rfl rfl rfl) (oc (hp80.nt 4 44 rfl rfl rfl) (oc (hp80.nt 8 48 rfl rfl rfl) oz)) (Cal.mono (hfn5 w79 (p_0.getD ((IntKind.wrap .i64 (Int.fdiv (IntKind.wrap .u64 (IntKind.wrap .i64 (x9 + x10))) 2)).toNat) d_Opq) (p_0.getD ((p_1).toNat) d_Opq) (by omega) q96) ?_))
     rintro v94 w93 ⟨rfl, hE95⟩
     have hE95z := Ex.size hE95
     refine sd rfl (yl_lss rfl rfl rfl (dn (CW.sub (Sub.cons (d := 0) (hp80.old 0 _ rfl rfl) (Sub.cons (d := 1) (hp80.old 1 _ rfl rfl) (Sub.cons (d := 4) (hp80.old 4 _ rfl rfl) (Sub.cons (d := 10) (hp80.old 10 _ rfl rfl) (Sub.cons (d := 11) (hp80.old 11 _ rfl rfl) (Sub.cons (d := 12) (hp80.old 12 _ rfl rfl) (Sub.cons (d := 50) rfl (Sub.nil _)))))))) (bcD (q := (p_4 (p_0.getD ((IntKind.wrap .i64 (Int.fdiv (IntKind.wrap .u64 (IntKind.wrap .i64 (x9 + x10))) 2)).toNat) d_Opq) (p_0.getD ((p_1).toNat) d_Opq)) < 0) (fun hb97 hb97p => ?_) (fun hb97 hb97p => ?_)))))
     ·refine CW.cond_t rfl hb97 (CW.region (sd rfl (yl_move rfl rfl (sd rfl (yl_add rfl rfl rfl (sd rfl (yl_assign rfl rfl (SeqR.done (bn (tn ?_))))))))))
      have hB98 : B_g_slices_symMergeCmpFunc_Row_0 kf p_0 p_1 p_2 p_3 p_4 (x9, x10) = .cont (IntKind.wrap .i64 ((IntKind.wrap .i64 (Int.fdiv (IntKind.wrap .u64 (IntKind.wrap .i64 (x9 + x10))) 2)) + 1), x10) := by simp only [B_g_slices_symMergeCmpFunc_Row_0, hb7, hb24, hb97, cL]
      have hmu102 : ((x10 - IntKind.wrap .i64 ((IntKind.wrap .i64 (Int.fdiv (IntKind.wrap .u64 (IntKind.wrap .i64 (x9 + x10))) 2)) + 1)).toNat) < ((x10 - x9).toNat) := by first | omega | assumption | (simp only [wI] at *; omega)
      exact ⟨m14 - 1, by omega, IntKind.wrap .i64 ((IntKind.wrap .i64 (Int.fdiv (IntKind.wrap .u64 (IntKind.wrap .i64 (x9 + x10))) 2)) + 1), x10, (by omega), (by omega), (sR rfl), (OwnL.ex (good_Opq hcl) (OwnL.ex (good_Opq hcl) hf21 hE83) hE95), (Mut.ex q96 hE95), (by first | omega | assumption | (simp only [wI] at *; omega)), (loopW.cont hk17 hB98).symm.trans hI18⟩
     ·refine CW.cond_f rfl hb97 (CW.region (sd rfl (yl_move rfl rfl (sd rfl (yl_assign rfl rfl (SeqR.done (bn (tn ?_))))))))
      have hB103 : B_g_slices_symMergeCmpFunc_Row_0 kf p_0 p_1 p_2 p_3 p_4 (x9, x10) = .cont (x9, IntKind.wrap .i64 (Int.fdiv (IntKind.wrap .u64 (IntKind.wrap .i64 (x9 + x10))) 2)) := by simp only [B_g_slices_symMergeCmpFunc_Row_0, hb7, hb24, hb97, cL]
      have hmu107 : ((IntKind.wrap .i64 (Int.fdiv (IntKind.wrap .u64 (IntKind.wrap .i64 (x9 + x10))) 2) - x9).toNat) < ((x10 - x9).toNat) := by first | omega | assumption | (simp only [wI] at *; omega)
      exact ⟨m14 - 1, by omega, x9, IntKind.wrap .i64 (Int.fdiv (IntKind.wrap .u64 (IntKind.wrap .i64 (x9 + x10))) 2), (by omega), (by omega), (sR rfl), (OwnL.ex (good_Opq hcl) (OwnL.ex (good_Opq hcl) hf21 hE83) hE95), (Mut.ex q96 hE95), (by first | omega | assumption | (simp only [wI] at *; omega)), (loopW.cont hk17 hB103).symm.trans hI18⟩
   ·refine CW.cond_f rfl hb24 (CW.exit (tx (tx ?_)))
    have hB109 : B_g_slices_symMergeCmpFunc_Row_0 kf p_0 p_1 p_2 p_3 p_4 (x9, x10) = .brk (x9, x10) := by simp only [B_g_slices_symMergeCmpFunc_Row_0, hb7, hb24, cL]
    have hL108 : loopW (B_g_slices_symMergeCmpFunc_Row_0 kf p_0 p_1 p_2 p_3 p_4) (((p_3 - p_2).toNat) + 1) (p_2, p_3) = .done (x9, x10) := hI18.symm.trans (loopW.brk hk17 hB109)
    refine bx (tn (CW.seq (CW.seq (CW.region (sd rfl (yl_move rfl rfl (sd rfl (yl_assign rfl rfl (dn ?_)))))))))
    refine CW.block (CW.loop (fun m125 L126 w127 => ∃ (x123 : Int) (x124 : List Nat), ((x9 - x123).toNat) < m125 ∧ w16.heap.size ≤ w127.heap.size ∧ Sub [(0, .slice A1 p_0.length c1), (10, .int .i64 (x9)), (13, .int .i64 (x123))] L126 ∧ OwnL w127 lo1 hi1 61 1 (RF (e_Opq cl)) A1 p_0.length c1 x124 ∧ Mut [(lo1, hi1)] w w127 ∧ (p_1 ≤ x123 ∧ x123 < x9) ∧ loopW (B_g_slices_symMergeCmpFunc_Row_1 kf p_0 p_1 p_2 p_3 p_4 x9 x10) m125 (x123, x124) = loopW (B_g_slices_symMergeCmpFunc_Row_1 kf p_0 p_1 p_2 p_3 p_4 x9 x10) (((x9 - p_1).toNat) + 1) (p_1, p_0)) (((x9 - p_1).toNat) + 1) ?_ ?_)
    ·exact ⟨p_1, p_0, Nat.lt_succ_self _, Nat.le_refl _, (sR rfl), hf21, hf22, (by first | omega | assumption | (simp only [wI] at *; omega)), rfl⟩
    ·rintro m128 L129 w130 ⟨x123, x124, hk131, hsz133, hl134, hf135, hf136, hv137, hI132⟩
     refine CW.sub hl134 ?_
     have hf136z := Mut.size hf136
     refine CW.seq (CW.seq (CW.region (sd rfl (yl_move rfl rfl (sd rfl (yl_move rfl rfl (sd rfl (yl_sub rfl rfl rfl (sd rfl (yl_lss rfl rfl rfl (dn ?_)))))))))))
     refine bcD (q := x123 < (IntKind.wrap .i64 (x9 - 1))) (fun hb138 hb138p => ?_) (fun hb138 hb138p => ?_)
     ·refine CW.cond_t rfl hb138 (CW.skip (tn (CW.seq (CW.block ?_))))
      obtain ⟨eb140, eo140, _, eA140, _, ebl140, _, eR140, eC140⟩ := RdS.atD (OwnL.rd (good_Opq hcl) hf135) d_Opq (i := (IntKind.wrap .i64 (x123 + 1)).toNat) (by first | omega | assumption | (simp only [wI] at *; omega))
      obtain rfl := eR140
      obtain ⟨eb142, eo142, _, eA142, _, ebl142, _, eR142, eC142⟩ := RdS.atD (OwnL.rd (good_Opq hcl) hf135) d_Opq (i := (x123).toNat) (by first | omega | assumption | (simp only [wI] at *; omega))
      obtain rfl := eR142
      have hrg143 := OwnL.rng hf135 (i := (x123).toNat) (by first | omega | assumption | (simp only [wI] at *; omega)) eb142 (by rw [eA142]; rfl)
      have hbt144 : eb142 < w130.heap.size := by omega
      refine CW.drawsG 16 (fun G b => G.dn 15 = true ∧ b = eb142) (fun i _ b => i = 15 ∧ b = eb142) (vgetG [DetG (.slice A1 p_0.length c1), DetG (.int .i64 (x123)), DetG (.slice A1 p_0.length c1), DetG (.int .i64 (x123)), DetG (.int .i64 (IntKind.wrap .i64 (x123 + 1))), DetG (.slice A1 p_0.length c1), DetG (.int .i64 (x123)), DetG (.int .i64 (IntKind.wrap .i64 (x123 + 1))), DetG (.pointer (some ⟨eb140, eo140 + ((IntKind.wrap .i64 (x123 + 1)).toNat) * 1, none⟩)), DetG (.agg #[cl (x124.getD ((IntKind.wrap .i64 (x123 + 1)).toNat) d_Opq)]), DetG (.slice A1 p_0.length c1), DetG (.int .i64 (x123)), DetG (.pointer (some ⟨eb142, eo142 + ((x123).toNat) * 1, none⟩)), DetG (.agg #[cl (x124.getD ((x123).toNat) d_Opq)]), DetG (.pointer (some ⟨eb142, eo142 + ((x123).toNat) * 1, none⟩)), fun G v wq => OwnL wq lo1 hi1 61 1 (RF (e_Opq cl)) A1 p_0.length c1 (x124.set ((x123).toNat) (x124.getD ((IntKind.wrap .i64 (x123 + 1)).toNat) d_Opq))]) Tryz.follows rfl rfl rfl rfl rfl rfl (fun i G _ _ _ h => ⟨(by show (Nat.beq 15 i || G.dn 15) = true; rw [h.1, Bool.or_true]), h.2⟩) (fun i G w lo hi b K hn hh hp => by obtain ⟨rfl, q⟩ := hp; exact .inl ⟨rfl, q⟩) (vgetG_kept ⟨(KeptG.det _), (KeptG.det _), (KeptG.det _), (KeptG.det _), (KeptG.det _), (KeptG.det _), (KeptG.det _), (KeptG.det _), (KeptG.det _), (KeptG.det _), (KeptG.det _), (KeptG.det _), (KeptG.det _), (KeptG.det _), (KeptG.det _), (by rintro i G v w w' K hn hh hj h0 e; exact OwnL.chg (good_Opq hcl) h0 e (fun b hb hp => by obtain ⟨rfl, q⟩ := hp; rw [hj] at hn; cases hn)), trivial⟩) ⟨?_, ?_, ?_, ?_, ?_, ?_, ?_, ?_, ?_, ?_, ?_, ?_, ?_, ?_, ?_, ?_, trivial⟩ ?_
      ·intro L146 w147 G145 hgk148
       exact OpR.op' rfl (Yl.sameG (yl_move rfl (hgk148.old 0 _ rfl rfl) kI))
      ·intro L151 w152 G150 hgk153
       exact OpR.op' rfl (Yl.sameG (yl_move rfl (hgk153.old 13 _ rfl rfl) kI))
      ·intro L156 w157 G155 hgk158
       exact OpR.op' rfl (Yl.sameG (yl_move rfl (hgk158.old 0 _ rfl rfl) kI))
      ·intro L161 w162 G160 hgk163
       exact OpR.op' rfl (Yl.sameG (yl_move rfl (hgk163.old 13 _ rfl rfl) kI))
      ·intro L166 w167 G165 hgk168
       obtain ⟨_, hx169, rfl⟩ := hgk168.val 3 64 rfl rfl
       exact OpR.op' rfl (Yl.sameG (yl_add rfl hx169 rfl kI))
      ·intro L171 w172 G170 hgk173
       exact OpR.op' rfl (Yl.sameG (yl_move rfl (hgk173.old 0 _ rfl rfl) kI))
      ·intro L176 w177 G175 hgk178
       exact OpR.op' rfl (Yl.sameG (yl_move rfl (hgk178.old 13 _ rfl rfl) kI))
      ·intro L181 w182 G180 hgk183
       obtain ⟨_, hx184, rfl⟩ := hgk183.val 6 67 rfl rfl
       exact OpR.op' rfl (Yl.sameG (yl_add rfl hx184 rfl kI))
      ·intro L186 w187 G185 hgk188
       obtain ⟨_, hx189, rfl⟩ := hgk188.val 5 66 rfl rfl
       obtain ⟨_, hx190, rfl⟩ := hgk188.val 7 68 rfl rfl
       exact OpR.op' rfl (Yl.sameG (yl_indexAddr un29 ty61 rfl hx189 hx190 eA140 (by first | omega | assumption | (simp only [wI] at *; omega)) (by first | omega | assumption | (simp only [wI] at *; omega)) kI))
      ·intro L192 w193 G191 hgk194
       obtain ⟨_, hx195, rfl⟩ := hgk194.val 8 69 rfl rfl
       have hE196 := hgk194.st.ex.ex (fun b h => h.elim (fun h => hgk194.no rfl h) (fun h => h))
       have hE196z := Ex.size hE196
       exact OpR.op' rfl (Yl.sameG (yl_loadN ty61 rfl hx195 (Cells.ex eC140 hE196) rfl kI))
      ·intro L199 w200 G198 hgk201
       exact OpR.op' rfl (Yl.sameG (yl_move rfl (hgk201.old 0 _ rfl rfl) kI))
      ·intro L204 w205 G203 hgk206
       exact OpR.op' rfl (Yl.sameG (yl_move rfl (hgk206.old 13 _ rfl rfl) kI))
      ·intro L209 w210 G208 hgk211
       obtain ⟨_, hx212, rfl⟩ := hgk211.val 10 71 rfl rfl
       obtain ⟨_, hx213, rfl⟩ := hgk211.val 11 72 rfl rfl
       exact OpR.op' rfl (Yl.sameG (yl_indexAddr un29 ty61 rfl hx212 hx213 eA142 (by first | omega | assumption | (simp only [wI] at *; omega)) (by first | omega | assumption | (simp only [wI] at *; omega)) kI))
      ·intro L215 w216 G214 hgk217
       obtain ⟨_, hx218, rfl⟩ := hgk217.val 12 73 rfl rfl
       have hE219 := hgk217.st.ex.ex (fun b h => h.elim (fun h => hgk217.no rfl h) (fun h => h))
       have hE219z := Ex.size hE219
       exact OpR.op' rfl (Yl.sameG (yl_loadN ty61 rfl hx218 (Cells.ex eC142 hE219) rfl kI))
      ·intro L222 w223 G221 hgk224
       obtain ⟨_, hx225, rfl⟩ := hgk224.val 0 61 rfl rfl
       obtain ⟨_, hx226, rfl⟩ := hgk224.val 1 62 rfl rfl
       exact OpR.op' rfl (Yl.sameG (yl_indexAddr un29 ty61 rfl hx225 hx226 eA142 (by first | omega | assumption | (simp only [wI] at *; omega)) (by first | omega | assumption | (simp only [wI] at *; omega)) kI))
      ·intro L228 w229 G227 hgk230
       obtain ⟨_, hx231, rfl⟩ := hgk230.val 14 75 rfl rfl
       obtain ⟨_, hx232, rfl⟩ := hgk230.val 9 70 rfl rfl
       have hE233 := hgk230.st.ex.ex (fun b h => h.elim (fun h => hgk230.nw h) (fun h => h))
       have hE233z := Ex.size hE233
       refine OpR.op' rfl (yl_storeF (off := eo142) (i := (x123).toNat) (d := 0) (dx := d_Opq) (x' := (x124.getD ((IntKind.wrap .i64 (x123 + 1)).toNat) d_Opq)) (vs := [cl (x124.getD ((IntKind.wrap .i64 (x123 + 1)).toNat) d_Opq)]) ty61 rfl (OwnL.ex (good_Opq hcl) hf135 hE233) eA142 hx231 hx232 rfl rfl (all_Opq hcl _) (by first | omega | assumption | (simp only [wI] at *; omega)) (Nat.le_of_ble_eq_true rfl) rfl rfl ?_)
       intro w234 hB236 hO235
       exact ⟨Chg.of_only hO235 ⟨rfl, rfl⟩, hB236⟩
      ·intro G238 L239 w240 hgp241
       have hC242 : Chg (fun b => b = eb142) w130 w240 := hgp241.st.ex.imp (fun b hb h => h.elim (fun h => h.2) (fun h => absurd h (by omega)))
       have hm243 : Mut [(lo1, hi1)] w130 w240 := Mut.of_chg1 hC242 hbt144 (by simp only [InR, or_false]; omega)
       have hm243z := Mut.size hm243
       obtain ⟨_, hF244⟩ := hgp241.fact 15 rfl
       obtain ⟨_, hx248, rfl⟩ := hgp241.val 2 63 rfl rfl
       obtain ⟨_, hx249, rfl⟩ := hgp241.val 4 65 rfl rfl
       obtain ⟨_, hx250, rfl⟩ := hgp241.val 13 74 rfl rfl
       obtain ⟨eb252, eo252, _, eA252, _, ebl252, _, eR252, _⟩ := RdS.atD (OwnL.rd (good_Opq hcl) hF244) d_Opq (i := (IntKind.wrap .i64 (x123 + 1)).toNat) (by first | omega | assumption | (simp only [wI] at *; omega))
       obtain rfl := eR252
       refine sd rfl (yl_indexAddr un29 ty61 rfl hx248 hx249 eA252 (by first | omega | assumption | (simp only [wI] at *; omega)) (by first | omega | assumption | (simp only [wI] at *; omega)) ?_)
       have hrg253 := OwnL.rng hF244 (i := (IntKind.wrap .i64 (x123 + 1)).toNat) (by first | omega | assumption | (simp only [wI] at *; omega)) eb252 (by rw [eA252]; rfl)
       refine SeqR.u rfl rfl (yl_storeF (off := eo252) (i := (IntKind.wrap .i64 (x123 + 1)).toNat) (d := 0) (dx := d_Opq) (x' := (x124.getD ((x123).toNat) d_Opq)) (vs := [cl (x124.getD ((x123).toNat) d_Opq)]) ty61 rfl hF244 eA252 rfl hx250 rfl rfl (all_Opq hcl _) (by first | omega | assumption | (simp only [wI] at *; omega)) (Nat.le_of_ble_eq_true rfl) rfl rfl ?_)
       intro w254 hB255 hO256
       have hO256z := hO256.size
       refine SeqR.done (bn (tn (CW.sub (Sub.cons (d := 0) (id (hgp241.old 0 _ rfl rfl)) (Sub.cons (d := 10) (id (hgp241.old 10 _ rfl rfl)) (Sub.cons (d := 13) (id (hgp241.old 13 _ rfl rfl)) (Sub.nil _)))) (CW.region (sd rfl (yl_move rfl rfl (sd rfl (yl_add rfl rfl rfl (sd rfl (yl_assign rfl rfl (SeqR.done ?_)))))))))))
       refine tn ?_
       have hB257 : B_g_slices_symMergeCmpFunc_Row_1 kf p_0 p_1 p_2 p_3 p_4 x9 x10 (x123, x124) = .cont (IntKind.wrap .i64 (x123 + 1), ((x124.set ((x123).toNat) (x124.getD ((IntKind.wrap .i64 (x123 + 1)).toNat) d_Opq)).set ((IntKind.wrap .i64 (x123 + 1)).toNat) (x124.getD ((x123).toNat) d_Opq))) := by simp only [B_g_slices_symMergeCmpFunc_Row_1, hb7, hb24, hb138, hL108, cL]
       have hmu260 : ((x9 - IntKind.wrap .i64 (x123 + 1)).toNat) < ((x9 - x123).toNat) := by first | omega | assumption | (simp only [wI] at *; omega)
       exact ⟨m128 - 1, by omega, IntKind.wrap .i64 (x123 + 1), ((x124.set ((x123).toNat) (x124.getD ((IntKind.wrap .i64 (x123 + 1)).toNat) d_Opq)).set ((IntKind.wrap .i64 (x123 + 1)).toNat) (x124.getD ((x123).toNat) d_Opq)), (by omega), (by omega), (sR rfl), hB255, (Mut.only (Mut.mut hf136 hm243 (fun k hk => by simp only [InR, or_false] at hk ⊢; omega)) hO256 (by simp only [InR, or_false]; omega)), (by first | omega | assumption | (simp only [wI] at *; omega)), (loopW.cont hk131 hB257).symm.trans hI132⟩
     ·refine CW.cond_f rfl hb138 (CW.exit (tx (tx ?_)))
      have hB262 : B_g_slices_symMergeCmpFunc_Row_1 kf p_0 p_1 p_2 p_3 p_4 x9 x10 (x123, x124) = .brk (x123, x124) := by simp only [B_g_slices_symMergeCmpFunc_Row_1, hb7, hb24, hb138, hL108, cL]
      have hL261 : loopW (B_g_slices_symMergeCmpFunc_Row_1 kf p_0 p_1 p_2 p_3 p_4 x9 x10) (((x9 - p_1).toNat) + 1) (p_1, p_0) = .done (x123, x124) := hI132.symm.trans (loopW.brk hk131 hB262)
      refine bx (tn (CW.ret (tr (rr rfl .nil ?_))))
      rw [show (g_slices_symMergeCmpFunc_Row (kf + 1) p_0 p_1 p_2 p_3 p_4) = (x124) by simp only [g_slices_symMergeCmpFunc_Row, hb7, hb24, hb138, hL108, hL261, cL]]
      exact ⟨rfl, hf135, hf136⟩
 ·refine CW.cond_f rfl hb7 (CW.skip (tn (CW.seq (CW.seq (CW.region (sd rfl (yl_move rfl rfl (sd rfl (yl_move rfl rfl (sd rfl (yl_sub rfl rfl rfl ?_)))))))))))
  refine sd rfl (yl_eql rfl rfl rfl (dn (bcD (q := (IntKind.wrap .i64 (p_3 - p_2)) = 1) (fun hb264 hb264p => ?_) (fun hb264 hb264p => ?_))))
  ·refine CW.cond_t rfl hb264 (CW.seq (CW.region (sd rfl (yl_move rfl rfl (sd rfl (yl_assign rfl rfl (dn (CW.seq (CW.region ?_)))))))))
   refine sd rfl (yl_move rfl rfl (sd rfl (yl_assign rfl rfl (dn (CW.seq (CW.block (CW.loop (fun m268 L269 w270 => ∃ (x266 : Int) (x267 : Int), ((x267 - x266).toNat) < m268 ∧ w.heap.size ≤ w270.heap.size ∧ Sub [(0, .slice A1 p_0.length c1), (2, .int .i64 (p_2)), (4, .func (.func g2) #[] cp3.toArray), (14, .int .i64 (x266)), (15, .int .i64 (x267))] L269 ∧ OwnL w270 lo1 hi1 61 1 (RF (e_Opq cl)) A1 p_0.length c1 p_0 ∧ Mut [(lo1, hi1)] w w270 ∧ (p_1 ≤ x266 ∧ x266 ≤ x267 ∧ x267 ≤ p_2) ∧ loopW (B_g_slices_symMergeCmpFunc_Row_2 kf p_0 p_1 p_2 p_3 p_4) m268 (x266, x267) = loopW (B_g_slices_symMergeCmpFunc_Row_2 kf p_0 p_1 p_2 p_3 p_4) (((p_2 - p_1).toNat) + 1) (p_1, p_2)) (((p_2 - p_1).toNat) + 1) ?_ ?_)))))))
   ·exact ⟨p_1, p_2, Nat.lt_succ_self _, Nat.le_refl _, (sR rfl), h1, (Mut.refl (l := [(lo1, hi1)]) w), (by first | omega | assumption | (simp only [wI] at *; omega)), rfl⟩
   ·rintro m271 L272 w273 ⟨x266, x267, hk274, hsz276, hl277, hf278, hf279, hv280, hI275⟩
    refine CW.sub hl277 ?_
    have hf279z := Mut.size hf279
    refine CW.seq (CW.seq (CW.region (sd rfl (yl_move rfl rfl (sd rfl (yl_move rfl rfl (sd rfl (yl_lss rfl rfl rfl (dn (bcD (q := x266 < x267) (fun hb281 hb281p => ?_) (fun hb281 hb281p => ?_)))))))))))
    ·have hb281m := bs_mid (i := x266) (j := x267) (by omega) (by omega) (by omega)
     refine CW.cond_t rfl hb281 (CW.skip (tn (CW.block (CW.seq (CW.region (sd rfl (yl_move rfl rfl (sd rfl (yl_move rfl rfl (sd rfl (yl_add rfl rfl rfl ?_)))))))))))
     refine sd rfl (yl_conv un3 un115 rfl rfl (sd rfl (yl_shr (q := 2) rfl rfl rfl (by decide) (by decide) (by decide) (sd rfl (yl_conv un115 un3 rfl rfl (sd rfl (yl_assign rfl rfl (dn (CW.seq ?_)))))))))
     obtain ⟨eb283, eo283, _, eA283, _, ebl283, _, eR283, eC283⟩ := RdS.atD (OwnL.rd (good_Opq hcl) hf278) d_Opq (i := (p_2).toNat) (by first | omega | assumption | (simp only [wI] at *; omega))
     obtain rfl := eR283
     obtain ⟨eb285, eo285, _, eA285, _, ebl285, _, eR285, eC285⟩ := RdS.atD (OwnL.rd (good_Opq hcl) hf278) d_Opq (i := (IntKind.wrap .i64 (Int.fdiv (IntKind.wrap .u64 (IntKind.wrap .i64 (x266 + x267))) 2)).toNat) (by first | omega | assumption | (simp only [wI] at *; omega))
     obtain rfl := eR285
     refine drJ 9 [.func (.func g2) #[] cp3.toArray, .slice A1 p_0.length c1, .int .i64 (p_2), .pointer (some ⟨eb283, eo283 + ((p_2).toNat) * 1, none⟩), .agg #[cl (p_0.getD ((p_2).toNat) d_Opq)], .slice A1 p_0.length c1, .int .i64 (IntKind.wrap .i64 (Int.fdiv (IntKind.wrap .u64 (IntKind.wrap .i64 (x266 + x267))) 2)), .pointer (some ⟨eb285, eo285 + ((IntKind.wrap .i64 (Int.fdiv (IntKind.wrap .u64 (IntKind.wrap .i64 (x266 + x267))) 2)).toNat) * 1, none⟩), .agg #[cl (p_0.getD ((IntKind.wrap .i64 (Int.fdiv (IntKind.wrap .u64 (IntKind.wrap .i64 (x266 + x267))) 2)).toNat) d_Opq)]] Tryz.follows rfl ⟨oI rfl fun h => yl_move rfl (h.g 4 rfl) kI, oI rfl fun h => yl_move rfl (h.g 0 rfl) kI, oI rfl fun h => yl_move rfl (h.g 2 rfl) kI, ?_, oI rfl fun h => yl_loadN ty61 rfl (h.g 95 rfl) (Cells.ex eC283 h.ex) rfl kI, oI rfl fun h => yl_move rfl (h.g 0 rfl) kI, oI rfl fun h => yl_move rfl (h.g 16 rfl) kI, ?_, oI rfl fun h => yl_loadN ty61 rfl (h.g 99 rfl) (Cells.ex eC285 h.ex) rfl kI, trivial⟩ ?_
     ·intro L301 w302 hi303
      have hE304 := hi303.ex
      have hE304z := Ex.size hE304
      exact os rfl ((yl_indexAddr un29 ty61 rfl (hi303.g 93 rfl) (hi303.g 94 rfl) eA283 (by first | omega | assumption | (simp only [wI] at *; omega)) (by first | omega | assumption | (simp only [wI] at *; omega)) kI))
     ·intro L323 w324 hi325
      have hE326 := hi325.ex
      have hE326z := Ex.size hE326
      exact os rfl ((yl_indexAddr un29 ty61 rfl (hi325.g 97 rfl) (hi325.g 98 rfl) eA285 (by first | omega | assumption | (simp only [wI] at *; omega)) (by first | omega | assumption | (simp only [wI] at *; omega)) kI))
     ·intro fl338 fh339 L335 w336 hp337
      have hE340 := hp337.ex
      have hE340z := Ex.size hE340
      have q353 := Mut.ex hf279 hE340
      refine sd rfl (yl_callv hen4 rfl (hp337.nt 0 92 rfl rfl rfl) (oc (hp337.nt 4 96 rfl rfl rfl) (oc (hp337.nt 8 100 rfl rfl rfl) oz)) (Cal.mono (hfn5 w336 (p_0.getD ((p_2).toNat) d_Opq) (p_0.getD ((IntKind.wrap .i64 (Int.fdiv (IntKind.wrap .u64 (IntKind.wrap .i64 (x266 + x267))) 2)).toNat) d_Opq) (by omega) q353) ?_))
      rintro v351 w350 ⟨rfl, hE352⟩
      have hE352z := Ex.size hE352
      refine sd rfl (yl_lss rfl rfl rfl (sd rfl (yl_not rfl rfl (dn (CW.sub (Sub.cons (d := 0) (hp337.old 0 _ rfl rfl) (Sub.cons (d := 2) (hp337.old 2 _ rfl rfl) (Sub.cons (d := 4) (hp337.old 4 _ rfl rfl) (Sub.cons (d := 14) (hp337.old 14 _ rfl rfl) (Sub.cons (d := 15) (hp337.old 15 _ rfl rfl) (Sub.cons (d := 16) (hp337.old 16 _ rfl rfl) (Sub.cons (d := 103) rfl (Sub.nil _)))))))) (bcD (q := (p_4 (p_0.getD ((p_2).toNat) d_Opq) (p_0.getD ((IntKind.wrap .i64 (Int.fdiv (IntKind.wrap .u64 (IntKind.wrap .i64 (x266 + x267))) 2)).toNat) d_Opq)) < 0) (fun hb354 hb354p => ?_) (fun hb354 hb354p => ?_)))))))
      ·refine CW.cond_f rfl (not_t hb354) (CW.region (sd rfl (yl_move rfl rfl (sd rfl (yl_assign rfl rfl (SeqR.done (bn (tn ?_))))))))
       have hB355 : B_g_slices_symMergeCmpFunc_Row_2 kf p_0 p_1 p_2 p_3 p_4 (x266, x267) = .cont (x266, IntKind.wrap .i64 (Int.fdiv (IntKind.wrap .u64 (IntKind.wrap .i64 (x266 + x267))) 2)) := by simp only [B_g_slices_symMergeCmpFunc_Row_2, hb7, hb264, hb281, hb354, cL]
       have hmu359 : ((IntKind.wrap .i64 (Int.fdiv (IntKind.wrap .u64 (IntKind.wrap .i64 (x266 + x267))) 2) - x266).toNat) < ((x267 - x266).toNat) := by first | omega | assumption | (simp only [wI] at *; omega)
       exact ⟨m271 - 1, by omega, x266, IntKind.wrap .i64 (Int.fdiv (IntKind.wrap .u64 (IntKind.wrap .i64 (x266 + x267))) 2), (by omega), (by omega), (sR rfl), (OwnL.ex (good_Opq hcl) (OwnL.ex (good_Opq hcl) hf278 hE340) hE352), (Mut.ex q353 hE352), (by first | omega | assumption | (simp only [wI] at *; omega)), (loopW.cont hk274 hB355).symm.trans hI275⟩
      ·refine CW.cond_t rfl (not_f hb354) (CW.region (sd rfl (yl_move rfl rfl (sd rfl (yl_add rfl rfl rfl (sd rfl (yl_assign rfl rfl (SeqR.done (bn (tn ?_))))))))))
       have hB360 : B_g_slices_symMergeCmpFunc_Row_2 kf p_0 p_1 p_2 p_3 p_4 (x266, x267) = .cont (IntKind.wrap .i64 ((IntKind.wrap .i64 (Int.fdiv (IntKind.wrap .u64 (IntKind.wrap .i64 (x266 + x267))) 2)) + 1), x267) := by simp only [B_g_slices_symMergeCmpFunc_Row_2, hb7, hb264, hb281, hb354, cL]
       have hmu364 : ((x267 - IntKind.wrap .i64 ((IntKind.wrap .i64 (Int.fdiv (IntKind.wrap .u64 (IntKind.wrap .i64 (x266 + x267))) 2)) + 1)).toNat) < ((x267 - x266).toNat) := by first | omega | assumption | (simp only [wI] at *; omega)
       exact ⟨m271 - 1, by omega, IntKind.wrap .i64 ((IntKind.wrap .i64 (Int.fdiv (IntKind.wrap .u64 (IntKind.wrap .i64 (x266 + x267))) 2)) + 1), x267, (by omega), (by omega), (sR rfl), (OwnL.ex (good_Opq hcl) (OwnL.ex (good_Opq hcl) hf278 hE340) hE352), (Mut.ex q353 hE352), (by first | omega | assumption | (simp only [wI] at *; omega)), (loopW.cont hk274 hB360).symm.trans hI275⟩
    ·refine CW.cond_f rfl hb281 (CW.exit (tx (tx ?_)))
     have hB366 : B_g_slices_symMergeCmpFunc_Row_2 kf p_0 p_1 p_2 p_3 p_4 (x266, x267) = .brk (x266, x267) := by simp only [B_g_slices_symMergeCmpFunc_Row_2, hb7, hb264, hb281, cL]
     have hL365 : loopW (B_g_slices_symMergeCmpFunc_Row_2 kf p_0 p_1 p_2 p_3 p_4) (((p_2 - p_1).toNat) + 1) (p_1, p_2) = .done (x266, x267) := hI275.symm.trans (loopW.brk hk274 hB366)
     refine bx (tn (CW.seq (CW.seq (CW.region (sd rfl (yl_move rfl rfl (sd rfl (yl_assign rfl rfl (dn ?_)))))))))
     refine CW.block (CW.loop (fun m382 L383 w384 => ∃ (x380 : Int) (x381 : List Nat), ((x380 - x266).toNat) < m382 ∧ w273.heap.size ≤ w384.heap.size ∧ Sub [(0, .slice A1 p_0.length c1), (14, .int .i64 (x266)), (17, .int .i64 (x380))] L383 ∧ OwnL w384 lo1 hi1 61 1 (RF (e_Opq cl)) A1 p_0.length c1 x381 ∧ Mut [(lo1, hi1)] w w384 ∧ (x266 ≤ x380 ∧ x380 ≤ p_2) ∧ loopW (B_g_slices_symMergeCmpFunc_Row_3 kf p_0 p_1 p_2 p_3 p_4 x266 x267) m382 (x380, x381) = loopW (B_g_slices_symMergeCmpFunc_Row_3 kf p_0 p_1 p_2 p_3 p_4 x266 x267) (((p_2 - x266).toNat) + 1) (p_2, p_0)) (((p_2 - x266).toNat) + 1) ?_ ?_)
     ·exact ⟨p_2, p_0, Nat.lt_succ_self _, Nat.le_refl _, (sR rfl), hf278, hf279, (by first | omega | assumption | (simp only [wI] at *; omega)), rfl⟩
     ·rintro m385 L386 w387 ⟨x380, x381, hk388, hsz390, hl391, hf392, hf393, hv394, hI389⟩
      refine CW.sub hl391 ?_
      have hf393z := Mut.size hf393
      refine CW.seq (CW.seq (CW.region (sd rfl (yl_move rfl rfl (sd rfl (yl_move rfl rfl (sd rfl (yl_gtr rfl rfl rfl (dn (bcD (q := x266 < x380) (fun hb395 hb395p => ?_) (fun hb395 hb395p => ?_)))))))))))
      ·have hb395m := bs_mid (i := x266) (j := x380) (by omega) (by omega) (by omega)
       refine CW.cond_t rfl hb395 (CW.skip (tn (CW.seq (CW.block ?_))))
       obtain ⟨eb397, eo397, _, eA397, _, ebl397, _, eR397, eC397⟩ := RdS.atD (OwnL.rd (good_Opq hcl) hf392) d_Opq (i := (IntKind.wrap .i64 (x380 - 1)).toNat) (by first | omega | assumption | (simp only [wI] at *; omega))
       obtain rfl := eR397
       obtain ⟨eb399, eo399, _, eA399, _, ebl399, _, eR399, eC399⟩ := RdS.atD (OwnL.rd (good_Opq hcl) hf392) d_Opq (i := (x380).toNat) (by first | omega | assumption | (simp only [wI] at *; omega))
       obtain rfl := eR399
       have hrg400 := OwnL.rng hf392 (i := (x380).toNat) (by first | omega | assumption | (simp only [wI] at *; omega)) eb399 (by rw [eA399]; rfl)
       have hbt401 : eb399 < w387.heap.size := by omega
       refine CW.drawsG 16 (fun G b => G.dn 15 = true ∧ b = eb399) (fun i _ b => i = 15 ∧ b = eb399) (vgetG [DetG (.slice A1 p_0.length c1), DetG (.int .i64 (x380)), DetG (.slice A1 p_0.length c1), DetG (.int .i64 (x380)), DetG (.int .i64 (IntKind.wrap .i64 (x380 - 1))), DetG (.slice A1 p_0.length c1), DetG (.int .i64 (x380)), DetG (.int .i64 (IntKind.wrap .i64 (x380 - 1))), DetG (.pointer (some ⟨eb397, eo397 + ((IntKind.wrap .i64 (x380 - 1)).toNat) * 1, none⟩)), DetG (.agg #[cl (x381.getD ((IntKind.wrap .i64 (x380 - 1)).toNat) d_Opq)]), DetG (.slice A1 p_0.length c1), DetG (.int .i64 (x380)), DetG (.pointer (some ⟨eb399, eo399 + ((x380).toNat) * 1, none⟩)), DetG (.agg #[cl (x381.getD ((x380).toNat) d_Opq)]), DetG (.pointer (some ⟨eb399, eo399 + ((x380).toNat) * 1, none⟩)), fun G v wq => OwnL wq lo1 hi1 61 1 (RF (e_Opq cl)) A1 p_0.length c1 (x381.set ((x380).toNat) (x381.getD ((IntKind.wrap .i64 (x380 - 1)).toNat) d_Opq))]) Tryz.follows rfl rfl rfl rfl rfl rfl (fun i G _ _ _ h => ⟨(by show (Nat.beq 15 i || G.dn 15) = true; rw [h.1, Bool.or_true]), h.2⟩) (fun i G w lo hi b K hn hh hp => by obtain ⟨rfl, q⟩ := hp; exact .inl ⟨rfl, q⟩) (vgetG_kept ⟨(KeptG.det _), (KeptG.det _), (KeptG.det _), (KeptG.det _), (KeptG.det _), (KeptG.det _), (KeptG.det _), (KeptG.det _), (KeptG.det _), (KeptG.det _), (KeptG.det _), (KeptG.det _), (KeptG.det _), (KeptG.det _), (KeptG.det _), (by rintro i G v w w' K hn hh hj h0 e; exact OwnL.chg (good_Opq hcl) h0 e (fun b hb hp => by obtain ⟨rfl, q⟩ := hp; rw [hj] at hn; cases hn)), trivial⟩) ⟨?_, ?_, ?_, ?_, ?_, ?_, ?_, ?_, ?_, ?_, ?_, ?_, ?_, ?_, ?_, ?_, trivial⟩ ?_
       ·intro L403 w404 G402 hgk405
        exact OpR.op' rfl (Yl.sameG (yl_move rfl (hgk405.old 0 _ rfl rfl) kI))
       ·intro L408 w409 G407 hgk410
        exact OpR.op' rfl (Yl.sameG (yl_move rfl (hgk410.old 17 _ rfl rfl) kI))
       ·intro L413 w414 G412 hgk415
        exact OpR.op' rfl (Yl.sameG (yl_move rfl (hgk415.old 0 _ rfl rfl) kI))
       ·intro L418 w419 G417 hgk420
        exact OpR.op' rfl (Yl.sameG (yl_move rfl (hgk420.old 17 _ rfl rfl) kI))
       ·intro L423 w424 G422 hgk425
        obtain ⟨_, hx426, rfl⟩ := hgk425.val 3 116 rfl rfl
        exact OpR.op' rfl (Yl.sameG (yl_sub rfl hx426 rfl kI))
       ·intro L428 w429 G427 hgk430
        exact OpR.op' rfl (Yl.sameG (yl_move rfl (hgk430.old 0 _ rfl rfl) kI))
       ·intro L433 w434 G432 hgk435
        exact OpR.op' rfl (Yl.sameG (yl_move rfl (hgk435.old 17 _ rfl rfl) kI))
       ·intro L438 w439 G437 hgk440
        obtain ⟨_, hx441, rfl⟩ := hgk440.val 6 119 rfl rfl
        exact OpR.op' rfl (Yl.sameG (yl_sub rfl hx441 rfl kI))
       ·intro L443 w444 G442 hgk445
        obtain ⟨_, hx446, rfl⟩ := hgk445.val 5 118 rfl rfl
        obtain ⟨_, hx447, rfl⟩ := hgk445.val 7 120 rfl rfl
        exact OpR.op' rfl (Yl.sameG (yl_indexAddr un29 ty61 rfl hx446 hx447 eA397 (by first | omega | assumption | (simp only [wI] at *; omega)) (by first | omega | assumption | (simp only [wI] at *; omega)) kI))
       ·intro L449 w450 G448 hgk451
        obtain ⟨_, hx452, rfl⟩ := hgk451.val 8 121 rfl rfl
        have hE453 := hgk451.st.ex.ex (fun b h => h.elim (fun h => hgk451.no rfl h) (fun h => h))
        have hE453z := Ex.size hE453
        exact OpR.op' rfl (Yl.sameG (yl_loadN ty61 rfl hx452 (Cells.ex eC397 hE453) rfl kI))
       ·intro L456 w457 G455 hgk458
        exact OpR.op' rfl (Yl.sameG (yl_move rfl (hgk458.old 0 _ rfl rfl) kI))
       ·intro L461 w462 G460 hgk463
        exact OpR.op' rfl (Yl.sameG (yl_move rfl (hgk463.old 17 _ rfl rfl) kI))
       ·intro L466 w467 G465 hgk468
        obtain ⟨_, hx469, rfl⟩ := hgk468.val 10 123 rfl rfl
        obtain ⟨_, hx470, rfl⟩ := hgk468.val 11 124 rfl rfl
        exact OpR.op' rfl (Yl.sameG (yl_indexAddr un29 ty61 rfl hx469 hx470 eA399 (by first | omega | assumption | (simp only [wI] at *; omega)) (by first | omega | assumption | (simp only [wI] at *; omega)) kI))
       ·intro L472 w473 G471 hgk474
        obtain ⟨_, hx475, rfl⟩ := hgk474.val 12 125 rfl rfl
        have hE476 := hgk474.st.ex.ex (fun b h => h.elim (fun h => hgk474.no rfl h) (fun h => h))
        have hE476z := Ex.size hE476
        exact OpR.op' rfl (Yl.sameG (yl_loadN ty61 rfl hx475 (Cells.ex eC399 hE476) rfl kI))
       ·intro L479 w480 G478 hgk481
        obtain ⟨_, hx482, rfl⟩ := hgk481.val 0 113 rfl rfl
        obtain ⟨_, hx483, rfl⟩ := hgk481.val 1 114 rfl rfl
        exact OpR.op' rfl (Yl.sameG (yl_indexAddr un29 ty61 rfl hx482 hx483 eA399 (by first | omega | assumption | (simp only [wI] at *; omega)) (by first | omega | assumption | (simp only [wI] at *; omega)) kI))
       ·intro L485 w486 G484 hgk487
        obtain ⟨_, hx488, rfl⟩ := hgk487.val 14 127 rfl rfl
        obtain ⟨_, hx489, rfl⟩ := hgk487.val 9 122 rfl rfl
        have hE490 := hgk487.st.ex.ex (fun b h => h.elim (fun h => hgk487.nw h) (fun h => h))
        have hE490z := Ex.size hE490
        refine OpR.op' rfl (yl_storeF (off := eo399) (i := (x380).toNat) (d := 0) (dx := d_Opq) (x' := (x381.getD ((IntKind.wrap .i64 (x380 - 1)).toNat) d_Opq)) (vs := [cl (x381.getD ((IntKind.wrap .i64 (x380 - 1)).toNat) d_Opq)]) ty61 rfl (OwnL.ex (good_Opq hcl) hf392 hE490) eA399 hx488 hx489 rfl rfl (all_Opq hcl _) (by first | omega | assumption | (simp only [wI] at *; omega)) (Nat.le_of_ble_eq_true rfl) rfl rfl ?_)
        intro w491 hB493 hO492
        exact ⟨Chg.of_only hO492 ⟨rfl, rfl⟩, hB493⟩
       ·intro G495 L496 w497 hgp498
        have hC499 : Chg (fun b => b = eb399) w387 w497 := hgp498.st.ex.imp (fun b hb h => h.elim (fun h => h.2) (fun h => absurd h (by omega)))
        have hm500 : Mut [(lo1, hi1)] w387 w497 := Mut.of_chg1 hC499 hbt401 (by simp only [InR, or_false]; omega)
        have hm500z := Mut.size hm500
        obtain ⟨_, hF501⟩ := hgp498.fact 15 rfl
        obtain ⟨_, hx505, rfl⟩ := hgp498.val 2 115 rfl rfl
        obtain ⟨_, hx506, rfl⟩ := hgp498.val 4 117 rfl rfl
        obtain ⟨_, hx507, rfl⟩ := hgp498.val 13 126 rfl rfl
        obtain ⟨eb509, eo509, _, eA509, _, ebl509, _, eR509, _⟩ := RdS.atD (OwnL.rd (good_Opq hcl) hF501) d_Opq (i := (IntKind.wrap .i64 (x380 - 1)).toNat) (by first | omega | assumption | (simp only [wI] at *; omega))
        obtain rfl := eR509
        refine sd rfl (yl_indexAddr un29 ty61 rfl hx505 hx506 eA509 (by first | omega | assumption | (simp only [wI] at *; omega)) (by first | omega | assumption | (simp only [wI] at *; omega)) ?_)
        have hrg510 := OwnL.rng hF501 (i := (IntKind.wrap .i64 (x380 - 1)).toNat) (by first | omega | assumption | (simp only [wI] at *; omega)) eb509 (by rw [eA509]; rfl)
        refine SeqR.u rfl rfl (yl_storeF (off := eo509) (i := (IntKind.wrap .i64 (x380 - 1)).toNat) (d := 0) (dx := d_Opq) (x' := (x381.getD ((x380).toNat) d_Opq)) (vs := [cl (x381.getD ((x380).toNat) d_Opq)]) ty61 rfl hF501 eA509 rfl hx507 rfl rfl (all_Opq hcl _) (by first | omega | assumption | (simp only [wI] at *; omega)) (Nat.le_of_ble_eq_true rfl) rfl rfl ?_)
        intro w511 hB512 hO513
        have hO513z := hO513.size
        refine SeqR.done (bn (tn (CW.sub (Sub.cons (d := 0) (id (hgp498.old 0 _ rfl rfl)) (Sub.cons (d := 14) (id (hgp498.old 14 _ rfl rfl)) (Sub.cons (d := 17) (id (hgp498.old 17 _ rfl rfl)) (Sub.nil _)))) (CW.region (sd rfl (yl_move rfl rfl (sd rfl (yl_sub rfl rfl rfl (sd rfl (yl_assign rfl rfl (SeqR.done ?_)))))))))))
        refine tn ?_
        have hB514 : B_g_slices_symMergeCmpFunc_Row_3 kf p_0 p_1 p_2 p_3 p_4 x266 x267 (x380, x381) = .cont (IntKind.wrap .i64 (x380 - 1), ((x381.set ((x380).toNat) (x381.getD ((IntKind.wrap .i64 (x380 - 1)).toNat) d_Opq)).set ((IntKind.wrap .i64 (x380 - 1)).toNat) (x381.getD ((x380).toNat) d_Opq))) := by simp only [B_g_slices_symMergeCmpFunc_Row_3, hb7, hb264, hb281, hb395, hL365, cL]
        have hmu517 : ((IntKind.wrap .i64 (x380 - 1) - x266).toNat) < ((x380 - x266).toNat) := by first | omega | assumption | (simp only [wI] at *; omega)
        exact ⟨m385 - 1, by omega, IntKind.wrap .i64 (x380 - 1), ((x381.set ((x380).toNat) (x381.getD ((IntKind.wrap .i64 (x380 - 1)).toNat) d_Opq)).set ((IntKind.wrap .i64 (x380 - 1)).toNat) (x381.getD ((x380).toNat) d_Opq)), (by omega), (by omega), (sR rfl), hB512, (Mut.only (Mut.mut hf393 hm500 (fun k hk => by simp only [InR, or_false] at hk ⊢; omega)) hO513 (by simp only [InR, or_false]; omega)), (by first | omega | assumption | (simp only [wI] at *; omega)), (loopW.cont hk388 hB514).symm.trans hI389⟩
      ·refine CW.cond_f rfl hb395 (CW.exit (tx (tx ?_)))
       have hB519 : B_g_slices_symMergeCmpFunc_Row_3 kf p_0 p_1 p_2 p_3 p_4 x266 x267 (x380, x381) = .brk (x380, x381) := by simp only [B_g_slices_symMergeCmpFunc_Row_3, hb7, hb264, hb281, hb395, hL365, cL]
       have hL518 : loopW (B_g_slices_symMergeCmpFunc_Row_3 kf p_0 p_1 p_2 p_3 p_4 x266 x267) (((p_2 - x266).toNat) + 1) (p_2, p_0) = .done (x380, x381) := hI389.symm.trans (loopW.brk hk388 hB519)
       refine bx (tn (CW.ret (tr (rr rfl .nil ?_))))
       rw [show (g_slices_symMergeCmpFunc_Row (kf + 1) p_0 p_1 p_2 p_3 p_4) = (x381) by simp only [g_slices_symMergeCmpFunc_Row, hb7, hb264, hb281, hb395, hL365, hL518, cL]]
       exact ⟨rfl, hf392, hf393⟩
  ·refine CW.cond_f rfl hb264 (CW.skip (tn (CW.seq (CW.region (sd rfl (yl_move rfl rfl (sd rfl (yl_move rfl rfl (sd rfl (yl_add rfl rfl rfl (sd rfl (yl_conv un3 un115 rfl rfl ?_))))))))))))
   refine sd rfl (yl_shr (q := 2) rfl rfl rfl (by decide) (by decide) (by decide) (sd rfl (yl_conv un115 un3 rfl rfl (sd rfl (yl_assign rfl rfl (dn (CW.seq (CW.region (sd rfl (yl_move rfl rfl (sd rfl (yl_move rfl rfl ?_))))))))))))
   refine sd rfl (yl_add rfl rfl rfl (sd rfl (yl_assign rfl rfl (dn (CW.seq (CW.region (sd rfl (yl_assign rfl rfl (sd rfl (yl_assign rfl rfl (SeqR.done ?_)))))))))))
   refine tn (CW.seq (CW.seq (CW.region (sd rfl (yl_move rfl rfl (sd rfl (yl_move rfl rfl (sd rfl (yl_gtr rfl rfl rfl (dn ?_))))))))))
   refine bcD (q := (IntKind.wrap .i64 (Int.fdiv (IntKind.wrap .u64 (IntKind.wrap .i64 (p_1 + p_3))) 2)) < p_2) (fun hb521 hb521p => ?_) (fun hb521 hb521p => ?_)
   ·refine CW.cond_t rfl hb521 (CW.seq (CW.region (sd rfl (yl_move rfl rfl (sd rfl (yl_move rfl rfl (sd rfl (yl_sub rfl rfl rfl (sd rfl (yl_assign rfl rfl (dn ?_)))))))))))
    refine CW.region (sd rfl (yl_move rfl rfl (sd rfl (yl_assign rfl rfl (dn (CW.seq (CW.region (sd rfl (yl_move rfl rfl (sd rfl (yl_sub rfl rfl rfl ?_)))))))))))
    refine sd rfl (yl_assign rfl rfl (dn (CW.seq (CW.block (CW.loop (fun m525 L526 w527 => ∃ (x523 : Int) (x524 : Int), ((x524 - x523).toNat) < m525 ∧ w.heap.size ≤ w527.heap.size ∧ Sub [(0, .slice A1 p_0.length c1), (1, .int .i64 (p_1)), (2, .int .i64 (p_2)), (3, .int .i64 (p_3)), (4, .func (.func g2) #[] cp3.toArray), (18, .int .i64 (IntKind.wrap .i64 (Int.fdiv (IntKind.wrap .u64 (IntKind.wrap .i64 (p_1 + p_3))) 2))), (19, .int .i64 (IntKind.wrap .i64 ((IntKind.wrap .i64 (Int.fdiv (IntKind.wrap .u64 (IntKind.wrap .i64 (p_1 + p_3))) 2)) + p_2))), (20, .int .i64 (x523)), (21, .int .i64 (x524)), (22, .int .i64 (IntKind.wrap .i64 ((IntKind.wrap .i64 ((IntKind.wrap .i64 (Int.fdiv (IntKind.wrap .u64 (IntKind.wrap .i64 (p_1 + p_3))) 2)) + p_2)) - 1)))] L526 ∧ OwnL w527 lo1 hi1 61 1 (RF (e_Opq cl)) A1 p_0.length c1 p_0 ∧ Mut [(lo1, hi1)] w w527 ∧ (p_1 ≤ x523 ∧ x523 ≤ x524 ∧ x524 ≤ p_2 ∧ x524 ≤ IntKind.wrap .i64 (Int.fdiv (IntKind.wrap .u64 (IntKind.wrap .i64 (p_1 + p_3))) 2) ∧ IntKind.wrap .i64 ((IntKind.wrap .i64 (Int.fdiv (IntKind.wrap .u64 (IntKind.wrap .i64 (p_1 + p_3))) 2)) + p_2) - p_3 ≤ x523) ∧ loopW (B_g_slices_symMergeCmpFunc_Row_4 kf p_0 p_1 p_2 p_3 p_4) m525 (x523, x524) = loopW (B_g_slices_symMergeCmpFunc_Row_4 kf p_0 p_1 p_2 p_3 p_4) (((IntKind.wrap .i64 (Int.fdiv (IntKind.wrap .u64 (IntKind.wrap .i64 (p_1 + p_3))) 2) - IntKind.wrap .i64 ((IntKind.wrap .i64 ((IntKind.wrap .i64 (Int.fdiv (IntKind.wrap .u64 (IntKind.wrap .i64 (p_1 + p_3))) 2)) + p_2)) - p_3)).toNat) + 1) (IntKind.wrap .i64 ((IntKind.wrap .i64 ((IntKind.wrap .i64 (Int.fdiv (IntKind.wrap .u64 (IntKind.wrap .i64 (p_1 + p_3))) 2)) + p_2)) - p_3), IntKind.wrap .i64 (Int.fdiv (IntKind.wrap .u64 (IntKind.wrap .i64 (p_1 + p_3))) 2))) (((IntKind.wrap .i64 (Int.fdiv (IntKind.wrap .u64 (IntKind.wrap .i64 (p_1 + p_3))) 2) - IntKind.wrap .i64 ((IntKind.wrap .i64 ((IntKind.wrap .i64 (Int.fdiv (IntKind.wrap .u64 (IntKind.wrap .i64 (p_1 + p_3))) 2)) + p_2)) - p_3)).toNat) + 1) ?_ ?_)))))
    ·exact ⟨IntKind.wrap .i64 ((IntKind.wrap .i64 ((IntKind.wrap .i64 (Int.fdiv (IntKind.wrap .u64 (IntKind.wrap .i64 (p_1 + p_3))) 2)) + p_2)) - p_3), IntKind.wrap .i64 (Int.fdiv (IntKind.wrap .u64 (IntKind.wrap .i64 (p_1 + p_3))) 2), Nat.lt_succ_self _, Nat.le_refl _, (sR rfl), h1, (Mut.refl (l := [(lo1, hi1)]) w), (by first | omega | assumption | (simp only [wI] at *; omega)), rfl⟩
    ·rintro m528 L529 w530 ⟨x523, x524, hk531, hsz533, hl534, hf535, hf536, hv537, hI532⟩
     refine CW.sub hl534 ?_
     have hf536z := Mut.size hf536
     refine CW.seq (CW.seq (CW.region (sd rfl (yl_move rfl rfl (sd rfl (yl_move rfl rfl (sd rfl (yl_lss rfl rfl rfl (dn (bcD (q := x523 < x524) (fun hb538 hb538p => ?_) (fun hb538 hb538p => ?_)))))))))))
     ·have hb538m := bs_mid (i := x523) (j := x524) (by omega) (by omega) (by omega)
      have hb538p : IntKind.wrap .i64 ((IntKind.wrap .i64 ((IntKind.wrap .i64 ((IntKind.wrap .i64 (Int.fdiv (IntKind.wrap .u64 (IntKind.wrap .i64 (p_1 + p_3))) 2)) + p_2)) - 1)) - IntKind.wrap .i64 (Int.fdiv (IntKind.wrap .u64 (IntKind.wrap .i64 (x523 + x524))) 2)) = (p_1 + p_3) / 2 + p_2 - 1 - (x523 + x524) / 2 := by rw [hmid, hb538m]; simp only [wI]; omega
      refine CW.cond_t rfl hb538 (CW.skip (tn (CW.block (CW.seq (CW.region (sd rfl (yl_move rfl rfl (sd rfl (yl_move rfl rfl (sd rfl (yl_add rfl rfl rfl ?_)))))))))))
      refine sd rfl (yl_conv un3 un115 rfl rfl (sd rfl (yl_shr (q := 2) rfl rfl rfl (by decide) (by decide) (by decide) (sd rfl (yl_conv un115 un3 rfl rfl (sd rfl (yl_assign rfl rfl (dn (CW.seq ?_)))))))))
      obtain ⟨eb540, eo540, _, eA540, _, ebl540, _, eR540, eC540⟩ := RdS.atD (OwnL.rd (good_Opq hcl) hf535) d_Opq (i := (IntKind.wrap .i64 ((IntKind.wrap .i64 ((IntKind.wrap .i64 ((IntKind.wrap .i64 (Int.fdiv (IntKind.wrap .u64 (IntKind.wrap .i64 (p_1 + p_3))) 2)) + p_2)) - 1)) - (IntKind.wrap .i64 (Int.fdiv (IntKind.wrap .u64 (IntKind.wrap .i64 (x523 + x524))) 2)))).toNat) (by first | omega | assumption | (simp only [wI] at *; omega))
      obtain rfl := eR540
      obtain ⟨eb542, eo542, _, eA542, _, ebl542, _, eR542, eC542⟩ := RdS.atD (OwnL.rd (good_Opq hcl) hf535) d_Opq (i := (IntKind.wrap .i64 (Int.fdiv (IntKind.wrap .u64 (IntKind.wrap .i64 (x523 + x524))) 2)).toNat) (by first | omega | assumption | (simp only [wI] at *; omega))
      obtain rfl := eR542
      refine drJ 11 [.func (.func g2) #[] cp3.toArray, .slice A1 p_0.length c1, .int .i64 (IntKind.wrap .i64 ((IntKind.wrap .i64 ((IntKind.wrap .i64 (Int.fdiv (IntKind.wrap .u64 (IntKind.wrap .i64 (p_1 + p_3))) 2)) + p_2)) - 1)), .int .i64 (IntKind.wrap .i64 (Int.fdiv (IntKind.wrap .u64 (IntKind.wrap .i64 (x523 + x524))) 2)), .int .i64 (IntKind.wrap .i64 ((IntKind.wrap .i64 ((IntKind.wrap .i64 ((IntKind.wrap .i64 (Int.fdiv (IntKind.wrap .u64 (IntKind.wrap .i64 (p_1 + p_3))) 2)) + p_2)) - 1)) - (IntKind.wrap .i64 (Int.fdiv (IntKind.wrap .u64 (IntKind.wrap .i64 (x523 + x524))) 2)))), .pointer (some ⟨eb540, eo540 + ((IntKind.wrap .i64 ((IntKind.wrap .i64 ((IntKind.wrap .i64 ((IntKind.wrap .i64 (Int.fdiv (IntKind.wrap .u64 (IntKind.wrap .i64 (p_1 + p_3))) 2)) + p_2)) - 1)) - (IntKind.wrap .i64 (Int.fdiv (IntKind.wrap .u64 (IntKind.wrap .i64 (x523 + x524))) 2)))).toNat) * 1, none⟩), .agg #[cl (p_0.getD ((IntKind.wrap .i64 ((IntKind.wrap .i64 ((IntKind.wrap .i64 ((IntKind.wrap .i64 (Int.fdiv (IntKind.wrap .u64 (IntKind.wrap .i64 (p_1 + p_3))) 2)) + p_2)) - 1)) - (IntKind.wrap .i64 (Int.fdiv (IntKind.wrap .u64 (IntKind.wrap .i64 (x523 + x524))) 2)))).toNat) d_Opq)], .slice A1 p_0.length c1, .int .i64 (IntKind.wrap .i64 (Int.fdiv (IntKind.wrap .u64 (IntKind.wrap .i64 (x523 + x524))) 2)), .pointer (some ⟨eb542, eo542 + ((IntKind.wrap .i64 (Int.fdiv (IntKind.wrap .u64 (IntKind.wrap .i64 (x523 + x524))) 2)).toNat) * 1, none⟩), .agg #[cl (p_0.getD ((IntKind.wrap .i64 (Int.fdiv (IntKind.wrap .u64 (IntKind.wrap .i64 (x523 + x524))) 2)).toNat) d_Opq)]] Tryz.follows rfl ⟨oI rfl fun h => yl_move rfl (h.g 4 rfl) kI, oI rfl fun h => yl_move rfl (h.g 0 rfl) kI, oI rfl fun h => yl_move rfl (h.g 22 rfl) kI, oI rfl fun h => yl_move rfl (h.g 23 rfl) kI, oI rfl fun h => yl_sub rfl (h.g 160 rfl) (h.g 161 rfl) kI, ?_, oI rfl fun h => yl_loadN ty61 rfl (h.g 163 rfl) (Cells.ex eC540 h.ex) rfl kI, oI rfl fun h => yl_move rfl (h.g 0 rfl) kI, oI rfl fun h => yl_move rfl (h.g 23 rfl) kI, ?_, oI rfl fun h => yl_loadN ty61 rfl (h.g 167 rfl) (Cells.ex eC542 h.ex) rfl kI, trivial⟩ ?_
      ·intro L569 w570 hi571
       have hE572 := hi571.ex
       have hE572z := Ex.size hE572
       exact os rfl ((yl_indexAddr un29 ty61 rfl (hi571.g 159 rfl) (hi571.g 162 rfl) eA540 (by first | omega | assumption | (simp only [wI] at *; omega)) (by first | omega | assumption | (simp only [wI] at *; omega)) kI))
      ·intro L591 w592 hi593
       have hE594 := hi593.ex
       have hE594z := Ex.size hE594
       exact os rfl ((yl_indexAddr un29 ty61 rfl (hi593.g 165 rfl) (hi593.g 166 rfl) eA542 (by first | omega | assumption | (simp only [wI] at *; omega)) (by first | omega | assumption | (simp only [wI] at *; omega)) kI))
      ·intro fl606 fh607 L603 w604 hp605
       have hE608 := hp605.ex
       have hE608z := Ex.size hE608
       have q626 := Mut.ex hf536 hE608
       refine sd rfl (yl_callv hen4 rfl (hp605.nt 0 158 rfl rfl rfl) (oc (hp605.nt 6 164 rfl rfl rfl) (oc (hp605.nt 10 168 rfl rfl rfl) oz)) (Cal.mono (hfn5 w604 (p_0.getD ((IntKind.wrap .i64 ((IntKind.wrap .i64 ((IntKind.wrap .i64 ((IntKind.wrap .i64 (Int.fdiv (IntKind.wrap .u64 (IntKind.wrap .i64 (p_1 + p_3))) 2)) + p_2)) - 1)) - (IntKind.wrap .i64 (Int.fdiv (IntKind.wrap .u64 (IntKind.wrap .i64 (x523 + x524))) 2)))).toNat) d_Opq) (p_0.getD ((IntKind.wrap .i64 (Int.fdiv (IntKind.wrap .u64 (IntKind.wrap .i64 (x523 + x524))) 2)).toNat) d_Opq) (by omega) q626) ?_))
       rintro v624 w623 ⟨rfl, hE625⟩
       have hE625z := Ex.size hE625
       refine sd rfl (yl_lss rfl rfl rfl (sd rfl (yl_not rfl rfl (dn (CW.sub (Sub.cons (d := 0) (hp605.old 0 _ rfl rfl) (Sub.cons (d := 1) (hp605.old 1 _ rfl rfl) (Sub.cons (d := 2) (hp605.old 2 _ rfl rfl) (Sub.cons (d := 3) (hp605.old 3 _ rfl rfl) (Sub.cons (d := 4) (hp605.old 4 _ rfl rfl) (Sub.cons (d := 18) (hp605.old 18 _ rfl rfl) (Sub.cons (d := 19) (hp605.old 19 _ rfl rfl) (Sub.cons (d := 20) (hp605.old 20 _ rfl rfl) (Sub.cons (d := 21) (hp605.old 21 _ rfl rfl) (Sub.cons (d := 22) (hp605.old 22 _ rfl rfl) (Sub.cons (d := 23) (hp605.old 23 _ rfl rfl) (Sub.cons (d := 171) rfl (Sub.nil _))))))))))))) (bcD (q := (p_4 (p_0.getD ((IntKind.wrap .i64 ((IntKind.wrap .i64 ((IntKind.wrap .i64 ((IntKind.wrap .i64 (Int.fdiv (IntKind.wrap .u64 (IntKind.wrap .i64 (p_1 + p_3))) 2)) + p_2)) - 1)) - (IntKind.wrap .i64 (Int.fdiv (IntKind.wrap .u64 (IntKind.wrap .i64 (x523 + x524))) 2)))).toNat) d_Opq) (p_0.getD ((IntKind.wrap .i64 (Int.fdiv (IntKind.wrap .u64 (IntKind.wrap .i64 (x523 + x524))) 2)).toNat) d_Opq)) < 0) (fun hb627 hb627p => ?_) (fun hb627 hb627p => ?_)))))))
       ·refine CW.cond_f rfl (not_t hb627) (CW.region (sd rfl (yl_move rfl rfl (sd rfl (yl_assign rfl rfl (SeqR.done (bn (tn ?_))))))))
        have hB628 : B_g_slices_symMergeCmpFunc_Row_4 kf p_0 p_1 p_2 p_3 p_4 (x523, x524) = .cont (x523, IntKind.wrap .i64 (Int.fdiv (IntKind.wrap .u64 (IntKind.wrap .i64 (x523 + x524))) 2)) := by simp only [B_g_slices_symMergeCmpFunc_Row_4, hb7, hb264, hb521, hb538, hb627, cL]
        have hmu632 : ((IntKind.wrap .i64 (Int.fdiv (IntKind.wrap .u64 (IntKind.wrap .i64 (x523 + x524))) 2) - x523).toNat) < ((x524 - x523).toNat) := by first | omega | assumption | (simp only [wI] at *; omega)
        exact ⟨m528 - 1, by omega, x523, IntKind.wrap .i64 (Int.fdiv (IntKind.wrap .u64 (IntKind.wrap .i64 (x523 + x524))) 2), (by omega), (by omega), (sR rfl), (OwnL.ex (good_Opq hcl) (OwnL.ex (good_Opq hcl) hf535 hE608) hE625), (Mut.ex q626 hE625), (by first | omega | assumption | (simp only [wI] at *; omega)), (loopW.cont hk531 hB628).symm.trans hI532⟩
       ·refine CW.cond_t rfl (not_f hb627) (CW.region (sd rfl (yl_move rfl rfl (sd rfl (yl_add rfl rfl rfl (sd rfl (yl_assign rfl rfl (SeqR.done (bn (tn ?_))))))))))
        have hB633 : B_g_slices_symMergeCmpFunc_Row_4 kf p_0 p_1 p_2 p_3 p_4 (x523, x524) = .cont (IntKind.wrap .i64 ((IntKind.wrap .i64 (Int.fdiv (IntKind.wrap .u64 (IntKind.wrap .i64 (x523 + x524))) 2)) + 1), x524) := by simp only [B_g_slices_symMergeCmpFunc_Row_4, hb7, hb264, hb521, hb538, hb627, cL]
        have hmu637 : ((x524 - IntKind.wrap .i64 ((IntKind.wrap .i64 (Int.fdiv (IntKind.wrap .u64 (IntKind.wrap .i64 (x523 + x524))) 2)) + 1)).toNat) < ((x524 - x523).toNat) := by first | omega | assumption | (simp only [wI] at *; omega)
        exact ⟨m528 - 1, by omega, IntKind.wrap .i64 ((IntKind.wrap .i64 (Int.fdiv (IntKind.wrap .u64 (IntKind.wrap .i64 (x523 + x524))) 2)) + 1), x524, (by omega), (by omega), (sR rfl), (OwnL.ex (good_Opq hcl) (OwnL.ex (good_Opq hcl) hf535 hE608) hE625), (Mut.ex q626 hE625), (by first | omega | assumption | (simp only [wI] at *; omega)), (loopW.cont hk531 hB633).symm.trans hI532⟩
     ·refine CW.cond_f rfl hb538 (CW.exit (tx (tx ?_)))
      have hB639 : B_g_slices_symMergeCmpFunc_Row_4 kf p_0 p_1 p_2 p_3 p_4 (x523, x524) = .brk (x523, x524) := by simp only [B_g_slices_symMergeCmpFunc_Row_4, hb7, hb264, hb521, hb538, cL]
      have hL638 : loopW (B_g_slices_symMergeCmpFunc_Row_4 kf p_0 p_1 p_2 p_3 p_4) (((IntKind.wrap .i64 (Int.fdiv (IntKind.wrap .u64 (IntKind.wrap .i64 (p_1 + p_3))) 2) - IntKind.wrap .i64 ((IntKind.wrap .i64 ((IntKind.wrap .i64 (Int.fdiv (IntKind.wrap .u64 (IntKind.wrap .i64 (p_1 + p_3))) 2)) + p_2)) - p_3)).toNat) + 1) (IntKind.wrap .i64 ((IntKind.wrap .i64 ((IntKind.wrap .i64 (Int.fdiv (IntKind.wrap .u64 (IntKind.wrap .i64 (p_1 + p_3))) 2)) + p_2)) - p_3), IntKind.wrap .i64 (Int.fdiv (IntKind.wrap .u64 (IntKind.wrap .i64 (p_1 + p_3))) 2)) = .done (x523, x524) := hI532.symm.trans (loopW.brk hk531 hB639)
      refine bx (tn (CW.seq (CW.region (sd rfl (yl_move rfl rfl (sd rfl (yl_move rfl rfl (sd rfl (yl_sub rfl rfl rfl (sd rfl (yl_assign rfl rfl (SeqR.done ?_))))))))))))
      refine tn (CW.seq (CW.seq (CW.region (sd rfl (yl_move rfl rfl (sd rfl (yl_move rfl rfl (sd rfl (yl_lss rfl rfl rfl (sd rfl (yl_move rfl rfl (bcD (q := x523 < p_2) (fun hb640 hb640p => ?_) (fun hb640 hb640p => ?_)))))))))))))
      ·refine sy rfl rfl hb640 (yl_move rfl rfl (sy rfl rfl hb640 (yl_move rfl rfl (sy rfl rfl hb640 (yl_lss rfl rfl rfl (sd rfl (yl_pick_t rfl rfl hb640 rfl (dn (bcD (q := p_2 < (IntKind.wrap .i64 ((IntKind.wrap .i64 ((IntKind.wrap .i64 (Int.fdiv (IntKind.wrap .u64 (IntKind.wrap .i64 (p_1 + p_3))) 2)) + p_2)) - x523))) (fun hb641 hb641p => ?_) (fun hb641 hb641p => ?_))))))))))
       ·refine CW.cond_t rfl hb641 (CW.region (sd rfl (yl_move rfl rfl (sd rfl (yl_move rfl rfl (sd rfl (yl_move rfl rfl (sd rfl (yl_move rfl rfl (sd rfl (yl_move rfl rfl ?_)))))))))))
        have hle642 := OwnL.len hf535
        refine sd rfl (yl_call en97 rfl (oc rfl (oc rfl (oc rfl (oc rfl (oc rfl oz))))) (Cal.mono (c_g_slices_rotateCmpFunc_Row p_0 x523 p_2 (IntKind.wrap .i64 ((IntKind.wrap .i64 ((IntKind.wrap .i64 (Int.fdiv (IntKind.wrap .u64 (IntKind.wrap .i64 (p_1 + p_3))) 2)) + p_2)) - x523)) p_4 hcl hf535 hen4 (fun w1 y0 y1 => fun hN hE => hfn5 w1 y0 y1 (by omega) (Mut.mut hf536 hE (fun k hk => by simp only [InR, or_false] at hk ⊢; omega))) (by omega) (by first | omega | assumption | (simp only [wI] at *; omega))) ?_))
        rintro v644 w643 ⟨rfl, h646, hm645⟩
        have hm645z := Mut.size hm645
        refine dn (CW.seq (CW.seq (CW.region (sd rfl (yl_move rfl rfl (sd rfl (yl_move rfl rfl (sd rfl (yl_lss rfl rfl rfl (sd rfl (yl_move rfl rfl ?_)))))))))))
        refine bcD (q := p_1 < x523) (fun hb647 hb647p => ?_) (fun hb647 hb647p => ?_)
        ·refine sy rfl rfl hb647 (yl_move rfl rfl (sy rfl rfl hb647 (yl_move rfl rfl (sy rfl rfl hb647 (yl_lss rfl rfl rfl (sd rfl (yl_pick_t rfl rfl hb647 rfl (dn (bcD (q := x523 < (IntKind.wrap .i64 (Int.fdiv (IntKind.wrap .u64 (IntKind.wrap .i64 (p_1 + p_3))) 2))) (fun hb648 hb648p => ?_) (fun hb648 hb648p => ?_))))))))))
         ·refine CW.cond_t rfl hb648 (CW.region (sd rfl (yl_move rfl rfl (sd rfl (yl_move rfl rfl (sd rfl (yl_move rfl rfl (sd rfl (yl_move rfl rfl (sd rfl (yl_move rfl rfl ?_)))))))))))
          have hle649 := OwnL.len h646
          have hle650 := OwnL.len h646
          have q651 := Mut.mut hf536 hm645 (fun k hk => by simp only [InR, or_false] at hk ⊢; omega)
          refine sd rfl (yl_call en83 rfl (oc rfl (oc rfl (oc rfl (oc rfl (oc rfl oz))))) (Cal.mono (Cal.args (by rw [← hle649] <;> rfl) (ih (g_slices_rotateCmpFunc_Row p_0 x523 p_2 (IntKind.wrap .i64 ((IntKind.wrap .i64 ((IntKind.wrap .i64 (Int.fdiv (IntKind.wrap .u64 (IntKind.wrap .i64 (p_1 + p_3))) 2)) + p_2)) - x523)) p_4) p_1 x523 (IntKind.wrap .i64 (Int.fdiv (IntKind.wrap .u64 (IntKind.wrap .i64 (p_1 + p_3))) 2)) p_4 hcl (OwnL.fix h646) hen4 (fun w1 y0 y1 => fun hN hE => hfn5 w1 y0 y1 (by omega) (Mut.mut q651 hE (fun k hk => by simp only [InR, or_false] at hk ⊢; omega))) (by omega) (by first | omega | assumption | (simp only [wI] at *; omega)) (by first | omega | assumption | (simp only [wI] at *; omega)))) ?_))
          rintro v653 w652 ⟨rfl, h655, hm654⟩
          have hm654z := Mut.size hm654
          have h655 := OwnL.ren hle649 h655
          refine dn (CW.seq (CW.region (sd rfl (yl_move rfl rfl (sd rfl (yl_move rfl rfl (sd rfl (yl_lss rfl rfl rfl (sd rfl (yl_move rfl rfl (bcD (q := (IntKind.wrap .i64 (Int.fdiv (IntKind.wrap .u64 (IntKind.wrap .i64 (p_1 + p_3))) 2)) < (IntKind.wrap .i64 ((IntKind.wrap .i64 ((IntKind.wrap .i64 (Int.fdiv (IntKind.wrap .u64 (IntKind.wrap .i64 (p_1 + p_3))) 2)) + p_2)) - x523))) (fun hb656 hb656p => ?_) (fun hb656 hb656p => ?_))))))))))))
          ·refine sy rfl rfl hb656 (yl_move rfl rfl (sy rfl rfl hb656 (yl_move rfl rfl (sy rfl rfl hb656 (yl_lss rfl rfl rfl (sd rfl (yl_pick_t rfl rfl hb656 rfl (dn (bcD (q := (IntKind.wrap .i64 ((IntKind.wrap .i64 ((IntKind.wrap .i64 (Int.fdiv (IntKind.wrap .u64 (IntKind.wrap .i64 (p_1 + p_3))) 2)) + p_2)) - x523)) < p_3) (fun hb657 hb657p => ?_) (fun hb657 hb657p => ?_))))))))))
           ·refine CW.cond_t rfl hb657 (CW.region (sd rfl (yl_move rfl rfl (sd rfl (yl_move rfl rfl (sd rfl (yl_move rfl rfl (sd rfl (yl_move rfl rfl (sd rfl (yl_move rfl rfl ?_)))))))))))
            have hle658 := OwnL.len h655
            have hle659 := OwnL.len h655
            have q660 := Mut.mut q651 hm654 (fun k hk => by simp only [InR, or_false] at hk ⊢; omega)
            refine sd rfl (yl_call en83 rfl (oc rfl (oc rfl (oc rfl (oc rfl (oc rfl oz))))) (Cal.mono (Cal.args (by rw [← hle658] <;> rfl) (ih (g_slices_symMergeCmpFunc_Row kf (g_slices_rotateCmpFunc_Row p_0 x523 p_2 (IntKind.wrap .i64 ((IntKind.wrap .i64 ((IntKind.wrap .i64 (Int.fdiv (IntKind.wrap .u64 (IntKind.wrap .i64 (p_1 + p_3))) 2)) + p_2)) - x523)) p_4) p_1 x523 (IntKind.wrap .i64 (Int.fdiv (IntKind.wrap .u64 (IntKind.wrap .i64 (p_1 + p_3))) 2)) p_4) (IntKind.wrap .i64 (Int.fdiv (IntKind.wrap .u64 (IntKind.wrap .i64 (p_1 + p_3))) 2)) (IntKind.wrap .i64 ((IntKind.wrap .i64 ((IntKind.wrap .i64 (Int.fdiv (IntKind.wrap .u64 (IntKind.wrap .i64 (p_1 + p_3))) 2)) + p_2)) - x523)) p_3 p_4 hcl (OwnL.fix h655) hen4 (fun w1 y0 y1 => fun hN hE => hfn5 w1 y0 y1 (by omega) (Mut.mut q660 hE (fun k hk => by simp only [InR, or_false] at hk ⊢; omega))) (by omega) (by first | omega | assumption | (simp only [wI] at *; omega)) (by first | omega | assumption | (simp only [wI] at *; omega)))) ?_))
            rintro v662 w661 ⟨rfl, h664, hm663⟩
            have hm663z := Mut.size hm663
            have h664 := OwnL.ren hle658 h664
            refine SeqR.done (rn rfl .nil ?_)
            rw [show (g_slices_symMergeCmpFunc_Row (kf + 1) p_0 p_1 p_2 p_3 p_4) = ((g_slices_symMergeCmpFunc_Row kf (g_slices_symMergeCmpFunc_Row kf (g_slices_rotateCmpFunc_Row p_0 x523 p_2 (IntKind.wrap .i64 ((IntKind.wrap .i64 ((IntKind.wrap .i64 (Int.fdiv (IntKind.wrap .u64 (IntKind.wrap .i64 (p_1 + p_3))) 2)) + p_2)) - x523)) p_4) p_1 x523 (IntKind.wrap .i64 (Int.fdiv (IntKind.wrap .u64 (IntKind.wrap .i64 (p_1 + p_3))) 2)) p_4) (IntKind.wrap .i64 (Int.fdiv (IntKind.wrap .u64 (IntKind.wrap .i64 (p_1 + p_3))) 2)) (IntKind.wrap .i64 ((IntKind.wrap .i64 ((IntKind.wrap .i64 (Int.fdiv (IntKind.wrap .u64 (IntKind.wrap .i64 (p_1 + p_3))) 2)) + p_2)) - x523)) p_3 p_4)) by simp only [g_slices_symMergeCmpFunc_Row, hb7, hb264, hb521, hb538, hb640, hb641, hb647, hb648, hb656, hb657, hL638, cL]]
            exact ⟨rfl, h664, (Mut.mut q660 hm663 (fun k hk => by simp only [InR, or_false] at hk ⊢; omega))⟩
           ·refine CW.cond_f rfl hb657 (CW.skip (rn rfl .nil ?_))
            rw [show (g_slices_symMergeCmpFunc_Row (kf + 1) p_0 p_1 p_2 p_3 p_4) = ((g_slices_symMergeCmpFunc_Row kf (g_slices_rotateCmpFunc_Row p_0 x523 p_2 (IntKind.wrap .i64 ((IntKind.wrap .i64 ((IntKind.wrap .i64 (Int.fdiv (IntKind.wrap .u64 (IntKind.wrap .i64 (p_1 + p_3))) 2)) + p_2)) - x523)) p_4) p_1 x523 (IntKind.wrap .i64 (Int.fdiv (IntKind.wrap .u64 (IntKind.wrap .i64 (p_1 + p_3))) 2)) p_4)) by simp only [g_slices_symMergeCmpFunc_Row, hb7, hb264, hb521, hb538, hb640, hb641, hb647, hb648, hb656, hb657, hL638, cL]]
            exact ⟨rfl, h655, (Mut.mut q651 hm654 (fun k hk => by simp only [InR, or_false] at hk ⊢; omega))⟩
          ·refine sz rfl rfl hb656 (sz rfl rfl hb656 (sz rfl rfl hb656 (sd rfl (yl_pick_f rfl rfl hb656 rfl (dn (CW.cond_f rfl rfl (CW.skip (rn rfl .nil ?_))))))))
           rw [show (g_slices_symMergeCmpFunc_Row (kf + 1) p_0 p_1 p_2 p_3 p_4) = ((g_slices_symMergeCmpFunc_Row kf (g_slices_rotateCmpFunc_Row p_0 x523 p_2 (IntKind.wrap .i64 ((IntKind.wrap .i64 ((IntKind.wrap .i64 (Int.fdiv (IntKind.wrap .u64 (IntKind.wrap .i64 (p_1 + p_3))) 2)) + p_2)) - x523)) p_4) p_1 x523 (IntKind.wrap .i64 (Int.fdiv (IntKind.wrap .u64 (IntKind.wrap .i64 (p_1 + p_3))) 2)) p_4)) by simp only [g_slices_symMergeCmpFunc_Row, hb7, hb264, hb521, hb538, hb640, hb641, hb647, hb648, hb656, hL638, cL]]
           exact ⟨rfl, h655, (Mut.mut q651 hm654 (fun k hk => by simp only [InR, or_false] at hk ⊢; omega))⟩
         ·refine CW.cond_f rfl hb648 (CW.skip (tn (CW.seq (CW.region (sd rfl (yl_move rfl rfl (sd rfl (yl_move rfl rfl (sd rfl (yl_lss rfl rfl rfl (sd rfl (yl_move rfl rfl ?_))))))))))))
          refine bcD (q := (IntKind.wrap .i64 (Int.fdiv (IntKind.wrap .u64 (IntKind.wrap .i64 (p_1 + p_3))) 2)) < (IntKind.wrap .i64 ((IntKind.wrap .i64 ((IntKind.wrap .i64 (Int.fdiv (IntKind.wrap .u64 (IntKind.wrap .i64 (p_1 + p_3))) 2)) + p_2)) - x523))) (fun hb671 hb671p => ?_) (fun hb671 hb671p => ?_)
          ·refine sy rfl rfl hb671 (yl_move rfl rfl (sy rfl rfl hb671 (yl_move rfl rfl (sy rfl rfl hb671 (yl_lss rfl rfl rfl (sd rfl (yl_pick_t rfl rfl hb671 rfl (dn (bcD (q := (IntKind.wrap .i64 ((IntKind.wrap .i64 ((IntKind.wrap .i64 (Int.fdiv (IntKind.wrap .u64 (IntKind.wrap .i64 (p_1 + p_3))) 2)) + p_2)) - x523)) < p_3) (fun hb672 hb672p => ?_) (fun hb672 hb672p => ?_))))))))))
           ·refine CW.cond_t rfl hb672 (CW.region (sd rfl (yl_move rfl rfl (sd rfl (yl_move rfl rfl (sd rfl (yl_move rfl rfl (sd rfl (yl_move rfl rfl (sd rfl (yl_move rfl rfl ?_)))))))))))
            have hle673 := OwnL.len h646
            have hle674 := OwnL.len h646
            have q675 := Mut.mut hf536 hm645 (fun k hk => by simp only [InR, or_false] at hk ⊢; omega)
            refine sd rfl (yl_call en83 rfl (oc rfl (oc rfl (oc rfl (oc rfl (oc rfl oz))))) (Cal.mono (Cal.args (by rw [← hle673] <;> rfl) (ih (g_slices_rotateCmpFunc_Row p_0 x523 p_2 (IntKind.wrap .i64 ((IntKind.wrap .i64 ((IntKind.wrap .i64 (Int.fdiv (IntKind.wrap .u64 (IntKind.wrap .i64 (p_1 + p_3))) 2)) + p_2)) - x523)) p_4) (IntKind.wrap .i64 (Int.fdiv (IntKind.wrap .u64 (IntKind.wrap .i64 (p_1 + p_3))) 2)) (IntKind.wrap .i64 ((IntKind.wrap .i64 ((IntKind.wrap .i64 (Int.fdiv (IntKind.wrap .u64 (IntKind.wrap .i64 (p_1 + p_3))) 2)) + p_2)) - x523)) p_3 p_4 hcl (OwnL.fix h646) hen4 (fun w1 y0 y1 => fun hN hE => hfn5 w1 y0 y1 (by omega) (Mut.mut q675 hE (fun k hk => by simp only [InR, or_false] at hk ⊢; omega))) (by omega) (by first | omega | assumption | (simp only [wI] at *; omega)) (by first | omega | assumption | (simp only [wI] at *; omega)))) ?_))
            rintro v677 w676 ⟨rfl, h679, hm678⟩
            have hm678z := Mut.size hm678
            have h679 := OwnL.ren hle673 h679
            refine SeqR.done (rn rfl .nil ?_)
            rw [show (g_slices_symMergeCmpFunc_Row (kf + 1) p_0 p_1 p_2 p_3 p_4) = ((g_slices_symMergeCmpFunc_Row kf (g_slices_rotateCmpFunc_Row p_0 x523 p_2 (IntKind.wrap .i64 ((IntKind.wrap .i64 ((IntKind.wrap .i64 (Int.fdiv (IntKind.wrap .u64 (IntKind.wrap .i64 (p_1 + p_3))) 2)) + p_2)) - x523)) p_4) (IntKind.wrap .i64 (Int.fdiv (IntKind.wrap .u64 (IntKind.wrap .i64 (p_1 + p_3))) 2)) (IntKind.wrap .i64 ((IntKind.wrap .i64 ((IntKind.wrap .i64 (Int.fdiv (IntKind.wrap .u64 (IntKind.wrap .i64 (p_1 + p_3))) 2)) + p_2)) - x523)) p_3 p_4)) by simp only [g_slices_symMergeCmpFunc_Row, hb7, hb264, hb521, hb538, hb640, hb641, hb647, hb648, hb671, hb672, hL638, cL]]
            exact ⟨rfl, h679, (Mut.mut q675 hm678 (fun k hk => by simp only [InR, or_false] at hk ⊢; omega))⟩
           ·refine CW.cond_f rfl hb672 (CW.skip (rn rfl .nil ?_))
            rw [show (g_slices_symMergeCmpFunc_Row (kf + 1) p_0 p_1 p_2 p_3 p_4) = ((g_slices_rotateCmpFunc_Row p_0 x523 p_2 (IntKind.wrap .i64 ((IntKind.wrap .i64 ((IntKind.wrap .i64 (Int.fdiv (IntKind.wrap .u64 (IntKind.wrap .i64 (p_1 + p_3))) 2)) + p_2)) - x523)) p_4)) by simp only [g_slices_symMergeCmpFunc_Row, hb7, hb264, hb521, hb538, hb640, hb641, hb647, hb648, hb671, hb672, hL638, cL]]
            exact ⟨rfl, h646, (Mut.mut hf536 hm645 (fun k hk => by simp only [InR, or_false] at hk ⊢; omega))⟩
          ·refine sz rfl rfl hb671 (sz rfl rfl hb671 (sz rfl rfl hb671 (sd rfl (yl_pick_f rfl rfl hb671 rfl (dn (CW.cond_f rfl rfl (CW.skip (rn rfl .nil ?_))))))))
           rw [show (g_slices_symMergeCmpFunc_Row (kf + 1) p_0 p_1 p_2 p_3 p_4) = ((g_slices_rotateCmpFunc_Row p_0 x523 p_2 (IntKind.wrap .i64 ((IntKind.wrap .i64 ((IntKind.wrap .i64 (Int.fdiv (IntKind.wrap .u64 (IntKind.wrap .i64 (p_1 + p_3))) 2)) + p_2)) - x523)) p_4)) by simp only [g_slices_symMergeCmpFunc_Row, hb7, hb264, hb521, hb538, hb640, hb641, hb647, hb648, hb671, hL638, cL]]
           exact ⟨rfl, h646, (Mut.mut hf536 hm645 (fun k hk => by simp only [InR, or_false] at hk ⊢; omega))⟩
        ·refine sz rfl rfl hb647 (sz rfl rfl hb647 (sz rfl rfl hb647 (sd rfl (yl_pick_f rfl rfl hb647 rfl (dn (CW.cond_f rfl rfl (CW.skip (tn ?_))))))))
         refine CW.seq (CW.region (sd rfl (yl_move rfl rfl (sd rfl (yl_move rfl rfl (sd rfl (yl_lss rfl rfl rfl (sd rfl (yl_move rfl rfl (bcD (q := (IntKind.wrap .i64 (Int.fdiv (IntKind.wrap .u64 (IntKind.wrap .i64 (p_1 + p_3))) 2)) < (IntKind.wrap .i64 ((IntKind.wrap .i64 ((IntKind.wrap .i64 (Int.fdiv (IntKind.wrap .u64 (IntKind.wrap .i64 (p_1 + p_3))) 2)) + p_2)) - x523))) (fun hb686 hb686p => ?_) (fun hb686 hb686p => ?_)))))))))))
         ·refine sy rfl rfl hb686 (yl_move rfl rfl (sy rfl rfl hb686 (yl_move rfl rfl (sy rfl rfl hb686 (yl_lss rfl rfl rfl (sd rfl (yl_pick_t rfl rfl hb686 rfl (dn (bcD (q := (IntKind.wrap .i64 ((IntKind.wrap .i64 ((IntKind.wrap .i64 (Int.fdiv (IntKind.wrap .u64 (IntKind.wrap .i64 (p_1 + p_3))) 2)) + p_2)) - x523)) < p_3) (fun hb687 hb687p => ?_) (fun hb687 hb687p => ?_))))))))))
          ·refine CW.cond_t rfl hb687 (CW.region (sd rfl (yl_move rfl rfl (sd rfl (yl_move rfl rfl (sd rfl (yl_move rfl rfl (sd rfl (yl_move rfl rfl (sd rfl (yl_move rfl rfl ?_)))))))))))
           have hle688 := OwnL.len h646
           have hle689 := OwnL.len h646
           have q690 := Mut.mut hf536 hm645 (fun k hk => by simp only [InR, or_false] at hk ⊢; omega)
           refine sd rfl (yl_call en83 rfl (oc rfl (oc rfl (oc rfl (oc rfl (oc rfl oz))))) (Cal.mono (Cal.args (by rw [← hle688] <;> rfl) (ih (g_slices_rotateCmpFunc_Row p_0 x523 p_2 (IntKind.wrap .i64 ((IntKind.wrap .i64 ((IntKind.wrap .i64 (Int.fdiv (IntKind.wrap .u64 (IntKind.wrap .i64 (p_1 + p_3))) 2)) + p_2)) - x523)) p_4) (IntKind.wrap .i64 (Int.fdiv (IntKind.wrap .u64 (IntKind.wrap .i64 (p_1 + p_3))) 2)) (IntKind.wrap .i64 ((IntKind.wrap .i64 ((IntKind.wrap .i64 (Int.fdiv (IntKind.wrap .u64 (IntKind.wrap .i64 (p_1 + p_3))) 2)) + p_2)) - x523)) p_3 p_4 hcl (OwnL.fix h646) hen4 (fun w1 y0 y1 => fun hN hE => hfn5 w1 y0 y1 (by omega) (Mut.mut q690 hE (fun k hk => by simp only [InR, or_false] at hk ⊢; omega))) (by omega) (by first | omega | assumption | (simp only [wI] at *; omega)) (by first | omega | assumption | (simp only [wI] at *; omega)))) ?_))
           rintro v692 w691 ⟨rfl, h694, hm693⟩
           have hm693z := Mut.size hm693
           have h694 := OwnL.ren hle688 h694
           refine SeqR.done (rn rfl .nil ?_)
           rw [show (g_slices_symMergeCmpFunc_Row (kf + 1) p_0 p_1 p_2 p_3 p_4) = ((g_slices_symMergeCmpFunc_Row kf (g_slices_rotateCmpFunc_Row p_0 x523 p_2 (IntKind.wrap .i64 ((IntKind.wrap .i64 ((IntKind.wrap .i64 (Int.fdiv (IntKind.wrap .u64 (IntKind.wrap .i64 (p_1 + p_3))) 2)) + p_2)) - x523)) p_4) (IntKind.wrap .i64 (Int.fdiv (IntKind.wrap .u64 (IntKind.wrap .i64 (p_1 + p_3))) 2)) (IntKind.wrap .i64 ((IntKind.wrap .i64 ((IntKind.wrap .i64 (Int.fdiv (IntKind.wrap .u64 (IntKind.wrap .i64 (p_1 + p_3))) 2)) + p_2)) - x523)) p_3 p_4)) by simp only [g_slices_symMergeCmpFunc_Row, hb7, hb264, hb521, hb538, hb640, hb641, hb647, hb686, hb687, hL638, cL]]
           exact ⟨rfl, h694, (Mut.mut q690 hm693 (fun k hk => by simp only [InR, or_false] at hk ⊢; omega))⟩
          ·refine CW.cond_f rfl hb687 (CW.skip (rn rfl .nil ?_))
           rw [show (g_slices_symMergeCmpFunc_Row (kf + 1) p_0 p_1 p_2 p_3 p_4) = ((g_slices_rotateCmpFunc_Row p_0 x523 p_2 (IntKind.wrap .i64 ((IntKind.wrap .i64 ((IntKind.wrap .i64 (Int.fdiv (IntKind.wrap .u64 (IntKind.wrap .i64 (p_1 + p_3))) 2)) + p_2)) - x523)) p_4)) by simp only [g_slices_symMergeCmpFunc_Row, hb7, hb264, hb521, hb538, hb640, hb641, hb647, hb686, hb687, hL638, cL]]
           exact ⟨rfl, h646, (Mut.mut hf536 hm645 (fun k hk => by simp only [InR, or_false] at hk ⊢; omega))⟩
         ·refine sz rfl rfl hb686 (sz rfl rfl hb686 (sz rfl rfl hb686 (sd rfl (yl_pick_f rfl rfl hb686 rfl (dn (CW.cond_f rfl rfl (CW.skip (rn rfl .nil ?_))))))))
          rw [show (g_slices_symMergeCmpFunc_Row (kf + 1) p_0 p_1 p_2 p_3 p_4) = ((g_slices_rotateCmpFunc_Row p_0 x523 p_2 (IntKind.wrap .i64 ((IntKind.wrap .i64 ((IntKind.wrap .i64 (Int.fdiv (IntKind.wrap .u64 (IntKind.wrap .i64 (p_1 + p_3))) 2)) + p_2)) - x523)) p_4)) by simp only [g_slices_symMergeCmpFunc_Row, hb7, hb264, hb521, hb538, hb640, hb641, hb647, hb686, hL638, cL]]
          exact ⟨rfl, h646, (Mut.mut hf536 hm645 (fun k hk => by simp only [InR, or_false] at hk ⊢; omega))⟩
       ·refine CW.cond_f rfl hb641 (CW.skip (tn (CW.seq (CW.seq (CW.region (sd rfl (yl_move rfl rfl (sd rfl (yl_move rfl rfl (sd rfl (yl_lss rfl rfl rfl ?_)))))))))))
        refine sd rfl (yl_move rfl rfl (bcD (q := p_1 < x523) (fun hb701 hb701p => ?_) (fun hb701 hb701p => ?_)))
        ·refine sy rfl rfl hb701 (yl_move rfl rfl (sy rfl rfl hb701 (yl_move rfl rfl (sy rfl rfl hb701 (yl_lss rfl rfl rfl (sd rfl (yl_pick_t rfl rfl hb701 rfl (dn (bcD (q := x523 < (IntKind.wrap .i64 (Int.fdiv (IntKind.wrap .u64 (IntKind.wrap .i64 (p_1 + p_3))) 2))) (fun hb702 hb702p => ?_) (fun hb702 hb702p => ?_))))))))))
         ·refine CW.cond_t rfl hb702 (CW.region (sd rfl (yl_move rfl rfl (sd rfl (yl_move rfl rfl (sd rfl (yl_move rfl rfl (sd rfl (yl_move rfl rfl (sd rfl (yl_move rfl rfl ?_)))))))))))
          have hle703 := OwnL.len hf535
          refine sd rfl (yl_call en83 rfl (oc rfl (oc rfl (oc rfl (oc rfl (oc rfl oz))))) (Cal.mono (ih p_0 p_1 x523 (IntKind.wrap .i64 (Int.fdiv (IntKind.wrap .u64 (IntKind.wrap .i64 (p_1 + p_3))) 2)) p_4 hcl hf535 hen4 (fun w1 y0 y1 => fun hN hE => hfn5 w1 y0 y1 (by omega) (Mut.mut hf536 hE (fun k hk => by simp only [InR, or_false] at hk ⊢; omega))) (by omega) (by first | omega | assumption | (simp only [wI] at *; omega)) (by first | omega | assumption | (simp only [wI] at *; omega))) ?_))
          rintro v705 w704 ⟨rfl, h707, hm706⟩
          have hm706z := Mut.size hm706
          refine dn (CW.seq (CW.region (sd rfl (yl_move rfl rfl (sd rfl (yl_move rfl rfl (sd rfl (yl_lss rfl rfl rfl (sd rfl (yl_move rfl rfl (bcD (q := (IntKind.wrap .i64 (Int.fdiv (IntKind.wrap .u64 (IntKind.wrap .i64 (p_1 + p_3))) 2)) < (IntKind.wrap .i64 ((IntKind.wrap .i64 ((IntKind.wrap .i64 (Int.fdiv (IntKind.wrap .u64 (IntKind.wrap .i64 (p_1 + p_3))) 2)) + p_2)) - x523))) (fun hb708 hb708p => ?_) (fun hb708 hb708p => ?_))))))))))))
          ·refine sy rfl rfl hb708 (yl_move rfl rfl (sy rfl rfl hb708 (yl_move rfl rfl (sy rfl rfl hb708 (yl_lss rfl rfl rfl (sd rfl (yl_pick_t rfl rfl hb708 rfl (dn (bcD (q := (IntKind.wrap .i64 ((IntKind.wrap .i64 ((IntKind.wrap .i64 (Int.fdiv (IntKind.wrap .u64 (IntKind.wrap .i64 (p_1 + p_3))) 2)) + p_2)) - x523)) < p_3) (fun hb709 hb709p => ?_) (fun hb709 hb709p => ?_))))))))))
           ·refine CW.cond_t rfl hb709 (CW.region (sd rfl (yl_move rfl rfl (sd rfl (yl_move rfl rfl (sd rfl (yl_move rfl rfl (sd rfl (yl_move rfl rfl (sd rfl (yl_move rfl rfl ?_)))))))))))
            have hle710 := OwnL.len h707
            have hle711 := OwnL.len h707
            have q712 := Mut.mut hf536 hm706 (fun k hk => by simp only [InR, or_false] at hk ⊢; omega)
            refine sd rfl (yl_call en83 rfl (oc rfl (oc rfl (oc rfl (oc rfl (oc rfl oz))))) (Cal.mono (Cal.args (by rw [← hle710] <;> rfl) (ih (g_slices_symMergeCmpFunc_Row kf p_0 p_1 x523 (IntKind.wrap .i64 (Int.fdiv (IntKind.wrap .u64 (IntKind.wrap .i64 (p_1 + p_3))) 2)) p_4) (IntKind.wrap .i64 (Int.fdiv (IntKind.wrap .u64 (IntKind.wrap .i64 (p_1 + p_3))) 2)) (IntKind.wrap .i64 ((IntKind.wrap .i64 ((IntKind.wrap .i64 (Int.fdiv (IntKind.wrap .u64 (IntKind.wrap .i64 (p_1 + p_3))) 2)) + p_2)) - x523)) p_3 p_4 hcl (OwnL.fix h707) hen4 (fun w1 y0 y1 => fun hN hE => hfn5 w1 y0 y1 (by omega) (Mut.mut q712 hE (fun k hk => by simp only [InR, or_false] at hk ⊢; omega))) (by omega) (by first | omega | assumption | (simp only [wI] at *; omega)) (by first | omega | assumption | (simp only [wI] at *; omega)))) ?_))
            rintro v714 w713 ⟨rfl, h716, hm715⟩
            have hm715z := Mut.size hm715
            have h716 := OwnL.ren hle710 h716
            refine SeqR.done (rn rfl .nil ?_)
            rw [show (g_slices_symMergeCmpFunc_Row (kf + 1) p_0 p_1 p_2 p_3 p_4) = ((g_slices_symMergeCmpFunc_Row kf (g_slices_symMergeCmpFunc_Row kf p_0 p_1 x523 (IntKind.wrap .i64 (Int.fdiv (IntKind.wrap .u64 (IntKind.wrap .i64 (p_1 + p_3))) 2)) p_4) (IntKind.wrap .i64 (Int.fdiv (IntKind.wrap .u64 (IntKind.wrap .i64 (p_1 + p_3))) 2)) (IntKind.wrap .i64 ((IntKind.wrap .i64 ((IntKind.wrap .i64 (Int.fdiv (IntKind.wrap .u64 (IntKind.wrap .i64 (p_1 + p_3))) 2)) + p_2)) - x523)) p_3 p_4)) by simp only [g_slices_symMergeCmpFunc_Row, hb7, hb264, hb521, hb538, hb640, hb641, hb701, hb702, hb708, hb709, hL638, cL]]
            exact ⟨rfl, h716, (Mut.mut q712 hm715 (fun k hk => by simp only [InR, or_false] at hk ⊢; omega))⟩
           ·refine CW.cond_f rfl hb709 (CW.skip (rn rfl .nil ?_))
            rw [show (g_slices_symMergeCmpFunc_Row (kf + 1) p_0 p_1 p_2 p_3 p_4) = ((g_slices_symMergeCmpFunc_Row kf p_0 p_1 x523 (IntKind.wrap .i64 (Int.fdiv (IntKind.wrap .u64 (IntKind.wrap .i64 (p_1 + p_3))) 2)) p_4)) by simp only [g_slices_symMergeCmpFunc_Row, hb7, hb264, hb521, hb538, hb640, hb641, hb701, hb702, hb708, hb709, hL638, cL]]
            exact ⟨rfl, h707, (Mut.mut hf536 hm706 (fun k hk => by simp only [InR, or_false] at hk ⊢; omega))⟩
          ·refine sz rfl rfl hb708 (sz rfl rfl hb708 (sz rfl rfl hb708 (sd rfl (yl_pick_f rfl rfl hb708 rfl (dn (CW.cond_f rfl rfl (CW.skip (rn rfl .nil ?_))))))))
           rw [show (g_slices_symMergeCmpFunc_Row (kf + 1) p_0 p_1 p_2 p_3 p_4) = ((g_slices_symMergeCmpFunc_Row kf p_0 p_1 x523 (IntKind.wrap .i64 (Int.fdiv (IntKind.wrap .u64 (IntKind.wrap .i64 (p_1 + p_3))) 2)) p_4)) by simp only [g_slices_symMergeCmpFunc_Row, hb7, hb264, hb521, hb538, hb640, hb641, hb701, hb702, hb708, hL638, cL]]
           exact ⟨rfl, h707, (Mut.mut hf536 hm706 (fun k hk => by simp only [InR, or_false] at hk ⊢; omega))⟩
         ·refine CW.cond_f rfl hb702 (CW.skip (tn (CW.seq (CW.region (sd rfl (yl_move rfl rfl (sd rfl (yl_move rfl rfl (sd rfl (yl_lss rfl rfl rfl (sd rfl (yl_move rfl rfl ?_))))))))))))
          refine bcD (q := (IntKind.wrap .i64 (Int.fdiv (IntKind.wrap .u64 (IntKind.wrap .i64 (p_1 + p_3))) 2)) < (IntKind.wrap .i64 ((IntKind.wrap .i64 ((IntKind.wrap .i64 (Int.fdiv (IntKind.wrap .u64 (IntKind.wrap .i64 (p_1 + p_3))) 2)) + p_2)) - x523))) (fun hb723 hb723p => ?_) (fun hb723 hb723p => ?_)
          ·refine sy rfl rfl hb723 (yl_move rfl rfl (sy rfl rfl hb723 (yl_move rfl rfl (sy rfl rfl hb723 (yl_lss rfl rfl rfl (sd rfl (yl_pick_t rfl rfl hb723 rfl (dn (bcD (q := (IntKind.wrap .i64 ((IntKind.wrap .i64 ((IntKind.wrap .i64 (Int.fdiv (IntKind.wrap .u64 (IntKind.wrap .i64 (p_1 + p_3))) 2)) + p_2)) - x523)) < p_3) (fun hb724 hb724p => ?_) (fun hb724 hb724p => ?_))))))))))
           ·refine CW.cond_t rfl hb724 (CW.region (sd rfl (yl_move rfl rfl (sd rfl (yl_move rfl rfl (sd rfl (yl_move rfl rfl (sd rfl (yl_move rfl rfl (sd rfl (yl_move rfl rfl ?_)))))))))))
            have hle725 := OwnL.len hf535
            refine sd rfl (yl_call en83 rfl (oc rfl (oc rfl (oc rfl (oc rfl (oc rfl oz))))) (Cal.mono (ih p_0 (IntKind.wrap .i64 (Int.fdiv (IntKind.wrap .u64 (IntKind.wrap .i64 (p_1 + p_3))) 2)) (IntKind.wrap .i64 ((IntKind.wrap .i64 ((IntKind.wrap .i64 (Int.fdiv (IntKind.wrap .u64 (IntKind.wrap .i64 (p_1 + p_3))) 2)) + p_2)) - x523)) p_3 p_4 hcl hf535 hen4 (fun w1 y0 y1 => fun hN hE => hfn5 w1 y0 y1 (by omega) (Mut.mut hf536 hE (fun k hk => by simp only [InR, or_false] at hk ⊢; omega))) (by omega) (by first | omega | assumption | (simp only [wI] at *; omega)) (by first | omega | assumption | (simp only [wI] at *; omega))) ?_))
            rintro v727 w726 ⟨rfl, h729, hm728⟩
            have hm728z := Mut.size hm728
            refine SeqR.done (rn rfl .nil ?_)
            rw [show (g_slices_symMergeCmpFunc_Row (kf + 1) p_0 p_1 p_2 p_3 p_4) = ((g_slices_symMergeCmpFunc_Row kf p_0 (IntKind.wrap .i64 (Int.fdiv (IntKind.wrap .u64 (IntKind.wrap .i64 (p_1 + p_3))) 2)) (IntKind.wrap .i64 ((IntKind.wrap .i64 ((IntKind.wrap .i64 (Int.fdiv (IntKind.wrap .u64 (IntKind.wrap .i64 (p_1 + p_3))) 2)) + p_2)) - x523)) p_3 p_4)) by simp only [g_slices_symMergeCmpFunc_Row, hb7, hb264, hb521, hb538, hb640, hb641, hb701, hb702, hb723, hb724, hL638, cL]]
            exact ⟨rfl, h729, (Mut.mut hf536 hm728 (fun k hk => by simp only [InR, or_false] at hk ⊢; omega))⟩
           ·refine CW.cond_f rfl hb724 (CW.skip (rn rfl .nil ?_))
            rw [show (g_slices_symMergeCmpFunc_Row (kf + 1) p_0 p_1 p_2 p_3 p_4) = (p_0) by simp only [g_slices_symMergeCmpFunc_Row, hb7, hb264, hb521, hb538, hb640, hb641, hb701, hb702, hb723, hb724, hL638, cL]]
            exact ⟨rfl, hf535, hf536⟩
          ·refine sz rfl rfl hb723 (sz rfl rfl hb723 (sz rfl rfl hb723 (sd rfl (yl_pick_f rfl rfl hb723 rfl (dn (CW.cond_f rfl rfl (CW.skip (rn rfl .nil ?_))))))))
           rw [show (g_slices_symMergeCmpFunc_Row (kf + 1) p_0 p_1 p_2 p_3 p_4) = (p_0) by simp only [g_slices_symMergeCmpFunc_Row, hb7, hb264, hb521, hb538, hb640, hb641, hb701, hb702, hb723, hL638, cL]]
           exact ⟨rfl, hf535, hf536⟩
        ·refine sz rfl rfl hb701 (sz rfl rfl hb701 (sz rfl rfl hb701 (sd rfl (yl_pick_f rfl rfl hb701 rfl (dn (CW.cond_f rfl rfl (CW.skip (tn ?_))))))))
         refine CW.seq (CW.region (sd rfl (yl_move rfl rfl (sd rfl (yl_move rfl rfl (sd rfl (yl_lss rfl rfl rfl (sd rfl (yl_move rfl rfl (bcD (q := (IntKind.wrap .i64 (Int.fdiv (IntKind.wrap .u64 (IntKind.wrap .i64 (p_1 + p_3))) 2)) < (IntKind.wrap .i64 ((IntKind.wrap .i64 ((IntKind.wrap .i64 (Int.fdiv (IntKind.wrap .u64 (IntKind.wrap .i64 (p_1 + p_3))) 2)) + p_2)) - x523))) (fun hb734 hb734p => ?_) (fun hb734 hb734p => ?_)))))))))))
         ·refine sy rfl rfl hb734 (yl_move rfl rfl (sy rfl rfl hb734 (yl_move rfl rfl (sy rfl rfl hb734 (yl_lss rfl rfl rfl (sd rfl (yl_pick_t rfl rfl hb734 rfl (dn (bcD (q := (IntKind.wrap .i64 ((IntKind.wrap .i64 ((IntKind.wrap .i64 (Int.fdiv (IntKind.wrap .u64 (IntKind.wrap .i64 (p_1 + p_3))) 2)) + p_2)) - x523)) < p_3) (fun hb735 hb735p => ?_) (fun hb735 hb735p => ?_))))))))))
          ·refine CW.cond_t rfl hb735 (CW.region (sd rfl (yl_move rfl rfl (sd rfl (yl_move rfl rfl (sd rfl (yl_move rfl rfl (sd rfl (yl_move rfl rfl (sd rfl (yl_move rfl rfl ?_)))))))))))
           have hle736 := OwnL.len hf535
           refine sd rfl (yl_call en83 rfl (oc rfl (oc rfl (oc rfl (oc rfl (oc rfl oz))))) (Cal.mono (ih p_0 (IntKind.wrap .i64 (Int.fdiv (IntKind.wrap .u64 (IntKind.wrap .i64 (p_1 + p_3))) 2)) (IntKind.wrap .i64 ((IntKind.wrap .i64 ((IntKind.wrap .i64 (Int.fdiv (IntKind.wrap .u64 (IntKind.wrap .i64 (p_1 + p_3))) 2)) + p_2)) - x523)) p_3 p_4 hcl hf535 hen4 (fun w1 y0 y1 => fun hN hE => hfn5 w1 y0 y1 (by omega) (Mut.mut hf536 hE (fun k hk => by simp only [InR, or_false] at hk ⊢; omega))) (by omega) (by first | omega | assumption | (simp only [wI] at *; omega)) (by first | omega | assumption | (simp only [wI] at *; omega))) ?_))
           rintro v738 w737 ⟨rfl, h740, hm739⟩
           have hm739z := Mut.size hm739
           refine SeqR.done (rn rfl .nil ?_)
           rw [show (g_slices_symMergeCmpFunc_Row (kf + 1) p_0 p_1 p_2 p_3 p_4) = ((g_slices_symMergeCmpFunc_Row kf p_0 (IntKind.wrap .i64 (Int.fdiv (IntKind.wrap .u64 (IntKind.wrap .i64 (p_1 + p_3))) 2)) (IntKind.wrap .i64 ((IntKind.wrap .i64 ((IntKind.wrap .i64 (Int.fdiv (IntKind.wrap .u64 (IntKind.wrap .i64 (p_1 + p_3))) 2)) + p_2)) - x523)) p_3 p_4)) by simp only [g_slices_symMergeCmpFunc_Row, hb7, hb264, hb521, hb538, hb640, hb641, hb701, hb734, hb735, hL638, cL]]
           exact ⟨rfl, h740, (Mut.mut hf536 hm739 (fun k hk => by simp only [InR, or_false] at hk ⊢; omega))⟩
          ·refine CW.cond_f rfl hb735 (CW.skip (rn rfl .nil ?_))
           rw [show (g_slices_symMergeCmpFunc_Row (kf + 1) p_0 p_1 p_2 p_3 p_4) = (p_0) by simp only [g_slices_symMergeCmpFunc_Row, hb7, hb264, hb521, hb538, hb640, hb641, hb701, hb734, hb735, hL638, cL]]
           exact ⟨rfl, hf535, hf536⟩
         ·refine sz rfl rfl hb734 (sz rfl rfl hb734 (sz rfl rfl hb734 (sd rfl (yl_pick_f rfl rfl hb734 rfl (dn (CW.cond_f rfl rfl (CW.skip (rn rfl .nil ?_))))))))
          rw [show (g_slices_symMergeCmpFunc_Row (kf + 1) p_0 p_1 p_2 p_3 p_4) = (p_0) by simp only [g_slices_symMergeCmpFunc_Row, hb7, hb264, hb521, hb538, hb640, hb641, hb701, hb734, hL638, cL]]
          exact ⟨rfl, hf535, hf536⟩
      ·refine sz rfl rfl hb640 (sz rfl rfl hb640 (sz rfl rfl hb640 (sd rfl (yl_pick_f rfl rfl hb640 rfl (dn (CW.cond_f rfl rfl (CW.skip (tn ?_))))))))
       refine CW.seq (CW.seq (CW.region (sd rfl (yl_move rfl rfl (sd rfl (yl_move rfl rfl (sd rfl (yl_lss rfl rfl rfl (sd rfl (yl_move rfl rfl (bcD (q := p_1 < x523) (fun hb745 hb745p => ?_) (fun hb745 hb745p => ?_))))))))))))
       ·refine sy rfl rfl hb745 (yl_move rfl rfl (sy rfl rfl hb745 (yl_move rfl rfl (sy rfl rfl hb745 (yl_lss rfl rfl rfl (sd rfl (yl_pick_t rfl rfl hb745 rfl (dn (bcD (q := x523 < (IntKind.wrap .i64 (Int.fdiv (IntKind.wrap .u64 (IntKind.wrap .i64 (p_1 + p_3))) 2))) (fun hb746 hb746p => ?_) (fun hb746 hb746p => ?_))))))))))
        ·refine CW.cond_t rfl hb746 (CW.region (sd rfl (yl_move rfl rfl (sd rfl (yl_move rfl rfl (sd rfl (yl_move rfl rfl (sd rfl (yl_move rfl rfl (sd rfl (yl_move rfl rfl ?_)))))))))))
         have hle747 := OwnL.len hf535
         refine sd rfl (yl_call en83 rfl (oc rfl (oc rfl (oc rfl (oc rfl (oc rfl oz))))) (Cal.mono (ih p_0 p_1 x523 (IntKind.wrap .i64 (Int.fdiv (IntKind.wrap .u64 (IntKind.wrap .i64 (p_1 + p_3))) 2)) p_4 hcl hf535 hen4 (fun w1 y0 y1 => fun hN hE => hfn5 w1 y0 y1 (by omega) (Mut.mut hf536 hE (fun k hk => by simp only [InR, or_false] at hk ⊢; omega))) (by omega) (by first | omega | assumption | (simp only [wI] at *; omega)) (by first | omega | assumption | (simp only [wI] at *; omega))) ?_))
         rintro v749 w748 ⟨rfl, h751, hm750⟩
         have hm750z := Mut.size hm750
         refine dn (CW.seq (CW.region (sd rfl (yl_move rfl rfl (sd rfl (yl_move rfl rfl (sd rfl (yl_lss rfl rfl rfl (sd rfl (yl_move rfl rfl (bcD (q := (IntKind.wrap .i64 (Int.fdiv (IntKind.wrap .u64 (IntKind.wrap .i64 (p_1 + p_3))) 2)) < (IntKind.wrap .i64 ((IntKind.wrap .i64 ((IntKind.wrap .i64 (Int.fdiv (IntKind.wrap .u64 (IntKind.wrap .i64 (p_1 + p_3))) 2)) + p_2)) - x523))) (fun hb752 hb752p => ?_) (fun hb752 hb752p => ?_))))))))))))
         ·refine sy rfl rfl hb752 (yl_move rfl rfl (sy rfl rfl hb752 (yl_move rfl rfl (sy rfl rfl hb752 (yl_lss rfl rfl rfl (sd rfl (yl_pick_t rfl rfl hb752 rfl (dn (bcD (q := (IntKind.wrap .i64 ((IntKind.wrap .i64 ((IntKind.wrap .i64 (Int.fdiv (IntKind.wrap .u64 (IntKind.wrap .i64 (p_1 + p_3))) 2)) + p_2)) - x523)) < p_3) (fun hb753 hb753p => ?_) (fun hb753 hb753p => ?_))))))))))
          ·refine CW.cond_t rfl hb753 (CW.region (sd rfl (yl_move rfl rfl (sd rfl (yl_move rfl rfl (sd rfl (yl_move rfl rfl (sd rfl (yl_move rfl rfl (sd rfl (yl_move rfl rfl ?_)))))))))))
           have hle754 := OwnL.len h751
           have hle755 := OwnL.len h751
           have q756 := Mut.mut hf536 hm750 (fun k hk => by simp only [InR, or_false] at hk ⊢; omega)
           refine sd rfl (yl_call en83 rfl (oc rfl (oc rfl (oc rfl (oc rfl (oc rfl oz))))) (Cal.mono (Cal.args (by rw [← hle754] <;> rfl) (ih (g_slices_symMergeCmpFunc_Row kf p_0 p_1 x523 (IntKind.wrap .i64 (Int.fdiv (IntKind.wrap .u64 (IntKind.wrap .i64 (p_1 + p_3))) 2)) p_4) (IntKind.wrap .i64 (Int.fdiv (IntKind.wrap .u64 (IntKind.wrap .i64 (p_1 + p_3))) 2)) (IntKind.wrap .i64 ((IntKind.wrap .i64 ((IntKind.wrap .i64 (Int.fdiv (IntKind.wrap .u64 (IntKind.wrap .i64 (p_1 + p_3))) 2)) + p_2)) - x523)) p_3 p_4 hcl (OwnL.fix h751) hen4 (fun w1 y0 y1 => fun hN hE => hfn5 w1 y0 y1 (by omega) (Mut.mut q756 hE (fun k hk => by simp only [InR, or_false] at hk ⊢; omega))) (by omega) (by first | omega | assumption | (simp only [wI] at *; omega)) (by first | omega | assumption | (simp only [wI] at *; omega)))) ?_))
           rintro v758 w757 ⟨rfl, h760, hm759⟩
           have hm759z := Mut.size hm759
           have h760 := OwnL.ren hle754 h760
           refine SeqR.done (rn rfl .nil ?_)
           rw [show (g_slices_symMergeCmpFunc_Row (kf + 1) p_0 p_1 p_2 p_3 p_4) = ((g_slices_symMergeCmpFunc_Row kf (g_slices_symMergeCmpFunc_Row kf p_0 p_1 x523 (IntKind.wrap .i64 (Int.fdiv (IntKind.wrap .u64 (IntKind.wrap .i64 (p_1 + p_3))) 2)) p_4) (IntKind.wrap .i64 (Int.fdiv (IntKind.wrap .u64 (IntKind.wrap .i64 (p_1 + p_3))) 2)) (IntKind.wrap .i64 ((IntKind.wrap .i64 ((IntKind.wrap .i64 (Int.fdiv (IntKind.wrap .u64 (IntKind.wrap .i64 (p_1 + p_3))) 2)) + p_2)) - x523)) p_3 p_4)) by simp only [g_slices_symMergeCmpFunc_Row, hb7, hb264, hb521, hb538, hb640, hb745, hb746, hb752, hb753, hL638, cL]]
           exact ⟨rfl, h760, (Mut.mut q756 hm759 (fun k hk => by simp only [InR, or_false] at hk ⊢; omega))⟩
          ·refine CW.cond_f rfl hb753 (CW.skip (rn rfl .nil ?_))
           rw [show (g_slices_symMergeCmpFunc_Row (kf + 1) p_0 p_1 p_2 p_3 p_4) = ((g_slices_symMergeCmpFunc_Row kf p_0 p_1 x523 (IntKind.wrap .i64 (Int.fdiv (IntKind.wrap .u64 (IntKind.wrap .i64 (p_1 + p_3))) 2)) p_4)) by simp only [g_slices_symMergeCmpFunc_Row, hb7, hb264, hb521, hb538, hb640, hb745, hb746, hb752, hb753, hL638, cL]]
           exact ⟨rfl, h751, (Mut.mut hf536 hm750 (fun k hk => by simp only [InR, or_false] at hk ⊢; omega))⟩
         ·refine sz rfl rfl hb752 (sz rfl rfl hb752 (sz rfl rfl hb752 (sd rfl (yl_pick_f rfl rfl hb752 rfl (dn (CW.cond_f rfl rfl (CW.skip (rn rfl .nil ?_))))))))
          rw [show (g_slices_symMergeCmpFunc_Row (kf + 1) p_0 p_1 p_2 p_3 p_4) = ((g_slices_symMergeCmpFunc_Row kf p_0 p_1 x523 (IntKind.wrap .i64 (Int.fdiv (IntKind.wrap .u64 (IntKind.wrap .i64 (p_1 + p_3))) 2)) p_4)) by simp only [g_slices_symMergeCmpFunc_Row, hb7, hb264, hb521, hb538, hb640, hb745, hb746, hb752, hL638, cL]]
          exact ⟨rfl, h751, (Mut.mut hf536 hm750 (fun k hk => by simp only [InR, or_false] at hk ⊢; omega))⟩
        ·refine CW.cond_f rfl hb746 (CW.skip (tn (CW.seq (CW.region (sd rfl (yl_move rfl rfl (sd rfl (yl_move rfl rfl (sd rfl (yl_lss rfl rfl rfl (sd rfl (yl_move rfl rfl ?_))))))))))))
         refine bcD (q := (IntKind.wrap .i64 (Int.fdiv (IntKind.wrap .u64 (IntKind.wrap .i64 (p_1 + p_3))) 2)) < (IntKind.wrap .i64 ((IntKind.wrap .i64 ((IntKind.wrap .i64 (Int.fdiv (IntKind.wrap .u64 (IntKind.wrap .i64 (p_1 + p_3))) 2)) + p_2)) - x523))) (fun hb767 hb767p => ?_) (fun hb767 hb767p => ?_)
         ·refine sy rfl rfl hb767 (yl_move rfl rfl (sy rfl rfl hb767 (yl_move rfl rfl (sy rfl rfl hb767 (yl_lss rfl rfl rfl (sd rfl (yl_pick_t rfl rfl hb767 rfl (dn (bcD (q := (IntKind.wrap .i64 ((IntKind.wrap .i64 ((IntKind.wrap .i64 (Int.fdiv (IntKind.wrap .u64 (IntKind.wrap .i64 (p_1 + p_3))) 2)) + p_2)) - x523)) < p_3) (fun hb768 hb768p => ?_) (fun hb768 hb768p => ?_))))))))))
          ·refine CW.cond_t rfl hb768 (CW.region (sd rfl (yl_move rfl rfl (sd rfl (yl_move rfl rfl (sd rfl (yl_move rfl rfl (sd rfl (yl_move rfl rfl (sd rfl (yl_move rfl rfl ?_)))))))))))
           have hle769 := OwnL.len hf535
           refine sd rfl (yl_call en83 rfl (oc rfl (oc rfl (oc rfl (oc rfl (oc rfl oz))))) (Cal.mono (ih p_0 (IntKind.wrap .i64 (Int.fdiv (IntKind.wrap .u64 (IntKind.wrap .i64 (p_1 + p_3))) 2)) (IntKind.wrap .i64 ((IntKind.wrap .i64 ((IntKind.wrap .i64 (Int.fdiv (IntKind.wrap .u64 (IntKind.wrap .i64 (p_1 + p_3))) 2)) + p_2)) - x523)) p_3 p_4 hcl hf535 hen4 (fun w1 y0 y1 => fun hN hE => hfn5 w1 y0 y1 (by omega) (Mut.mut hf536 hE (fun k hk => by simp only [InR, or_false] at hk ⊢; omega))) (by omega) (by first | omega | assumption | (simp only [wI] at *; omega)) (by first | omega | assumption | (simp only [wI] at *; omega))) ?_))
           rintro v771 w770 ⟨rfl, h773, hm772⟩
           have hm772z := Mut.size hm772
           refine SeqR.done (rn rfl .nil ?_)
           rw [show (g_slices_symMergeCmpFunc_Row (kf + 1) p_0 p_1 p_2 p_3 p_4) = ((g_slices_symMergeCmpFunc_Row kf p_0 (IntKind.wrap .i64 (Int.fdiv (IntKind.wrap .u64 (IntKind.wrap .i64 (p_1 + p_3))) 2)) (IntKind.wrap .i64 ((IntKind.wrap .i64 ((IntKind.wrap .i64 (Int.fdiv (IntKind.wrap .u64 (IntKind.wrap .i64 (p_1 + p_3))) 2)) + p_2)) - x523)) p_3 p_4)) by simp only [g_slices_symMergeCmpFunc_Row, hb7, hb264, hb521, hb538, hb640, hb745, hb746, hb767, hb768, hL638, cL]]
           exact ⟨rfl, h773, (Mut.mut hf536 hm772 (fun k hk => by simp only [InR, or_false] at hk ⊢; omega))⟩
          ·refine CW.cond_f rfl hb768 (CW.skip (rn rfl .nil ?_))
           rw [show (g_slices_symMergeCmpFunc_Row (kf + 1) p_0 p_1 p_2 p_3 p_4) = (p_0) by simp only [g_slices_symMergeCmpFunc_Row, hb7, hb264, hb521, hb538, hb640, hb745, hb746, hb767, hb768, hL638, cL]]
           exact ⟨rfl, hf535, hf536⟩
         ·refine sz rfl rfl hb767 (sz rfl rfl hb767 (sz rfl rfl hb767 (sd rfl (yl_pick_f rfl rfl hb767 rfl (dn (CW.cond_f rfl rfl (CW.skip (rn rfl .nil ?_))))))))
          rw [show (g_slices_symMergeCmpFunc_Row (kf + 1) p_0 p_1 p_2 p_3 p_4) = (p_0) by simp only [g_slices_symMergeCmpFunc_Row, hb7, hb264, hb521, hb538, hb640, hb745, hb746, hb767, hL638, cL]]
          exact ⟨rfl, hf535, hf536⟩
       ·refine sz rfl rfl hb745 (sz rfl rfl hb745 (sz rfl rfl hb745 (sd rfl (yl_pick_f rfl rfl hb745 rfl (dn (CW.cond_f rfl rfl (CW.skip (tn ?_))))))))
        refine CW.seq (CW.region (sd rfl (yl_move rfl rfl (sd rfl (yl_move rfl rfl (sd rfl (yl_lss rfl rfl rfl (sd rfl (yl_move rfl rfl (bcD (q := (IntKind.wrap .i64 (Int.fdiv (IntKind.wrap .u64 (IntKind.wrap .i64 (p_1 + p_3))) 2)) < (IntKind.wrap .i64 ((IntKind.wrap .i64 ((IntKind.wrap .i64 (Int.fdiv (IntKind.wrap .u64 (IntKind.wrap .i64 (p_1 + p_3))) 2)) + p_2)) - x523))) (fun hb778 hb778p => ?_) (fun hb778 hb778p => ?_)))))))))))
        ·refine sy rfl rfl hb778 (yl_move rfl rfl (sy rfl rfl hb778 (yl_move rfl rfl (sy rfl rfl hb778 (yl_lss rfl rfl rfl (sd rfl (yl_pick_t rfl rfl hb778 rfl (dn (bcD (q := (IntKind.wrap .i64 ((IntKind.wrap .i64 ((IntKind.wrap .i64 (Int.fdiv (IntKind.wrap .u64 (IntKind.wrap .i64 (p_1 + p_3))) 2)) + p_2)) - x523)) < p_3) (fun hb779 hb779p => ?_) (fun hb779 hb779p => ?_))))))))))
         ·refine CW.cond_t rfl hb779 (CW.region (sd rfl (yl_move rfl rfl (sd rfl (yl_move rfl rfl (sd rfl (yl_move rfl rfl (sd rfl (yl_move rfl rfl (sd rfl (yl_move rfl rfl ?_)))))))))))
          have hle780 := OwnL.len hf535
          refine sd rfl (yl_call en83 rfl (oc rfl (oc rfl (oc rfl (oc rfl (oc rfl oz))))) (Cal.mono (ih p_0 (IntKind.wrap .i64 (Int.fdiv (IntKind.wrap .u64 (IntKind.wrap .i64 (p_1 + p_3))) 2)) (IntKind.wrap .i64 ((IntKind.wrap .i64 ((IntKind.wrap .i64 (Int.fdiv (IntKind.wrap .u64 (IntKind.wrap .i64 (p_1 + p_3))) 2)) + p_2)) - x523)) p_3 p_4 hcl hf535 hen4 (fun w1 y0 y1 => fun hN hE => hfn5 w1 y0 y1 (by omega) (Mut.mut hf536 hE (fun k hk => by simp only [InR, or_false] at hk ⊢; omega))) (by omega) (by first | omega | assumption | (simp only [wI] at *; omega)) (by first | omega | assumption | (simp only [wI] at *; omega))) ?_))
          rintro v782 w781 ⟨rfl, h784, hm783⟩
          have hm783z := Mut.size hm783
          refine SeqR.done (rn rfl .nil ?_)
          rw [show (g_slices_symMergeCmpFunc_Row (kf + 1) p_0 p_1 p_2 p_3 p_4) = ((g_slices_symMergeCmpFunc_Row kf p_0 (IntKind.wrap .i64 (Int.fdiv (IntKind.wrap .u64 (IntKind.wrap .i64 (p_1 + p_3))) 2)) (IntKind.wrap .i64 ((IntKind.wrap .i64 ((IntKind.wrap .i64 (Int.fdiv (IntKind.wrap .u64 (IntKind.wrap .i64 (p_1 + p_3))) 2)) + p_2)) - x523)) p_3 p_4)) by simp only [g_slices_symMergeCmpFunc_Row, hb7, hb264, hb521, hb538, hb640, hb745, hb778, hb779, hL638, cL]]
          exact ⟨rfl, h784, (Mut.mut hf536 hm783 (fun k hk => by simp only [InR, or_false] at hk ⊢; omega))⟩
         ·refine CW.cond_f rfl hb779 (CW.skip (rn rfl .nil ?_))
          rw [show (g_slices_symMergeCmpFunc_Row (kf + 1) p_0 p_1 p_2 p_3 p_4) = (p_0) by simp only [g_slices_symMergeCmpFunc_Row, hb7, hb264, hb521, hb538, hb640, hb745, hb778, hb779, hL638, cL]]
          exact ⟨rfl, hf535, hf536⟩
        ·refine sz rfl rfl hb778 (sz rfl rfl hb778 (sz rfl rfl hb778 (sd rfl (yl_pick_f rfl rfl hb778 rfl (dn (CW.cond_f rfl rfl (CW.skip (rn rfl .nil ?_))))))))
         rw [show (g_slices_symMergeCmpFunc_Row (kf + 1) p_0 p_1 p_2 p_3 p_4) = (p_0) by simp only [g_slices_symMergeCmpFunc_Row, hb7, hb264, hb521, hb538, hb640, hb745, hb778, hL638, cL]]
         exact ⟨rfl, hf535, hf536⟩
   ·refine CW.cond_f rfl hb521 (CW.seq (CW.region (sd rfl (yl_move rfl rfl (sd rfl (yl_assign rfl rfl (dn (CW.region (sd rfl (yl_move rfl rfl ?_))))))))))
    refine sd rfl (yl_assign rfl rfl (dn (CW.seq (CW.region (sd rfl (yl_move rfl rfl (sd rfl (yl_sub rfl rfl rfl (sd rfl (yl_assign rfl rfl (SeqR.done ?_)))))))))))
    refine tn (CW.seq (CW.block (CW.loop (fun m792 L793 w794 => ∃ (x790 : Int) (x791 : Int), ((x791 - x790).toNat) < m792 ∧ w.heap.size ≤ w794.heap.size ∧ Sub [(0, .slice A1 p_0.length c1), (1, .int .i64 (p_1)), (2, .int .i64 (p_2)), (3, .int .i64 (p_3)), (4, .func (.func g2) #[] cp3.toArray), (18, .int .i64 (IntKind.wrap .i64 (Int.fdiv (IntKind.wrap .u64 (IntKind.wrap .i64 (p_1 + p_3))) 2))), (19, .int .i64 (IntKind.wrap .i64 ((IntKind.wrap .i64 (Int.fdiv (IntKind.wrap .u64 (IntKind.wrap .i64 (p_1 + p_3))) 2)) + p_2))), (20, .int .i64 (x790)), (21, .int .i64 (x791)), (22, .int .i64 (IntKind.wrap .i64 ((IntKind.wrap .i64 ((IntKind.wrap .i64 (Int.fdiv (IntKind.wrap .u64 (IntKind.wrap .i64 (p_1 + p_3))) 2)) + p_2)) - 1)))] L793 ∧ OwnL w794 lo1 hi1 61 1 (RF (e_Opq cl)) A1 p_0.length c1 p_0 ∧ Mut [(lo1, hi1)] w w794 ∧ (p_1 ≤ x790 ∧ x790 ≤ x791 ∧ x791 ≤ p_2 ∧ x791 ≤ IntKind.wrap .i64 (Int.fdiv (IntKind.wrap .u64 (IntKind.wrap .i64 (p_1 + p_3))) 2) ∧ IntKind.wrap .i64 ((IntKind.wrap .i64 (Int.fdiv (IntKind.wrap .u64 (IntKind.wrap .i64 (p_1 + p_3))) 2)) + p_2) - p_3 ≤ x790) ∧ loopW (B_g_slices_symMergeCmpFunc_Row_4 kf p_0 p_1 p_2 p_3 p_4) m792 (x790, x791) = loopW (B_g_slices_symMergeCmpFunc_Row_4 kf p_0 p_1 p_2 p_3 p_4) (((p_2 - p_1).toNat) + 1) (p_1, p_2)) (((p_2 - p_1).toNat) + 1) ?_ ?_)))
    ·exact ⟨p_1, p_2, Nat.lt_succ_self _, Nat.le_refl _, (sR rfl), h1, (Mut.refl (l := [(lo1, hi1)]) w), (by first | omega | assumption | (simp only [wI] at *; omega)), rfl⟩
    ·rintro m795 L796 w797 ⟨x790, x791, hk798, hsz800, hl801, hf802, hf803, hv804, hI799⟩
     refine CW.sub hl801 ?_
     have hf803z := Mut.size hf803
     refine CW.seq (CW.seq (CW.region (sd rfl (yl_move rfl rfl (sd rfl (yl_move rfl rfl (sd rfl (yl_lss rfl rfl rfl (dn (bcD (q := x790 < x791) (fun hb805 hb805p => ?_) (fun hb805 hb805p => ?_)))))))))))
     ·have hb805m := bs_mid (i := x790) (j := x791) (by omega) (by omega) (by omega)
      have hb805p : IntKind.wrap .i64 ((IntKind.wrap .i64 ((IntKind.wrap .i64 ((IntKind.wrap .i64 (Int.fdiv (IntKind.wrap .u64 (IntKind.wrap .i64 (p_1 + p_3))) 2)) + p_2)) - 1)) - IntKind.wrap .i64 (Int.fdiv (IntKind.wrap .u64 (IntKind.wrap .i64 (x790 + x791))) 2)) = (p_1 + p_3) / 2 + p_2 - 1 - (x790 + x791) / 2 := by rw [hmid, hb805m]; simp only [wI]; omega
      refine CW.cond_t rfl hb805 (CW.skip (tn (CW.block (CW.seq (CW.region (sd rfl (yl_move rfl rfl (sd rfl (yl_move rfl rfl (sd rfl (yl_add rfl rfl rfl ?_)))))))))))
      refine sd rfl (yl_conv un3 un115 rfl rfl (sd rfl (yl_shr (q := 2) rfl rfl rfl (by decide) (by decide) (by decide) (sd rfl (yl_conv un115 un3 rfl rfl (sd rfl (yl_assign rfl rfl (dn (CW.seq ?_)))))))))
      obtain ⟨eb807, eo807, _, eA807, _, ebl807, _, eR807, eC807⟩ := RdS.atD (OwnL.rd (good_Opq hcl) hf802) d_Opq (i := (IntKind.wrap .i64 ((IntKind.wrap .i64 ((IntKind.wrap .i64 ((IntKind.wrap .i64 (Int.fdiv (IntKind.wrap .u64 (IntKind.wrap .i64 (p_1 + p_3))) 2)) + p_2)) - 1)) - (IntKind.wrap .i64 (Int.fdiv (IntKind.wrap .u64 (IntKind.wrap .i64 (x790 + x791))) 2)))).toNat) (by first | omega | assumption | (simp only [wI] at *; omega))
      obtain rfl := eR807
      obtain ⟨eb809, eo809, _, eA809, _, ebl809, _, eR809, eC809⟩ := RdS.atD (OwnL.rd (good_Opq hcl) hf802) d_Opq (i := (IntKind.wrap .i64 (Int.fdiv (IntKind.wrap .u64 (IntKind.wrap .i64 (x790 + x791))) 2)).toNat) (by first | omega | assumption | (simp only [wI] at *; omega))
      obtain rfl := eR809
      refine drJ 11 [.func (.func g2) #[] cp3.toArray, .slice A1 p_0.length c1, .int .i64 (IntKind.wrap .i64 ((IntKind.wrap .i64 ((IntKind.wrap .i64 (Int.fdiv (IntKind.wrap .u64 (IntKind.wrap .i64 (p_1 + p_3))) 2)) + p_2)) - 1)), .int .i64 (IntKind.wrap .i64 (Int.fdiv (IntKind.wrap .u64 (IntKind.wrap .i64 (x790 + x791))) 2)), .int .i64 (IntKind.wrap .i64 ((IntKind.wrap .i64 ((IntKind.wrap .i64 ((IntKind.wrap .i64 (Int.fdiv (IntKind.wrap .u64 (IntKind.wrap .i64 (p_1 + p_3))) 2)) + p_2)) - 1)) - (IntKind.wrap .i64 (Int.fdiv (IntKind.wrap .u64 (IntKind.wrap .i64 (x790 + x791))) 2)))), .pointer (some ⟨eb807, eo807 + ((IntKind.wrap .i64 ((IntKind.wrap .i64 ((IntKind.wrap .i64 ((IntKind.wrap .i64 (Int.fdiv (IntKind.wrap .u64 (IntKind.wrap .i64 (p_1 + p_3))) 2)) + p_2)) - 1)) - (IntKind.wrap .i64 (Int.fdiv (IntKind.wrap .u64 (IntKind.wrap .i64 (x790 + x791))) 2)))).toNat) * 1, none⟩), .agg #[cl (p_0.getD ((IntKind.wrap .i64 ((IntKind.wrap .i64 ((IntKind.wrap .i64 ((IntKind.wrap .i64 (Int.fdiv (IntKind.wrap .u64 (IntKind.wrap .i64 (p_1 + p_3))) 2)) + p_2)) - 1)) - (IntKind.wrap .i64 (Int.fdiv (IntKind.wrap .u64 (IntKind.wrap .i64 (x790 + x791))) 2)))).toNat) d_Opq)], .slice A1 p_0.length c1, .int .i64 (IntKind.wrap .i64 (Int.fdiv (IntKind.wrap .u64 (IntKind.wrap .i64 (x790 + x791))) 2)), .pointer (some ⟨eb809, eo809 + ((IntKind.wrap .i64 (Int.fdiv (IntKind.wrap .u64 (IntKind.wrap .i64 (x790 + x791))) 2)).toNat) * 1, none⟩), .agg #[cl (p_0.getD ((IntKind.wrap .i64 (Int.fdiv (IntKind.wrap .u64 (IntKind.wrap .i64 (x790 + x791))) 2)).toNat) d_Opq)]] Tryz.follows rfl ⟨oI rfl fun h => yl_move rfl (h.g 4 rfl) kI, oI rfl fun h => yl_move rfl (h.g 0 rfl) kI, oI rfl fun h => yl_move rfl (h.g 22 rfl) kI, oI rfl fun h => yl_move rfl (h.g 23 rfl) kI, oI rfl fun h => yl_sub rfl (h.g 160 rfl) (h.g 161 rfl) kI, ?_, oI rfl fun h => yl_loadN ty61 rfl (h.g 163 rfl) (Cells.ex eC807 h.ex) rfl kI, oI rfl fun h => yl_move rfl (h.g 0 rfl) kI, oI rfl fun h => yl_move rfl (h.g 23 rfl) kI, ?_, oI rfl fun h => yl_loadN ty61 rfl (h.g 167 rfl) (Cells.ex eC809 h.ex) rfl kI, trivial⟩ ?_
      ·intro L836 w837 hi838
       have hE839 := hi838.ex
       have hE839z := Ex.size hE839
       exact os rfl ((yl_indexAddr un29 ty61 rfl (hi838.g 159 rfl) (hi838.g 162 rfl) eA807 (by first | omega | assumption | (simp only [wI] at *; omega)) (by first | omega | assumption | (simp only [wI] at *; omega)) kI))
      ·intro L858 w859 hi860
       have hE861 := hi860.ex
       have hE861z := Ex.size hE861
       exact os rfl ((yl_indexAddr un29 ty61 rfl (hi860.g 165 rfl) (hi860.g 166 rfl) eA809 (by first | omega | assumption | (simp only [wI] at *; omega)) (by first | omega | assumption | (simp only [wI] at *; omega)) kI))
      ·intro fl873 fh874 L870 w871 hp872
       have hE875 := hp872.ex
       have hE875z := Ex.size hE875
       have q893 := Mut.ex hf803 hE875
       refine sd rfl (yl_callv hen4 rfl (hp872.nt 0 158 rfl rfl rfl) (oc (hp872.nt 6 164 rfl rfl rfl) (oc (hp872.nt 10 168 rfl rfl rfl) oz)) (Cal.mono (hfn5 w871 (p_0.getD ((IntKind.wrap .i64 ((IntKind.wrap .i64 ((IntKind.wrap .i64 ((IntKind.wrap .i64 (Int.fdiv (IntKind.wrap .u64 (IntKind.wrap .i64 (p_1 + p_3))) 2)) + p_2)) - 1)) - (IntKind.wrap .i64 (Int.fdiv (IntKind.wrap .u64 (IntKind.wrap .i64 (x790 + x791))) 2)))).toNat) d_Opq) (p_0.getD ((IntKind.wrap .i64 (Int.fdiv (IntKind.wrap .u64 (IntKind.wrap .i64 (x790 + x791))) 2)).toNat) d_Opq) (by omega) q893) ?_))
       rintro v891 w890 ⟨rfl, hE892⟩
       have hE892z := Ex.size hE892
       refine sd rfl (yl_lss rfl rfl rfl (sd rfl (yl_not rfl rfl (dn (CW.sub (Sub.cons (d := 0) (hp872.old 0 _ rfl rfl) (Sub.cons (d := 1) (hp872.old 1 _ rfl rfl) (Sub.cons (d := 2) (hp872.old 2 _ rfl rfl) (Sub.cons (d := 3) (hp872.old 3 _ rfl rfl) (Sub.cons (d := 4) (hp872.old 4 _ rfl rfl) (Sub.cons (d := 18) (hp872.old 18 _ rfl rfl) (Sub.cons (d := 19) (hp872.old 19 _ rfl rfl) (Sub.cons (d := 20) (hp872.old 20 _ rfl rfl) (Sub.cons (d := 21) (hp872.old 21 _ rfl rfl) (Sub.cons (d := 22) (hp872.old 22 _ rfl rfl) (Sub.cons (d := 23) (hp872.old 23 _ rfl rfl) (Sub.cons (d := 171) rfl (Sub.nil _))))))))))))) (bcD (q := (p_4 (p_0.getD ((IntKind.wrap .i64 ((IntKind.wrap .i64 ((IntKind.wrap .i64 ((IntKind.wrap .i64 (Int.fdiv (IntKind.wrap .u64 (IntKind.wrap .i64 (p_1 + p_3))) 2)) + p_2)) - 1)) - (IntKind.wrap .i64 (Int.fdiv (IntKind.wrap .u64 (IntKind.wrap .i64 (x790 + x791))) 2)))).toNat) d_Opq) (p_0.getD ((IntKind.wrap .i64 (Int.fdiv (IntKind.wrap .u64 (IntKind.wrap .i64 (x790 + x791))) 2)).toNat) d_Opq)) < 0) (fun hb894 hb894p => ?_) (fun hb894 hb894p => ?_)))))))
       ·refine CW.cond_f rfl (not_t hb894) (CW.region (sd rfl (yl_move rfl rfl (sd rfl (yl_assign rfl rfl (SeqR.done (bn (tn ?_))))))))
        have hB895 : B_g_slices_symMergeCmpFunc_Row_4 kf p_0 p_1 p_2 p_3 p_4 (x790, x791) = .cont (x790, IntKind.wrap .i64 (Int.fdiv (IntKind.wrap .u64 (IntKind.wrap .i64 (x790 + x791))) 2)) := by simp only [B_g_slices_symMergeCmpFunc_Row_4, hb7, hb264, hb521, hb805, hb894, cL]
        have hmu899 : ((IntKind.wrap .i64 (Int.fdiv (IntKind.wrap .u64 (IntKind.wrap .i64 (x790 + x791))) 2) - x790).toNat) < ((x791 - x790).toNat) := by first | omega | assumption | (simp only [wI] at *; omega)
        exact ⟨m795 - 1, by omega, x790, IntKind.wrap .i64 (Int.fdiv (IntKind.wrap .u64 (IntKind.wrap .i64 (x790 + x791))) 2), (by omega), (by omega), (sR rfl), (OwnL.ex (good_Opq hcl) (OwnL.ex (good_Opq hcl) hf802 hE875) hE892), (Mut.ex q893 hE892), (by first | omega | assumption | (simp only [wI] at *; omega)), (loopW.cont hk798 hB895).symm.trans hI799⟩
       ·refine CW.cond_t rfl (not_f hb894) (CW.region (sd rfl (yl_move rfl rfl (sd rfl (yl_add rfl rfl rfl (sd rfl (yl_assign rfl rfl (SeqR.done (bn (tn ?_))))))))))
        have hB900 : B_g_slices_symMergeCmpFunc_Row_4 kf p_0 p_1 p_2 p_3 p_4 (x790, x791) = .cont (IntKind.wrap .i64 ((IntKind.wrap .i64 (Int.fdiv (IntKind.wrap .u64 (IntKind.wrap .i64 (x790 + x791))) 2)) + 1), x791) := by simp only [B_g_slices_symMergeCmpFunc_Row_4, hb7, hb264, hb521, hb805, hb894, cL]
        have hmu904 : ((x791 - IntKind.wrap .i64 ((IntKind.wrap .i64 (Int.fdiv (IntKind.wrap .u64 (IntKind.wrap .i64 (x790 + x791))) 2)) + 1)).toNat) < ((x791 - x790).toNat) := by first | omega | assumption | (simp only [wI] at *; omega)
        exact ⟨m795 - 1, by omega, IntKind.wrap .i64 ((IntKind.wrap .i64 (Int.fdiv (IntKind.wrap .u64 (IntKind.wrap .i64 (x790 + x791))) 2)) + 1), x791, (by omega), (by omega), (sR rfl), (OwnL.ex (good_Opq hcl) (OwnL.ex (good_Opq hcl) hf802 hE875) hE892), (Mut.ex q893 hE892), (by first | omega | assumption | (simp only [wI] at *; omega)), (loopW.cont hk798 hB900).symm.trans hI799⟩
     ·refine CW.cond_f rfl hb805 (CW.exit (tx (tx ?_)))
      have hB906 : B_g_slices_symMergeCmpFunc_Row_4 kf p_0 p_1 p_2 p_3 p_4 (x790, x791) = .brk (x790, x791) := by simp only [B_g_slices_symMergeCmpFunc_Row_4, hb7, hb264, hb521, hb805, cL]
      have hL905 : loopW (B_g_slices_symMergeCmpFunc_Row_4 kf p_0 p_1 p_2 p_3 p_4) (((p_2 - p_1).toNat) + 1) (p_1, p_2) = .done (x790, x791) := hI799.symm.trans (loopW.brk hk798 hB906)
      refine bx (tn (CW.seq (CW.region (sd rfl (yl_move rfl rfl (sd rfl (yl_move rfl rfl (sd rfl (yl_sub rfl rfl rfl (sd rfl (yl_assign rfl rfl (SeqR.done ?_))))))))))))
      refine tn (CW.seq (CW.seq (CW.region (sd rfl (yl_move rfl rfl (sd rfl (yl_move rfl rfl (sd rfl (yl_lss rfl rfl rfl (sd rfl (yl_move rfl rfl (bcD (q := x790 < p_2) (fun hb907 hb907p => ?_) (fun hb907 hb907p => ?_)))))))))))))
      ·refine sy rfl rfl hb907 (yl_move rfl rfl (sy rfl rfl hb907 (yl_move rfl rfl (sy rfl rfl hb907 (yl_lss rfl rfl rfl (sd rfl (yl_pick_t rfl rfl hb907 rfl (dn (bcD (q := p_2 < (IntKind.wrap .i64 ((IntKind.wrap .i64 ((IntKind.wrap .i64 (Int.fdiv (IntKind.wrap .u64 (IntKind.wrap .i64 (p_1 + p_3))) 2)) + p_2)) - x790))) (fun hb908 hb908p => ?_) (fun hb908 hb908p => ?_))))))))))
       ·refine CW.cond_t rfl hb908 (CW.region (sd rfl (yl_move rfl rfl (sd rfl (yl_move rfl rfl (sd rfl (yl_move rfl rfl (sd rfl (yl_move rfl rfl (sd rfl (yl_move rfl rfl ?_)))))))))))
        have hle909 := OwnL.len hf802
        refine sd rfl (yl_call en97 rfl (oc rfl (oc rfl (oc rfl (oc rfl (oc rfl oz))))) (Cal.mono (c_g_slices_rotateCmpFunc_Row p_0 x790 p_2 (IntKind.wrap .i64 ((IntKind.wrap .i64 ((IntKind.wrap .i64 (Int.fdiv (IntKind.wrap .u64 (IntKind.wrap .i64 (p_1 + p_3))) 2)) + p_2)) - x790)) p_4 hcl hf802 hen4 (fun w1 y0 y1 => fun hN hE => hfn5 w1 y0 y1 (by omega) (Mut.mut hf803 hE (fun k hk => by simp only [InR, or_false] at hk ⊢; omega))) (by omega) (by first | omega | assumption | (simp only [wI] at *; omega))) ?_))
        rintro v911 w910 ⟨rfl, h913, hm912⟩
        have hm912z := Mut.size hm912
        refine dn (CW.seq (CW.seq (CW.region (sd rfl (yl_move rfl rfl (sd rfl (yl_move rfl rfl (sd rfl (yl_lss rfl rfl rfl (sd rfl (yl_move rfl rfl ?_)))))))))))
        refine bcD (q := p_1 < x790) (fun hb914 hb914p => ?_) (fun hb914 hb914p => ?_)
        ·refine sy rfl rfl hb914 (yl_move rfl rfl (sy rfl rfl hb914 (yl_move rfl rfl (sy rfl rfl hb914 (yl_lss rfl rfl rfl (sd rfl (yl_pick_t rfl rfl hb914 rfl (dn (bcD (q := x790 < (IntKind.wrap .i64 (Int.fdiv (IntKind.wrap .u64 (IntKind.wrap .i64 (p_1 + p_3))) 2))) (fun hb915 hb915p => ?_) (fun hb915 hb915p => ?_))))))))))
         ·refine CW.cond_t rfl hb915 (CW.region (sd rfl (yl_move rfl rfl (sd rfl (yl_move rfl rfl (sd rfl (yl_move rfl rfl (sd rfl (yl_move rfl rfl (sd rfl (yl_move rfl rfl ?_)))))))))))
          have hle916 := OwnL.len h913
          have hle917 := OwnL.len h913
          have q918 := Mut.mut hf803 hm912 (fun k hk => by simp only [InR, or_false] at hk ⊢; omega)
          refine sd rfl (yl_call en83 rfl (oc rfl (oc rfl (oc rfl (oc rfl (oc rfl oz))))) (Cal.mono (Cal.args (by rw [← hle916] <;> rfl) (ih (g_slices_rotateCmpFunc_Row p_0 x790 p_2 (IntKind.wrap .i64 ((IntKind.wrap .i64 ((IntKind.wrap .i64 (Int.fdiv (IntKind.wrap .u64 (IntKind.wrap .i64 (p_1 + p_3))) 2)) + p_2)) - x790)) p_4) p_1 x790 (IntKind.wrap .i64 (Int.fdiv (IntKind.wrap .u64 (IntKind.wrap .i64 (p_1 + p_3))) 2)) p_4 hcl (OwnL.fix h913) hen4 (fun w1 y0 y1 => fun hN hE => hfn5 w1 y0 y1 (by omega) (Mut.mut q918 hE (fun k hk => by simp only [InR, or_false] at hk ⊢; omega))) (by omega) (by first | omega | assumption | (simp only [wI] at *; omega)) (by first | omega | assumption | (simp only [wI] at *; omega)))) ?_))
          rintro v920 w919 ⟨rfl, h922, hm921⟩
          have hm921z := Mut.size hm921
          have h922 := OwnL.ren hle916 h922
          refine dn (CW.seq (CW.region (sd rfl (yl_move rfl rfl (sd rfl (yl_move rfl rfl (sd rfl (yl_lss rfl rfl rfl (sd rfl (yl_move rfl rfl (bcD (q := (IntKind.wrap .i64 (Int.fdiv (IntKind.wrap .u64 (IntKind.wrap .i64 (p_1 + p_3))) 2)) < (IntKind.wrap .i64 ((IntKind.wrap .i64 ((IntKind.wrap .i64 (Int.fdiv (IntKind.wrap .u64 (IntKind.wrap .i64 (p_1 + p_3))) 2)) + p_2)) - x790))) (fun hb923 hb923p => ?_) (fun hb923 hb923p => ?_))))))))))))
          ·refine sy rfl rfl hb923 (yl_move rfl rfl (sy rfl rfl hb923 (yl_move rfl rfl (sy rfl rfl hb923 (yl_lss rfl rfl rfl (sd rfl (yl_pick_t rfl rfl hb923 rfl (dn (bcD (q := (IntKind.wrap .i64 ((IntKind.wrap .i64 ((IntKind.wrap .i64 (Int.fdiv (IntKind.wrap .u64 (IntKind.wrap .i64 (p_1 + p_3))) 2)) + p_2)) - x790)) < p_3) (fun hb924 hb924p => ?_) (fun hb924 hb924p => ?_))))))))))
           ·refine CW.cond_t rfl hb924 (CW.region (sd rfl (yl_move rfl rfl (sd rfl (yl_move rfl rfl (sd rfl (yl_move rfl rfl (sd rfl (yl_move rfl rfl (sd rfl (yl_move rfl rfl ?_)))))))))))
            have hle925 := OwnL.len h922
            have hle926 := OwnL.len h922
            have q927 := Mut.mut q918 hm921 (fun k hk => by simp only [InR, or_false] at hk ⊢; omega)
            refine sd rfl (yl_call en83 rfl (oc rfl (oc rfl (oc rfl (oc rfl (oc rfl oz))))) (Cal.mono (Cal.args (by rw [← hle925] <;> rfl) (ih (g_slices_symMergeCmpFunc_Row kf (g_slices_rotateCmpFunc_Row p_0 x790 p_2 (IntKind.wrap .i64 ((IntKind.wrap .i64 ((IntKind.wrap .i64 (Int.fdiv (IntKind.wrap .u64 (IntKind.wrap .i64 (p_1 + p_3))) 2)) + p_2)) - x790)) p_4) p_1 x790 (IntKind.wrap .i64 (Int.fdiv (IntKind.wrap .u64 (IntKind.wrap .i64 (p_1 + p_3))) 2)) p_4) (IntKind.wrap .i64 (Int.fdiv (IntKind.wrap .u64 (IntKind.wrap .i64 (p_1 + p_3))) 2)) (IntKind.wrap .i64 ((IntKind.wrap .i64 ((IntKind.wrap .i64 (Int.fdiv (IntKind.wrap .u64 (IntKind.wrap .i64 (p_1 + p_3))) 2)) + p_2)) - x790)) p_3 p_4 hcl (OwnL.fix h922) hen4 (fun w1 y0 y1 => fun hN hE => hfn5 w1 y0 y1 (by omega) (Mut.mut q927 hE (fun k hk => by simp only [InR, or_false] at hk ⊢; omega))) (by omega) (by first | omega | assumption | (simp only [wI] at *; omega)) (by first | omega | assumption | (simp only [wI] at *; omega)))) ?_))
            rintro v929 w928 ⟨rfl, h931, hm930⟩
            have hm930z := Mut.size hm930
            have h931 := OwnL.ren hle925 h931
            refine SeqR.done (rn rfl .nil ?_)
            rw [show (g_slices_symMergeCmpFunc_Row (kf + 1) p_0 p_1 p_2 p_3 p_4) = ((g_slices_symMergeCmpFunc_Row kf (g_slices_symMergeCmpFunc_Row kf (g_slices_rotateCmpFunc_Row p_0 x790 p_2 (IntKind.wrap .i64 ((IntKind.wrap .i64 ((IntKind.wrap .i64 (Int.fdiv (IntKind.wrap .u64 (IntKind.wrap .i64 (p_1 + p_3))) 2)) + p_2)) - x790)) p_4) p_1 x790 (IntKind.wrap .i64 (Int.fdiv (IntKind.wrap .u64 (IntKind.wrap .i64 (p_1 + p_3))) 2)) p_4) (IntKind.wrap .i64 (Int.fdiv (IntKind.wrap .u64 (IntKind.wrap .i64 (p_1 + p_3))) 2)) (IntKind.wrap .i64 ((IntKind.wrap .i64 ((IntKind.wrap .i64 (Int.fdiv (IntKind.wrap .u64 (IntKind.wrap .i64 (p_1 + p_3))) 2)) + p_2)) - x790)) p_3 p_4)) by simp only [g_slices_symMergeCmpFunc_Row, hb7, hb264, hb521, hb805, hb907, hb908, hb914, hb915, hb923, hb924, hL905, cL]]
            exact ⟨rfl, h931, (Mut.mut q927 hm930 (fun k hk => by simp only [InR, or_false] at hk ⊢; omega))⟩
           ·refine CW.cond_f rfl hb924 (CW.skip (rn rfl .nil ?_))
            rw [show (g_slices_symMergeCmpFunc_Row (kf + 1) p_0 p_1 p_2 p_3 p_4) = ((g_slices_symMergeCmpFunc_Row kf (g_slices_rotateCmpFunc_Row p_0 x790 p_2 (IntKind.wrap .i64 ((IntKind.wrap .i64 ((IntKind.wrap .i64 (Int.fdiv (IntKind.wrap .u64 (IntKind.wrap .i64 (p_1 + p_3))) 2)) + p_2)) - x790)) p_4) p_1 x790 (IntKind.wrap .i64 (Int.fdiv (IntKind.wrap .u64 (IntKind.wrap .i64 (p_1 + p_3))) 2)) p_4)) by simp only [g_slices_symMergeCmpFunc_Row, hb7, hb264, hb521, hb805, hb907, hb908, hb914, hb915, hb923, hb924, hL905, cL]]
            exact ⟨rfl, h922, (Mut.mut q918 hm921 (fun k hk => by simp only [InR, or_false] at hk ⊢; omega))⟩
          ·refine sz rfl rfl hb923 (sz rfl rfl hb923 (sz rfl rfl hb923 (sd rfl (yl_pick_f rfl rfl hb923 rfl (dn (CW.cond_f rfl rfl (CW.skip (rn rfl .nil ?_))))))))
           rw [show (g_slices_symMergeCmpFunc_Row (kf + 1) p_0 p_1 p_2 p_3 p_4) = ((g_slices_symMergeCmpFunc_Row kf (g_slices_rotateCmpFunc_Row p_0 x790 p_2 (IntKind.wrap .i64 ((IntKind.wrap .i64 ((IntKind.wrap .i64 (Int.fdiv (IntKind.wrap .u64 (IntKind.wrap .i64 (p_1 + p_3))) 2)) + p_2)) - x790)) p_4) p_1 x790 (IntKind.wrap .i64 (Int.fdiv (IntKind.wrap .u64 (IntKind.wrap .i64 (p_1 + p_3))) 2)) p_4)) by simp only [g_slices_symMergeCmpFunc_Row, hb7, hb264, hb521, hb805, hb907, hb908, hb914, hb915, hb923, hL905, cL]]
           exact ⟨rfl, h922, (Mut.mut q918 hm921 (fun k hk => by simp only [InR, or_false] at hk ⊢; omega))⟩
         ·refine CW.cond_f rfl hb915 (CW.skip (tn (CW.seq (CW.region (sd rfl (yl_move rfl rfl (sd rfl (yl_move rfl rfl (sd rfl (yl_lss rfl rfl rfl (sd rfl (yl_move rfl rfl ?_))))))))))))
          refine bcD (q := (IntKind.wrap .i64 (Int.fdiv (IntKind.wrap .u64 (IntKind.wrap .i64 (p_1 + p_3))) 2)) < (IntKind.wrap .i64 ((IntKind.wrap .i64 ((IntKind.wrap .i64 (Int.fdiv (IntKind.wrap .u64 (IntKind.wrap .i64 (p_1 + p_3))) 2)) + p_2)) - x790))) (fun hb938 hb938p => ?_) (fun hb938 hb938p => ?_)
          ·refine sy rfl rfl hb938 (yl_move rfl rfl (sy rfl rfl hb938 (yl_move rfl rfl (sy rfl rfl hb938 (yl_lss rfl rfl rfl (sd rfl (yl_pick_t rfl rfl hb938 rfl (dn (bcD (q := (IntKind.wrap .i64 ((IntKind.wrap .i64 ((IntKind.wrap .i64 (Int.fdiv (IntKind.wrap .u64 (IntKind.wrap .i64 (p_1 + p_3))) 2)) + p_2)) - x790)) < p_3) (fun hb939 hb939p => ?_) (fun hb939 hb939p => ?_))))))))))
           ·refine CW.cond_t rfl hb939 (CW.region (sd rfl (yl_move rfl rfl (sd rfl (yl_move rfl rfl (sd rfl (yl_move rfl rfl (sd rfl (yl_move rfl rfl (sd rfl (yl_move rfl rfl ?_)))))))))))
            have hle940 := OwnL.len h913
            have hle941 := OwnL.len h913
            have q942 := Mut.mut hf803 hm912 (fun k hk => by simp only [InR, or_false] at hk ⊢; omega)
            refine sd rfl (yl_call en83 rfl (oc rfl (oc rfl (oc rfl (oc rfl (oc rfl oz))))) (Cal.mono (Cal.args (by rw [← hle940] <;> rfl) (ih (g_slices_rotateCmpFunc_Row p_0 x790 p_2 (IntKind.wrap .i64 ((IntKind.wrap .i64 ((IntKind.wrap .i64 (Int.fdiv (IntKind.wrap .u64 (IntKind.wrap .i64 (p_1 + p_3))) 2)) + p_2)) - x790)) p_4) (IntKind.wrap .i64 (Int.fdiv (IntKind.wrap .u64 (IntKind.wrap .i64 (p_1 + p_3))) 2)) (IntKind.wrap .i64 ((IntKind.wrap .i64 ((IntKind.wrap .i64 (Int.fdiv (IntKind.wrap .u64 (IntKind.wrap .i64 (p_1 + p_3))) 2)) + p_2)) - x790)) p_3 p_4 hcl (OwnL.fix h913) hen4 (fun w1 y0 y1 => fun hN hE => hfn5 w1 y0 y1 (by omega) (Mut.mut q942 hE (fun k hk => by simp only [InR, or_false] at hk ⊢; omega))) (by omega) (by first | omega | assumption | (simp only [wI] at *; omega)) (by first | omega | assumption | (simp only [wI] at *; omega)))) ?_))
            rintro v944 w943 ⟨rfl, h946, hm945⟩
            have hm945z := Mut.size hm945
            have h946 := OwnL.ren hle940 h946
            refine SeqR.done (rn rfl .nil ?_)
            rw [show (g_slices_symMergeCmpFunc_Row (kf + 1) p_0 p_1 p_2 p_3 p_4) = ((g_slices_symMergeCmpFunc_Row kf (g_slices_rotateCmpFunc_Row p_0 x790 p_2 (IntKind.wrap .i64 ((IntKind.wrap .i64 ((IntKind.wrap .i64 (Int.fdiv (IntKind.wrap .u64 (IntKind.wrap .i64 (p_1 + p_3))) 2)) + p_2)) - x790)) p_4) (IntKind.wrap .i64 (Int.fdiv (IntKind.wrap .u64 (IntKind.wrap .i64 (p_1 + p_3))) 2)) (IntKind.wrap .i64 ((IntKind.wrap .i64 ((IntKind.wrap .i64 (Int.fdiv (IntKind.wrap .u64 (IntKind.wrap .i64 (p_1 + p_3))) 2)) + p_2)) - x790)) p_3 p_4)) by simp only [g_slices_symMergeCmpFunc_Row, hb7, hb264, hb521, hb805, hb907, hb908, hb914, hb915, hb938, hb939, hL905, cL]]
            exact ⟨rfl, h946, (Mut.mut q942 hm945 (fun k hk => by simp only [InR, or_false] at hk ⊢; omega))⟩
           ·refine CW.cond_f rfl hb939 (CW.skip (rn rfl .nil ?_))
            rw [show (g_slices_symMergeCmpFunc_Row (kf + 1) p_0 p_1 p_2 p_3 p_4) = ((g_slices_rotateCmpFunc_Row p_0 x790 p_2 (IntKind.wrap .i64 ((IntKind.wrap .i64 ((IntKind.wrap .i64 (Int.fdiv (IntKind.wrap .u64 (IntKind.wrap .i64 (p_1 + p_3))) 2)) + p_2)) - x790)) p_4)) by simp only [g_slices_symMergeCmpFunc_Row, hb7, hb264, hb521, hb805, hb907, hb908, hb914, hb915, hb938, hb939, hL905, cL]]
            exact ⟨rfl, h913, (Mut.mut hf803 hm912 (fun k hk => by simp only [InR, or_false] at hk ⊢; omega))⟩
          ·refine sz rfl rfl hb938 (sz rfl rfl hb938 (sz rfl rfl hb938 (sd rfl (yl_pick_f rfl rfl hb938 rfl (dn (CW.cond_f rfl rfl (CW.skip (rn rfl .nil ?_))))))))
           rw [show (g_slices_symMergeCmpFunc_Row (kf + 1) p_0 p_1 p_2 p_3 p_4) = ((g_slices_rotateCmpFunc_Row p_0 x790 p_2 (IntKind.wrap .i64 ((IntKind.wrap .i64 ((IntKind.wrap .i64 (Int.fdiv (IntKind.wrap .u64 (IntKind.wrap .i64 (p_1 + p_3))) 2)) + p_2)) - x790)) p_4)) by simp only [g_slices_symMergeCmpFunc_Row, hb7, hb264, hb521, hb805, hb907, hb908, hb914, hb915, hb938, hL905, cL]]
           exact ⟨rfl, h913, (Mut.mut hf803 hm912 (fun k hk => by simp only [InR, or_false] at hk ⊢; omega))⟩
        ·refine sz rfl rfl hb914 (sz rfl rfl hb914 (sz rfl rfl hb914 (sd rfl (yl_pick_f rfl rfl hb914 rfl (dn (CW.cond_f rfl rfl (CW.skip (tn ?_))))))))
         refine CW.seq (CW.region (sd rfl (yl_move rfl rfl (sd rfl (yl_move rfl rfl (sd rfl (yl_lss rfl rfl rfl (sd rfl (yl_move rfl rfl (bcD (q := (IntKind.wrap .i64 (Int.fdiv (IntKind.wrap .u64 (IntKind.wrap .i64 (p_1 + p_3))) 2)) < (IntKind.wrap .i64 ((IntKind.wrap .i64 ((IntKind.wrap .i64 (Int.fdiv (IntKind.wrap .u64 (IntKind.wrap .i64 (p_1 + p_3))) 2)) + p_2)) - x790))) (fun hb953 hb953p => ?_) (fun hb953 hb953p => ?_)))))))))))
         ·refine sy rfl rfl hb953 (yl_move rfl rfl (sy rfl rfl hb953 (yl_move rfl rfl (sy rfl rfl hb953 (yl_lss rfl rfl rfl (sd rfl (yl_pick_t rfl rfl hb953 rfl (dn (bcD (q := (IntKind.wrap .i64 ((IntKind.wrap .i64 ((IntKind.wrap .i64 (Int.fdiv (IntKind.wrap .u64 (IntKind.wrap .i64 (p_1 + p_3))) 2)) + p_2)) - x790)) < p_3) (fun hb954 hb954p => ?_) (fun hb954 hb954p => ?_))))))))))
          ·refine CW.cond_t rfl hb954 (CW.region (sd rfl (yl_move rfl rfl (sd rfl (yl_move rfl rfl (sd rfl (yl_move rfl rfl (sd rfl (yl_move rfl rfl (sd rfl (yl_move rfl rfl ?_)))))))))))
           have hle955 := OwnL.len h913
           have hle956 := OwnL.len h913
           have q957 := Mut.mut hf803 hm912 (fun k hk => by simp only [InR, or_false] at hk ⊢; omega)
           refine sd rfl (yl_call en83 rfl (oc rfl (oc rfl (oc rfl (oc rfl (oc rfl oz))))) (Cal.mono (Cal.args (by rw [← hle955] <;> rfl) (ih (g_slices_rotateCmpFunc_Row p_0 x790 p_2 (IntKind.wrap .i64 ((IntKind.wrap .i64 ((IntKind.wrap .i64 (Int.fdiv (IntKind.wrap .u64 (IntKind.wrap .i64 (p_1 + p_3))) 2)) + p_2)) - x790)) p_4) (IntKind.wrap .i64 (Int.fdiv (IntKind.wrap .u64 (IntKind.wrap .i64 (p_1 + p_3))) 2)) (IntKind.wrap .i64 ((IntKind.wrap .i64 ((IntKind.wrap .i64 (Int.fdiv (IntKind.wrap .u64 (IntKind.wrap .i64 (p_1 + p_3))) 2)) + p_2)) - x790)) p_3 p_4 hcl (OwnL.fix h913) hen4 (fun w1 y0 y1 => fun hN hE => hfn5 w1 y0 y1 (by omega) (Mut.mut q957 hE (fun k hk => by simp only [InR, or_false] at hk ⊢; omega))) (by omega) (by first | omega | assumption | (simp only [wI] at *; omega)) (by first | omega | assumption | (simp only [wI] at *; omega)))) ?_))
           rintro v959 w958 ⟨rfl, h961, hm960⟩
           have hm960z := Mut.size hm960
           have h961 := OwnL.ren hle955 h961
           refine SeqR.done (rn rfl .nil ?_)
           rw [show (g_slices_symMergeCmpFunc_Row (kf + 1) p_0 p_1 p_2 p_3 p_4) = ((g_slices_symMergeCmpFunc_Row kf (g_slices_rotateCmpFunc_Row p_0 x790 p_2 (IntKind.wrap .i64 ((IntKind.wrap .i64 ((IntKind.wrap .i64 (Int.fdiv (IntKind.wrap .u64 (IntKind.wrap .i64 (p_1 + p_3))) 2)) + p_2)) - x790)) p_4) (IntKind.wrap .i64 (Int.fdiv (IntKind.wrap .u64 (IntKind.wrap .i64 (p_1 + p_3))) 2)) (IntKind.wrap .i64 ((IntKind.wrap .i64 ((IntKind.wrap .i64 (Int.fdiv (IntKind.wrap .u64 (IntKind.wrap .i64 (p_1 + p_3))) 2)) + p_2)) - x790)) p_3 p_4)) by simp only [g_slices_symMergeCmpFunc_Row, hb7, hb264, hb521, hb805, hb907, hb908, hb914, hb953, hb954, hL905, cL]]
           exact ⟨rfl, h961, (Mut.mut q957 hm960 (fun k hk => by simp only [InR, or_false] at hk ⊢; omega))⟩
          ·refine CW.cond_f rfl hb954 (CW.skip (rn rfl .nil ?_))
           rw [show (g_slices_symMergeCmpFunc_Row (kf + 1) p_0 p_1 p_2 p_3 p_4) = ((g_slices_rotateCmpFunc_Row p_0 x790 p_2 (IntKind.wrap .i64 ((IntKind.wrap .i64 ((IntKind.wrap .i64 (Int.fdiv (IntKind.wrap .u64 (IntKind.wrap .i64 (p_1 + p_3))) 2)) + p_2)) - x790)) p_4)) by simp only [g_slices_symMergeCmpFunc_Row, hb7, hb264, hb521, hb805, hb907, hb908, hb914, hb953, hb954, hL905, cL]]
           exact ⟨rfl, h913, (Mut.mut hf803 hm912 (fun k hk => by simp only [InR, or_false] at hk ⊢; omega))⟩
         ·refine sz rfl rfl hb953 (sz rfl rfl hb953 (sz rfl rfl hb953 (sd rfl (yl_pick_f rfl rfl hb953 rfl (dn (CW.cond_f rfl rfl (CW.skip (rn rfl .nil ?_))))))))
          rw [show (g_slices_symMergeCmpFunc_Row (kf + 1) p_0 p_1 p_2 p_3 p_4) = ((g_slices_rotateCmpFunc_Row p_0 x790 p_2 (IntKind.wrap .i64 ((IntKind.wrap .i64 ((IntKind.wrap .i64 (Int.fdiv (IntKind.wrap .u64 (IntKind.wrap .i64 (p_1 + p_3))) 2)) + p_2)) - x790)) p_4)) by simp only [g_slices_symMergeCmpFunc_Row, hb7, hb264, hb521, hb805, hb907, hb908, hb914, hb953, hL905, cL]]
          exact ⟨rfl, h913, (Mut.mut hf803 hm912 (fun k hk => by simp only [InR, or_false] at hk ⊢; omega))⟩
       ·refine CW.cond_f rfl hb908 (CW.skip (tn (CW.seq (CW.seq (CW.region (sd rfl (yl_move rfl rfl (sd rfl (yl_move rfl rfl (sd rfl (yl_lss rfl rfl rfl ?_)))))))))))
        refine sd rfl (yl_move rfl rfl (bcD (q := p_1 < x790) (fun hb968 hb968p => ?_) (fun hb968 hb968p => ?_)))
        ·refine sy rfl rfl hb968 (yl_move rfl rfl (sy rfl rfl hb968 (yl_move rfl rfl (sy rfl rfl hb968 (yl_lss rfl rfl rfl (sd rfl (yl_pick_t rfl rfl hb968 rfl (dn (bcD (q := x790 < (IntKind.wrap .i64 (Int.fdiv (IntKind.wrap .u64 (IntKind.wrap .i64 (p_1 + p_3))) 2))) (fun hb969 hb969p => ?_) (fun hb969 hb969p => ?_))))))))))
         ·refine CW.cond_t rfl hb969 (CW.region (sd rfl (yl_move rfl rfl (sd rfl (yl_move rfl rfl (sd rfl (yl_move rfl rfl (sd rfl (yl_move rfl rfl (sd rfl (yl_move rfl rfl ?_)))))))))))
          have hle970 := OwnL.len hf802
          refine sd rfl (yl_call en83 rfl (oc rfl (oc rfl (oc rfl (oc rfl (oc rfl oz))))) (Cal.mono (ih p_0 p_1 x790 (IntKind.wrap .i64 (Int.fdiv (IntKind.wrap .u64 (IntKind.wrap .i64 (p_1 + p_3))) 2)) p_4 hcl hf802 hen4 (fun w1 y0 y1 => fun hN hE => hfn5 w1 y0 y1 (by omega) (Mut.mut hf803 hE (fun k hk => by simp only [InR, or_false] at hk ⊢; omega))) (by omega) (by first | omega | assumption | (simp only [wI] at *; omega)) (by first | omega | assumption | (simp only [wI] at *; omega))) ?_))
          rintro v972 w971 ⟨rfl, h974, hm973⟩
          have hm973z := Mut.size hm973
          refine dn (CW.seq (CW.region (sd rfl (yl_move rfl rfl (sd rfl (yl_move rfl rfl (sd rfl (yl_lss rfl rfl rfl (sd rfl (yl_move rfl rfl (bcD (q := (IntKind.wrap .i64 (Int.fdiv (IntKind.wrap .u64 (IntKind.wrap .i64 (p_1 + p_3))) 2)) < (IntKind.wrap .i64 ((IntKind.wrap .i64 ((IntKind.wrap .i64 (Int.fdiv (IntKind.wrap .u64 (IntKind.wrap .i64 (p_1 + p_3))) 2)) + p_2)) - x790))) (fun hb975 hb975p => ?_) (fun hb975 hb975p => ?_))))))))))))
          ·refine sy rfl rfl hb975 (yl_move rfl rfl (sy rfl rfl hb975 (yl_move rfl rfl (sy rfl rfl hb975 (yl_lss rfl rfl rfl (sd rfl (yl_pick_t rfl rfl hb975 rfl (dn (bcD (q := (IntKind.wrap .i64 ((IntKind.wrap .i64 ((IntKind.wrap .i64 (Int.fdiv (IntKind.wrap .u64 (IntKind.wrap .i64 (p_1 + p_3))) 2)) + p_2)) - x790)) < p_3) (fun hb976 hb976p => ?_) (fun hb976 hb976p => ?_))))))))))
           ·refine CW.cond_t rfl hb976 (CW.region (sd rfl (yl_move rfl rfl (sd rfl (yl_move rfl rfl (sd rfl (yl_move rfl rfl (sd rfl (yl_move rfl rfl (sd rfl (yl_move rfl rfl ?_)))))))))))
            have hle977 := OwnL.len h974
            have hle978 := OwnL.len h974
            have q979 := Mut.mut hf803 hm973 (fun k hk => by simp only [InR, or_false] at hk ⊢; omega)
            refine sd rfl (yl_call en83 rfl (oc rfl (oc rfl (oc rfl (oc rfl (oc rfl oz))))) (Cal.mono (Cal.args (by rw [← hle977] <;> rfl) (ih (g_slices_symMergeCmpFunc_Row kf p_0 p_1 x790 (IntKind.wrap .i64 (Int.fdiv (IntKind.wrap .u64 (IntKind.wrap .i64 (p_1 + p_3))) 2)) p_4) (IntKind.wrap .i64 (Int.fdiv (IntKind.wrap .u64 (IntKind.wrap .i64 (p_1 + p_3))) 2)) (IntKind.wrap .i64 ((IntKind.wrap .i64 ((IntKind.wrap .i64 (Int.fdiv (IntKind.wrap .u64 (IntKind.wrap .i64 (p_1 + p_3))) 2)) + p_2)) - x790)) p_3 p_4 hcl (OwnL.fix h974) hen4 (fun w1 y0 y1 => fun hN hE => hfn5 w1 y0 y1 (by omega) (Mut.mut q979 hE (fun k hk => by simp only [InR, or_false] at hk ⊢; omega))) (by omega) (by first | omega | assumption | (simp only [wI] at *; omega)) (by first | omega | assumption | (simp only [wI] at *; omega)))) ?_))
            rintro v981 w980 ⟨rfl, h983, hm982⟩
            have hm982z := Mut.size hm982
            have h983 := OwnL.ren hle977 h983
            refine SeqR.done (rn rfl .nil ?_)
            rw [show (g_slices_symMergeCmpFunc_Row (kf + 1) p_0 p_1 p_2 p_3 p_4) = ((g_slices_symMergeCmpFunc_Row kf (g_slices_symMergeCmpFunc_Row kf p_0 p_1 x790 (IntKind.wrap .i64 (Int.fdiv (IntKind.wrap .u64 (IntKind.wrap .i64 (p_1 + p_3))) 2)) p_4) (IntKind.wrap .i64 (Int.fdiv (IntKind.wrap .u64 (IntKind.wrap .i64 (p_1 + p_3))) 2)) (IntKind.wrap .i64 ((IntKind.wrap .i64 ((IntKind.wrap .i64 (Int.fdiv (IntKind.wrap .u64 (IntKind.wrap .i64 (p_1 + p_3))) 2)) + p_2)) - x790)) p_3 p_4)) by simp only [g_slices_symMergeCmpFunc_Row, hb7, hb264, hb521, hb805, hb907, hb908, hb968, hb969, hb975, hb976, hL905, cL]]
            exact ⟨rfl, h983, (Mut.mut q979 hm982 (fun k hk => by simp only [InR, or_false] at hk ⊢; omega))⟩
           ·refine CW.cond_f rfl hb976 (CW.skip (rn rfl .nil ?_))
            rw [show (g_slices_symMergeCmpFunc_Row (kf + 1) p_0 p_1 p_2 p_3 p_4) = ((g_slices_symMergeCmpFunc_Row kf p_0 p_1 x790 (IntKind.wrap .i64 (Int.fdiv (IntKind.wrap .u64 (IntKind.wrap .i64 (p_1 + p_3))) 2)) p_4)) by simp only [g_slices_symMergeCmpFunc_Row, hb7, hb264, hb521, hb805, hb907, hb908, hb968, hb969, hb975, hb976, hL905, cL]]
            exact ⟨rfl, h974, (Mut.mut hf803 hm973 (fun k hk => by simp only [InR, or_false] at hk ⊢; omega))⟩
          ·refine sz rfl rfl hb975 (sz rfl rfl hb975 (sz rfl rfl hb975 (sd rfl (yl_pick_f rfl rfl hb975 rfl (dn (CW.cond_f rfl rfl (CW.skip (rn rfl .nil ?_))))))))
           rw [show (g_slices_symMergeCmpFunc_Row (kf + 1) p_0 p_1 p_2 p_3 p_4) = ((g_slices_symMergeCmpFunc_Row kf p_0 p_1 x790 (IntKind.wrap .i64 (Int.fdiv (IntKind.wrap .u64 (IntKind.wrap .i64 (p_1 + p_3))) 2)) p_4)) by simp only [g_slices_symMergeCmpFunc_Row, hb7, hb264, hb521, hb805, hb907, hb908, hb968, hb969, hb975, hL905, cL]]
           exact ⟨rfl, h974, (Mut.mut hf803 hm973 (fun k hk => by simp only [InR, or_false] at hk ⊢; omega))⟩
         ·refine CW.cond_f rfl hb969 (CW.skip (tn (CW.seq (CW.region (sd rfl (yl_move rfl rfl (sd rfl (yl_move rfl rfl (sd rfl (yl_lss rfl rfl rfl (sd rfl (yl_move rfl rfl ?_))))))))))))
          refine bcD (q := (IntKind.wrap .i64 (Int.fdiv (IntKind.wrap .u64 (IntKind.wrap .i64 (p_1 + p_3))) 2)) < (IntKind.wrap .i64 ((IntKind.wrap .i64 ((IntKind.wrap .i64 (Int.fdiv (IntKind.wrap .u64 (IntKind.wrap .i64 (p_1 + p_3))) 2)) + p_2)) - x790))) (fun hb990 hb990p => ?_) (fun hb990 hb990p => ?_)
          ·refine sy rfl rfl hb990 (yl_move rfl rfl (sy rfl rfl hb990 (yl_move rfl rfl (sy rfl rfl hb990 (yl_lss rfl rfl rfl (sd rfl (yl_pick_t rfl rfl hb990 rfl (dn (bcD (q := (IntKind.wrap .i64 ((IntKind.wrap .i64 ((IntKind.wrap .i64 (Int.fdiv (IntKind.wrap .u64 (IntKind.wrap .i64 (p_1 + p_3))) 2)) + p_2)) - x790)) < p_3) (fun hb991 hb991p => ?_) (fun hb991 hb991p => ?_))))))))))
           ·refine CW.cond_t rfl hb991 (CW.region (sd rfl (yl_move rfl rfl (sd rfl (yl_move rfl rfl (sd rfl (yl_move rfl rfl (sd rfl (yl_move rfl rfl (sd rfl (yl_move rfl rfl ?_)))))))))))
            have hle992 := OwnL.len hf802
            refine sd rfl (yl_call en83 rfl (oc rfl (oc rfl (oc rfl (oc rfl (oc rfl oz))))) (Cal.mono (ih p_0 (IntKind.wrap .i64 (Int.fdiv (IntKind.wrap .u64 (IntKind.wrap .i64 (p_1 + p_3))) 2)) (IntKind.wrap .i64 ((IntKind.wrap .i64 ((IntKind.wrap .i64 (Int.fdiv (IntKind.wrap .u64 (IntKind.wrap .i64 (p_1 + p_3))) 2)) + p_2)) - x790)) p_3 p_4 hcl hf802 hen4 (fun w1 y0 y1 => fun hN hE => hfn5 w1 y0 y1 (by omega) (Mut.mut hf803 hE (fun k hk => by simp only [InR, or_false] at hk ⊢; omega))) (by omega) (by first | omega | assumption | (simp only [wI] at *; omega)) (by first | omega | assumption | (simp only [wI] at *; omega))) ?_))
            rintro v994 w993 ⟨rfl, h996, hm995⟩
            have hm995z := Mut.size hm995
            refine SeqR.done (rn rfl .nil ?_)
            rw [show (g_slices_symMergeCmpFunc_Row (kf + 1) p_0 p_1 p_2 p_3 p_4) = ((g_slices_symMergeCmpFunc_Row kf p_0 (IntKind.wrap .i64 (Int.fdiv (IntKind.wrap .u64 (IntKind.wrap .i64 (p_1 + p_3))) 2)) (IntKind.wrap .i64 ((IntKind.wrap .i64 ((IntKind.wrap .i64 (Int.fdiv (IntKind.wrap .u64 (IntKind.wrap .i64 (p_1 + p_3))) 2)) + p_2)) - x790)) p_3 p_4)) by simp only [g_slices_symMergeCmpFunc_Row, hb7, hb264, hb521, hb805, hb907, hb908, hb968, hb969, hb990, hb991, hL905, cL]]
            exact ⟨rfl, h996, (Mut.mut hf803 hm995 (fun k hk => by simp only [InR, or_false] at hk ⊢; omega))⟩
           ·refine CW.cond_f rfl hb991 (CW.skip (rn rfl .nil ?_))
            rw [show (g_slices_symMergeCmpFunc_Row (kf + 1) p_0 p_1 p_2 p_3 p_4) = (p_0) by simp only [g_slices_symMergeCmpFunc_Row, hb7, hb264, hb521, hb805, hb907, hb908, hb968, hb969, hb990, hb991, hL905, cL]]
            exact ⟨rfl, hf802, hf803⟩
          ·refine sz rfl rfl hb990 (sz rfl rfl hb990 (sz rfl rfl hb990 (sd rfl (yl_pick_f rfl rfl hb990 rfl (dn (CW.cond_f rfl rfl (CW.skip (rn rfl .nil ?_))))))))
           rw [show (g_slices_symMergeCmpFunc_Row (kf + 1) p_0 p_1 p_2 p_3 p_4) = (p_0) by simp only [g_slices_symMergeCmpFunc_Row, hb7, hb264, hb521, hb805, hb907, hb908, hb968, hb969, hb990, hL905, cL]]
           exact ⟨rfl, hf802, hf803⟩
        ·refine sz rfl rfl hb968 (sz rfl rfl hb968 (sz rfl rfl hb968 (sd rfl (yl_pick_f rfl rfl hb968 rfl (dn (CW.cond_f rfl rfl (CW.skip (tn ?_))))))))
         refine CW.seq (CW.region (sd rfl (yl_move rfl rfl (sd rfl (yl_move rfl rfl (sd rfl (yl_lss rfl rfl rfl (sd rfl (yl_move rfl rfl (bcD (q := (IntKind.wrap .i64 (Int.fdiv (IntKind.wrap .u64 (IntKind.wrap .i64 (p_1 + p_3))) 2)) < (IntKind.wrap .i64 ((IntKind.wrap .i64 ((IntKind.wrap .i64 (Int.fdiv (IntKind.wrap .u64 (IntKind.wrap .i64 (p_1 + p_3))) 2)) + p_2)) - x790))) (fun hb1001 hb1001p => ?_) (fun hb1001 hb1001p => ?_)))))))))))
         ·refine sy rfl rfl hb1001 (yl_move rfl rfl (sy rfl rfl hb1001 (yl_move rfl rfl (sy rfl rfl hb1001 (yl_lss rfl rfl rfl (sd rfl (yl_pick_t rfl rfl hb1001 rfl (dn (bcD (q := (IntKind.wrap .i64 ((IntKind.wrap .i64 ((IntKind.wrap .i64 (Int.fdiv (IntKind.wrap .u64 (IntKind.wrap .i64 (p_1 + p_3))) 2)) + p_2)) - x790)) < p_3) (fun hb1002 hb1002p => ?_) (fun hb1002 hb1002p => ?_))))))))))
          ·refine CW.cond_t rfl hb1002 (CW.region (sd rfl (yl_move rfl rfl (sd rfl (yl_move rfl rfl (sd rfl (yl_move rfl rfl (sd rfl (yl_move rfl rfl (sd rfl (yl_move rfl rfl ?_)))))))))))
           have hle1003 := OwnL.len hf802
           refine sd rfl (yl_call en83 rfl (oc rfl (oc rfl (oc rfl (oc rfl (oc rfl oz))))) (Cal.mono (ih p_0 (IntKind.wrap .i64 (Int.fdiv (IntKind.wrap .u64 (IntKind.wrap .i64 (p_1 + p_3))) 2)) (IntKind.wrap .i64 ((IntKind.wrap .i64 ((IntKind.wrap .i64 (Int.fdiv (IntKind.wrap .u64 (IntKind.wrap .i64 (p_1 + p_3))) 2)) + p_2)) - x790)) p_3 p_4 hcl hf802 hen4 (fun w1 y0 y1 => fun hN hE => hfn5 w1 y0 y1 (by omega) (Mut.mut hf803 hE (fun k hk => by simp only [InR, or_false] at hk ⊢; omega))) (by omega) (by first | omega | assumption | (simp only [wI] at *; omega)) (by first | omega | assumption | (simp only [wI] at *; omega))) ?_))
           rintro v1005 w1004 ⟨rfl, h1007, hm1006⟩
           have hm1006z := Mut.size hm1006
           refine SeqR.done (rn rfl .nil ?_)
           rw [show (g_slices_symMergeCmpFunc_Row (kf + 1) p_0 p_1 p_2 p_3 p_4) = ((g_slices_symMergeCmpFunc_Row kf p_0 (IntKind.wrap .i64 (Int.fdiv (IntKind.wrap .u64 (IntKind.wrap .i64 (p_1 + p_3))) 2)) (IntKind.wrap .i64 ((IntKind.wrap .i64 ((IntKind.wrap .i64 (Int.fdiv (IntKind.wrap .u64 (IntKind.wrap .i64 (p_1 + p_3))) 2)) + p_2)) - x790)) p_3 p_4)) by simp only [g_slices_symMergeCmpFunc_Row, hb7, hb264, hb521, hb805, hb907, hb908, hb968, hb1001, hb1002, hL905, cL]]
           exact ⟨rfl, h1007, (Mut.mut hf803 hm1006 (fun k hk => by simp only [InR, or_false] at hk ⊢; omega))⟩
          ·refine CW.cond_f rfl hb1002 (CW.skip (rn rfl .nil ?_))
           rw [show (g_slices_symMergeCmpFunc_Row (kf + 1) p_0 p_1 p_2 p_3 p_4) = (p_0) by simp only [g_slices_symMergeCmpFunc_Row, hb7, hb264, hb521, hb805, hb907, hb908, hb968, hb1001, hb1002, hL905, cL]]
           exact ⟨rfl, hf802, hf803⟩
         ·refine sz rfl rfl hb1001 (sz rfl rfl hb1001 (sz rfl rfl hb1001 (sd rfl (yl_pick_f rfl rfl hb1001 rfl (dn (CW.cond_f rfl rfl (CW.skip (rn rfl .nil ?_))))))))
          rw [show (g_slices_symMergeCmpFunc_Row (kf + 1) p_0 p_1 p_2 p_3 p_4) = (p_0) by simp only [g_slices_symMergeCmpFunc_Row, hb7, hb264, hb521, hb805, hb907, hb908, hb968, hb1001, hL905, cL]]
          exact ⟨rfl, hf802, hf803⟩
      ·refine sz rfl rfl hb907 (sz rfl rfl hb907 (sz rfl rfl hb907 (sd rfl (yl_pick_f rfl rfl hb907 rfl (dn (CW.cond_f rfl rfl (CW.skip (tn ?_))))))))
       refine CW.seq (CW.seq (CW.region (sd rfl (yl_move rfl rfl (sd rfl (yl_move rfl rfl (sd rfl (yl_lss rfl rfl rfl (sd rfl (yl_move rfl rfl (bcD (q := p_1 < x790) (fun hb1012 hb1012p => ?_) (fun hb1012 hb1012p => ?_))))))))))))
       ·refine sy rfl rfl hb1012 (yl_move rfl rfl (sy rfl rfl hb1012 (yl_move rfl rfl (sy rfl rfl hb1012 (yl_lss rfl rfl rfl (sd rfl (yl_pick_t rfl rfl hb1012 rfl (dn (bcD (q := x790 < (IntKind.wrap .i64 (Int.fdiv (IntKind.wrap .u64 (IntKind.wrap .i64 (p_1 + p_3))) 2))) (fun hb1013 hb1013p => ?_) (fun hb1013 hb1013p => ?_))))))))))
        ·refine CW.cond_t rfl hb1013 (CW.region (sd rfl (yl_move rfl rfl (sd rfl (yl_move rfl rfl (sd rfl (yl_move rfl rfl (sd rfl (yl_move rfl rfl (sd rfl (yl_move rfl rfl ?_)))))))))))
         have hle1014 := OwnL.len hf802
         refine sd rfl (yl_call en83 rfl (oc rfl (oc rfl (oc rfl (oc rfl (oc rfl oz))))) (Cal.mono (ih p_0 p_1 x790 (IntKind.wrap .i64 (Int.fdiv (IntKind.wrap .u64 (IntKind.wrap .i64 (p_1 + p_3))) 2)) p_4 hcl hf802 hen4 (fun w1 y0 y1 => fun hN hE => hfn5 w1 y0 y1 (by omega) (Mut.mut hf803 hE (fun k hk => by simp only [InR, or_false] at hk ⊢; omega))) (by omega) (by first | omega | assumption | (simp only [wI] at *; omega)) (by first | omega | assumption | (simp only [wI] at *; omega))) ?_))
         rintro v1016 w1015 ⟨rfl, h1018, hm1017⟩
         have hm1017z := Mut.size hm1017
         refine dn (CW.seq (CW.region (sd rfl (yl_move rfl rfl (sd rfl (yl_move rfl rfl (sd rfl (yl_lss rfl rfl rfl (sd rfl (yl_move rfl rfl (bcD (q := (IntKind.wrap .i64 (Int.fdiv (IntKind.wrap .u64 (IntKind.wrap .i64 (p_1 + p_3))) 2)) < (IntKind.wrap .i64 ((IntKind.wrap .i64 ((IntKind.wrap .i64 (Int.fdiv (IntKind.wrap .u64 (IntKind.wrap .i64 (p_1 + p_3))) 2)) + p_2)) - x790))) (fun hb1019 hb1019p => ?_) (fun hb1019 hb1019p => ?_))))))))))))
         ·refine sy rfl rfl hb1019 (yl_move rfl rfl (sy rfl rfl hb1019 (yl_move rfl rfl (sy rfl rfl hb1019 (yl_lss rfl rfl rfl (sd rfl (yl_pick_t rfl rfl hb1019 rfl (dn (bcD (q := (IntKind.wrap .i64 ((IntKind.wrap .i64 ((IntKind.wrap .i64 (Int.fdiv (IntKind.wrap .u64 (IntKind.wrap .i64 (p_1 + p_3))) 2)) + p_2)) - x790)) < p_3) (fun hb1020 hb1020p => ?_) (fun hb1020 hb1020p => ?_))))))))))
          ·refine CW.cond_t rfl hb1020 (CW.region (sd rfl (yl_move rfl rfl (sd rfl (yl_move rfl rfl (sd rfl (yl_move rfl rfl (sd rfl (yl_move rfl rfl (sd rfl (yl_move rfl rfl ?_)))))))))))
           have hle1021 := OwnL.len h1018
           have hle1022 := OwnL.len h1018
           have q1023 := Mut.mut hf803 hm1017 (fun k hk => by simp only [InR, or_false] at hk ⊢; omega)
           refine sd rfl (yl_call en83 rfl (oc rfl (oc rfl (oc rfl (oc rfl (oc rfl oz))))) (Cal.mono (Cal.args (by rw [← hle1021] <;> rfl) (ih (g_slices_symMergeCmpFunc_Row kf p_0 p_1 x790 (IntKind.wrap .i64 (Int.fdiv (IntKind.wrap .u64 (IntKind.wrap .i64 (p_1 + p_3))) 2)) p_4) (IntKind.wrap .i64 (Int.fdiv (IntKind.wrap .u64 (IntKind.wrap .i64 (p_1 + p_3))) 2)) (IntKind.wrap .i64 ((IntKind.wrap .i64 ((IntKind.wrap .i64 (Int.fdiv (IntKind.wrap .u64 (IntKind.wrap .i64 (p_1 + p_3))) 2)) + p_2)) - x790)) p_3 p_4 hcl (OwnL.fix h1018) hen4 (fun w1 y0 y1 => fun hN hE => hfn5 w1 y0 y1 (by omega) (Mut.mut q1023 hE (fun k hk => by simp only [InR, or_false] at hk ⊢; omega))) (by omega) (by first | omega | assumption | (simp only [wI] at *; omega)) (by first | omega | assumption | (simp only [wI] at *; omega)))) ?_))
           rintro v1025 w1024 ⟨rfl, h1027, hm1026⟩
           have hm1026z := Mut.size hm1026
           have h1027 := OwnL.ren hle1021 h1027
           refine SeqR.done (rn rfl .nil ?_)
           rw [show (g_slices_symMergeCmpFunc_Row (kf + 1) p_0 p_1 p_2 p_3 p_4) = ((g_slices_symMergeCmpFunc_Row kf (g_slices_symMergeCmpFunc_Row kf p_0 p_1 x790 (IntKind.wrap .i64 (Int.fdiv (IntKind.wrap .u64 (IntKind.wrap .i64 (p_1 + p_3))) 2)) p_4) (IntKind.wrap .i64 (Int.fdiv (IntKind.wrap .u64 (IntKind.wrap .i64 (p_1 + p_3))) 2)) (IntKind.wrap .i64 ((IntKind.wrap .i64 ((IntKind.wrap .i64 (Int.fdiv (IntKind.wrap .u64 (IntKind.wrap .i64 (p_1 + p_3))) 2)) + p_2)) - x790)) p_3 p_4)) by simp only [g_slices_symMergeCmpFunc_Row, hb7, hb264, hb521, hb805, hb907, hb1012, hb1013, hb1019, hb1020, hL905, cL]]
           exact ⟨rfl, h1027, (Mut.mut q1023 hm1026 (fun k hk => by simp only [InR, or_false] at hk ⊢; omega))⟩
          ·refine CW.cond_f rfl hb1020 (CW.skip (rn rfl .nil ?_))
           rw [show (g_slices_symMergeCmpFunc_Row (kf + 1) p_0 p_1 p_2 p_3 p_4) = ((g_slices_symMergeCmpFunc_Row kf p_0 p_1 x790 (IntKind.wrap .i64 (Int.fdiv (IntKind.wrap .u64 (IntKind.wrap .i64 (p_1 + p_3))) 2)) p_4)) by simp only [g_slices_symMergeCmpFunc_Row, hb7, hb264, hb521, hb805, hb907, hb1012, hb1013, hb1019, hb1020, hL905, cL]]
           exact ⟨rfl, h1018, (Mut.mut hf803 hm1017 (fun k hk => by simp only [InR, or_false] at hk ⊢; omega))⟩
         ·refine sz rfl rfl hb1019 (sz rfl rfl hb1019 (sz rfl rfl hb1019 (sd rfl (yl_pick_f rfl rfl hb1019 rfl (dn (CW.cond_f rfl rfl (CW.skip (rn rfl .nil ?_))))))))
          rw [show (g_slices_symMergeCmpFunc_Row (kf + 1) p_0 p_1 p_2 p_3 p_4) = ((g_slices_symMergeCmpFunc_Row kf p_0 p_1 x790 (IntKind.wrap .i64 (Int.fdiv (IntKind.wrap .u64 (IntKind.wrap .i64 (p_1 + p_3))) 2)) p_4)) by simp only [g_slices_symMergeCmpFunc_Row, hb7, hb264, hb521, hb805, hb907, hb1012, hb1013, hb1019, hL905, cL]]
          exact ⟨rfl, h1018, (Mut.mut hf803 hm1017 (fun k hk => by simp only [InR, or_false] at hk ⊢; omega))⟩
        ·refine CW.cond_f rfl hb1013 (CW.skip (tn (CW.seq (CW.region (sd rfl (yl_move rfl rfl (sd rfl (yl_move rfl rfl (sd rfl (yl_lss rfl rfl rfl (sd rfl (yl_move rfl rfl ?_))))))))))))
         refine bcD (q := (IntKind.wrap .i64 (Int.fdiv (IntKind.wrap .u64 (IntKind.wrap .i64 (p_1 + p_3))) 2)) < (IntKind.wrap .i64 ((IntKind.wrap .i64 ((IntKind.wrap .i64 (Int.fdiv (IntKind.wrap .u64 (IntKind.wrap .i64 (p_1 + p_3))) 2)) + p_2)) - x790))) (fun hb1034 hb1034p => ?_) (fun hb1034 hb1034p => ?_)
         ·refine sy rfl rfl hb1034 (yl_move rfl rfl (sy rfl rfl hb1034 (yl_move rfl rfl (sy rfl rfl hb1034 (yl_lss rfl rfl rfl (sd rfl (yl_pick_t rfl rfl hb1034 rfl (dn (bcD (q := (IntKind.wrap .i64 ((IntKind.wrap .i64 ((IntKind.wrap .i64 (Int.fdiv (IntKind.wrap .u64 (IntKind.wrap .i64 (p_1 + p_3))) 2)) + p_2)) - x790)) < p_3) (fun hb1035 hb1035p => ?_) (fun hb1035 hb1035p => ?_))))))))))
          ·refine CW.cond_t rfl hb1035 (CW.region (sd rfl (yl_move rfl rfl (sd rfl (yl_move rfl rfl (sd rfl (yl_move rfl rfl (sd rfl (yl_move rfl rfl (sd rfl (yl_move rfl rfl ?_)))))))))))
           have hle1036 := OwnL.len hf802
           refine sd rfl (yl_call en83 rfl (oc rfl (oc rfl (oc rfl (oc rfl (oc rfl oz))))) (Cal.mono (ih p_0 (IntKind.wrap .i64 (Int.fdiv (IntKind.wrap .u64 (IntKind.wrap .i64 (p_1 + p_3))) 2)) (IntKind.wrap .i64 ((IntKind.wrap .i64 ((IntKind.wrap .i64 (Int.fdiv (IntKind.wrap .u64 (IntKind.wrap .i64 (p_1 + p_3))) 2)) + p_2)) - x790)) p_3 p_4 hcl hf802 hen4 (fun w1 y0 y1 => fun hN hE => hfn5 w1 y0 y1 (by omega) (Mut.mut hf803 hE (fun k hk => by simp only [InR, or_false] at hk ⊢; omega))) (by omega) (by first | omega | assumption | (simp only [wI] at *; omega)) (by first | omega | assumption | (simp only [wI] at *; omega))) ?_))
           rintro v1038 w1037 ⟨rfl, h1040, hm1039⟩
           have hm1039z := Mut.size hm1039
           refine SeqR.done (rn rfl .nil ?_)
           rw [show (g_slices_symMergeCmpFunc_Row (kf + 1) p_0 p_1 p_2 p_3 p_4) = ((g_slices_symMergeCmpFunc_Row kf p_0 (IntKind.wrap .i64 (Int.fdiv (IntKind.wrap .u64 (IntKind.wrap .i64 (p_1 + p_3))) 2)) (IntKind.wrap .i64 ((IntKind.wrap .i64 ((IntKind.wrap .i64 (Int.fdiv (IntKind.wrap .u64 (IntKind.wrap .i64 (p_1 + p_3))) 2)) + p_2)) - x790)) p_3 p_4)) by simp only [g_slices_symMergeCmpFunc_Row, hb7, hb264, hb521, hb805, hb907, hb1012, hb1013, hb1034, hb1035, hL905, cL]]
           exact ⟨rfl, h1040, (Mut.mut hf803 hm1039 (fun k hk => by simp only [InR, or_false] at hk ⊢; omega))⟩
          ·refine CW.cond_f rfl hb1035 (CW.skip (rn rfl .nil ?_))
           rw [show (g_slices_symMergeCmpFunc_Row (kf + 1) p_0 p_1 p_2 p_3 p_4) = (p_0) by simp only [g_slices_symMergeCmpFunc_Row, hb7, hb264, hb521, hb805, hb907, hb1012, hb1013, hb1034, hb1035, hL905, cL]]
           exact ⟨rfl, hf802, hf803⟩
         ·refine sz rfl rfl hb1034 (sz rfl rfl hb1034 (sz rfl rfl hb1034 (sd rfl (yl_pick_f rfl rfl hb1034 rfl (dn (CW.cond_f rfl rfl (CW.skip (rn rfl .nil ?_))))))))
          rw [show (g_slices_symMergeCmpFunc_Row (kf + 1) p_0 p_1 p_2 p_3 p_4) = (p_0) by simp only [g_slices_symMergeCmpFunc_Row, hb7, hb264, hb521, hb805, hb907, hb1012, hb1013, hb1034, hL905, cL]]
          exact ⟨rfl, hf802, hf803⟩
       ·refine sz rfl rfl hb1012 (sz rfl rfl hb1012 (sz rfl rfl hb1012 (sd rfl (yl_pick_f rfl rfl hb1012 rfl (dn (CW.cond_f rfl rfl (CW.skip (tn ?_))))))))
        refine CW.seq (CW.region (sd rfl (yl_move rfl rfl (sd rfl (yl_move rfl rfl (sd rfl (yl_lss rfl rfl rfl (sd rfl (yl_move rfl rfl (bcD (q := (IntKind.wrap .i64 (Int.fdiv (IntKind.wrap .u64 (IntKind.wrap .i64 (p_1 + p_3))) 2)) < (IntKind.wrap .i64 ((IntKind.wrap .i64 ((IntKind.wrap .i64 (Int.fdiv (IntKind.wrap .u64 (IntKind.wrap .i64 (p_1 + p_3))) 2)) + p_2)) - x790))) (fun hb1045 hb1045p => ?_) (fun hb1045 hb1045p => ?_)))))))))))
        ·refine sy rfl rfl hb1045 (yl_move rfl rfl (sy rfl rfl hb1045 (yl_move rfl rfl (sy rfl rfl hb1045 (yl_lss rfl rfl rfl (sd rfl (yl_pick_t rfl rfl hb1045 rfl (dn (bcD (q := (IntKind.wrap .i64 ((IntKind.wrap .i64 ((IntKind.wrap .i64 (Int.fdiv (IntKind.wrap .u64 (IntKind.wrap .i64 (p_1 + p_3))) 2)) + p_2)) - x790)) < p_3) (fun hb1046 hb1046p => ?_) (fun hb1046 hb1046p => ?_))))))))))
         ·refine CW.cond_t rfl hb1046 (CW.region (sd rfl (yl_move rfl rfl (sd rfl (yl_move rfl rfl (sd rfl (yl_move rfl rfl (sd rfl (yl_move rfl rfl (sd rfl (yl_move rfl rfl ?_)))))))))))
          have hle1047 := OwnL.len hf802
          refine sd rfl (yl_call en83 rfl (oc rfl (oc rfl (oc rfl (oc rfl (oc rfl oz))))) (Cal.mono (ih p_0 (IntKind.wrap .i64 (Int.fdiv (IntKind.wrap .u64 (IntKind.wrap .i64 (p_1 + p_3))) 2)) (IntKind.wrap .i64 ((IntKind.wrap .i64 ((IntKind.wrap .i64 (Int.fdiv (IntKind.wrap .u64 (IntKind.wrap .i64 (p_1 + p_3))) 2)) + p_2)) - x790)) p_3 p_4 hcl hf802 hen4 (fun w1 y0 y1 => fun hN hE => hfn5 w1 y0 y1 (by omega) (Mut.mut hf803 hE (fun k hk => by simp only [InR, or_false] at hk ⊢; omega))) (by omega) (by first | omega | assumption | (simp only [wI] at *; omega)) (by first | omega | assumption | (simp only [wI] at *; omega))) ?_))
          rintro v1049 w1048 ⟨rfl, h1051, hm1050⟩
          have hm1050z := Mut.size hm1050
          refine SeqR.done (rn rfl .nil ?_)
          rw [show (g_slices_symMergeCmpFunc_Row (kf + 1) p_0 p_1 p_2 p_3 p_4) = ((g_slices_symMergeCmpFunc_Row kf p_0 (IntKind.wrap .i64 (Int.fdiv (IntKind.wrap .u64 (IntKind.wrap .i64 (p_1 + p_3))) 2)) (IntKind.wrap .i64 ((IntKind.wrap .i64 ((IntKind.wrap .i64 (Int.fdiv (IntKind.wrap .u64 (IntKind.wrap .i64 (p_1 + p_3))) 2)) + p_2)) - x790)) p_3 p_4)) by simp only [g_slices_symMergeCmpFunc_Row, hb7, hb264, hb521, hb805, hb907, hb1012, hb1045, hb1046, hL905, cL]]
          exact ⟨rfl, h1051, (Mut.mut hf803 hm1050 (fun k hk => by simp only [InR, or_false] at hk ⊢; omega))⟩
         ·refine CW.cond_f rfl hb1046 (CW.skip (rn rfl .nil ?_))
          rw [show (g_slices_symMergeCmpFunc_Row (kf + 1) p_0 p_1 p_2 p_3 p_4) = (p_0) by simp only [g_slices_symMergeCmpFunc_Row, hb7, hb264, hb521, hb805, hb907, hb1012, hb1045, hb1046, hL905, cL]]
          exact ⟨rfl, hf802, hf803⟩
        ·refine sz rfl rfl hb1045 (sz rfl rfl hb1045 (sz rfl rfl hb1045 (sd rfl (yl_pick_f rfl rfl hb1045 rfl (dn (CW.cond_f rfl rfl (CW.skip (rn rfl .nil ?_))))))))
         rw [show (g_slices_symMergeCmpFunc_Row (kf + 1) p_0 p_1 p_2 p_3 p_4) = (p_0) by simp only [g_slices_symMergeCmpFunc_Row, hb7, hb264, hb521, hb805, hb907, hb1012, hb1045, hL905, cL]]
         exact ⟨rfl, hf802, hf803⟩
theorem c_g_slices_stableCmpFunc_Row {cl : Nat → Value} {A1 : Option Addr} {c1 : Nat} {lo1 hi1 : Nat} {g2 : Nat} {cp3 : List Value} {w : World} (p_data : List Nat) (p_n : Int) (p_cmp : Nat → Nat → Int) (hcl : ∀ i, (cl i).oneCell' = true) (h1 : OwnL w lo1 hi1 61 1 (RF (e_Opq cl)) A1 p_data.length c1 p_data) (hen4 : Go.X.Enters Tryz.prog g2) (hfn5 : ∀ (w1 : World) (y0 y1 : Nat), 0 < p_data.length → Mut [(lo1, hi1)] w w1 → Cal Tryz.prog g2 (([.agg #[cl y0], .agg #[cl y1]] : List Value) ++ cp3).toArray w1 fun v w2 => v = .int .i64 (p_cmp y0 y1) ∧ Ex w1 w2) (hrn6 : (0 ≤ lo1 ∧ lo1 ≤ hi1 ∧ hi1 ≤ w.heap.size)) (pre0 : (0 ≤ p_n ∧ p_n ≤ (p_data.length : Int) ∧ (p_data.length : Int) ≤ 1000)) : Cal Tryz.prog 64 #[.slice A1 p_data.length c1, .int .i64 (p_n), .func (.func g2) #[] cp3.toArray] w fun v w' => v = .tuple #[] ∧ OwnL w' lo1 hi1 61 1 (RF (e_Opq cl)) A1 p_data.length c1 (g_slices_stableCmpFunc_Row p_data p_n p_cmp) ∧ Mut [(lo1, hi1)] w w' := by
 refine Cal.of func64 rfl ntmps64 rfl (CW.seq (CW.region (sd rfl (yl_assign rfl rfl (dn (CW.seq (CW.region (sd rfl (yl_move rfl rfl ?_)))))))))
 refine sd rfl (yl_assign rfl rfl (sd rfl (yl_assign rfl rfl (dn (CW.seq (CW.block (CW.loop (fun m19 L20 w21 => ∃ (x16 : Int) (x17 : Int) (x18 : List Nat), ((p_n - x16).toNat) < m19 ∧ w.heap.size ≤ w21.heap.size ∧ Sub [(0, .slice A1 p_data.length c1), (1, .int .i64 (p_n)), (2, .func (.func g2) #[] cp3.toArray), (6, .int .i64 (20)), (7, .int .i64 (x16)), (8, .int .i64 (x17))] L20 ∧ OwnL w21 lo1 hi1 61 1 (RF (e_Opq cl)) A1 p_data.length c1 x18 ∧ Mut [(lo1, hi1)] w w21 ∧ (0 ≤ x16 ∧ x16 ≤ p_n ∧ x17 = x16 + 20) ∧ loopW (B_g_slices_stableCmpFunc_Row_0 p_data p_n p_cmp) m19 (x16, x17, x18) = loopW (B_g_slices_stableCmpFunc_Row_0 p_data p_n p_cmp) (((p_n - 0).toNat) + 1) (0, 20, p_data)) (((p_n - 0).toNat) + 1) ?_ ?_)))))))
 ·exact ⟨0, 20, p_data, Nat.lt_succ_self _, Nat.le_refl _, (sR rfl), h1, (Mut.refl (l := [(lo1, hi1)]) w), (by first | omega | assumption | (simp only [wI] at *; omega)), rfl⟩
 ·rintro m22 L23 w24 ⟨x16, x17, x18, hk25, hsz27, hl28, hf29, hf30, hv31, hI26⟩
  refine CW.sub hl28 ?_
  have hf30z := Mut.size hf30
  refine CW.seq (CW.seq (CW.region (sd rfl (yl_move rfl rfl (sd rfl (yl_move rfl rfl (sd rfl (yl_leq rfl rfl rfl (dn (bcD (q := x17 ≤ p_n) (fun hb32 hb32p => ?_) (fun hb32 hb32p => ?_)))))))))))
  ·refine CW.cond_t rfl hb32 (CW.skip (tn (CW.block (CW.seq (CW.region (sd rfl (yl_move rfl rfl (sd rfl (yl_move rfl rfl (sd rfl (yl_move rfl rfl ?_)))))))))))
   refine sd rfl (yl_move rfl rfl ?_)
   have hle33 := OwnL.len hf29
   have hle34 := OwnL.len hf29
   refine sd rfl (yl_call en82 rfl (oc rfl (oc rfl (oc rfl (oc rfl oz)))) (Cal.mono (Cal.args (by rw [← hle33] <;> rfl) (c_g_slices_insertionSortCmpFunc_Row x18 x16 x17 p_cmp hcl (OwnL.fix hf29) hen4 (fun w1 y0 y1 => fun hN hE => hfn5 w1 y0 y1 (by omega) (Mut.mut hf30 hE (fun k hk => by simp only [InR, or_false] at hk ⊢; omega))) (by omega) (by first | omega | assumption | (simp only [wI] at *; omega)))) ?_))
   rintro v36 w35 ⟨rfl, h38, hm37⟩
   have hm37z := Mut.size hm37
   have h38 := OwnL.ren hle33 h38
   refine dn (CW.seq (CW.region (sd rfl (yl_move rfl rfl (sd rfl (yl_assign rfl rfl (dn (CW.region ?_))))))))
   refine sd rfl (yl_move rfl rfl (sd rfl (yl_move rfl rfl (sd rfl (yl_add rfl rfl rfl (sd rfl (yl_assign rfl rfl (SeqR.done (bn (tn ?_))))))))))
   have hB39 : B_g_slices_stableCmpFunc_Row_0 p_data p_n p_cmp (x16, x17, x18) = .cont (x17, IntKind.wrap .i64 (x17 + 20), (g_slices_insertionSortCmpFunc_Row x18 x16 x17 p_cmp)) := by simp only [B_g_slices_stableCmpFunc_Row_0, hb32, cL]
   have hmu41 : ((p_n - x17).toNat) < ((p_n - x16).toNat) := by first | omega | assumption | (simp only [wI] at *; omega)
   exact ⟨m22 - 1, by omega, x17, IntKind.wrap .i64 (x17 + 20), (g_slices_insertionSortCmpFunc_Row x18 x16 x17 p_cmp), (by omega), (by omega), (sR rfl), h38, (Mut.mut hf30 hm37 (fun k hk => by simp only [InR, or_false] at hk ⊢; omega)), (by first | omega | assumption | (simp only [wI] at *; omega)), (loopW.cont hk25 hB39).symm.trans hI26⟩
  ·refine CW.cond_f rfl hb32 (CW.exit (tx (tx ?_)))
   have hB43 : B_g_slices_stableCmpFunc_Row_0 p_data p_n p_cmp (x16, x17, x18) = .brk (x16, x17, x18) := by simp only [B_g_slices_stableCmpFunc_Row_0, hb32, cL]
   have hL42 : loopW (B_g_slices_stableCmpFunc_Row_0 p_data p_n p_cmp) (((p_n - 0).toNat) + 1) (0, 20, p_data) = .done (x16, x17, x18) := hI26.symm.trans (loopW.brk hk25 hB43)
   refine bx (tn (CW.seq (CW.region (sd rfl (yl_move rfl rfl (sd rfl (yl_move rfl rfl (sd rfl (yl_move rfl rfl (sd rfl (yl_move rfl rfl ?_)))))))))))
   have hle44 := OwnL.len hf29
   have hle45 := OwnL.len hf29
   refine sd rfl (yl_call en82 rfl (oc rfl (oc rfl (oc rfl (oc rfl oz)))) (Cal.mono (Cal.args (by rw [← hle44] <;> rfl) (c_g_slices_insertionSortCmpFunc_Row x18 x16 p_n p_cmp hcl (OwnL.fix hf29) hen4 (fun w1 y0 y1 => fun hN hE => hfn5 w1 y0 y1 (by omega) (Mut.mut hf30 hE (fun k hk => by simp only [InR, or_false] at hk ⊢; omega))) (by omega) (by first | omega | assumption | (simp only [wI] at *; omega)))) ?_))
   rintro v47 w46 ⟨rfl, h49, hm48⟩
   have hm48z := Mut.size hm48
   have h49 := OwnL.ren hle44 h49
   refine dn (CW.block (CW.loop (fun m79 L80 w81 => ∃ (x77 : Int) (x78 : List Nat), ((p_n - x77).toNat) < m79 ∧ w46.heap.size ≤ w81.heap.size ∧ Sub [(0, .slice A1 p_data.length c1), (1, .int .i64 (p_n)), (2, .func (.func g2) #[] cp3.toArray), (6, .int .i64 (x77))] L80 ∧ OwnL w81 lo1 hi1 61 1 (RF (e_Opq cl)) A1 p_data.length c1 x78 ∧ Mut [(lo1, hi1)] w w81 ∧ (20 ≤ x77 ∧ x77 ≤ 2000) ∧ loopW (B_g_slices_stableCmpFunc_Row_1 p_data p_n p_cmp x16 x17 x18) m79 (x77, x78) = loopW (B_g_slices_stableCmpFunc_Row_1 p_data p_n p_cmp x16 x17 x18) (((p_n - 20).toNat) + 1) (20, (g_slices_insertionSortCmpFunc_Row x18 x16 p_n p_cmp))) (((p_n - 20).toNat) + 1) ?_ ?_))
   ·exact ⟨20, (g_slices_insertionSortCmpFunc_Row x18 x16 p_n p_cmp), Nat.lt_succ_self _, Nat.le_refl _, (sR rfl), h49, (Mut.mut hf30 hm48 (fun k hk => by simp only [InR, or_false] at hk ⊢; omega)), (by first | omega | assumption | (simp only [wI] at *; omega)), rfl⟩
   ·rintro m83 L84 w85 ⟨x77, x78, hk86, hsz88, hl89, hf90, hf91, hv92, hI87⟩
    refine CW.sub hl89 ?_
    have hf91z := Mut.size hf91
    refine CW.seq (CW.seq (CW.region (sd rfl (yl_move rfl rfl (sd rfl (yl_move rfl rfl (sd rfl (yl_lss rfl rfl rfl (dn (bcD (q := x77 < p_n) (fun hb93 hb93p => ?_) (fun hb93 hb93p => ?_)))))))))))
    ·refine CW.cond_t rfl hb93 (CW.skip (tn (CW.block (CW.seq (CW.region (sd rfl (yl_move rfl rfl (sd rfl (yl_mul rfl rfl rfl (sd rfl (yl_assign rfl rfl ?_)))))))))))
     refine sd rfl (yl_assign rfl rfl (dn (CW.seq (CW.block (CW.loop (fun m106 L107 w108 => ∃ (x103 : Int) (x104 : Int) (x105 : List Nat), ((p_n - x103).toNat) < m106 ∧ w85.heap.size ≤ w108.heap.size ∧ Sub [(0, .slice A1 p_data.length c1), (1, .int .i64 (p_n)), (2, .func (.func g2) #[] cp3.toArray), (6, .int .i64 (x77)), (7, .int .i64 (x103)), (8, .int .i64 (x104))] L107 ∧ OwnL w108 lo1 hi1 61 1 (RF (e_Opq cl)) A1 p_data.length c1 x105 ∧ Mut [(lo1, hi1)] w w108 ∧ (0 ≤ x103 ∧ x103 ≤ p_n ∧ x104 = x103 + 2 * x77) ∧ loopW (B_g_slices_stableCmpFunc_Row_2 p_data p_n p_cmp x16 x17 x18 x77 x78) m106 (x103, x104, x105) = loopW (B_g_slices_stableCmpFunc_Row_2 p_data p_n p_cmp x16 x17 x18 x77 x78) (((p_n - 0).toNat) + 1) (0, IntKind.wrap .i64 (2 * x77), x78)) (((p_n - 0).toNat) + 1) ?_ ?_)))))
     ·exact ⟨0, IntKind.wrap .i64 (2 * x77), x78, Nat.lt_succ_self _, Nat.le_refl _, (sR rfl), hf90, hf91, (by first | omega | assumption | (simp only [wI] at *; omega)), rfl⟩
     ·rintro m109 L110 w111 ⟨x103, x104, x105, hk112, hsz114, hl115, hf116, hf117, hv118, hI113⟩
      refine CW.sub hl115 ?_
      have hf117z := Mut.size hf117
      refine CW.seq (CW.seq (CW.region (sd rfl (yl_move rfl rfl (sd rfl (yl_move rfl rfl (sd rfl (yl_leq rfl rfl rfl (dn (bcD (q := x104 ≤ p_n) (fun hb119 hb119p => ?_) (fun hb119 hb119p => ?_)))))))))))
      ·refine CW.cond_t rfl hb119 (CW.skip (tn (CW.block (CW.seq (CW.region (sd rfl (yl_move rfl rfl (sd rfl (yl_move rfl rfl (sd rfl (yl_move rfl rfl ?_)))))))))))
       refine sd rfl (yl_move rfl rfl (sd rfl (yl_add rfl rfl rfl (sd rfl (yl_move rfl rfl (sd rfl (yl_move rfl rfl ?_)))))))
       have hle120 := OwnL.len hf116
       have hle121 := OwnL.len hf116
       refine sd rfl (yl_call en83 rfl (oc rfl (oc rfl (oc rfl (oc rfl (oc rfl oz))))) (Cal.mono (Cal.args (by rw [← hle120] <;> rfl) (c_g_slices_symMergeCmpFunc_Row 1001 x105 x103 (IntKind.wrap .i64 (x103 + x77)) x104 p_cmp hcl (OwnL.fix hf116) hen4 (fun w1 y0 y1 => fun hN hE => hfn5 w1 y0 y1 (by omega) (Mut.mut hf117 hE (fun k hk => by simp only [InR, or_false] at hk ⊢; omega))) (by omega) (by first | omega | assumption | (simp only [wI] at *; omega)) (by first | omega | assumption | (simp only [wI] at *; omega)))) ?_))
       rintro v123 w122 ⟨rfl, h125, hm124⟩
       have hm124z := Mut.size hm124
       have h125 := OwnL.ren hle120 h125
       refine dn (CW.seq (CW.region (sd rfl (yl_move rfl rfl (sd rfl (yl_assign rfl rfl (dn (CW.region ?_))))))))
       refine sd rfl (yl_move rfl rfl (sd rfl (yl_move rfl rfl (sd rfl (yl_mul rfl rfl rfl (sd rfl (yl_add rfl rfl rfl (sd rfl (yl_assign rfl rfl (SeqR.done (bn (tn ?_))))))))))))
       have hB126 : B_g_slices_stableCmpFunc_Row_2 p_data p_n p_cmp x16 x17 x18 x77 x78 (x103, x104, x105) = .cont (x104, IntKind.wrap .i64 (x104 + (IntKind.wrap .i64 (2 * x77))), (g_slices_symMergeCmpFunc_Row 1001 x105 x103 (IntKind.wrap .i64 (x103 + x77)) x104 p_cmp)) := by simp only [B_g_slices_stableCmpFunc_Row_2, hb32, hb93, hb119, hL42, cL]
       have hmu128 : ((p_n - x104).toNat) < ((p_n - x103).toNat) := by first | omega | assumption | (simp only [wI] at *; omega)
       exact ⟨m109 - 1, by omega, x104, IntKind.wrap .i64 (x104 + (IntKind.wrap .i64 (2 * x77))), (g_slices_symMergeCmpFunc_Row 1001 x105 x103 (IntKind.wrap .i64 (x103 + x77)) x104 p_cmp), (by omega), (by omega), (sR rfl), h125, (Mut.mut hf117 hm124 (fun k hk => by simp only [InR, or_false] at hk ⊢; omega)), (by first | omega | assumption | (simp only [wI] at *; omega)), (loopW.cont hk112 hB126).symm.trans hI113⟩
      ·refine CW.cond_f rfl hb119 (CW.exit (tx (tx ?_)))
       have hB130 : B_g_slices_stableCmpFunc_Row_2 p_data p_n p_cmp x16 x17 x18 x77 x78 (x103, x104, x105) = .brk (x103, x104, x105) := by simp only [B_g_slices_stableCmpFunc_Row_2, hb32, hb93, hb119, hL42, cL]
       have hL129 : loopW (B_g_slices_stableCmpFunc_Row_2 p_data p_n p_cmp x16 x17 x18 x77 x78) (((p_n - 0).toNat) + 1) (0, IntKind.wrap .i64 (2 * x77), x78) = .done (x103, x104, x105) := hI113.symm.trans (loopW.brk hk112 hB130)
       refine bx (tn (CW.seq (CW.seq (CW.region (sd rfl (yl_move rfl rfl (sd rfl (yl_move rfl rfl (sd rfl (yl_add rfl rfl rfl (sd rfl (yl_assign rfl rfl ?_))))))))))))
       refine dn (CW.seq (CW.region (sd rfl (yl_move rfl rfl (sd rfl (yl_move rfl rfl (sd rfl (yl_lss rfl rfl rfl (dn ?_)))))))))
       refine bcD (q := (IntKind.wrap .i64 (x103 + x77)) < p_n) (fun hb131 hb131p => ?_) (fun hb131 hb131p => ?_)
       ·refine CW.cond_t rfl hb131 (CW.region (sd rfl (yl_move rfl rfl (sd rfl (yl_move rfl rfl (sd rfl (yl_move rfl rfl (sd rfl (yl_move rfl rfl (sd rfl (yl_move rfl rfl ?_)))))))))))
        have hle132 := OwnL.len hf116
        have hle133 := OwnL.len hf116
        refine sd rfl (yl_call en83 rfl (oc rfl (oc rfl (oc rfl (oc rfl (oc rfl oz))))) (Cal.mono (Cal.args (by rw [← hle132] <;> rfl) (c_g_slices_symMergeCmpFunc_Row 1001 x105 x103 (IntKind.wrap .i64 (x103 + x77)) p_n p_cmp hcl (OwnL.fix hf116) hen4 (fun w1 y0 y1 => fun hN hE => hfn5 w1 y0 y1 (by omega) (Mut.mut hf117 hE (fun k hk => by simp only [InR, or_false] at hk ⊢; omega))) (by omega) (by first | omega | assumption | (simp only [wI] at *; omega)) (by first | omega | assumption | (simp only [wI] at *; omega)))) ?_))
        rintro v135 w134 ⟨rfl, h137, hm136⟩
        have hm136z := Mut.size hm136
        have h137 := OwnL.ren hle132 h137
        refine dn (CW.region (sd rfl (yl_move rfl rfl (sd rfl (yl_mul rfl rfl rfl (sd rfl (yl_assign rfl rfl (SeqR.done (bn (tn ?_))))))))))
        have hB138 : B_g_slices_stableCmpFunc_Row_1 p_data p_n p_cmp x16 x17 x18 (x77, x78) = .cont (IntKind.wrap .i64 (x77 * 2), (g_slices_symMergeCmpFunc_Row 1001 x105 x103 (IntKind.wrap .i64 (x103 + x77)) p_n p_cmp)) := by simp only [B_g_slices_stableCmpFunc_Row_1, hb32, hb93, hb119, hb131, hL42, hL129, cL]
        have hmu140 : ((p_n - IntKind.wrap .i64 (x77 * 2)).toNat) < ((p_n - x77).toNat) := by first | omega | assumption | (simp only [wI] at *; omega)
        exact ⟨m83 - 1, by omega, IntKind.wrap .i64 (x77 * 2), (g_slices_symMergeCmpFunc_Row 1001 x105 x103 (IntKind.wrap .i64 (x103 + x77)) p_n p_cmp), (by omega), (by omega), (sR rfl), h137, (Mut.mut hf117 hm136 (fun k hk => by simp only [InR, or_false] at hk ⊢; omega)), (by first | omega | assumption | (simp only [wI] at *; omega)), (loopW.cont hk86 hB138).symm.trans hI87⟩
       ·refine CW.cond_f rfl hb131 (CW.skip (tn (CW.region (sd rfl (yl_move rfl rfl (sd rfl (yl_mul rfl rfl rfl (sd rfl (yl_assign rfl rfl (SeqR.done (bn ?_)))))))))))
        refine tn ?_
        have hB141 : B_g_slices_stableCmpFunc_Row_1 p_data p_n p_cmp x16 x17 x18 (x77, x78) = .cont (IntKind.wrap .i64 (x77 * 2), x105) := by simp only [B_g_slices_stableCmpFunc_Row_1, hb32, hb93, hb119, hb131, hL42, hL129, cL]
        have hmu142 : ((p_n - IntKind.wrap .i64 (x77 * 2)).toNat) < ((p_n - x77).toNat) := by first | omega | assumption | (simp only [wI] at *; omega)
        exact ⟨m83 - 1, by omega, IntKind.wrap .i64 (x77 * 2), x105, (by omega), (by omega), (sR rfl), hf116, hf117, (by first | omega | assumption | (simp only [wI] at *; omega)), (loopW.cont hk86 hB141).symm.trans hI87⟩
    ·refine CW.cond_f rfl hb93 (CW.exit (tx (tx ?_)))
     have hB144 : B_g_slices_stableCmpFunc_Row_1 p_data p_n p_cmp x16 x17 x18 (x77, x78) = .brk (x77, x78) := by simp only [B_g_slices_stableCmpFunc_Row_1, hb32, hb93, hL42, cL]
     have hL143 : loopW (B_g_slices_stableCmpFunc_Row_1 p_data p_n p_cmp x16 x17 x18) (((p_n - 20).toNat) + 1) (20, (g_slices_insertionSortCmpFunc_Row x18 x16 p_n p_cmp)) = .done (x77, x78) := hI87.symm.trans (loopW.brk hk86 hB144)
     refine bx (rn rfl .nil ?_)
     rw [show (g_slices_stableCmpFunc_Row p_data p_n p_cmp) = (x78) by simp only [g_slices_stableCmpFunc_Row, hb32, hb93, hL42, hL143, cL]]
     exact ⟨rfl, hf90, hf91⟩
theorem c_g_slices_SortStableFunc_RowX {cl : Nat → Value} {A1 : Option Addr} {c1 : Nat} {lo1 hi1 : Nat} {g2 : Nat} {cp3 : List Value} {w : World} (p_x : List Nat) (p_cmp : Nat → Nat → Int) (hcl : ∀ i, (cl i).oneCell' = true) (h1 : OwnL w lo1 hi1 61 1 (RF (e_Opq cl)) A1 p_x.length c1 p_x) (hen4 : Go.X.Enters Tryz.prog g2) (hfn5 : ∀ (w1 : World) (y0 y1 : Nat), 0 < p_x.length → Mut [(lo1, hi1)] w w1 → Cal Tryz.prog g2 (([.agg #[cl y0], .agg #[cl y1]] : List Value) ++ cp3).toArray w1 fun v w2 => v = .int .i64 (p_cmp y0 y1) ∧ Ex w1 w2) (hrn6 : (0 ≤ lo1 ∧ lo1 ≤ hi1 ∧ hi1 ≤ w.heap.size)) (pre0 : p_x.length ≤ 24) : Cal Tryz.prog 35 #[.slice A1 p_x.length c1, .func (.func g2) #[] cp3.toArray] w fun v w' => v = .tuple #[] ∧ OwnL w' lo1 hi1 61 1 (RF (e_Opq cl)) A1 p_x.length c1 (g_slices_SortStableFunc_RowX p_x p_cmp) ∧ Mut [(lo1, hi1)] w w' := by
  refine Cal.of (vs := [.slice A1 p_x.length c1, .func (.func g2) #[] cp3.toArray]) func35 rfl ntmps35 rfl ?_
  refine CW.region ?_
  refine SeqR.d1 rfl rfl rfl (yl_move rfl rfl ?_)
  refine SeqR.d1 rfl rfl rfl (yl_move rfl rfl ?_)
  refine SeqR.d1 rfl rfl rfl (yl_len un29 rfl rfl ?_)
  refine SeqR.d1 rfl rfl rfl (yl_move rfl rfl ?_)
  have hle7 := OwnL.len h1
  refine SeqR.d1 rfl rfl rfl (yl_call en64 rfl (opvs_cons rfl (opvs_cons rfl (opvs_cons rfl opvs_nil))) (Cal.mono (c_g_slices_stableCmpFunc_Row p_x (p_x.length : Int) p_cmp hcl h1 hen4 (fun w1 y0 y1 => fun hN hE => hfn5 w1 y0 y1 (by omega) (Mut.mut (Mut.refl (l := [(lo1, hi1)]) w) hE (fun k hk => by simp only [InR, or_false] at hk ⊢; omega))) (by omega) (by first | omega | assumption | (simp only [IntKind.wrap_i64] at *; omega))) ?_))
  rintro v9 w8 ⟨rfl, h11, hm10⟩
  have hm10z := Mut.size hm10
  refine SeqR.done ?_
  refine rn rfl .nil ?_
  have hM12 : (g_slices_SortStableFunc_RowX p_x p_cmp) = ((g_slices_stableCmpFunc_Row p_x (p_x.length : Int) p_cmp)) := by simp only [g_slices_SortStableFunc_RowX, cond_true, cond_false, loopE_done, loopE_ret]
  rw [hM12]
  have q13 := Mut.mut (Mut.refl (l := [(lo1, hi1)]) w) hm10 (fun k hk => by simp only [InR, or_false] at hk ⊢; omega)
  exact ⟨rfl, h11, q13⟩
theorem row_atS {w : World} {lo hi l2 h2 n : Nat} {vf : Nat → Nat × Nat} {cl : Nat → Value} {xf : Nat → DRow} (hE : ElI RO_Row w lo hi l2 h2 n vf cl xf) {w1 : World} (hM : Mut [(l2, h2)] w w1) {i : Nat} (hi' : i < n) : ∃ A c, cl i = .slice A (xf i).Vals.length c ∧ RdS w1 (Iv 0 w1.heap.size) (RF e_Str) 1 A (xf i).Vals.length c (xf i).Vals := by
  obtain ⟨_, _, h, _⟩ := (hE.mut goodO_Row hM) i hi'
  obtain ⟨A, c, e, h⟩ := goodO_Row.rd h
  simp only [List.cons.injEq, and_true] at e
  exact ⟨A, c, e, RdS.up h good_Str⟩
theorem c_g_slices_SortStableFunc_Row {A1 : Option Addr} {c1 : Nat} {lo1 hi1 : Nat} {g2 : Nat} {cp3 : List Value} {w : World} (p_x : List DRow) (p_cmp : DRow → DRow → Int) (h1 : OwnU w lo1 hi1 61 1 RO_Row A1 p_x.length c1 p_x) (hen4 : Go.X.Enters Tryz.prog g2) (hfn5 : ∀ (w1 : World) (y0 y1 : DRow) {A7 : Option Addr} {c7 : Nat} {A8 : Option Addr} {c8 : Nat}, Mut [(lo1, hi1)] w w1 → y0 ∈ p_x → y1 ∈ p_x → RdS w1 (Iv 0 w1.heap.size) (RF e_Str) 1 A7 y0.Vals.length c7 y0.Vals → RdS w1 (Iv 0 w1.heap.size) (RF e_Str) 1 A8 y1.Vals.length c8 y1.Vals → ok_Row y0 → ok_Row y1 → Cal Tryz.prog g2 (([.agg #[.slice A7 y0.Vals.length c7], .agg #[.slice A8 y1.Vals.length c8]] : List Value) ++ cp3).toArray w1 fun v w2 => v = .int .i64 (p_cmp y0 y1) ∧ Ex w1 w2) (hrn6 : (0 ≤ lo1 ∧ lo1 ≤ hi1 ∧ hi1 ≤ w.heap.size)) (o2 : (okL ok_Row) p_x) (pre0 : p_x.length ≤ 24) (pre1 : OrdR p_cmp) : Cal Tryz.prog 35 #[.slice A1 p_x.length c1, .func (.func g2) #[] cp3.toArray] w fun v w' => v = .tuple #[] ∧ OwnU w' lo1 hi1 61 1 RO_Row A1 p_x.length c1 (g_slices_SortStableFunc_Row p_x p_cmp) ∧ Mut [(lo1, hi1)] w w' := by
  obtain ⟨cl, l2, h2, vf, hcl, hcm, hO1, hr2, hE⟩ := OwnU.toN d_Row goodO_Row hrn6.2.1 h1
  have hup : ∀ w1, Mut [(l2, h2)] w w1 → Mut [(lo1, hi1)] w w1 := fun w1 h => Mut.mut (Mut.refl w) h fun k hk => by simp only [InR, or_false] at hk ⊢; omega
  have hrl : (List.range p_x.length).length = p_x.length := List.length_range
  have hc := c_g_slices_SortStableFunc_RowX (cl := cl) (lo1 := l2) (hi1 := h2) (g2 := g2) (cp3 := cp3) (List.range p_x.length) (nthC p_x p_cmp) hcl (by rw [hrl]; exact hO1) hen4 (fun w1 y0 y1 => fun hN hM => by
    rw [hrl] at hN
    obtain ⟨A7, c7, e7, h7⟩ := row_atS hE hM (i := min y0 (p_x.length - 1)) (by omega)
    obtain ⟨A8, c8, e8, h8⟩ := row_atS hE hM (i := min y1 (p_x.length - 1)) (by omega)
    have h := hfn5 w1 _ _ (A7 := A7) (c7 := c7) (A8 := A8) (c8 := c8) (hup _ hM) (getD_mem (d := d_Row) (show min y0 (p_x.length - 1) < p_x.length by omega)) (getD_mem (d := d_Row) (show min y1 (p_x.length - 1) < p_x.length by omega)) h7 h8 (okL.getD o2 ok_d_Row _) (okL.getD o2 ok_d_Row _)
    rw [← e7, ← e8, ← hcm, ← hcm] at h
    exact h) (by omega) (by rw [hrl]; exact pre0)
  rw [hrl] at hc
  refine Cal.mono hc ?_
  rintro v w' ⟨hv, hO, hM⟩
  have hp : (g_slices_SortStableFunc_RowX (List.range p_x.length) (nthC p_x p_cmp)).Perm (List.range p_x.length) := (stable_law (pre1.nth p_x) (by rw [hrl]; exact pre0)).1
  exact ⟨hv, OwnU.ofN goodO_Row hE hO hM hr2 (hp.nodup_iff.2 List.nodup_range) fun i hi => List.mem_range.1 (hp.mem_iff.1 hi), hup _ hM⟩

theorem c_g_cmp_Or_int {A1 : Option Addr} {c1 : Nat} {w : World} (p_vals : List Int) (h1 : RdS w (Iv 0 w.heap.size) (RF e_Int) 1 A1 p_vals.length c1 p_vals) (o2 : (okL okT) p_vals) : Cal Tryz.prog 37 #[.slice A1 p_vals.length c1] w fun v w' => v = .int .i64 ((g_cmp_Or_int p_vals)) ∧ Ex w w' := by
 have hol3 := o2.1
 refine Cal.of func37 rfl ntmps37 rfl (CW.seq (CW.region (sd rfl (yl_assign rfl rfl (dn (CW.seq (CW.region (sd rfl (yl_assign rfl rfl ?_)))))))))
 refine dn (CW.seq (CW.seq (CW.region (sd rfl (yl_move rfl rfl (sd rfl (yl_len un92 rfl rfl (sd rfl (yl_move rfl rfl (SeqR.done ?_))))))))))
 refine tn (CW.block (CW.loop (fun m5 L6 w7 => ∃ (k4 : Nat), m5 = p_vals.length - k4 ∧ k4 ≤ p_vals.length ∧ w.heap.size ≤ w7.heap.size ∧ Sub [(3, .int .i64 (0)), (6, .slice A1 p_vals.length c1), (7, .int .i64 ((p_vals.length : Int))), (8, .int .i64 ((k4 : Int)))] L6 ∧ Ex w w7 ∧ loopM (B_g_cmp_Or_int_0 p_vals) (p_vals.length - k4) k4 () = loopM (B_g_cmp_Or_int_0 p_vals) (p_vals.length - 0) 0 ()) (p_vals.length - 0) ?_ ?_))
 ·exact ⟨0, rfl, (by omega), Nat.le_refl _, (sR rfl), (Ex.refl w), rfl⟩
 ·rintro m8 L9 w10 ⟨k4, rfl, hk11, hsz13, hl14, hf15, hI12⟩
  refine CW.sub hl14 ?_
  have hf15z := Ex.size hf15
  have q17 := RdS.ex good_Int h1 hf15
  have hbg16 := RdS.big q17
  rcases Nat.lt_or_ge k4 p_vals.length with hlt18 | hlt18
  ·refine CW.seq (CW.region (sd rfl (yl_lss rfl rfl rfl (dn (CW.seq (CW.cond_t rfl (lt_t hlt18) (CW.skip (tn ?_))))))))
   refine CW.seq (CW.block (CW.seq (CW.region ?_)))
   obtain ⟨_, _, _, eA19, _, ebl19, _, eR19, eC19⟩ := RdS.aD q17 d_Int (i := k4)
   obtain rfl := eR19
   refine sd rfl (yl_ixN un92 ty3 rfl rfl rfl eA19 (sd rfl (yl_load1 ty3 rfl rfl (eC19 0 _ rfl) (sd rfl (yl_assign rfl rfl (dn (CW.seq (CW.region (sd rfl (yl_move rfl rfl (sd rfl (yl_move rfl rfl ?_))))))))))))
   refine sd rfl (yl_neq rfl rfl rfl (dn (bcD (q := (p_vals.getD k4 d_Int) = 0) (fun hb20 hb20p => ?_) (fun hb20 hb20p => ?_))))
   ·refine CW.cond_f rfl (not_t hb20) (CW.skip (bn (tn (CW.region (sd rfl (yl_inc rfl rfl rfl (by omega) (sd rfl (yl_move rfl rfl (dn ?_)))))))))
    have hB21 : B_g_cmp_Or_int_0 p_vals k4 () = .cont () := by simp only [B_g_cmp_Or_int_0, hb20, cL]
    exact ⟨p_vals.length - (k4 + 1), by omega, k4 + 1, rfl, hlt18, (by omega), (sR rfl), hf15, (loopM.cont hlt18 hB21).symm.trans hI12⟩
   ·refine CW.cond_t rfl (not_f hb20) (CW.seq (CW.region (sd rfl (yl_move rfl rfl (sd rfl (yl_assign rfl rfl (dn (CW.ret (br ?_)))))))))
    refine tr (tr ?_)
    have hB23 : B_g_cmp_Or_int_0 p_vals k4 () = .ret (p_vals.getD k4 d_Int) := by simp only [B_g_cmp_Or_int_0, hb20, cL]
    have hL22 : loopM (B_g_cmp_Or_int_0 p_vals) (p_vals.length - 0) 0 () = .ret (p_vals.getD k4 d_Int) := hI12.symm.trans (loopM.ret hlt18 hB23)
    refine br (tr (rr rfl (.cons rfl .nil) ?_))
    rw [show (g_cmp_Or_int p_vals) = ((p_vals.getD k4 d_Int)) by simp only [g_cmp_Or_int, hb20, hL22, cL]]
    exact ⟨rfl, hf15⟩
  ·refine CW.seq (CW.region (sd rfl (yl_lss rfl rfl rfl (dn (CW.seq (CW.cond_f rfl (lt_f hlt18) (CW.exit (tx ?_))))))))
   refine tx ?_
   have hL25 : loopM (B_g_cmp_Or_int_0 p_vals) (p_vals.length - 0) 0 () = .done () := hI12.symm.trans (loopM.stop hlt18)
   refine bx (tn (CW.seq (CW.region (sd rfl (yl_move rfl rfl (sd rfl (yl_assign rfl rfl (dn (CW.ret ?_)))))))))
   refine rr rfl (.cons rfl .nil) ?_
   rw [show (g_cmp_Or_int p_vals) = (0) by simp only [g_cmp_Or_int, hL25, cL]]
   exact ⟨rfl, hf15⟩
theorem c_g_cmp_isNaN_string {w : World} (p_x : Str) (o1 : okS p_x) : Cal Tryz.prog 65 #[.string (bs (p_x))] w fun v w' => v = .bool ((g_cmp_isNaN_string p_x)) ∧ Ex w w' := by
 refine Cal.of func65 rfl ntmps65 rfl (CW.seq (CW.region (sd rfl (yl_assign rfl rfl (dn (CW.seq (CW.region (sd rfl (yl_move rfl rfl ?_)))))))))
 refine sd rfl (yl_move rfl rfl (sd rfl (yl_sneq (a := p_x) (b := p_x) rfl rfl rfl (sd rfl (yl_assign rfl rfl (dn (CW.ret (rr rfl (.cons rfl .nil) ?_))))))))
 rw [show (g_cmp_isNaN_string p_x) = (!(p_x == p_x)) by simp only [g_cmp_isNaN_string, cL]]
 exact ⟨rfl, (Ex.refl w)⟩
theorem c_g_cmp_Compare_string {w : World} (p_x : Str) (p_y : Str) (o1 : okS p_x) (o2 : okS p_y) : Cal Tryz.prog 38 #[.string (bs (p_x)), .string (bs (p_y))] w fun v w' => v = .int .i64 ((g_cmp_Compare_string p_x p_y)) ∧ Ex w w' := by
 refine Cal.of func38 rfl ntmps38 rfl (CW.seq (CW.region (sd rfl (yl_assign rfl rfl (dn (CW.seq (CW.region (sd rfl (yl_move rfl rfl ?_)))))))))
 refine sd rfl (yl_call en65 rfl (oc rfl oz) (Cal.mono (c_g_cmp_isNaN_string p_x o1) ?_))
 rintro v6 w5 ⟨rfl, hE7⟩
 refine sd rfl (yl_assign rfl rfl (dn (CW.seq (CW.region (sd rfl (yl_move rfl rfl (sd rfl (yl_call en65 rfl (oc rfl oz) (Cal.mono (c_g_cmp_isNaN_string p_y o2) ?_)))))))))
 rintro v9 w8 ⟨rfl, hE10⟩
 refine sd rfl (yl_assign rfl rfl (dn (CW.seq (CW.seq (CW.region (sd rfl (yl_move rfl rfl (dn ?_))))))))
 refine bcase (g_cmp_isNaN_string p_x) (fun hb11 => ?_) (fun hb11 => ?_)
 ·refine CW.cond_t rfl hb11 (CW.seq (CW.seq (CW.region (sd rfl (yl_move rfl rfl (dn (bcase (g_cmp_isNaN_string p_y) (fun hb12 => ?_) (fun hb12 => ?_))))))))
  ·refine CW.cond_t rfl hb12 (CW.seq (CW.region (sd rfl (yl_assign rfl rfl (dn (CW.ret (tr (tr ?_))))))))
   refine rr rfl (.cons rfl .nil) ?_
   rw [show (g_cmp_Compare_string p_x p_y) = (0) by simp only [g_cmp_Compare_string, hb11, hb12, cL]]
   exact ⟨rfl, (Ex.trans (Ex.trans (Ex.refl w) hE7) hE10)⟩
  ·refine CW.cond_f rfl hb12 (CW.skip (tn (CW.seq (CW.region (sd rfl (yl_assign rfl rfl (dn (CW.ret ?_))))))))
   refine tr (rr rfl (.cons rfl .nil) ?_)
   rw [show (g_cmp_Compare_string p_x p_y) = (-1) by simp only [g_cmp_Compare_string, hb11, hb12, cL]]
   exact ⟨rfl, (Ex.trans (Ex.trans (Ex.refl w) hE7) hE10)⟩
 ·refine CW.cond_f rfl hb11 (CW.skip (tn (CW.seq (CW.seq (CW.region (sd rfl (yl_move rfl rfl (dn ?_))))))))
  refine bcase (g_cmp_isNaN_string p_y) (fun hb19 => ?_) (fun hb19 => ?_)
  ·refine CW.cond_t rfl hb19 (CW.seq (CW.region (sd rfl (yl_assign rfl rfl (dn (CW.ret (tr (rr rfl (.cons rfl .nil) ?_))))))))
   rw [show (g_cmp_Compare_string p_x p_y) = (1) by simp only [g_cmp_Compare_string, hb11, hb19, cL]]
   exact ⟨rfl, (Ex.trans (Ex.trans (Ex.refl w) hE7) hE10)⟩
  ·refine CW.cond_f rfl hb19 (CW.skip (tn (CW.seq (CW.seq (CW.region (sd rfl (yl_move rfl rfl (sd rfl (yl_move rfl rfl (sd rfl (yl_slss (a := p_x) (b := p_y) rfl rfl rfl ?_)))))))))))
   refine dn (bcase (sLt p_x p_y) (fun hb23 => ?_) (fun hb23 => ?_))
   ·refine CW.cond_t rfl hb23 (CW.seq (CW.region (sd rfl (yl_assign rfl rfl (dn (CW.ret (tr (rr rfl (.cons rfl .nil) ?_))))))))
    rw [show (g_cmp_Compare_string p_x p_y) = (-1) by simp only [g_cmp_Compare_string, hb11, hb19, hb23, cL]]
    exact ⟨rfl, (Ex.trans (Ex.trans (Ex.refl w) hE7) hE10)⟩
   ·refine CW.cond_f rfl hb23 (CW.skip (tn (CW.seq (CW.seq (CW.region (sd rfl (yl_move rfl rfl (sd rfl (yl_move rfl rfl (sd rfl (yl_sgtr (a := p_x) (b := p_y) rfl rfl rfl ?_)))))))))))
    refine dn (bcase (sLe p_x p_y) (fun hb27 => ?_) (fun hb27 => ?_))
    ·refine CW.cond_f rfl (not_t hb27) (CW.skip (tn (CW.seq (CW.region (sd rfl (yl_assign rfl rfl (dn (CW.ret ?_))))))))
     refine rr rfl (.cons rfl .nil) ?_
     rw [show (g_cmp_Compare_string p_x p_y) = (0) by simp only [g_cmp_Compare_string, hb11, hb19, hb23, hb27, cL]]
     exact ⟨rfl, (Ex.trans (Ex.trans (Ex.refl w) hE7) hE10)⟩
    ·refine CW.cond_t rfl (not_f hb27) (CW.seq (CW.region (sd rfl (yl_assign rfl rfl (dn (CW.ret (tr (rr rfl (.cons rfl .nil) ?_))))))))
     rw [show (g_cmp_Compare_string p_x p_y) = (1) by simp only [g_cmp_Compare_string, hb11, hb19, hb23, hb27, cL]]
     exact ⟨rfl, (Ex.trans (Ex.trans (Ex.refl w) hE7) hE10)⟩
theorem c_i_ScanRange_c2 {A1 : Option Addr} {c1 : Nat} {A3 : Option Addr} {c3 : Nat} {b5 : Nat} {w : World} (p_a : DRow) (p_b : DRow) (p_cap0 : Int) (h1 : RdS w (Iv 0 w.heap.size) (RF e_Str) 1 A1 p_a.Vals.length c1 p_a.Vals) (h3 : RdS w (Iv 0 w.heap.size) (RF e_Str) 1 A3 p_b.Vals.length c3 p_b.Vals) (h6 : Box w b5 3 [.int .i64 (p_cap0)]) (o2 : ok_Row p_a) (o4 : ok_Row p_b) (pre0 : (0 ≤ p_cap0 ∧ p_cap0 < (p_a.Vals.length : Int) ∧ p_cap0 < (p_b.Vals.length : Int))) : Cal Tryz.prog 36 #[.agg #[.slice A1 p_a.Vals.length c1], .agg #[.slice A3 p_b.Vals.length c3], .pointer (some ⟨b5, 0, none⟩)] w fun v w' => v = .int .i64 ((i_ScanRange_c2 p_a p_b p_cap0)) ∧ Ex w w' := by
 have hol7 := o2.1
 have hol8 := o4.1
 refine Cal.of func36 rfl ntmps36 rfl (CW.seq (CW.region (sd rfl (yl_box rfl rfl rfl ?_))))
 intro b9 w10 hs11 hz12 hB13 hE14
 refine sd rfl (yl_box rfl rfl rfl ?_)
 intro b15 w16 hs17 hz18 hB19 hE20
 refine sd rfl (yl_assign rfl rfl (dn (CW.seq ?_)))
 have q21 := Box.ex hB13 hE20
 have q23 := Box.ex (Box.ex h6 hE14) hE20
 have q25 := Ex.trans (Ex.trans (Ex.refl w) hE14) hE20
 have q26 := RdS.ex good_Str h1 q25
 obtain ⟨eb27, eo27, _, eA27, _, ebl27, _, eR27, eC27⟩ := RdS.atD q26 d_Str (i := (p_cap0).toNat) (by first | omega | assumption | (simp only [wI] at *; omega))
 obtain rfl := eR27
 have q28 := RdS.ex good_Str h3 q25
 obtain ⟨eb29, eo29, _, eA29, _, ebl29, _, eR29, eC29⟩ := RdS.atD q28 d_Str (i := (p_cap0).toNat) (by first | omega | assumption | (simp only [wI] at *; omega))
 obtain rfl := eR29
 obtain ⟨eb31, eo31, _, eA31, _, ebl31, _, eR31, eC31⟩ := RdS.aD q26 d_Str (i := 0)
 obtain rfl := eR31
 obtain ⟨eb32, eo32, _, eA32, _, ebl32, _, eR32, eC32⟩ := RdS.aD q28 d_Str (i := 0)
 obtain rfl := eR32
 refine drJ 19 [.pointer (some ⟨b9, 0 + 0, none⟩), .slice A1 p_a.Vals.length c1, .int .i64 (p_cap0), .pointer (some ⟨eb27, eo27 + ((p_cap0).toNat) * 1, none⟩), .string (bs ((p_a.Vals.getD ((p_cap0).toNat) d_Str))), .pointer (some ⟨b15, 0 + 0, none⟩), .slice A3 p_b.Vals.length c3, .int .i64 (p_cap0), .pointer (some ⟨eb29, eo29 + ((p_cap0).toNat) * 1, none⟩), .string (bs ((p_b.Vals.getD ((p_cap0).toNat) d_Str))), .int .i64 ((g_cmp_Compare_string (p_a.Vals.getD ((p_cap0).toNat) d_Str) (p_b.Vals.getD ((p_cap0).toNat) d_Str))), .pointer (some ⟨b9, 0 + 0, none⟩), .slice A1 p_a.Vals.length c1, .pointer (some ⟨eb31, eo31 + 0 * 1, none⟩), .string (bs ((p_a.Vals.getD 0 d_Str))), .pointer (some ⟨b15, 0 + 0, none⟩), .slice A3 p_b.Vals.length c3, .pointer (some ⟨eb32, eo32 + 0 * 1, none⟩), .string (bs ((p_b.Vals.getD 0 d_Str)))] Tryz.follows rfl ⟨oI rfl fun h => yl_fieldAddr fd61_0 rfl (h.g 3 rfl) kI, oI rfl fun h => yl_load1 ty22 rfl (h.g 6 rfl) (((Box.ex q21 h.ex).cell 0).trans rfl) kI, oI rfl fun h => yl_load1 ty3 rfl (h.g 2 rfl) (((Box.ex q23 h.ex).cell 0).trans rfl) kI, ?_, oI rfl fun h => yl_load1 ty9 rfl (h.g 9 rfl) ((Cells.ex eC27 h.ex) 0 _ rfl) kI, oI rfl fun h => yl_fieldAddr fd61_0 rfl (h.g 4 rfl) kI, oI rfl fun h => yl_load1 ty22 rfl (h.g 11 rfl) (((Box.ex hB19 h.ex).cell 0).trans rfl) kI, oI rfl fun h => yl_load1 ty3 rfl (h.g 2 rfl) (((Box.ex q23 h.ex).cell 0).trans rfl) kI, ?_, oI rfl fun h => yl_load1 ty9 rfl (h.g 14 rfl) ((Cells.ex eC29 h.ex) 0 _ rfl) kI, ?_, oI rfl fun h => yl_fieldAddr fd61_0 rfl (h.g 3 rfl) kI, oI rfl fun h => yl_load1 ty22 rfl (h.g 17 rfl) (((Box.ex q21 h.ex).cell 0).trans rfl) kI, ?_, oI rfl fun h => yl_load1 ty9 rfl (h.g 19 rfl) ((Cells.ex eC31 h.ex) 0 _ rfl) kI, oI rfl fun h => yl_fieldAddr fd61_0 rfl (h.g 4 rfl) kI, oI rfl fun h => yl_load1 ty22 rfl (h.g 21 rfl) (((Box.ex hB19 h.ex).cell 0).trans rfl) kI, ?_, oI rfl fun h => yl_load1 ty9 rfl (h.g 23 rfl) ((Cells.ex eC32 h.ex) 0 _ rfl) kI, trivial⟩ ?_
 ·intro L50 w51 hi52
  have hE53 := hi52.ex
  have hE53z := Ex.size hE53
  exact os rfl ((yl_indexAddr un22 ty9 rfl (hi52.g 7 rfl) (hi52.g 8 rfl) eA27 (by first | omega | assumption | (simp only [wI] at *; omega)) (by first | omega | assumption | (simp only [wI] at *; omega)) kI))
 ·intro L79 w80 hi81
  have hE82 := hi81.ex
  have hE82z := Ex.size hE82
  exact os rfl ((yl_indexAddr un22 ty9 rfl (hi81.g 12 rfl) (hi81.g 13 rfl) eA29 (by first | omega | assumption | (simp only [wI] at *; omega)) (by first | omega | assumption | (simp only [wI] at *; omega)) kI))
 ·intro L91 w92 hi93
  exact OpR.op' rfl (yl_call en38 rfl (oc (hi93.g 10 rfl) (oc (hi93.g 15 rfl) oz)) (Cal.mono (c_g_cmp_Compare_string (p_a.Vals.getD ((p_cap0).toNat) d_Str) (p_b.Vals.getD ((p_cap0).toNat) d_Str) (okL.getD o2 ok_d_Str _) (okL.getD o4 ok_d_Str _)) fun _ _ h => h))
 ·intro L111 w112 hi113
  have hE114 := hi113.ex
  have hE114z := Ex.size hE114
  exact os rfl ((yl_ixN un22 ty9 rfl (hi113.g 18 rfl) rfl eA31 kI))
 ·intro L133 w134 hi135
  have hE136 := hi135.ex
  have hE136z := Ex.size hE136
  exact os rfl ((yl_ixN un22 ty9 rfl (hi135.g 22 rfl) rfl eA32 kI))
 ·intro fl147 fh148 L144 w145 hp146
  have hE149 := hp146.ex
  have hE149z := Ex.size hE149
  refine sd rfl (yl_call en38 rfl (oc (hp146.nt 14 20 rfl rfl rfl) (oc (hp146.nt 18 24 rfl rfl rfl) oz)) (Cal.mono (c_g_cmp_Compare_string (p_a.Vals.getD 0 d_Str) (p_b.Vals.getD 0 d_Str) (okL.getD o2 ok_d_Str _) (okL.getD o4 ok_d_Str _)) ?_))
  rintro v154 w153 ⟨rfl, hE155⟩
  have hE155z := Ex.size hE155
  refine sd rfl (yl_buildSlice (cs := [.int .i64 ((g_cmp_Compare_string (p_a.Vals.getD ((p_cap0).toNat) d_Str) (p_b.Vals.getD ((p_cap0).toNat) d_Str))), .int .i64 ((g_cmp_Compare_string (p_a.Vals.getD 0 d_Str) (p_b.Vals.getD 0 d_Str)))]) un92 ty3 (by decide) rfl (oc (hp146.nt 10 16 rfl rfl rfl) (oc rfl oz)) (by kernel_rfl) ?_)
  intro b156 w157 hs158 hz159 hB160 hE161
  have hO162 : OwnL w157 b156 (b156 + 1) 3 1 (RF e_Int) (some ⟨b156, 0, none⟩) 2 2 ([(g_cmp_Compare_string (p_a.Vals.getD ((p_cap0).toNat) d_Str) (p_b.Vals.getD ((p_cap0).toNat) d_Str)), (g_cmp_Compare_string (p_a.Vals.getD 0 d_Str) (p_b.Vals.getD 0 d_Str))] : List Int) := OwnL.of_box (S := fun _ => False) hB160 (Nat.le_refl _) (Nat.lt_succ_self _) (EncL.cons (c := [.int .i64 ((g_cmp_Compare_string (p_a.Vals.getD ((p_cap0).toNat) d_Str) (p_b.Vals.getD ((p_cap0).toNat) d_Str)))]) rfl rfl (EncL.cons (c := [.int .i64 ((g_cmp_Compare_string (p_a.Vals.getD 0 d_Str) (p_b.Vals.getD 0 d_Str)))]) rfl rfl EncL.nil)) (Nat.le_of_ble_eq_true rfl) (fun h => h) (fun _ h => False.elim h)
  have hle163 := OwnL.len hO162
  refine sd rfl (yl_call en37 rfl (oc rfl oz) (Cal.mono (Cal.args (by rw [← hle163] <;> rfl) (c_g_cmp_Or_int ([(g_cmp_Compare_string (p_a.Vals.getD ((p_cap0).toNat) d_Str) (p_b.Vals.getD ((p_cap0).toNat) d_Str)), (g_cmp_Compare_string (p_a.Vals.getD 0 d_Str) (p_b.Vals.getD 0 d_Str))] : List Int) (RdS.fix (RdS.up (OwnL.rd good_Int hO162) good_Int)) (okL.mk (xs := ([(g_cmp_Compare_string (p_a.Vals.getD ((p_cap0).toNat) d_Str) (p_b.Vals.getD ((p_cap0).toNat) d_Str)), (g_cmp_Compare_string (p_a.Vals.getD 0 d_Str) (p_b.Vals.getD 0 d_Str))] : List Int)) (by first | omega | (simp only [List.length_append, List.length_cons, List.length_nil, List.length_take, List.length_drop, List.length_replicate, List.length_set]; omega)) fun _ _ => trivial))) ?_))
  rintro v166 w165 ⟨rfl, hE167⟩
  have hE167z := Ex.size hE167
  refine sd rfl (yl_assign rfl rfl (dn (CW.sub (Sub.cons (d := 5) rfl (Sub.nil _)) (CW.ret (rr rfl (.cons rfl .nil) ?_)))))
  rw [show (i_ScanRange_c2 p_a p_b p_cap0) = ((g_cmp_Or_int ([(g_cmp_Compare_string (p_a.Vals.getD ((p_cap0).toNat) d_Str) (p_b.Vals.getD ((p_cap0).toNat) d_Str)), (g_cmp_Compare_string (p_a.Vals.getD 0 d_Str) (p_b.Vals.getD 0 d_Str))] : List Int))) by simp only [i_ScanRange_c2, cL]]
  exact ⟨rfl, (Ex.trans (Ex.trans (Ex.trans (Ex.trans q25 hE149) hE155) hE161) hE167)⟩
theorem c_i_ScanRange {A1 : Option Addr} {c1 : Nat} {A2 : Option Addr} {c2 : Nat} {A4 : Option Addr} {c4 : Nat} {w : World} (p_t : DTable) (p_store : List DWrite) (p_col : Int) (p_low : Str) (p_high : Str) (h1 : RdS w (Iv 0 w.heap.size) (RF e_Str) 1 A1 p_t.Cols.length c1 p_t.Cols) (h2 : RdS w (Iv 0 w.heap.size) (RF e_Idx) 3 A2 p_t.Idxs.length c2 p_t.Idxs) (h4 : RdS w (Iv 0 w.heap.size) (RF e_Write) 3 A4 p_store.length c4 p_store) (o3 : ok_Table p_t) (o5 : (okL ok_Write) p_store) (o6 : okS p_low) (o7 : okS p_high) : Cal Tryz.prog 9 #[.agg #[.string (bs (p_t.Name)), .slice A1 p_t.Cols.length c1, .slice A2 p_t.Idxs.length c2], .slice A4 p_store.length c4, .int .i64 (p_col), .string (bs (p_low)), .string (bs (p_high))] w fun v w' => ∃ A_1 c_1 lo_1 hi_1, v = .tuple #[.slice A_1 (((i_ScanRange p_t p_store p_col p_low p_high).1).length) c_1, .bool ((i_ScanRange p_t p_store p_col p_low p_high).2)] ∧ OwnU w' lo_1 hi_1 61 1 RO_Row A_1 (((i_ScanRange p_t p_store p_col p_low p_high).1).length) c_1 ((i_ScanRange p_t p_store p_col p_low p_high).1) ∧ (w.heap.size ≤ lo_1 ∧ lo_1 ≤ hi_1 ∧ hi_1 ≤ w'.heap.size) ∧ Ex w w' := by
 have hol8 : p_t.Name.length ≤ 1073741824 := o3.1
 have hol9 := o3.2.1.1
 have hol10 := o3.2.2.1
 have hol11 := o5.1
 have hol12 : p_low.length ≤ 1073741824 := o6
 have hol13 : p_high.length ≤ 1073741824 := o7
 refine Cal.of func9 rfl ntmps9 rfl (CW.seq (CW.region (sd rfl (yl_box rfl rfl rfl ?_))))
 intro b14 w15 hs16 hz17 hB18 hE19
 refine sd rfl (yl_box rfl rfl rfl ?_)
 intro b20 w21 hs22 hz23 hB24 hE25
 refine sd rfl (yl_box rfl rfl rfl ?_)
 intro b26 w27 hs28 hz29 hB30 hE31
 refine sd rfl (yl_box rfl rfl rfl ?_)
 intro b32 w33 hs34 hz35 hB36 hE37
 refine sd rfl (yl_assign rfl rfl (sd rfl (yl_assign rfl rfl (dn (CW.seq (CW.seq (CW.region ?_)))))))
 have q40 := Box.ex (Box.ex (Box.ex hB18 hE25) hE31) hE37
 refine sd rfl (yl_loadN ty34 rfl rfl (q40.cells (n := 3) rfl) rfl ?_)
 have q44 := Ex.trans (Ex.trans (Ex.trans (Ex.trans (Ex.refl w) hE19) hE25) hE31) hE37
 refine sd rfl (yl_call en28 rfl (oc rfl oz) (Cal.mono (c_i_GoodTable p_t (RdS.up (RdS.ex good_Str h1 q44) good_Str) (RdS.up (RdS.ex good_Idx h2 q44) good_Idx) o3) ?_))
 rintro v48 w47 ⟨rfl, hE49⟩
 have hE49z := Ex.size hE49
 refine sd rfl (yl_not rfl rfl (sd rfl (yl_move rfl rfl (bcase (i_GoodTable p_t) (fun hb50 => ?_) (fun hb50 => ?_)))))
 ·have hb50p := f_i_GoodTable hb50
  refine sy rfl rfl (not_t hb50) (yl_move rfl rfl ?_)
  have q51 := Ex.trans q44 hE49
  refine sy rfl rfl (not_t hb50) (yl_call en29 rfl (oc rfl oz) (Cal.mono (c_i_isRows p_store (RdS.up (RdS.ex good_Write h4 q51) good_Write) o5) ?_))
  rintro v54 w53 ⟨rfl, hE55⟩
  have hE55z := Ex.size hE55
  refine sy rfl rfl (not_t hb50) (yl_not rfl rfl (sd rfl (yl_pick_f rfl rfl (not_t hb50) rfl (sd rfl (yl_move rfl rfl (bcase (i_isRows p_store) (fun hb56 => ?_) (fun hb56 => ?_)))))))
  ·have hb56p := isRows_len hb56
   have q60 := Box.ex (Box.ex (Box.ex (Box.ex hB24 hE31) hE37) hE49) hE55
   refine sy rfl rfl (not_t hb56) (yl_load1 ty3 rfl rfl ((q60.cell 0).trans rfl) (sy rfl rfl (not_t hb56) (yl_fieldAddr fd34_1 rfl rfl ?_)))
   have q62 := Box.ex (Box.ex q40 hE49) hE55
   refine sy rfl rfl (not_t hb56) (yl_load1 ty22 rfl rfl ((q62.cell 1).trans rfl) (sy rfl rfl (not_t hb56) (yl_len un22 rfl rfl (sy rfl rfl (not_t hb56) (yl_sub rfl rfl rfl (sy rfl rfl (not_t hb56) (yl_call en30 rfl (oc rfl (oc rfl (oc rfl oz))) (Cal.mono (c_i_within p_col 1 (IntKind.wrap .i64 ((p_t.Cols.length : Int) - 1))) ?_))))))))
   rintro v64 w63 ⟨rfl, hE65⟩
   have hE65z := Ex.size hE65
   refine sy rfl rfl (not_t hb56) (yl_not rfl rfl (sd rfl (yl_pick_f rfl rfl (not_t hb56) rfl (sd rfl (yl_move rfl rfl (bcase (i_within p_col 1 (IntKind.wrap .i64 ((p_t.Cols.length : Int) - 1))) (fun hb66 => ?_) (fun hb66 => ?_)))))))
   ·have hb66p := f_within hb66
    have q70 := Box.ex (Box.ex (Box.ex (Box.ex hB30 hE37) hE49) hE55) hE65
    refine sy rfl rfl (not_t hb66) (yl_load1 ty9 rfl rfl ((q70.cell 0).trans rfl) (sy rfl rfl (not_t hb66) (yl_call en31 rfl (oc rfl oz) (Cal.mono (c_i_isField p_low o6) ?_))))
    rintro v72 w71 ⟨rfl, hE73⟩
    have hE73z := Ex.size hE73
    refine sy rfl rfl (not_t hb66) (yl_not rfl rfl (sd rfl (yl_pick_f rfl rfl (not_t hb66) rfl (sd rfl (yl_move rfl rfl (bcase (i_isField p_low) (fun hb74 => ?_) (fun hb74 => ?_)))))))
    ·have q78 := Box.ex (Box.ex (Box.ex (Box.ex hB36 hE49) hE55) hE65) hE73
     refine sy rfl rfl (not_t hb74) (yl_load1 ty9 rfl rfl ((q78.cell 0).trans rfl) (sy rfl rfl (not_t hb74) (yl_call en31 rfl (oc rfl oz) (Cal.mono (c_i_isField p_high o7) ?_))))
     rintro v80 w79 ⟨rfl, hE81⟩
     have hE81z := Ex.size hE81
     refine sy rfl rfl (not_t hb74) (yl_not rfl rfl (sd rfl (yl_pick_f rfl rfl (not_t hb74) rfl (dn (bcase (i_isField p_high) (fun hb82 => ?_) (fun hb82 => ?_))))))
     ·refine CW.cond_f rfl (not_t hb82) (CW.skip (tn (CW.seq (CW.region (sd rfl (yl_loadN ty34 rfl rfl ((Box.ex (Box.ex (Box.ex q62 hE65) hE73) hE81).cells (n := 3) rfl) rfl (sd rfl (yl_move rfl rfl ?_))))))))
      have q89 := Ex.trans (Ex.trans (Ex.trans (Ex.trans q51 hE55) hE65) hE73) hE81
      refine sd rfl (yl_call en33 rfl (oc rfl (oc rfl oz)) (Cal.mono (c_i_Table_rowsIn p_t p_store (RdS.up (RdS.ex good_Str h1 q89) good_Str) (RdS.up (RdS.ex good_Idx h2 q89) good_Idx) (RdS.up (RdS.ex good_Write h4 q89) good_Write) o3 o5 (GoodTable_eq _ ▸ hb50)) ?_))
      rintro v96 w93 ⟨A94, c94, lo94, hi94, rfl, h94, ho95, hrn98, hE97⟩
      have hE97z := Ex.size hE97
      have h94 := OwnD.toU h94
      refine sd rfl (yl_makeFunc rfl (oc rfl (oc rfl (oc rfl oz))) ?_)
      have q102 := Box.ex (Box.ex (Box.ex (Box.ex q60 hE65) hE73) hE81) hE97
      refine sd rfl (yl_call en32 rfl (oc rfl (oc rfl oz)) (Cal.mono (c_g_slices_DeleteFunc_Row (i_Table_rowsIn p_t p_store) (fun y0 => i_ScanRange_c1 y0 p_col p_low p_high) h94 en34 (fun _ y0 => fun hE hm0 hv0 ov0 => c_i_ScanRange_c1 y0 p_col p_low p_high hv0 (Box.mut q102 hE kR) (Box.mut (Box.ex (Box.ex (Box.ex q70 hE73) hE81) hE97) hE kR) (Box.mut (Box.ex (Box.ex q78 hE81) hE97) hE kR) ov0 o6 o7 (row_wide hb50 hb66 hm0)) (by omega) ho95) ?_))
      rintro v111 w108 ⟨A109, c109, rfl, h109, ho110, hm112⟩
      have hm112z := Mut.size hm112
      refine sd rfl (yl_assign rfl rfl (dn (CW.seq (CW.region (sd rfl (yl_move rfl rfl (sd rfl (yl_makeFunc rfl (oc rfl oz) (sd rfl (yl_call en35 rfl (oc rfl (oc rfl oz)) (Cal.mono (c_g_slices_SortStableFunc_Row (g_slices_DeleteFunc_Row (i_Table_rowsIn p_t p_store) (fun y0 => i_ScanRange_c1 y0 p_col p_low p_high)) (fun y0 y1 => i_ScanRange_c2 y0 y1 p_col) h109 en36 (fun _ y0 => fun y1 => fun hE hm0 hm1 hv0 hv1 ov0 ov1 => c_i_ScanRange_c2 y0 y1 p_col hv0 hv1 (Box.mut (Box.mut q102 hm112 kR) hE kR) ov0 ov1 (row_wide2 hb50 hb66 hm0 hm1)) (by omega) ho110 (del_24 hb50 hb56 _) (ord_c2 _)) ?_)))))))))))
      rintro v115 w114 ⟨rfl, h117, hm116⟩
      have hm116z := Mut.size hm116
      refine dn (CW.seq (CW.region (sd rfl (yl_move rfl rfl (sd rfl (yl_assign rfl rfl (sd rfl (yl_assign rfl rfl (dn ?_)))))))))
      refine CW.ret (rr rfl (.cons rfl (.cons rfl .nil)) ?_)
      have hfx119 := (h117).1
      rw [show (i_ScanRange p_t p_store p_col p_low p_high) = (((g_slices_SortStableFunc_Row (g_slices_DeleteFunc_Row (i_Table_rowsIn p_t p_store) (fun y0 => i_ScanRange_c1 y0 p_col p_low p_high)) (fun y0 y1 => i_ScanRange_c2 y0 y1 p_col)), true)) by simp only [i_ScanRange, hb50, hb56, hb66, hb74, hb82, cL]]
      exact ⟨A109, c109, lo94, hi94, (by first | rfl | (simp only [List.length_replicate, List.length_set]; done) | (simp only [List.length_replicate, List.length_set]; rfl) | (rw [hfx119] <;> rfl)), (OwnU.fix h117), (by omega), (Ex.mut (Ex.mut (Ex.trans q89 hE97) hm112 kR) hm116 kR)⟩
     ·refine CW.cond_t rfl (not_f hb82) (CW.seq (CW.region (sd rfl (yl_assign rfl rfl (sd rfl (yl_assign rfl rfl (dn (CW.ret (tr ?_)))))))))
      refine rr rfl (.cons rfl (.cons rfl .nil)) ?_
      rw [show (i_ScanRange p_t p_store p_col p_low p_high) = ((([] : List DRow), false)) by simp only [i_ScanRange, hb50, hb56, hb66, hb74, hb82, cL]]
      exact ⟨none, 0, w79.heap.size, w79.heap.size, rfl, (OwnU.nil _ _ _ _ _ _), (by omega), (Ex.trans (Ex.trans (Ex.trans (Ex.trans q51 hE55) hE65) hE73) hE81)⟩
    ·refine sz rfl rfl (not_f hb74) (sz rfl rfl (not_f hb74) (sz rfl rfl (not_f hb74) (sd rfl (yl_pick_t rfl rfl (not_f hb74) rfl (dn (CW.cond_t rfl rfl (CW.seq (CW.region ?_))))))))
     refine sd rfl (yl_assign rfl rfl (sd rfl (yl_assign rfl rfl (dn (CW.ret (tr (rr rfl (.cons rfl (.cons rfl .nil)) ?_)))))))
     rw [show (i_ScanRange p_t p_store p_col p_low p_high) = ((([] : List DRow), false)) by simp only [i_ScanRange, hb50, hb56, hb66, hb74, cL]]
     exact ⟨none, 0, w71.heap.size, w71.heap.size, rfl, (OwnU.nil _ _ _ _ _ _), (by omega), (Ex.trans (Ex.trans (Ex.trans q51 hE55) hE65) hE73)⟩
   ·refine sz rfl rfl (not_f hb66) (sz rfl rfl (not_f hb66) (sz rfl rfl (not_f hb66) (sd rfl (yl_pick_t rfl rfl (not_f hb66) rfl (sd rfl (yl_move rfl rfl (sz rfl rfl rfl (sz rfl rfl rfl (sz rfl rfl rfl (sd rfl (yl_pick_t rfl rfl rfl rfl ?_)))))))))))
    refine dn (CW.cond_t rfl rfl (CW.seq (CW.region (sd rfl (yl_assign rfl rfl (sd rfl (yl_assign rfl rfl (dn ?_))))))))
    refine CW.ret (tr (rr rfl (.cons rfl (.cons rfl .nil)) ?_))
    rw [show (i_ScanRange p_t p_store p_col p_low p_high) = ((([] : List DRow), false)) by simp only [i_ScanRange, hb50, hb56, hb66, cL]]
    exact ⟨none, 0, w63.heap.size, w63.heap.size, rfl, (OwnU.nil _ _ _ _ _ _), (by omega), (Ex.trans (Ex.trans q51 hE55) hE65)⟩
  ·refine sz rfl rfl (not_f hb56) (sz rfl rfl (not_f hb56) (sz rfl rfl (not_f hb56) (sz rfl rfl (not_f hb56) (sz rfl rfl (not_f hb56) (sz rfl rfl (not_f hb56) (sz rfl rfl (not_f hb56) (sd rfl (yl_pick_t rfl rfl (not_f hb56) rfl (sd rfl (yl_move rfl rfl ?_))))))))))
   refine sz rfl rfl rfl (sz rfl rfl rfl (sz rfl rfl rfl (sd rfl (yl_pick_t rfl rfl rfl rfl (sd rfl (yl_move rfl rfl (sz rfl rfl rfl (sz rfl rfl rfl (sz rfl rfl rfl (sd rfl (yl_pick_t rfl rfl rfl rfl ?_)))))))))))
   refine dn (CW.cond_t rfl rfl (CW.seq (CW.region (sd rfl (yl_assign rfl rfl (sd rfl (yl_assign rfl rfl (dn ?_))))))))
   refine CW.ret (tr (rr rfl (.cons rfl (.cons rfl .nil)) ?_))
   rw [show (i_ScanRange p_t p_store p_col p_low p_high) = ((([] : List DRow), false)) by simp only [i_ScanRange, hb50, hb56, cL]]
   exact ⟨none, 0, w53.heap.size, w53.heap.size, rfl, (OwnU.nil _ _ _ _ _ _), (by omega), (Ex.trans q51 hE55)⟩
 ·refine sz rfl rfl (not_f hb50) (sz rfl rfl (not_f hb50) (sz rfl rfl (not_f hb50) (sd rfl (yl_pick_t rfl rfl (not_f hb50) rfl (sd rfl (yl_move rfl rfl (sz rfl rfl rfl (sz rfl rfl rfl (sz rfl rfl rfl (sz rfl rfl rfl ?_))))))))))
  refine sz rfl rfl rfl (sz rfl rfl rfl (sz rfl rfl rfl (sd rfl (yl_pick_t rfl rfl rfl rfl (sd rfl (yl_move rfl rfl (sz rfl rfl rfl (sz rfl rfl rfl (sz rfl rfl rfl (sd rfl (yl_pick_t rfl rfl rfl rfl ?_)))))))))))
  refine sd rfl (yl_move rfl rfl (sz rfl rfl rfl (sz rfl rfl rfl (sz rfl rfl rfl (sd rfl (yl_pick_t rfl rfl rfl rfl (dn (CW.cond_t rfl rfl (CW.seq ?_)))))))))
  refine CW.region (sd rfl (yl_assign rfl rfl (sd rfl (yl_assign rfl rfl (dn (CW.ret (tr (rr rfl (.cons rfl (.cons rfl .nil)) ?_))))))))
  rw [show (i_ScanRange p_t p_store p_col p_low p_high) = ((([] : List DRow), false)) by simp only [i_ScanRange, hb50, cL]]
  exact ⟨none, 0, w47.heap.size, w47.heap.size, rfl, (OwnU.nil _ _ _ _ _ _), (by omega), (Ex.trans q44 hE49)⟩
theorem c_l_eqStringS {A1 : Option Addr} {c1 : Nat} {A2 : Option Addr} {c2 : Nat} {w : World} (p_a : List Str) (p_b : List Str) (h1 : RdS w (Iv 0 w.heap.size) (RF e_Str) 1 A1 p_a.length c1 p_a) (h2 : RdS w (Iv 0 w.heap.size) (RF e_Str) 1 A2 p_b.length c2 p_b) : Cal Tryz.prog 40 #[.slice A1 p_a.length c1, .slice A2 p_b.length c2] w fun v w' => v = .bool ((l_eqStringS p_a p_b)) ∧ Ex w w' := by
 refine Cal.of func40 rfl ntmps40 rfl (CW.seq (CW.region (sd rfl (yl_assign rfl rfl (dn (CW.seq (CW.seq (CW.region ?_))))))))
 refine sd rfl (yl_move rfl rfl (sd rfl (yl_len un22 rfl rfl (sd rfl (yl_move rfl rfl (sd rfl (yl_len un22 rfl rfl (sd rfl (yl_neq rfl rfl rfl (dn (bcD (q := (p_a.length : Int) = (p_b.length : Int)) (fun hb3 hb3p => ?_) (fun hb3 hb3p => ?_))))))))))))
 ·refine CW.cond_f rfl (not_t hb3) (CW.skip (tn (CW.seq (CW.seq (CW.region (sd rfl (yl_assign rfl rfl (dn ?_))))))))
  refine CW.block (CW.loop (fun m5 L6 w7 => ∃ (k4 : Nat), m5 = p_a.length - k4 ∧ k4 ≤ p_a.length ∧ w.heap.size ≤ w7.heap.size ∧ Sub [(0, .slice A1 p_a.length c1), (1, .slice A2 p_b.length c2), (5, .int .i64 ((k4 : Int)))] L6 ∧ Ex w w7 ∧ loopM (B_l_eqStringS_0 p_a p_b) (p_a.length - k4) k4 () = loopM (B_l_eqStringS_0 p_a p_b) (p_a.length - 0) 0 ()) (p_a.length - 0) ?_ ?_)
  ·exact ⟨0, rfl, (by omega), Nat.le_refl _, (sR rfl), (Ex.refl w), rfl⟩
  ·rintro m8 L9 w10 ⟨k4, rfl, hk11, hsz13, hl14, hf15, hI12⟩
   refine CW.sub hl14 ?_
   have hf15z := Ex.size hf15
   have q17 := RdS.ex good_Str h1 hf15
   have hbg16 := RdS.big q17
   rcases Nat.lt_or_ge k4 p_a.length with hlt18 | hlt18
   ·refine CW.seq (CW.seq (CW.region (sd rfl (yl_move rfl rfl (sd rfl (yl_move rfl rfl (sd rfl (yl_len un22 rfl rfl (sd rfl (yl_lss rfl rfl rfl (dn ?_)))))))))))
    refine CW.cond_t rfl (lt_t hlt18) (CW.skip (tn (CW.seq (CW.block (CW.seq ?_)))))
    obtain ⟨eb19, eo19, _, eA19, _, ebl19, _, eR19, eC19⟩ := RdS.aD q17 d_Str (i := k4)
    obtain rfl := eR19
    obtain ⟨eb21, eo21, _, eA21, _, ebl21, _, eR21, eC21⟩ := RdS.aD (RdS.ex good_Str h2 hf15) d_Str (i := k4)
    obtain rfl := eR21
    refine drJ 9 [.slice A1 p_a.length c1, .int .i64 ((k4 : Int)), .pointer (some ⟨eb19, eo19 + k4 * 1, none⟩), .string (bs ((p_a.getD k4 d_Str))), .slice A2 p_b.length c2, .int .i64 ((k4 : Int)), .pointer (some ⟨eb21, eo21 + k4 * 1, none⟩), .string (bs ((p_b.getD k4 d_Str))), .bool (!((p_a.getD k4 d_Str) == (p_b.getD k4 d_Str)))] Tryz.follows rfl ⟨oI rfl fun h => yl_move rfl (h.g 0 rfl) kI, oI rfl fun h => yl_move rfl (h.g 5 rfl) kI, ?_, oI rfl fun h => yl_load1 ty9 rfl (h.g 19 rfl) ((Cells.ex eC19 h.ex) 0 _ rfl) kI, oI rfl fun h => yl_move rfl (h.g 1 rfl) kI, oI rfl fun h => yl_move rfl (h.g 5 rfl) kI, ?_, oI rfl fun h => yl_load1 ty9 rfl (h.g 23 rfl) ((Cells.ex eC21 h.ex) 0 _ rfl) kI, oI rfl fun h => yl_sneq (a := (p_a.getD k4 d_Str)) (b := (p_b.getD k4 d_Str)) rfl (h.g 20 rfl) (h.g 24 rfl) kI, trivial⟩ ?_
    ·intro L32 w33 hi34
     have hE35 := hi34.ex
     have hE35z := Ex.size hE35
     exact os rfl ((yl_ixN un22 ty9 rfl (hi34.g 17 rfl) (hi34.g 18 rfl) eA19 kI))
    ·intro L54 w55 hi56
     have hE57 := hi56.ex
     have hE57z := Ex.size hE57
     exact os rfl ((yl_ixN un22 ty9 rfl (hi56.g 21 rfl) (hi56.g 22 rfl) eA21 kI))
    ·intro fl75 fh76 L72 w73 hp74
     have hE77 := hp74.ex
     have hE77z := Ex.size hE77
     refine dn (CW.sub (hp74.ss [0, 1, 5, 25] rfl) (bcase ((p_a.getD k4 d_Str) == (p_b.getD k4 d_Str)) (fun hb82 => ?_) (fun hb82 => ?_)))
     ·refine CW.cond_f rfl (not_t hb82) (CW.skip (bn (tn (CW.region (sd rfl (yl_move rfl rfl (sd rfl (yl_inc rfl rfl rfl (by omega) (sd rfl (yl_assign rfl rfl (SeqR.done ?_)))))))))))
      refine tn ?_
      have hB83 : B_l_eqStringS_0 p_a p_b k4 () = .cont () := by simp only [B_l_eqStringS_0, hb3, hb82, cL]
      exact ⟨p_a.length - (k4 + 1), by omega, k4 + 1, rfl, hlt18, (by omega), (sR rfl), (Ex.trans hf15 hE77), (loopM.cont hlt18 hB83).symm.trans hI12⟩
     ·refine CW.cond_t rfl (not_f hb82) (CW.seq (CW.region (sd rfl (yl_assign rfl rfl (dn (CW.ret (br (tr ?_))))))))
      refine tr ?_
      have hB86 : B_l_eqStringS_0 p_a p_b k4 () = .ret false := by simp only [B_l_eqStringS_0, hb3, hb82, cL]
      have hL85 : loopM (B_l_eqStringS_0 p_a p_b) (p_a.length - 0) 0 () = .ret false := hI12.symm.trans (loopM.ret hlt18 hB86)
      refine br (tr (rr rfl (.cons rfl .nil) ?_))
      rw [show (l_eqStringS p_a p_b) = (false) by simp only [l_eqStringS, hb3, hb82, hL85, cL]]
      exact ⟨rfl, (Ex.trans hf15 hE77)⟩
   ·refine CW.seq (CW.seq (CW.region (sd rfl (yl_move rfl rfl (sd rfl (yl_move rfl rfl (sd rfl (yl_len un22 rfl rfl (sd rfl (yl_lss rfl rfl rfl (dn ?_)))))))))))
    refine CW.cond_f rfl (lt_f hlt18) (CW.exit (tx (tx ?_)))
    have hL89 : loopM (B_l_eqStringS_0 p_a p_b) (p_a.length - 0) 0 () = .done () := hI12.symm.trans (loopM.stop hlt18)
    refine bx (tn (CW.seq (CW.region (sd rfl (yl_assign rfl rfl (dn (CW.ret (rr rfl (.cons rfl .nil) ?_))))))))
    rw [show (l_eqStringS p_a p_b) = (true) by simp only [l_eqStringS, hb3, hL89, cL]]
    exact ⟨rfl, hf15⟩
 ·refine CW.cond_t rfl (not_f hb3) (CW.seq (CW.region (sd rfl (yl_assign rfl rfl (dn (CW.ret (tr (rr rfl (.cons rfl .nil) ?_))))))))
  rw [show (l_eqStringS p_a p_b) = (false) by simp only [l_eqStringS, hb3, cL]]
  exact ⟨rfl, (Ex.refl w)⟩
theorem c_l_eqRow {A1 : Option Addr} {c1 : Nat} {A2 : Option Addr} {c2 : Nat} {w : World} (p_a : DRow) (p_b : DRow) (h1 : RdS w (Iv 0 w.heap.size) (RF e_Str) 1 A1 p_a.Vals.length c1 p_a.Vals) (h2 : RdS w (Iv 0 w.heap.size) (RF e_Str) 1 A2 p_b.Vals.length c2 p_b.Vals) : Cal Tryz.prog 39 #[.agg #[.slice A1 p_a.Vals.length c1], .agg #[.slice A2 p_b.Vals.length c2]] w fun v w' => v = .bool ((l_eqRow p_a p_b)) ∧ Ex w w' := by
 refine Cal.of func39 rfl ntmps39 rfl (CW.seq (CW.region (sd rfl (yl_box rfl rfl rfl ?_))))
 intro b3 w4 hs5 hz6 hB7 hE8
 refine sd rfl (yl_box rfl rfl rfl ?_)
 intro b9 w10 hs11 hz12 hB13 hE14
 refine sd rfl (yl_assign rfl rfl (dn (CW.seq (CW.seq (CW.region (sd rfl (yl_fieldAddr fd61_0 rfl rfl (sd rfl (yl_load1 ty22 rfl rfl (((Box.ex hB7 hE14).cell 0).trans rfl) (sd rfl (yl_fieldAddr fd61_0 rfl rfl ?_)))))))))))
 refine sd rfl (yl_load1 ty22 rfl rfl ((hB13.cell 0).trans rfl) ?_)
 have q17 := Ex.trans (Ex.trans (Ex.refl w) hE8) hE14
 refine sd rfl (yl_call en40 rfl (oc rfl (oc rfl oz)) (Cal.mono (c_l_eqStringS p_a.Vals p_b.Vals (RdS.up (RdS.ex good_Str h1 q17) good_Str) (RdS.up (RdS.ex good_Str h2 q17) good_Str)) ?_))
 rintro v21 w20 ⟨rfl, hE22⟩
 refine sd rfl (yl_not rfl rfl (dn (bcase (l_eqStringS p_a.Vals p_b.Vals) (fun hb23 => ?_) (fun hb23 => ?_))))
 ·refine CW.cond_f rfl (not_t hb23) (CW.skip (tn (CW.seq (CW.region (sd rfl (yl_assign rfl rfl (dn (CW.ret ?_))))))))
  refine rr rfl (.cons rfl .nil) ?_
  rw [show (l_eqRow p_a p_b) = (true) by simp only [l_eqRow, hb23, cL]]
  exact ⟨rfl, (Ex.trans q17 hE22)⟩
 ·refine CW.cond_t rfl (not_f hb23) (CW.seq (CW.region (sd rfl (yl_assign rfl rfl (dn (CW.ret (tr (rr rfl (.cons rfl .nil) ?_))))))))
  rw [show (l_eqRow p_a p_b) = (false) by simp only [l_eqRow, hb23, cL]]
  exact ⟨rfl, (Ex.trans q17 hE22)⟩
theorem c_l_eqRowS {A1 : Option Addr} {c1 : Nat} {A2 : Option Addr} {c2 : Nat} {w : World} (p_a : List DRow) (p_b : List DRow) (h1 : RdS w (Iv 0 w.heap.size) R_Row 1 A1 p_a.length c1 p_a) (h2 : RdS w (Iv 0 w.heap.size) R_Row 1 A2 p_b.length c2 p_b) : Cal Tryz.prog 10 #[.slice A1 p_a.length c1, .slice A2 p_b.length c2] w fun v w' => v = .bool ((l_eqRowS p_a p_b)) ∧ Ex w w' := by
 refine Cal.of func10 rfl ntmps10 rfl (CW.seq (CW.region (sd rfl (yl_assign rfl rfl (dn (CW.seq (CW.seq (CW.region ?_))))))))
 refine sd rfl (yl_move rfl rfl (sd rfl (yl_len un29 rfl rfl (sd rfl (yl_move rfl rfl (sd rfl (yl_len un29 rfl rfl (sd rfl (yl_neq rfl rfl rfl (dn (bcD (q := (p_a.length : Int) = (p_b.length : Int)) (fun hb3 hb3p => ?_) (fun hb3 hb3p => ?_))))))))))))
 ·refine CW.cond_f rfl (not_t hb3) (CW.skip (tn (CW.seq (CW.seq (CW.region (sd rfl (yl_assign rfl rfl (dn ?_))))))))
  refine CW.block (CW.loop (fun m5 L6 w7 => ∃ (k4 : Nat), m5 = p_a.length - k4 ∧ k4 ≤ p_a.length ∧ w.heap.size ≤ w7.heap.size ∧ Sub [(0, .slice A1 p_a.length c1), (1, .slice A2 p_b.length c2), (5, .int .i64 ((k4 : Int)))] L6 ∧ Ex w w7 ∧ loopM (B_l_eqRowS_0 p_a p_b) (p_a.length - k4) k4 () = loopM (B_l_eqRowS_0 p_a p_b) (p_a.length - 0) 0 ()) (p_a.length - 0) ?_ ?_)
  ·exact ⟨0, rfl, (by omega), Nat.le_refl _, (sR rfl), (Ex.refl w), rfl⟩
  ·rintro m8 L9 w10 ⟨k4, rfl, hk11, hsz13, hl14, hf15, hI12⟩
   refine CW.sub hl14 ?_
   have hf15z := Ex.size hf15
   have q17 := RdS.ex good_Row h1 hf15
   have hbg16 := RdS.big q17
   rcases Nat.lt_or_ge k4 p_a.length with hlt18 | hlt18
   ·refine CW.seq (CW.seq (CW.region (sd rfl (yl_move rfl rfl (sd rfl (yl_move rfl rfl (sd rfl (yl_len un29 rfl rfl (sd rfl (yl_lss rfl rfl rfl (dn ?_)))))))))))
    refine CW.cond_t rfl (lt_t hlt18) (CW.skip (tn (CW.seq (CW.block (CW.seq ?_)))))
    obtain ⟨eb19, eo19, _, eA19, _, ebl19, _, eR19, eC19⟩ := RdS.aD q17 d_Row (i := k4)
    obtain ⟨A20, c20, rfl, h20⟩ := eR19
    obtain ⟨eb22, eo22, _, eA22, _, ebl22, _, eR22, eC22⟩ := RdS.aD (RdS.ex good_Row h2 hf15) d_Row (i := k4)
    obtain ⟨A23, c23, rfl, h23⟩ := eR22
    refine drJ 10 [.slice A1 p_a.length c1, .int .i64 ((k4 : Int)), .pointer (some ⟨eb19, eo19 + k4 * 1, none⟩), .agg #[.slice A20 (((p_a.getD k4 d_Row).Vals).length) c20], .slice A2 p_b.length c2, .int .i64 ((k4 : Int)), .pointer (some ⟨eb22, eo22 + k4 * 1, none⟩), .agg #[.slice A23 (((p_b.getD k4 d_Row).Vals).length) c23], .bool ((l_eqRow (p_a.getD k4 d_Row) (p_b.getD k4 d_Row))), .bool (!(l_eqRow (p_a.getD k4 d_Row) (p_b.getD k4 d_Row)))] Tryz.follows rfl ⟨oI rfl fun h => yl_move rfl (h.g 0 rfl) kI, oI rfl fun h => yl_move rfl (h.g 5 rfl) kI, ?_, oI rfl fun h => yl_loadN ty61 rfl (h.g 19 rfl) (Cells.ex eC19 h.ex) rfl kI, oI rfl fun h => yl_move rfl (h.g 1 rfl) kI, oI rfl fun h => yl_move rfl (h.g 5 rfl) kI, ?_, oI rfl fun h => yl_loadN ty61 rfl (h.g 23 rfl) (Cells.ex eC22 h.ex) rfl kI, ?_, oI rfl fun h => yl_not rfl (h.g 25 rfl) kI, trivial⟩ ?_
    ·intro L35 w36 hi37
     have hE38 := hi37.ex
     have hE38z := Ex.size hE38
     exact os rfl ((yl_ixN un29 ty61 rfl (hi37.g 17 rfl) (hi37.g 18 rfl) eA19 kI))
    ·intro L57 w58 hi59
     have hE60 := hi59.ex
     have hE60z := Ex.size hE60
     exact os rfl ((yl_ixN un29 ty61 rfl (hi59.g 21 rfl) (hi59.g 22 rfl) eA22 kI))
    ·intro L69 w70 hi71
     have hE72 := hi71.ex
     exact OpR.op' rfl (yl_call en39 rfl (oc (hi71.g 20 rfl) (oc (hi71.g 24 rfl) oz)) (Cal.mono (c_l_eqRow (p_a.getD k4 d_Row) (p_b.getD k4 d_Row) (RdS.up (RdS.ex good_Str h20 hE72) good_Str) (RdS.up (RdS.ex good_Str h23 hE72) good_Str)) fun _ _ h => h))
    ·intro fl88 fh89 L85 w86 hp87
     have hE90 := hp87.ex
     have hE90z := Ex.size hE90
     refine dn (CW.sub (hp87.ss [0, 1, 5, 26] rfl) (bcase (l_eqRow (p_a.getD k4 d_Row) (p_b.getD k4 d_Row)) (fun hb95 => ?_) (fun hb95 => ?_)))
     ·refine CW.cond_f rfl (not_t hb95) (CW.skip (bn (tn (CW.region (sd rfl (yl_move rfl rfl (sd rfl (yl_inc rfl rfl rfl (by omega) (sd rfl (yl_assign rfl rfl (SeqR.done ?_)))))))))))
      refine tn ?_
      have hB96 : B_l_eqRowS_0 p_a p_b k4 () = .cont () := by simp only [B_l_eqRowS_0, hb3, hb95, cL]
      exact ⟨p_a.length - (k4 + 1), by omega, k4 + 1, rfl, hlt18, (by omega), (sR rfl), (Ex.trans hf15 hE90), (loopM.cont hlt18 hB96).symm.trans hI12⟩
     ·refine CW.cond_t rfl (not_f hb95) (CW.seq (CW.region (sd rfl (yl_assign rfl rfl (dn (CW.ret (br (tr ?_))))))))
      refine tr ?_
      have hB99 : B_l_eqRowS_0 p_a p_b k4 () = .ret false := by simp only [B_l_eqRowS_0, hb3, hb95, cL]
      have hL98 : loopM (B_l_eqRowS_0 p_a p_b) (p_a.length - 0) 0 () = .ret false := hI12.symm.trans (loopM.ret hlt18 hB99)
      refine br (tr (rr rfl (.cons rfl .nil) ?_))
      rw [show (l_eqRowS p_a p_b) = (false) by simp only [l_eqRowS, hb3, hb95, hL98, cL]]
      exact ⟨rfl, (Ex.trans hf15 hE90)⟩
   ·refine CW.seq (CW.seq (CW.region (sd rfl (yl_move rfl rfl (sd rfl (yl_move rfl rfl (sd rfl (yl_len un29 rfl rfl (sd rfl (yl_lss rfl rfl rfl (dn ?_)))))))))))
    refine CW.cond_f rfl (lt_f hlt18) (CW.exit (tx (tx ?_)))
    have hL102 : loopM (B_l_eqRowS_0 p_a p_b) (p_a.length - 0) 0 () = .done () := hI12.symm.trans (loopM.stop hlt18)
    refine bx (tn (CW.seq (CW.region (sd rfl (yl_assign rfl rfl (dn (CW.ret (rr rfl (.cons rfl .nil) ?_))))))))
    rw [show (l_eqRowS p_a p_b) = (true) by simp only [l_eqRowS, hb3, hL102, cL]]
    exact ⟨rfl, hf15⟩
 ·refine CW.cond_t rfl (not_f hb3) (CW.seq (CW.region (sd rfl (yl_assign rfl rfl (dn (CW.ret (tr (rr rfl (.cons rfl .nil) ?_))))))))
  rw [show (l_eqRowS p_a p_b) = (false) by simp only [l_eqRowS, hb3, cL]]
  exact ⟨rfl, (Ex.refl w)⟩
theorem c_l_eqIdx {w : World} (p_a : DIdx) (p_b : DIdx) : Cal Tryz.prog 66 #[.agg #[.string (bs (p_a.Name)), .int .i64 (p_a.Col), .int .i64 (p_a.Stage)], .agg #[.string (bs (p_b.Name)), .int .i64 (p_b.Col), .int .i64 (p_b.Stage)]] w fun v w' => v = .bool ((l_eqIdx p_a p_b)) ∧ Ex w w' := by
 refine Cal.of func66 rfl ntmps66 rfl (CW.seq (CW.region (sd rfl (yl_box rfl rfl rfl ?_))))
 intro b1 w2 hs3 hz4 hB5 hE6
 refine sd rfl (yl_box rfl rfl rfl ?_)
 intro b7 w8 hs9 hz10 hB11 hE12
 refine sd rfl (yl_assign rfl rfl (dn (CW.seq (CW.seq (CW.region (sd rfl (yl_fieldAddr fd79_0 rfl rfl ?_)))))))
 have q13 := Box.ex hB5 hE12
 refine sd rfl (yl_load1 ty9 rfl rfl ((q13.cell 0).trans rfl) (sd rfl (yl_fieldAddr fd79_0 rfl rfl (sd rfl (yl_load1 ty9 rfl rfl ((hB11.cell 0).trans rfl) (sd rfl (yl_sneq (a := p_a.Name) (b := p_b.Name) rfl rfl rfl (dn (bcase (p_a.Name == p_b.Name) (fun hb14 => ?_) (fun hb14 => ?_))))))))))
 ·refine CW.cond_f rfl (not_t hb14) (CW.skip (tn (CW.seq (CW.seq (CW.region (sd rfl (yl_fieldAddr fd79_1 rfl rfl (sd rfl (yl_load1 ty3 rfl rfl ((q13.cell 1).trans rfl) (sd rfl (yl_fieldAddr fd79_1 rfl rfl ?_)))))))))))
  refine sd rfl (yl_load1 ty3 rfl rfl ((hB11.cell 1).trans rfl) (sd rfl (yl_neq rfl rfl rfl (dn (bcD (q := p_a.Col = p_b.Col) (fun hb15 hb15p => ?_) (fun hb15 hb15p => ?_))))))
  ·refine CW.cond_f rfl (not_t hb15) (CW.skip (tn (CW.seq (CW.seq (CW.region (sd rfl (yl_fieldAddr fd79_2 rfl rfl (sd rfl (yl_load1 ty3 rfl rfl ((q13.cell 2).trans rfl) (sd rfl (yl_fieldAddr fd79_2 rfl rfl ?_)))))))))))
   refine sd rfl (yl_load1 ty3 rfl rfl ((hB11.cell 2).trans rfl) (sd rfl (yl_neq rfl rfl rfl (dn (bcD (q := p_a.Stage = p_b.Stage) (fun hb16 hb16p => ?_) (fun hb16 hb16p => ?_))))))
   ·refine CW.cond_f rfl (not_t hb16) (CW.skip (tn (CW.seq (CW.region (sd rfl (yl_assign rfl rfl (dn (CW.ret ?_))))))))
    refine rr rfl (.cons rfl .nil) ?_
    rw [show (l_eqIdx p_a p_b) = (true) by simp only [l_eqIdx, hb14, hb15, hb16, cL]]
    exact ⟨rfl, (Ex.trans (Ex.trans (Ex.refl w) hE6) hE12)⟩
   ·refine CW.cond_t rfl (not_f hb16) (CW.seq (CW.region (sd rfl (yl_assign rfl rfl (dn (CW.ret (tr (rr rfl (.cons rfl .nil) ?_))))))))
    rw [show (l_eqIdx p_a p_b) = (false) by simp only [l_eqIdx, hb14, hb15, hb16, cL]]
    exact ⟨rfl, (Ex.trans (Ex.trans (Ex.refl w) hE6) hE12)⟩
  ·refine CW.cond_t rfl (not_f hb15) (CW.seq (CW.region (sd rfl (yl_assign rfl rfl (dn (CW.ret (tr (rr rfl (.cons rfl .nil) ?_))))))))
   rw [show (l_eqIdx p_a p_b) = (false) by simp only [l_eqIdx, hb14, hb15, cL]]
   exact ⟨rfl, (Ex.trans (Ex.trans (Ex.refl w) hE6) hE12)⟩
 ·refine CW.cond_t rfl (not_f hb14) (CW.seq (CW.region (sd rfl (yl_assign rfl rfl (dn (CW.ret (tr (rr rfl (.cons rfl .nil) ?_))))))))
  rw [show (l_eqIdx p_a p_b) = (false) by simp only [l_eqIdx, hb14, cL]]
  exact ⟨rfl, (Ex.trans (Ex.trans (Ex.refl w) hE6) hE12)⟩
theorem c_l_eqIdxS {A1 : Option Addr} {c1 : Nat} {A2 : Option Addr} {c2 : Nat} {w : World} (p_a : List DIdx) (p_b : List DIdx) (h1 : RdS w (Iv 0 w.heap.size) (RF e_Idx) 3 A1 p_a.length c1 p_a) (h2 : RdS w (Iv 0 w.heap.size) (RF e_Idx) 3 A2 p_b.length c2 p_b) : Cal Tryz.prog 41 #[.slice A1 p_a.length c1, .slice A2 p_b.length c2] w fun v w' => v = .bool ((l_eqIdxS p_a p_b)) ∧ Ex w w' := by
 refine Cal.of func41 rfl ntmps41 rfl (CW.seq (CW.region (sd rfl (yl_assign rfl rfl (dn (CW.seq (CW.seq (CW.region ?_))))))))
 refine sd rfl (yl_move rfl rfl (sd rfl (yl_len un32 rfl rfl (sd rfl (yl_move rfl rfl (sd rfl (yl_len un32 rfl rfl (sd rfl (yl_neq rfl rfl rfl (dn (bcD (q := (p_a.length : Int) = (p_b.length : Int)) (fun hb3 hb3p => ?_) (fun hb3 hb3p => ?_))))))))))))
 ·refine CW.cond_f rfl (not_t hb3) (CW.skip (tn (CW.seq (CW.seq (CW.region (sd rfl (yl_assign rfl rfl (dn ?_))))))))
  refine CW.block (CW.loop (fun m5 L6 w7 => ∃ (k4 : Nat), m5 = p_a.length - k4 ∧ k4 ≤ p_a.length ∧ w.heap.size ≤ w7.heap.size ∧ Sub [(0, .slice A1 p_a.length c1), (1, .slice A2 p_b.length c2), (5, .int .i64 ((k4 : Int)))] L6 ∧ Ex w w7 ∧ loopM (B_l_eqIdxS_0 p_a p_b) (p_a.length - k4) k4 () = loopM (B_l_eqIdxS_0 p_a p_b) (p_a.length - 0) 0 ()) (p_a.length - 0) ?_ ?_)
  ·exact ⟨0, rfl, (by omega), Nat.le_refl _, (sR rfl), (Ex.refl w), rfl⟩
  ·rintro m8 L9 w10 ⟨k4, rfl, hk11, hsz13, hl14, hf15, hI12⟩
   refine CW.sub hl14 ?_
   have hf15z := Ex.size hf15
   have q17 := RdS.ex good_Idx h1 hf15
   have hbg16 := RdS.big q17
   rcases Nat.lt_or_ge k4 p_a.length with hlt18 | hlt18
   ·refine CW.seq (CW.seq (CW.region (sd rfl (yl_move rfl rfl (sd rfl (yl_move rfl rfl (sd rfl (yl_len un32 rfl rfl (sd rfl (yl_lss rfl rfl rfl (dn ?_)))))))))))
    refine CW.cond_t rfl (lt_t hlt18) (CW.skip (tn (CW.seq (CW.block (CW.seq ?_)))))
    obtain ⟨eb19, eo19, _, eA19, _, ebl19, _, eR19, eC19⟩ := RdS.aD q17 d_Idx (i := k4)
    obtain rfl := eR19
    obtain ⟨eb21, eo21, _, eA21, _, ebl21, _, eR21, eC21⟩ := RdS.aD (RdS.ex good_Idx h2 hf15) d_Idx (i := k4)
    obtain rfl := eR21
    refine drJ 10 [.slice A1 p_a.length c1, .int .i64 ((k4 : Int)), .pointer (some ⟨eb19, eo19 + k4 * 3, none⟩), .agg #[.string (bs ((p_a.getD k4 d_Idx).Name)), .int .i64 ((p_a.getD k4 d_Idx).Col), .int .i64 ((p_a.getD k4 d_Idx).Stage)], .slice A2 p_b.length c2, .int .i64 ((k4 : Int)), .pointer (some ⟨eb21, eo21 + k4 * 3, none⟩), .agg #[.string (bs ((p_b.getD k4 d_Idx).Name)), .int .i64 ((p_b.getD k4 d_Idx).Col), .int .i64 ((p_b.getD k4 d_Idx).Stage)], .bool ((l_eqIdx (p_a.getD k4 d_Idx) (p_b.getD k4 d_Idx))), .bool (!(l_eqIdx (p_a.getD k4 d_Idx) (p_b.getD k4 d_Idx)))] Tryz.follows rfl ⟨oI rfl fun h => yl_move rfl (h.g 0 rfl) kI, oI rfl fun h => yl_move rfl (h.g 5 rfl) kI, ?_, oI rfl fun h => yl_loadN ty79 rfl (h.g 19 rfl) (Cells.ex eC19 h.ex) rfl kI, oI rfl fun h => yl_move rfl (h.g 1 rfl) kI, oI rfl fun h => yl_move rfl (h.g 5 rfl) kI, ?_, oI rfl fun h => yl_loadN ty79 rfl (h.g 23 rfl) (Cells.ex eC21 h.ex) rfl kI, ?_, oI rfl fun h => yl_not rfl (h.g 25 rfl) kI, trivial⟩ ?_
    ·intro L33 w34 hi35
     have hE36 := hi35.ex
     have hE36z := Ex.size hE36
     exact os rfl ((yl_ixN un32 ty79 rfl (hi35.g 17 rfl) (hi35.g 18 rfl) eA19 kI))
    ·intro L55 w56 hi57
     have hE58 := hi57.ex
     have hE58z := Ex.size hE58
     exact os rfl ((yl_ixN un32 ty79 rfl (hi57.g 21 rfl) (hi57.g 22 rfl) eA21 kI))
    ·intro L67 w68 hi69
     exact OpR.op' rfl (yl_call en66 rfl (oc (hi69.g 20 rfl) (oc (hi69.g 24 rfl) oz)) (Cal.mono (c_l_eqIdx (p_a.getD k4 d_Idx) (p_b.getD k4 d_Idx)) fun _ _ h => h))
    ·intro fl84 fh85 L81 w82 hp83
     have hE86 := hp83.ex
     have hE86z := Ex.size hE86
     refine dn (CW.sub (hp83.ss [0, 1, 5, 26] rfl) (bcase (l_eqIdx (p_a.getD k4 d_Idx) (p_b.getD k4 d_Idx)) (fun hb91 => ?_) (fun hb91 => ?_)))
     ·refine CW.cond_f rfl (not_t hb91) (CW.skip (bn (tn (CW.region (sd rfl (yl_move rfl rfl (sd rfl (yl_inc rfl rfl rfl (by omega) (sd rfl (yl_assign rfl rfl (SeqR.done ?_)))))))))))
      refine tn ?_
      have hB92 : B_l_eqIdxS_0 p_a p_b k4 () = .cont () := by simp only [B_l_eqIdxS_0, hb3, hb91, cL]
      exact ⟨p_a.length - (k4 + 1), by omega, k4 + 1, rfl, hlt18, (by omega), (sR rfl), (Ex.trans hf15 hE86), (loopM.cont hlt18 hB92).symm.trans hI12⟩
     ·refine CW.cond_t rfl (not_f hb91) (CW.seq (CW.region (sd rfl (yl_assign rfl rfl (dn (CW.ret (br (tr ?_))))))))
      refine tr ?_
      have hB95 : B_l_eqIdxS_0 p_a p_b k4 () = .ret false := by simp only [B_l_eqIdxS_0, hb3, hb91, cL]
      have hL94 : loopM (B_l_eqIdxS_0 p_a p_b) (p_a.length - 0) 0 () = .ret false := hI12.symm.trans (loopM.ret hlt18 hB95)
      refine br (tr (rr rfl (.cons rfl .nil) ?_))
      rw [show (l_eqIdxS p_a p_b) = (false) by simp only [l_eqIdxS, hb3, hb91, hL94, cL]]
      exact ⟨rfl, (Ex.trans hf15 hE86)⟩
   ·refine CW.seq (CW.seq (CW.region (sd rfl (yl_move rfl rfl (sd rfl (yl_move rfl rfl (sd rfl (yl_len un32 rfl rfl (sd rfl (yl_lss rfl rfl rfl (dn ?_)))))))))))
    refine CW.cond_f rfl (lt_f hlt18) (CW.exit (tx (tx ?_)))
    have hL98 : loopM (B_l_eqIdxS_0 p_a p_b) (p_a.length - 0) 0 () = .done () := hI12.symm.trans (loopM.stop hlt18)
    refine bx (tn (CW.seq (CW.region (sd rfl (yl_assign rfl rfl (dn (CW.ret (rr rfl (.cons rfl .nil) ?_))))))))
    rw [show (l_eqIdxS p_a p_b) = (true) by simp only [l_eqIdxS, hb3, hL98, cL]]
    exact ⟨rfl, hf15⟩
 ·refine CW.cond_t rfl (not_f hb3) (CW.seq (CW.region (sd rfl (yl_assign rfl rfl (dn (CW.ret (tr (rr rfl (.cons rfl .nil) ?_))))))))
  rw [show (l_eqIdxS p_a p_b) = (false) by simp only [l_eqIdxS, hb3, cL]]
  exact ⟨rfl, (Ex.refl w)⟩
theorem c_l_eqTable {A1 : Option Addr} {c1 : Nat} {A2 : Option Addr} {c2 : Nat} {A3 : Option Addr} {c3 : Nat} {A4 : Option Addr} {c4 : Nat} {w : World} (p_a : DTable) (p_b : DTable) (h1 : RdS w (Iv 0 w.heap.size) (RF e_Str) 1 A1 p_a.Cols.length c1 p_a.Cols) (h2 : RdS w (Iv 0 w.heap.size) (RF e_Idx) 3 A2 p_a.Idxs.length c2 p_a.Idxs) (h3 : RdS w (Iv 0 w.heap.size) (RF e_Str) 1 A3 p_b.Cols.length c3 p_b.Cols) (h4 : RdS w (Iv 0 w.heap.size) (RF e_Idx) 3 A4 p_b.Idxs.length c4 p_b.Idxs) : Cal Tryz.prog 11 #[.agg #[.string (bs (p_a.Name)), .slice A1 p_a.Cols.length c1, .slice A2 p_a.Idxs.length c2], .agg #[.string (bs (p_b.Name)), .slice A3 p_b.Cols.length c3, .slice A4 p_b.Idxs.length c4]] w fun v w' => v = .bool ((l_eqTable p_a p_b)) ∧ Ex w w' := by
 refine Cal.of func11 rfl ntmps11 rfl (CW.seq (CW.region (sd rfl (yl_box rfl rfl rfl ?_))))
 intro b5 w6 hs7 hz8 hB9 hE10
 refine sd rfl (yl_box rfl rfl rfl ?_)
 intro b11 w12 hs13 hz14 hB15 hE16
 refine sd rfl (yl_assign rfl rfl (dn (CW.seq (CW.seq (CW.region (sd rfl (yl_fieldAddr fd34_0 rfl rfl ?_)))))))
 have q17 := Box.ex hB9 hE16
 refine sd rfl (yl_load1 ty9 rfl rfl ((q17.cell 0).trans rfl) (sd rfl (yl_fieldAddr fd34_0 rfl rfl (sd rfl (yl_load1 ty9 rfl rfl ((hB15.cell 0).trans rfl) (sd rfl (yl_sneq (a := p_a.Name) (b := p_b.Name) rfl rfl rfl (dn (bcase (p_a.Name == p_b.Name) (fun hb18 => ?_) (fun hb18 => ?_))))))))))
 ·refine CW.cond_f rfl (not_t hb18) (CW.skip (tn (CW.seq (CW.seq (CW.region (sd rfl (yl_fieldAddr fd34_1 rfl rfl (sd rfl (yl_load1 ty22 rfl rfl ((q17.cell 1).trans rfl) (sd rfl (yl_fieldAddr fd34_1 rfl rfl ?_)))))))))))
  refine sd rfl (yl_load1 ty22 rfl rfl ((hB15.cell 1).trans rfl) ?_)
  have q20 := Ex.trans (Ex.trans (Ex.refl w) hE10) hE16
  refine sd rfl (yl_call en40 rfl (oc rfl (oc rfl oz)) (Cal.mono (c_l_eqStringS p_a.Cols p_b.Cols (RdS.up (RdS.ex good_Str h1 q20) good_Str) (RdS.up (RdS.ex good_Str h3 q20) good_Str)) ?_))
  rintro v24 w23 ⟨rfl, hE25⟩
  refine sd rfl (yl_not rfl rfl (dn (bcase (l_eqStringS p_a.Cols p_b.Cols) (fun hb26 => ?_) (fun hb26 => ?_))))
  ·refine CW.cond_f rfl (not_t hb26) (CW.skip (tn (CW.seq (CW.seq (CW.region (sd rfl (yl_fieldAddr fd34_2 rfl rfl (sd rfl (yl_load1 ty32 rfl rfl (((Box.ex q17 hE25).cell 2).trans rfl) (sd rfl (yl_fieldAddr fd34_2 rfl rfl ?_)))))))))))
   refine sd rfl (yl_load1 ty32 rfl rfl (((Box.ex hB15 hE25).cell 2).trans rfl) ?_)
   have q29 := Ex.trans q20 hE25
   refine sd rfl (yl_call en41 rfl (oc rfl (oc rfl oz)) (Cal.mono (c_l_eqIdxS p_a.Idxs p_b.Idxs (RdS.up (RdS.ex good_Idx h2 q29) good_Idx) (RdS.up (RdS.ex good_Idx h4 q29) good_Idx)) ?_))
   rintro v33 w32 ⟨rfl, hE34⟩
   refine sd rfl (yl_not rfl rfl (dn (bcase (l_eqIdxS p_a.Idxs p_b.Idxs) (fun hb35 => ?_) (fun hb35 => ?_))))
   ·refine CW.cond_f rfl (not_t hb35) (CW.skip (tn (CW.seq (CW.region (sd rfl (yl_assign rfl rfl (dn (CW.ret ?_))))))))
    refine rr rfl (.cons rfl .nil) ?_
    rw [show (l_eqTable p_a p_b) = (true) by simp only [l_eqTable, hb18, hb26, hb35, cL]]
    exact ⟨rfl, (Ex.trans q29 hE34)⟩
   ·refine CW.cond_t rfl (not_f hb35) (CW.seq (CW.region (sd rfl (yl_assign rfl rfl (dn (CW.ret (tr (rr rfl (.cons rfl .nil) ?_))))))))
    rw [show (l_eqTable p_a p_b) = (false) by simp only [l_eqTable, hb18, hb26, hb35, cL]]
    exact ⟨rfl, (Ex.trans q29 hE34)⟩
  ·refine CW.cond_t rfl (not_f hb26) (CW.seq (CW.region (sd rfl (yl_assign rfl rfl (dn (CW.ret (tr (rr rfl (.cons rfl .nil) ?_))))))))
   rw [show (l_eqTable p_a p_b) = (false) by simp only [l_eqTable, hb18, hb26, cL]]
   exact ⟨rfl, (Ex.trans q20 hE25)⟩
 ·refine CW.cond_t rfl (not_f hb18) (CW.seq (CW.region (sd rfl (yl_assign rfl rfl (dn (CW.ret (tr (rr rfl (.cons rfl .nil) ?_))))))))
  rw [show (l_eqTable p_a p_b) = (false) by simp only [l_eqTable, hb18, cL]]
  exact ⟨rfl, (Ex.trans (Ex.trans (Ex.refl w) hE10) hE16)⟩
theorem c_l_eqWrite {w : World} (p_a : DWrite) (p_b : DWrite) : Cal Tryz.prog 42 #[.agg #[.string (bs (p_a.Key)), .string (bs (p_a.Val)), .bool (p_a.Gone)], .agg #[.string (bs (p_b.Key)), .string (bs (p_b.Val)), .bool (p_b.Gone)]] w fun v w' => v = .bool ((l_eqWrite p_a p_b)) ∧ Ex w w' := by
 refine Cal.of func42 rfl ntmps42 rfl (CW.seq (CW.region (sd rfl (yl_box rfl rfl rfl ?_))))
 intro b1 w2 hs3 hz4 hB5 hE6
 refine sd rfl (yl_box rfl rfl rfl ?_)
 intro b7 w8 hs9 hz10 hB11 hE12
 refine sd rfl (yl_assign rfl rfl (dn (CW.seq (CW.seq (CW.region (sd rfl (yl_fieldAddr fd57_0 rfl rfl ?_)))))))
 have q13 := Box.ex hB5 hE12
 refine sd rfl (yl_load1 ty9 rfl rfl ((q13.cell 0).trans rfl) (sd rfl (yl_fieldAddr fd57_0 rfl rfl (sd rfl (yl_load1 ty9 rfl rfl ((hB11.cell 0).trans rfl) (sd rfl (yl_sneq (a := p_a.Key) (b := p_b.Key) rfl rfl rfl (dn (bcase (p_a.Key == p_b.Key) (fun hb14 => ?_) (fun hb14 => ?_))))))))))
 ·refine CW.cond_f rfl (not_t hb14) (CW.skip (tn (CW.seq (CW.seq (CW.region (sd rfl (yl_fieldAddr fd57_1 rfl rfl (sd rfl (yl_load1 ty9 rfl rfl ((q13.cell 1).trans rfl) (sd rfl (yl_fieldAddr fd57_1 rfl rfl ?_)))))))))))
  refine sd rfl (yl_load1 ty9 rfl rfl ((hB11.cell 1).trans rfl) (sd rfl (yl_sneq (a := p_a.Val) (b := p_b.Val) rfl rfl rfl (dn (bcase (p_a.Val == p_b.Val) (fun hb15 => ?_) (fun hb15 => ?_))))))
  ·refine CW.cond_f rfl (not_t hb15) (CW.skip (tn (CW.seq (CW.seq (CW.region (sd rfl (yl_fieldAddr fd57_2 rfl rfl (sd rfl (yl_load1 ty4 rfl rfl ((q13.cell 2).trans rfl) (sd rfl (yl_fieldAddr fd57_2 rfl rfl ?_)))))))))))
   refine sd rfl (yl_load1 ty4 rfl rfl ((hB11.cell 2).trans rfl) (sd rfl (yl_bneq un4 rfl rfl rfl (dn (bcase (p_a.Gone == p_b.Gone) (fun hb16 => ?_) (fun hb16 => ?_))))))
   ·refine CW.cond_f rfl (not_t hb16) (CW.skip (tn (CW.seq (CW.region (sd rfl (yl_assign rfl rfl (dn (CW.ret ?_))))))))
    refine rr rfl (.cons rfl .nil) ?_
    rw [show (l_eqWrite p_a p_b) = (true) by simp only [l_eqWrite, hb14, hb15, hb16, cL]]
    exact ⟨rfl, (Ex.trans (Ex.trans (Ex.refl w) hE6) hE12)⟩
   ·refine CW.cond_t rfl (not_f hb16) (CW.seq (CW.region (sd rfl (yl_assign rfl rfl (dn (CW.ret (tr (rr rfl (.cons rfl .nil) ?_))))))))
    rw [show (l_eqWrite p_a p_b) = (false) by simp only [l_eqWrite, hb14, hb15, hb16, cL]]
    exact ⟨rfl, (Ex.trans (Ex.trans (Ex.refl w) hE6) hE12)⟩
  ·refine CW.cond_t rfl (not_f hb15) (CW.seq (CW.region (sd rfl (yl_assign rfl rfl (dn (CW.ret (tr (rr rfl (.cons rfl .nil) ?_))))))))
   rw [show (l_eqWrite p_a p_b) = (false) by simp only [l_eqWrite, hb14, hb15, cL]]
   exact ⟨rfl, (Ex.trans (Ex.trans (Ex.refl w) hE6) hE12)⟩
 ·refine CW.cond_t rfl (not_f hb14) (CW.seq (CW.region (sd rfl (yl_assign rfl rfl (dn (CW.ret (tr (rr rfl (.cons rfl .nil) ?_))))))))
  rw [show (l_eqWrite p_a p_b) = (false) by simp only [l_eqWrite, hb14, cL]]
  exact ⟨rfl, (Ex.trans (Ex.trans (Ex.refl w) hE6) hE12)⟩
theorem c_l_eqWriteS {A1 : Option Addr} {c1 : Nat} {A2 : Option Addr} {c2 : Nat} {w : World} (p_a : List DWrite) (p_b : List DWrite) (h1 : RdS w (Iv 0 w.heap.size) (RF e_Write) 3 A1 p_a.length c1 p_a) (h2 : RdS w (Iv 0 w.heap.size) (RF e_Write) 3 A2 p_b.length c2 p_b) : Cal Tryz.prog 12 #[.slice A1 p_a.length c1, .slice A2 p_b.length c2] w fun v w' => v = .bool ((l_eqWriteS p_a p_b)) ∧ Ex w w' := by
 refine Cal.of func12 rfl ntmps12 rfl (CW.seq (CW.region (sd rfl (yl_assign rfl rfl (dn (CW.seq (CW.seq (CW.region ?_))))))))
 refine sd rfl (yl_move rfl rfl (sd rfl (yl_len un36 rfl rfl (sd rfl (yl_move rfl rfl (sd rfl (yl_len un36 rfl rfl (sd rfl (yl_neq rfl rfl rfl (dn (bcD (q := (p_a.length : Int) = (p_b.length : Int)) (fun hb3 hb3p => ?_) (fun hb3 hb3p => ?_))))))))))))
 ·refine CW.cond_f rfl (not_t hb3) (CW.skip (tn (CW.seq (CW.seq (CW.region (sd rfl (yl_assign rfl rfl (dn ?_))))))))
  refine CW.block (CW.loop (fun m5 L6 w7 => ∃ (k4 : Nat), m5 = p_a.length - k4 ∧ k4 ≤ p_a.length ∧ w.heap.size ≤ w7.heap.size ∧ Sub [(0, .slice A1 p_a.length c1), (1, .slice A2 p_b.length c2), (5, .int .i64 ((k4 : Int)))] L6 ∧ Ex w w7 ∧ loopM (B_l_eqWriteS_0 p_a p_b) (p_a.length - k4) k4 () = loopM (B_l_eqWriteS_0 p_a p_b) (p_a.length - 0) 0 ()) (p_a.length - 0) ?_ ?_)
  ·exact ⟨0, rfl, (by omega), Nat.le_refl _, (sR rfl), (Ex.refl w), rfl⟩
  ·rintro m8 L9 w10 ⟨k4, rfl, hk11, hsz13, hl14, hf15, hI12⟩
   refine CW.sub hl14 ?_
   have hf15z := Ex.size hf15
   have q17 := RdS.ex good_Write h1 hf15
   have hbg16 := RdS.big q17
   rcases Nat.lt_or_ge k4 p_a.length with hlt18 | hlt18
   ·refine CW.seq (CW.seq (CW.region (sd rfl (yl_move rfl rfl (sd rfl (yl_move rfl rfl (sd rfl (yl_len un36 rfl rfl (sd rfl (yl_lss rfl rfl rfl (dn ?_)))))))))))
    refine CW.cond_t rfl (lt_t hlt18) (CW.skip (tn (CW.seq (CW.block (CW.seq ?_)))))
    obtain ⟨eb19, eo19, _, eA19, _, ebl19, _, eR19, eC19⟩ := RdS.aD q17 d_Write (i := k4)
    obtain rfl := eR19
    obtain ⟨eb21, eo21, _, eA21, _, ebl21, _, eR21, eC21⟩ := RdS.aD (RdS.ex good_Write h2 hf15) d_Write (i := k4)
    obtain rfl := eR21
    refine drJ 10 [.slice A1 p_a.length c1, .int .i64 ((k4 : Int)), .pointer (some ⟨eb19, eo19 + k4 * 3, none⟩), .agg #[.string (bs ((p_a.getD k4 d_Write).Key)), .string (bs ((p_a.getD k4 d_Write).Val)), .bool ((p_a.getD k4 d_Write).Gone)], .slice A2 p_b.length c2, .int .i64 ((k4 : Int)), .pointer (some ⟨eb21, eo21 + k4 * 3, none⟩), .agg #[.string (bs ((p_b.getD k4 d_Write).Key)), .string (bs ((p_b.getD k4 d_Write).Val)), .bool ((p_b.getD k4 d_Write).Gone)], .bool ((l_eqWrite (p_a.getD k4 d_Write) (p_b.getD k4 d_Write))), .bool (!(l_eqWrite (p_a.getD k4 d_Write) (p_b.getD k4 d_Write)))] Tryz.follows rfl ⟨oI rfl fun h => yl_move rfl (h.g 0 rfl) kI, oI rfl fun h => yl_move rfl (h.g 5 rfl) kI, ?_, oI rfl fun h => yl_loadN ty57 rfl (h.g 19 rfl) (Cells.ex eC19 h.ex) rfl kI, oI rfl fun h => yl_move rfl (h.g 1 rfl) kI, oI rfl fun h => yl_move rfl (h.g 5 rfl) kI, ?_, oI rfl fun h => yl_loadN ty57 rfl (h.g 23 rfl) (Cells.ex eC21 h.ex) rfl kI, ?_, oI rfl fun h => yl_not rfl (h.g 25 rfl) kI, trivial⟩ ?_
    ·intro L33 w34 hi35
     have hE36 := hi35.ex
     have hE36z := Ex.size hE36
     exact os rfl ((yl_ixN un36 ty57 rfl (hi35.g 17 rfl) (hi35.g 18 rfl) eA19 kI))
    ·intro L55 w56 hi57
     have hE58 := hi57.ex
     have hE58z := Ex.size hE58
     exact os rfl ((yl_ixN un36 ty57 rfl (hi57.g 21 rfl) (hi57.g 22 rfl) eA21 kI))
    ·intro L67 w68 hi69
     exact OpR.op' rfl (yl_call en42 rfl (oc (hi69.g 20 rfl) (oc (hi69.g 24 rfl) oz)) (Cal.mono (c_l_eqWrite (p_a.getD k4 d_Write) (p_b.getD k4 d_Write)) fun _ _ h => h))
    ·intro fl84 fh85 L81 w82 hp83
     have hE86 := hp83.ex
     have hE86z := Ex.size hE86
     refine dn (CW.sub (hp83.ss [0, 1, 5, 26] rfl) (bcase (l_eqWrite (p_a.getD k4 d_Write) (p_b.getD k4 d_Write)) (fun hb91 => ?_) (fun hb91 => ?_)))
     ·refine CW.cond_f rfl (not_t hb91) (CW.skip (bn (tn (CW.region (sd rfl (yl_move rfl rfl (sd rfl (yl_inc rfl rfl rfl (by omega) (sd rfl (yl_assign rfl rfl (SeqR.done ?_)))))))))))
      refine tn ?_
      have hB92 : B_l_eqWriteS_0 p_a p_b k4 () = .cont () := by simp only [B_l_eqWriteS_0, hb3, hb91, cL]
      exact ⟨p_a.length - (k4 + 1), by omega, k4 + 1, rfl, hlt18, (by omega), (sR rfl), (Ex.trans hf15 hE86), (loopM.cont hlt18 hB92).symm.trans hI12⟩
     ·refine CW.cond_t rfl (not_f hb91) (CW.seq (CW.region (sd rfl (yl_assign rfl rfl (dn (CW.ret (br (tr ?_))))))))
      refine tr ?_
      have hB95 : B_l_eqWriteS_0 p_a p_b k4 () = .ret false := by simp only [B_l_eqWriteS_0, hb3, hb91, cL]
      have hL94 : loopM (B_l_eqWriteS_0 p_a p_b) (p_a.length - 0) 0 () = .ret false := hI12.symm.trans (loopM.ret hlt18 hB95)
      refine br (tr (rr rfl (.cons rfl .nil) ?_))
      rw [show (l_eqWriteS p_a p_b) = (false) by simp only [l_eqWriteS, hb3, hb91, hL94, cL]]
      exact ⟨rfl, (Ex.trans hf15 hE86)⟩
   ·refine CW.seq (CW.seq (CW.region (sd rfl (yl_move rfl rfl (sd rfl (yl_move rfl rfl (sd rfl (yl_len un36 rfl rfl (sd rfl (yl_lss rfl rfl rfl (dn ?_)))))))))))
    refine CW.cond_f rfl (lt_f hlt18) (CW.exit (tx (tx ?_)))
    have hL98 : loopM (B_l_eqWriteS_0 p_a p_b) (p_a.length - 0) 0 () = .done () := hI12.symm.trans (loopM.stop hlt18)
    refine bx (tn (CW.seq (CW.region (sd rfl (yl_assign rfl rfl (dn (CW.ret (rr rfl (.cons rfl .nil) ?_))))))))
    rw [show (l_eqWriteS p_a p_b) = (true) by simp only [l_eqWriteS, hb3, hL98, cL]]
    exact ⟨rfl, hf15⟩
 ·refine CW.cond_t rfl (not_f hb3) (CW.seq (CW.region (sd rfl (yl_assign rfl rfl (dn (CW.ret (tr (rr rfl (.cons rfl .nil) ?_))))))))
  rw [show (l_eqWriteS p_a p_b) = (false) by simp only [l_eqWriteS, hb3, cL]]
  exact ⟨rfl, (Ex.refl w)⟩
theorem c_l_markText {w : World} (p_k : Int) (pre0 : p_k ≤ 9223372036854775807) : Cal Tryz.prog 45 #[.int .i64 (p_k)] w fun v w' => v = .string (bs ((l_markText p_k))) ∧ Ex w w' := by
 refine Cal.of func45 rfl ntmps45 rfl (CW.seq (CW.region (sd rfl (yl_assign rfl rfl (dn (CW.seq (CW.seq (CW.region ?_))))))))
 refine sd rfl (yl_move rfl rfl (sd rfl (yl_leq rfl rfl rfl (dn (bcD (q := p_k ≤ 0) (fun hb1 hb1p => ?_) (fun hb1 hb1p => ?_))))))
 ·refine CW.cond_t rfl hb1 (CW.seq (CW.region (sd rfl (yl_assign rfl rfl (dn (CW.ret (tr (rr rfl (.cons rfl .nil) ?_))))))))
  rw [show (l_markText p_k) = (([109, 48] : Str)) by simp only [l_markText, hb1, cL]]
  exact ⟨rfl, (Ex.refl w)⟩
 ·refine CW.cond_f rfl hb1 (CW.skip (tn (CW.seq (CW.region (sd rfl (yl_assign rfl rfl (dn (CW.seq ?_))))))))
  refine CW.block (CW.loop (fun m18 L19 w20 => ∃ (x16 : Int) (x17 : Str), (((x16).toNat + 1) / 2) < m18 ∧ w.heap.size ≤ w20.heap.size ∧ Sub [(0, .int .i64 (x16)), (3, .string (bs (x17)))] L19 ∧ Ex w w20 ∧ x17.length + 1 * (((x16).toNat + 1) / 2) ≤ 0 + 1 * (((p_k).toNat + 1) / 2) ∧ x16 ≤ 9223372036854775807 ∧ loopW (B_l_markText_0 p_k) m18 (x16, x17) = loopW (B_l_markText_0 p_k) ((((p_k).toNat + 1) / 2) + 1) (p_k, ([] : Str))) ((((p_k).toNat + 1) / 2) + 1) ?_ ?_)
  ·exact ⟨p_k, ([] : Str), Nat.lt_succ_self _, Nat.le_refl _, (sR rfl), (Ex.refl w), (by first | (simp; done) | (first | omega | (simp only [List.length_append, List.length_cons, List.length_nil, List.length_set, toS_length]; omega))), (by first | omega | assumption | (simp only [wI] at *; omega)), rfl⟩
  ·rintro m21 L22 w23 ⟨x16, x17, hk24, hsz26, hl27, hf28, hln29, hv30, hI25⟩
   refine CW.sub hl27 ?_
   have hf28z := Ex.size hf28
   refine CW.seq (CW.seq (CW.region (sd rfl (yl_move rfl rfl (sd rfl (yl_gtr rfl rfl rfl (dn (bcD (q := 0 < x16) (fun hb31 hb31p => ?_) (fun hb31 hb31p => ?_)))))))))
   ·refine CW.cond_t rfl hb31 (CW.skip (tn (CW.block (CW.seq (CW.region (sd rfl (yl_move rfl rfl (sd rfl (yl_rem rfl rfl rfl (by decide) (sd rfl (yl_add rfl rfl rfl ?_)))))))))))
    refine sd rfl (yl_conv un3 un5 rfl rfl (sd rfl (yl_buildSlice (cs := [.int .u8 (IntKind.wrap .u8 (IntKind.wrap .i64 (48 + (Int.tmod x16 10))))]) un94 ty5 (by decide) rfl (oc rfl oz) (by kernel_rfl) ?_)))
    intro b32 w33 hs34 hz35 hB36 hE37
    have hO38 : OwnL w33 b32 (b32 + 1) 5 1 (RF e_U8) (some ⟨b32, 0, none⟩) 1 1 ([IntKind.wrap .u8 (IntKind.wrap .i64 (48 + (Int.tmod x16 10)))] : List Int) := OwnL.of_box (S := fun _ => False) hB36 (Nat.le_refl _) (Nat.lt_succ_self _) (EncL.cons (c := [.int .u8 (IntKind.wrap .u8 (IntKind.wrap .i64 (48 + (Int.tmod x16 10))))]) rfl rfl EncL.nil) (Nat.le_of_ble_eq_true rfl) (fun h => h) (fun _ h => False.elim h)
    refine sd rfl (yl_toS un94 un5 un9 rfl rfl (OwnL.rd good_U8 hO38) (sd rfl (yl_move rfl rfl ?_)))
    have hol40 : (toS ([IntKind.wrap .u8 (IntKind.wrap .i64 (48 + (Int.tmod x16 10)))] : List Int)).length ≤ 1073741824 := (okS_toS (Nat.le_of_ble_eq_true rfl))
    refine sd rfl (yl_sadd (a := (toS ([IntKind.wrap .u8 (IntKind.wrap .i64 (48 + (Int.tmod x16 10)))] : List Int))) (b := x17) rfl rfl rfl (by first | omega | (simp only [List.length_append, List.length_cons, List.length_nil, List.length_take, List.length_drop, toS_length]; omega)) (sd rfl (yl_assign rfl rfl (dn (CW.region (sd rfl (yl_move rfl rfl (sd rfl (yl_quo rfl rfl rfl (by decide) (sd rfl (yl_assign rfl rfl (SeqR.done ?_))))))))))))
    refine bn (tn ?_)
    have hB41 : B_l_markText_0 p_k (x16, x17) = .cont (IntKind.wrap .i64 (Int.tdiv x16 10), (toS ([IntKind.wrap .u8 (IntKind.wrap .i64 (48 + (Int.tmod x16 10)))] : List Int)) ++ x17) := by simp only [B_l_markText_0, hb1, hb31, cL]
    have hmu43 : (((IntKind.wrap .i64 (Int.tdiv x16 10)).toNat + 1) / 2) < (((x16).toNat + 1) / 2) := by (have hq := wtd (n := x16) (c := 10) (by decide) (by omega) (by omega); omega)
    exact ⟨m21 - 1, by omega, IntKind.wrap .i64 (Int.tdiv x16 10), (toS ([IntKind.wrap .u8 (IntKind.wrap .i64 (48 + (Int.tmod x16 10)))] : List Int)) ++ x17, (by omega), (by omega), (sR rfl), (Ex.trans hf28 hE37), (by first | omega | (simp only [List.length_append, List.length_cons, List.length_nil, List.length_set, toS_length]; omega)), (by (have hq := wtd (n := x16) (c := 10) (by decide) (by omega) (by omega); omega)), (loopW.cont hk24 hB41).symm.trans hI25⟩
   ·refine CW.cond_f rfl hb31 (CW.exit (tx (tx ?_)))
    have hB45 : B_l_markText_0 p_k (x16, x17) = .brk (x16, x17) := by simp only [B_l_markText_0, hb1, hb31, cL]
    have hL44 : loopW (B_l_markText_0 p_k) ((((p_k).toNat + 1) / 2) + 1) (p_k, ([] : Str)) = .done (x16, x17) := hI25.symm.trans (loopW.brk hk24 hB45)
    refine bx (tn (CW.seq (CW.region (sd rfl (yl_move rfl rfl (sd rfl (yl_sadd (a := ([109] : Str)) (b := x17) rfl rfl rfl (by first | omega | (simp only [List.length_append, List.length_cons, List.length_nil, List.length_take, List.length_drop, toS_length]; omega)) (sd rfl (yl_assign rfl rfl (dn ?_))))))))))
    refine CW.ret (rr rfl (.cons rfl .nil) ?_)
    rw [show (l_markText p_k) = (([109] : Str) ++ x17) by simp only [l_markText, hb1, hb31, hL44, cL]]
    exact ⟨rfl, hf28⟩
theorem c_l_markStringS {A1 : Option Addr} {c1 : Nat} {lo1 hi1 : Nat} {w : World} (p_a : List Str) (p_k : Int) (h1 : OwnL w lo1 hi1 9 1 (RF e_Str) A1 p_a.length c1 p_a) (hrn2 : (0 ≤ lo1 ∧ lo1 ≤ hi1 ∧ hi1 ≤ w.heap.size)) (pre0 : p_k ≤ 9223372036854775807) : Cal Tryz.prog 43 #[.slice A1 p_a.length c1, .int .i64 (p_k)] w fun v w' => v = .int .i64 ((l_markStringS p_a p_k).1) ∧ OwnL w' lo1 hi1 9 1 (RF e_Str) A1 p_a.length c1 ((l_markStringS p_a p_k).2) ∧ Mut [(lo1, hi1)] w w' := by
 refine Cal.of func43 rfl ntmps43 rfl (CW.seq (CW.region (sd rfl (yl_assign rfl rfl (dn (CW.seq (CW.seq (CW.region ?_))))))))
 refine sd rfl (yl_assign rfl rfl (dn (CW.block (CW.loop (fun m16 L17 w18 => ∃ (k3 : Nat) (x14 : Int) (x15 : List Str), m16 = p_a.length - k3 ∧ k3 ≤ p_a.length ∧ w.heap.size ≤ w18.heap.size ∧ Sub [(0, .slice A1 p_a.length c1), (1, .int .i64 (x14)), (5, .int .i64 ((k3 : Int)))] L17 ∧ OwnL w18 lo1 hi1 9 1 (RF e_Str) A1 p_a.length c1 x15 ∧ Mut [(lo1, hi1)] w w18 ∧ x14 ≤ 9223372036854775807 ∧ loopM (B_l_markStringS_0 p_a p_k) (p_a.length - k3) k3 (x14, x15) = loopM (B_l_markStringS_0 p_a p_k) (p_a.length - 0) 0 (p_k, p_a)) (p_a.length - 0) ?_ ?_))))
 ·exact ⟨0, p_k, p_a, rfl, (by omega), Nat.le_refl _, (sR rfl), h1, (Mut.refl (l := [(lo1, hi1)]) w), (by first | omega | assumption | (simp only [wI] at *; omega)), rfl⟩
 ·rintro m19 L20 w21 ⟨k3, x14, x15, rfl, hk22, hsz24, hl25, hf26, hf27, hv28, hI23⟩
  refine CW.sub hl25 ?_
  have hf27z := Mut.size hf27
  have hbg29 := RdS.big (OwnL.rd good_Str hf26)
  rcases Nat.lt_or_ge k3 p_a.length with hlt31 | hlt31
  ·refine CW.seq (CW.seq (CW.region (sd rfl (yl_move rfl rfl (sd rfl (yl_move rfl rfl (sd rfl (yl_len un22 rfl rfl (sd rfl (yl_lss rfl rfl rfl (dn ?_)))))))))))
   refine CW.cond_t rfl (lt_t hlt31) (CW.skip (tn (CW.seq (CW.block (CW.seq (CW.region (sd rfl (yl_move rfl rfl (sd rfl (yl_move rfl rfl ?_))))))))))
   refine sd rfl (yl_move rfl rfl (sd rfl (yl_call en45 rfl (oc rfl oz) (Cal.mono (c_l_markText x14 (by first | omega | assumption | (simp only [wI] at *; omega))) ?_))))
   rintro v33 w32 ⟨rfl, hE34⟩
   have hE34z := Ex.size hE34
   have q36 := OwnL.ex good_Str hf26 hE34
   obtain ⟨eb37, eo37, _, eA37, _, ebl37, _, eR37, _⟩ := RdS.aD (OwnL.rd good_Str q36) d_Str (i := k3)
   obtain rfl := eR37
   refine sd rfl (yl_ixN un22 ty9 rfl rfl rfl eA37 ?_)
   have hrg38 := OwnL.rng q36 (i := k3) (by first | omega | assumption | (simp only [wI] at *; omega)) eb37 (by rw [eA37]; rfl)
   refine SeqR.u rfl rfl (yl_storeF (off := eo37) (i := k3) (d := 0) (dx := d_Str) (x' := (l_markText x14)) (vs := [.string (bs ((l_markText x14)))]) ty9 rfl q36 eA37 rfl rfl rfl rfl rfl (by first | omega | assumption | (simp only [wI] at *; omega)) (Nat.le_of_ble_eq_true rfl) rfl rfl ?_)
   intro w39 hB40 hO41
   have hO41z := hO41.size
   refine dn (CW.region (sd rfl (yl_move rfl rfl (sd rfl (yl_add rfl rfl rfl (sd rfl (yl_assign rfl rfl (SeqR.done (bn (tn ?_))))))))))
   refine CW.region (sd rfl (yl_move rfl rfl (sd rfl (yl_inc rfl rfl rfl (by omega) (sd rfl (yl_assign rfl rfl (dn ?_)))))))
   have hB42 : B_l_markStringS_0 p_a p_k k3 (x14, x15) = .cont (IntKind.wrap .i64 (x14 + 1), (x15.set k3 (l_markText x14))) := by simp only [B_l_markStringS_0, cL]
   exact ⟨p_a.length - (k3 + 1), by omega, k3 + 1, IntKind.wrap .i64 (x14 + 1), (x15.set k3 (l_markText x14)), rfl, hlt31, (by omega), (sR rfl), hB40, (Mut.only (Mut.ex hf27 hE34) hO41 (by simp only [InR, or_false]; omega)), (by first | omega | assumption | (simp only [wI] at *; omega)), (loopM.cont hlt31 hB42).symm.trans hI23⟩
  ·refine CW.seq (CW.seq (CW.region (sd rfl (yl_move rfl rfl (sd rfl (yl_move rfl rfl (sd rfl (yl_len un22 rfl rfl (sd rfl (yl_lss rfl rfl rfl (dn ?_)))))))))))
   refine CW.cond_f rfl (lt_f hlt31) (CW.exit (tx (tx ?_)))
   have hL45 : loopM (B_l_markStringS_0 p_a p_k) (p_a.length - 0) 0 (p_k, p_a) = .done (x14, x15) := hI23.symm.trans (loopM.stop hlt31)
   refine bx (tn (CW.seq (CW.region (sd rfl (yl_move rfl rfl (sd rfl (yl_assign rfl rfl (dn (CW.ret ?_)))))))))
   refine rr rfl (.cons rfl .nil) ?_
   rw [show (l_markStringS p_a p_k) = ((x14, x15)) by simp only [l_markStringS, hL45, cL]]
   exact ⟨rfl, hf26, hf27⟩
theorem c_l_markIdxS {A1 : Option Addr} {c1 : Nat} {lo1 hi1 : Nat} {w : World} (p_a : List DIdx) (p_k : Int) (h1 : OwnL w lo1 hi1 79 3 (RF e_Idx) A1 p_a.length c1 p_a) (hrn2 : (0 ≤ lo1 ∧ lo1 ≤ hi1 ∧ hi1 ≤ w.heap.size)) (pre0 : p_k ≤ 9223372036854775807) : Cal Tryz.prog 44 #[.slice A1 p_a.length c1, .int .i64 (p_k)] w fun v w' => v = .int .i64 ((l_markIdxS p_a p_k).1) ∧ OwnL w' lo1 hi1 79 3 (RF e_Idx) A1 p_a.length c1 ((l_markIdxS p_a p_k).2) ∧ Mut [(lo1, hi1)] w w' := by
 refine Cal.of func44 rfl ntmps44 rfl (CW.seq (CW.region (sd rfl (yl_assign rfl rfl (dn (CW.seq (CW.seq (CW.region ?_))))))))
 refine sd rfl (yl_assign rfl rfl (dn (CW.block (CW.loop (fun m28 L29 w30 => ∃ (k3 : Nat) (x26 : Int) (x27 : List DIdx), m28 = p_a.length - k3 ∧ k3 ≤ p_a.length ∧ w.heap.size ≤ w30.heap.size ∧ Sub [(0, .slice A1 p_a.length c1), (1, .int .i64 (x26)), (5, .int .i64 ((k3 : Int)))] L29 ∧ OwnL w30 lo1 hi1 79 3 (RF e_Idx) A1 p_a.length c1 x27 ∧ Mut [(lo1, hi1)] w w30 ∧ x26 ≤ 9223372036854775807 ∧ loopM (B_l_markIdxS_0 p_a p_k) (p_a.length - k3) k3 (x26, x27) = loopM (B_l_markIdxS_0 p_a p_k) (p_a.length - 0) 0 (p_k, p_a)) (p_a.length - 0) ?_ ?_))))
 ·exact ⟨0, p_k, p_a, rfl, (by omega), Nat.le_refl _, (sR rfl), h1, (Mut.refl (l := [(lo1, hi1)]) w), (by first | omega | assumption | (simp only [wI] at *; omega)), rfl⟩
 ·rintro m31 L32 w33 ⟨k3, x26, x27, rfl, hk34, hsz36, hl37, hf38, hf39, hv40, hI35⟩
  refine CW.sub hl37 ?_
  have hf39z := Mut.size hf39
  have hbg41 := RdS.big (OwnL.rd good_Idx hf38)
  rcases Nat.lt_or_ge k3 p_a.length with hlt43 | hlt43
  ·refine CW.seq (CW.seq (CW.region (sd rfl (yl_move rfl rfl (sd rfl (yl_move rfl rfl (sd rfl (yl_len un32 rfl rfl (sd rfl (yl_lss rfl rfl rfl (dn ?_)))))))))))
   refine CW.cond_t rfl (lt_t hlt43) (CW.skip (tn (CW.seq (CW.block (CW.seq (CW.region (sd rfl (yl_move rfl rfl (sd rfl (yl_move rfl rfl ?_))))))))))
   refine sd rfl (yl_move rfl rfl (sd rfl (yl_call en45 rfl (oc rfl oz) (Cal.mono (c_l_markText x26 (by first | omega | assumption | (simp only [wI] at *; omega))) ?_))))
   rintro v45 w44 ⟨rfl, hE46⟩
   have hE46z := Ex.size hE46
   have q48 := OwnL.ex good_Idx hf38 hE46
   obtain ⟨eb49, eo49, _, eA49, _, ebl49, _, eR49, _⟩ := RdS.aD (OwnL.rd good_Idx q48) d_Idx (i := k3)
   obtain rfl := eR49
   refine sd rfl (yl_ixN un32 ty79 rfl rfl rfl eA49 (sd rfl (yl_fieldAddr fd79_0 rfl rfl ?_)))
   have hrg50 := OwnL.rng q48 (i := k3) (by first | omega | assumption | (simp only [wI] at *; omega)) eb49 (by rw [eA49]; rfl)
   refine SeqR.u rfl rfl (yl_storeF (off := eo49) (i := k3) (d := 0) (dx := d_Idx) (x' := (⟨(l_markText x26), (x27.getD k3 d_Idx).Col, (x27.getD k3 d_Idx).Stage⟩ : DIdx)) (vs := [.string (bs ((l_markText x26)))]) ty9 rfl q48 eA49 rfl rfl rfl rfl rfl (by first | omega | assumption | (simp only [wI] at *; omega)) (Nat.le_of_ble_eq_true rfl) rfl rfl ?_)
   intro w51 hB52 hO53
   have hO53z := hO53.size
   refine dn (CW.seq (CW.region (sd rfl (yl_move rfl rfl (sd rfl (yl_add rfl rfl rfl (sd rfl (yl_assign rfl rfl (dn ?_)))))))))
   refine CW.seq (CW.region (sd rfl (yl_move rfl rfl (sd rfl (yl_move rfl rfl (sd rfl (yl_move rfl rfl ?_)))))))
   obtain ⟨eb55, eo55, _, eA55, _, ebl55, _, eR55, eC55⟩ := RdS.aD (OwnL.rd good_Idx hB52) d_Idx (i := k3)
   obtain rfl := eR55
   rw [getD_set_self (by have hq := OwnL.len hB52; simp only [List.length_set] at hq; omega)] at eC55
   have eC55 : Cells w51 eb55 (eo55 + k3 * 3) [.string (bs ((l_markText x26))), .int .i64 ((x27.getD k3 d_Idx).Col), .int .i64 ((x27.getD k3 d_Idx).Stage)] := eC55
   refine sd rfl (yl_ixN un32 ty79 rfl rfl rfl eA55 (sd rfl (yl_fieldAddr fd79_1 rfl rfl ?_)))
   have hrg56 := OwnL.rng hB52 (i := k3) (by first | omega | assumption | (simp only [wI] at *; omega)) eb55 (by rw [eA55]; rfl)
   refine SeqR.u rfl rfl (yl_storeF (off := eo55) (i := k3) (d := 1) (dx := d_Idx) (x' := (⟨(l_markText x26), IntKind.wrap .i64 (x26 + 1), (x27.getD k3 d_Idx).Stage⟩ : DIdx)) (vs := [.int .i64 (IntKind.wrap .i64 (x26 + 1))]) ty3 rfl hB52 eA55 rfl rfl rfl rfl rfl (by first | omega | assumption | (simp only [wI] at *; omega)) (Nat.le_of_ble_eq_true rfl) (by rw [getD_set_self (by have hq := OwnL.len hB52; simp only [List.length_set] at hq; omega)]; rfl) rfl ?_)
   intro w57 hB58 hO59
   have hO59z := hO59.size
   rw [List.set_set] at hB58
   refine dn (CW.seq (CW.region (sd rfl (yl_move rfl rfl (sd rfl (yl_add rfl rfl rfl (sd rfl (yl_assign rfl rfl (dn ?_)))))))))
   refine CW.seq (CW.region (sd rfl (yl_move rfl rfl (sd rfl (yl_move rfl rfl (sd rfl (yl_move rfl rfl ?_)))))))
   obtain ⟨eb61, eo61, _, eA61, _, ebl61, _, eR61, eC61⟩ := RdS.aD (OwnL.rd good_Idx hB58) d_Idx (i := k3)
   obtain rfl := eR61
   rw [getD_set_self (by have hq := OwnL.len hB58; simp only [List.length_set] at hq; omega)] at eC61
   have eC61 : Cells w57 eb61 (eo61 + k3 * 3) [.string (bs ((l_markText x26))), .int .i64 (IntKind.wrap .i64 (x26 + 1)), .int .i64 ((x27.getD k3 d_Idx).Stage)] := eC61
   refine sd rfl (yl_ixN un32 ty79 rfl rfl rfl eA61 (sd rfl (yl_fieldAddr fd79_2 rfl rfl ?_)))
   have hrg62 := OwnL.rng hB58 (i := k3) (by first | omega | assumption | (simp only [wI] at *; omega)) eb61 (by rw [eA61]; rfl)
   refine SeqR.u rfl rfl (yl_storeF (off := eo61) (i := k3) (d := 2) (dx := d_Idx) (x' := (⟨(l_markText x26), IntKind.wrap .i64 (x26 + 1), IntKind.wrap .i64 ((IntKind.wrap .i64 (x26 + 1)) + 1)⟩ : DIdx)) (vs := [.int .i64 (IntKind.wrap .i64 ((IntKind.wrap .i64 (x26 + 1)) + 1))]) ty3 rfl hB58 eA61 rfl rfl rfl rfl rfl (by first | omega | assumption | (simp only [wI] at *; omega)) (Nat.le_of_ble_eq_true rfl) (by rw [getD_set_self (by have hq := OwnL.len hB58; simp only [List.length_set] at hq; omega)]; rfl) rfl ?_)
   intro w63 hB64 hO65
   have hO65z := hO65.size
   rw [List.set_set] at hB64
   refine dn (CW.region (sd rfl (yl_move rfl rfl (sd rfl (yl_add rfl rfl rfl (sd rfl (yl_assign rfl rfl (SeqR.done (bn (tn ?_))))))))))
   refine CW.region (sd rfl (yl_move rfl rfl (sd rfl (yl_inc rfl rfl rfl (by omega) (sd rfl (yl_assign rfl rfl (dn ?_)))))))
   have hB66 : B_l_markIdxS_0 p_a p_k k3 (x26, x27) = .cont (IntKind.wrap .i64 ((IntKind.wrap .i64 ((IntKind.wrap .i64 (x26 + 1)) + 1)) + 1), (x27.set k3 (⟨(l_markText x26), IntKind.wrap .i64 (x26 + 1), IntKind.wrap .i64 ((IntKind.wrap .i64 (x26 + 1)) + 1)⟩ : DIdx))) := by simp only [B_l_markIdxS_0, cL]
   exact ⟨p_a.length - (k3 + 1), by omega, k3 + 1, IntKind.wrap .i64 ((IntKind.wrap .i64 ((IntKind.wrap .i64 (x26 + 1)) + 1)) + 1), (x27.set k3 (⟨(l_markText x26), IntKind.wrap .i64 (x26 + 1), IntKind.wrap .i64 ((IntKind.wrap .i64 (x26 + 1)) + 1)⟩ : DIdx)), rfl, hlt43, (by omega), (sR rfl), hB64, (Mut.only (Mut.only (Mut.only (Mut.ex hf39 hE46) hO53 (by simp only [InR, or_false]; omega)) hO59 (by simp only [InR, or_false]; omega)) hO65 (by simp only [InR, or_false]; omega)), (by first | omega | assumption | (simp only [wI] at *; omega)), (loopM.cont hlt43 hB66).symm.trans hI35⟩
  ·refine CW.seq (CW.seq (CW.region (sd rfl (yl_move rfl rfl (sd rfl (yl_move rfl rfl (sd rfl (yl_len un32 rfl rfl (sd rfl (yl_lss rfl rfl rfl (dn ?_)))))))))))
   refine CW.cond_f rfl (lt_f hlt43) (CW.exit (tx (tx ?_)))
   have hL71 : loopM (B_l_markIdxS_0 p_a p_k) (p_a.length - 0) 0 (p_k, p_a) = .done (x26, x27) := hI35.symm.trans (loopM.stop hlt43)
   refine bx (tn (CW.seq (CW.region (sd rfl (yl_move rfl rfl (sd rfl (yl_assign rfl rfl (dn (CW.ret ?_)))))))))
   refine rr rfl (.cons rfl .nil) ?_
   rw [show (l_markIdxS p_a p_k) = ((x26, x27)) by simp only [l_markIdxS, hL71, cL]]
   exact ⟨rfl, hf38, hf39⟩
theorem c_l_markTable {A1 : Option Addr} {c1 : Nat} {lo1 hi1 : Nat} {A2 : Option Addr} {c2 : Nat} {lo2 hi2 : Nat} {w : World} (p_a : DTable) (p_k : Int) (h1 : OwnL w lo1 hi1 9 1 (RF e_Str) A1 p_a.Cols.length c1 p_a.Cols) (h2 : OwnL w lo2 hi2 79 3 (RF e_Idx) A2 p_a.Idxs.length c2 p_a.Idxs) (hrn3 : (0 ≤ lo1 ∧ lo1 ≤ hi1 ∧ hi1 ≤ w.heap.size)) (hrn4 : (0 ≤ lo2 ∧ lo2 ≤ hi2 ∧ hi2 ≤ w.heap.size)) (hrn5 : (hi1 ≤ lo2 ∨ hi2 ≤ lo1)) (pre0 : p_k ≤ 9223372036854775807) : Cal Tryz.prog 13 #[.agg #[.string (bs (p_a.Name)), .slice A1 p_a.Cols.length c1, .slice A2 p_a.Idxs.length c2], .int .i64 (p_k)] w fun v w' => v = .int .i64 ((l_markTable p_a p_k).1) ∧ OwnL w' lo1 hi1 9 1 (RF e_Str) A1 p_a.Cols.length c1 ((l_markTable p_a p_k).2.Cols) ∧ OwnL w' lo2 hi2 79 3 (RF e_Idx) A2 p_a.Idxs.length c2 ((l_markTable p_a p_k).2.Idxs) ∧ Mut [(lo1, hi1), (lo2, hi2)] w w' := by
 refine Cal.of func13 rfl ntmps13 rfl (CW.seq (CW.region (sd rfl (yl_box rfl rfl rfl ?_))))
 intro b6 w7 hs8 hz9 hB10 hE11
 refine sd rfl (yl_assign rfl rfl (dn (CW.seq (CW.region (sd rfl (yl_fieldAddr fd34_1 rfl rfl (sd rfl (yl_load1 ty22 rfl rfl ((hB10.cell 1).trans rfl) (sd rfl (yl_move rfl rfl (sd rfl (yl_call en43 rfl (oc rfl (oc rfl oz)) (Cal.mono (c_l_markStringS p_a.Cols p_k (OwnL.ex good_Str h1 hE11) (by omega) (by first | omega | assumption | (simp only [wI] at *; omega))) ?_)))))))))))))
 rintro v14 w13 ⟨rfl, h16, hm15⟩
 have hm15z := Mut.size hm15
 have hrf17 := rf_markStringS p_a.Cols p_k (by first | omega | assumption | (simp only [wI] at *; omega))
 refine sd rfl (yl_assign rfl rfl (dn (CW.seq (CW.region (sd rfl (yl_fieldAddr fd34_2 rfl rfl (sd rfl (yl_load1 ty32 rfl rfl (((Box.mut hB10 hm15 kR).cell 2).trans rfl) (sd rfl (yl_move rfl rfl (sd rfl (yl_call en44 rfl (oc rfl (oc rfl oz)) (Cal.mono (c_l_markIdxS p_a.Idxs ((l_markStringS p_a.Cols p_k).1) (OwnL.mut good_Idx (OwnL.ex good_Idx h2 hE11) hm15 kR) (by omega) (by first | omega | assumption | (simp only [wI] at *; omega))) ?_)))))))))))))
 rintro v22 w21 ⟨rfl, h24, hm23⟩
 have hm23z := Mut.size hm23
 have hrf25 := rf_markIdxS p_a.Idxs ((l_markStringS p_a.Cols p_k).1) (by first | omega | assumption | (simp only [wI] at *; omega))
 refine sd rfl (yl_assign rfl rfl (dn (CW.seq (CW.region (sd rfl (yl_move rfl rfl (sd rfl (yl_assign rfl rfl (dn ?_)))))))))
 refine CW.ret (rr rfl (.cons rfl .nil) ?_)
 rw [show (l_markTable p_a p_k) = (((l_markIdxS p_a.Idxs ((l_markStringS p_a.Cols p_k).1)).1, (⟨p_a.Name, (l_markStringS p_a.Cols p_k).2, (l_markIdxS p_a.Idxs ((l_markStringS p_a.Cols p_k).1)).2⟩ : DTable))) by simp only [l_markTable, cL]]
 exact ⟨rfl, (OwnL.mut good_Str h16 hm23 kR), h24, (Mut.mut (Mut.mut (Mut.ex (Mut.refl (l := [(lo1, hi1), (lo2, hi2)]) w) hE11) hm15 (fun k hk => by simp only [InR, or_false] at hk ⊢; omega)) hm23 (fun k hk => by simp only [InR, or_false] at hk ⊢; omega))⟩
theorem c_l_markWriteS {A1 : Option Addr} {c1 : Nat} {lo1 hi1 : Nat} {w : World} (p_a : List DWrite) (p_k : Int) (h1 : OwnL w lo1 hi1 57 3 (RF e_Write) A1 p_a.length c1 p_a) (hrn2 : (0 ≤ lo1 ∧ lo1 ≤ hi1 ∧ hi1 ≤ w.heap.size)) (pre0 : p_k ≤ 9223372036854775807) : Cal Tryz.prog 14 #[.slice A1 p_a.length c1, .int .i64 (p_k)] w fun v w' => v = .int .i64 ((l_markWriteS p_a p_k).1) ∧ OwnL w' lo1 hi1 57 3 (RF e_Write) A1 p_a.length c1 ((l_markWriteS p_a p_k).2) ∧ Mut [(lo1, hi1)] w w' := by
 refine Cal.of func14 rfl ntmps14 rfl (CW.seq (CW.region (sd rfl (yl_assign rfl rfl (dn (CW.seq (CW.seq (CW.region ?_))))))))
 refine sd rfl (yl_assign rfl rfl (dn (CW.block (CW.loop (fun m31 L32 w33 => ∃ (k3 : Nat) (x29 : Int) (x30 : List DWrite), m31 = p_a.length - k3 ∧ k3 ≤ p_a.length ∧ w.heap.size ≤ w33.heap.size ∧ Sub [(0, .slice A1 p_a.length c1), (1, .int .i64 (x29)), (5, .int .i64 ((k3 : Int)))] L32 ∧ OwnL w33 lo1 hi1 57 3 (RF e_Write) A1 p_a.length c1 x30 ∧ Mut [(lo1, hi1)] w w33 ∧ x29 ≤ 9223372036854775807 ∧ loopM (B_l_markWriteS_0 p_a p_k) (p_a.length - k3) k3 (x29, x30) = loopM (B_l_markWriteS_0 p_a p_k) (p_a.length - 0) 0 (p_k, p_a)) (p_a.length - 0) ?_ ?_))))
 ·exact ⟨0, p_k, p_a, rfl, (by omega), Nat.le_refl _, (sR rfl), h1, (Mut.refl (l := [(lo1, hi1)]) w), (by first | omega | assumption | (simp only [wI] at *; omega)), rfl⟩
 ·rintro m34 L35 w36 ⟨k3, x29, x30, rfl, hk37, hsz39, hl40, hf41, hf42, hv43, hI38⟩
  refine CW.sub hl40 ?_
  have hf42z := Mut.size hf42
  have hbg44 := RdS.big (OwnL.rd good_Write hf41)
  rcases Nat.lt_or_ge k3 p_a.length with hlt46 | hlt46
  ·refine CW.seq (CW.seq (CW.region (sd rfl (yl_move rfl rfl (sd rfl (yl_move rfl rfl (sd rfl (yl_len un36 rfl rfl (sd rfl (yl_lss rfl rfl rfl (dn ?_)))))))))))
   refine CW.cond_t rfl (lt_t hlt46) (CW.skip (tn (CW.seq (CW.block (CW.seq (CW.region (sd rfl (yl_move rfl rfl (sd rfl (yl_move rfl rfl ?_))))))))))
   refine sd rfl (yl_move rfl rfl (sd rfl (yl_call en45 rfl (oc rfl oz) (Cal.mono (c_l_markText x29 (by first | omega | assumption | (simp only [wI] at *; omega))) ?_))))
   rintro v48 w47 ⟨rfl, hE49⟩
   have hE49z := Ex.size hE49
   have q51 := OwnL.ex good_Write hf41 hE49
   obtain ⟨eb52, eo52, _, eA52, _, ebl52, _, eR52, _⟩ := RdS.aD (OwnL.rd good_Write q51) d_Write (i := k3)
   obtain rfl := eR52
   refine sd rfl (yl_ixN un36 ty57 rfl rfl rfl eA52 (sd rfl (yl_fieldAddr fd57_0 rfl rfl ?_)))
   have hrg53 := OwnL.rng q51 (i := k3) (by first | omega | assumption | (simp only [wI] at *; omega)) eb52 (by rw [eA52]; rfl)
   refine SeqR.u rfl rfl (yl_storeF (off := eo52) (i := k3) (d := 0) (dx := d_Write) (x' := (⟨(l_markText x29), (x30.getD k3 d_Write).Val, (x30.getD k3 d_Write).Gone⟩ : DWrite)) (vs := [.string (bs ((l_markText x29)))]) ty9 rfl q51 eA52 rfl rfl rfl rfl rfl (by first | omega | assumption | (simp only [wI] at *; omega)) (Nat.le_of_ble_eq_true rfl) rfl rfl ?_)
   intro w54 hB55 hO56
   have hO56z := hO56.size
   refine dn (CW.seq (CW.region (sd rfl (yl_move rfl rfl (sd rfl (yl_add rfl rfl rfl (sd rfl (yl_assign rfl rfl (dn ?_)))))))))
   refine CW.seq (CW.region (sd rfl (yl_move rfl rfl (sd rfl (yl_move rfl rfl (sd rfl (yl_move rfl rfl (sd rfl (yl_call en45 rfl (oc rfl oz) (Cal.mono (c_l_markText (IntKind.wrap .i64 (x29 + 1)) (by first | omega | assumption | (simp only [wI] at *; omega))) ?_))))))))))
   rintro v58 w57 ⟨rfl, hE59⟩
   have hE59z := Ex.size hE59
   have q61 := OwnL.ex good_Write hB55 hE59
   obtain ⟨eb62, eo62, _, eA62, _, ebl62, _, eR62, eC62⟩ := RdS.aD (OwnL.rd good_Write q61) d_Write (i := k3)
   obtain rfl := eR62
   rw [getD_set_self (by have hq := OwnL.len q61; simp only [List.length_set] at hq; omega)] at eC62
   have eC62 : Cells w57 eb62 (eo62 + k3 * 3) [.string (bs ((l_markText x29))), .string (bs ((x30.getD k3 d_Write).Val)), .bool ((x30.getD k3 d_Write).Gone)] := eC62
   refine sd rfl (yl_ixN un36 ty57 rfl rfl rfl eA62 (sd rfl (yl_fieldAddr fd57_1 rfl rfl ?_)))
   have hrg63 := OwnL.rng q61 (i := k3) (by first | omega | assumption | (simp only [wI] at *; omega)) eb62 (by rw [eA62]; rfl)
   refine SeqR.u rfl rfl (yl_storeF (off := eo62) (i := k3) (d := 1) (dx := d_Write) (x' := (⟨(l_markText x29), (l_markText (IntKind.wrap .i64 (x29 + 1))), (x30.getD k3 d_Write).Gone⟩ : DWrite)) (vs := [.string (bs ((l_markText (IntKind.wrap .i64 (x29 + 1)))))]) ty9 rfl q61 eA62 rfl rfl rfl rfl rfl (by first | omega | assumption | (simp only [wI] at *; omega)) (Nat.le_of_ble_eq_true rfl) (by rw [getD_set_self (by have hq := OwnL.len q61; simp only [List.length_set] at hq; omega)]; rfl) rfl ?_)
   intro w64 hB65 hO66
   have hO66z := hO66.size
   rw [List.set_set] at hB65
   refine dn (CW.seq (CW.region (sd rfl (yl_move rfl rfl (sd rfl (yl_add rfl rfl rfl (sd rfl (yl_assign rfl rfl (dn ?_)))))))))
   refine CW.seq (CW.region (sd rfl (yl_move rfl rfl (sd rfl (yl_move rfl rfl (sd rfl (yl_move rfl rfl (sd rfl (yl_rem rfl rfl rfl (by decide) (sd rfl (yl_eql rfl rfl rfl ?_)))))))))))
   obtain ⟨eb68, eo68, _, eA68, _, ebl68, _, eR68, eC68⟩ := RdS.aD (OwnL.rd good_Write hB65) d_Write (i := k3)
   obtain rfl := eR68
   rw [getD_set_self (by have hq := OwnL.len hB65; simp only [List.length_set] at hq; omega)] at eC68
   have eC68 : Cells w64 eb68 (eo68 + k3 * 3) [.string (bs ((l_markText x29))), .string (bs ((l_markText (IntKind.wrap .i64 (x29 + 1))))), .bool ((x30.getD k3 d_Write).Gone)] := eC68
   refine sd rfl (yl_ixN un36 ty57 rfl rfl rfl eA68 (sd rfl (yl_fieldAddr fd57_2 rfl rfl ?_)))
   have hrg69 := OwnL.rng hB65 (i := k3) (by first | omega | assumption | (simp only [wI] at *; omega)) eb68 (by rw [eA68]; rfl)
   refine SeqR.u rfl rfl (yl_storeF (off := eo68) (i := k3) (d := 2) (dx := d_Write) (x' := (⟨(l_markText x29), (l_markText (IntKind.wrap .i64 (x29 + 1))), decide ((Int.tmod (IntKind.wrap .i64 ((IntKind.wrap .i64 (x29 + 1)) + 1)) 3) = 0)⟩ : DWrite)) (vs := [.bool (decide ((Int.tmod (IntKind.wrap .i64 ((IntKind.wrap .i64 (x29 + 1)) + 1)) 3) = 0))]) ty4 rfl hB65 eA68 rfl rfl rfl rfl rfl (by first | omega | assumption | (simp only [wI] at *; omega)) (Nat.le_of_ble_eq_true rfl) (by rw [getD_set_self (by have hq := OwnL.len hB65; simp only [List.length_set] at hq; omega)]; rfl) rfl ?_)
   intro w70 hB71 hO72
   have hO72z := hO72.size
   rw [List.set_set] at hB71
   refine dn (CW.region (sd rfl (yl_move rfl rfl (sd rfl (yl_add rfl rfl rfl (sd rfl (yl_assign rfl rfl (SeqR.done (bn (tn ?_))))))))))
   refine CW.region (sd rfl (yl_move rfl rfl (sd rfl (yl_inc rfl rfl rfl (by omega) (sd rfl (yl_assign rfl rfl (dn ?_)))))))
   have hB73 : B_l_markWriteS_0 p_a p_k k3 (x29, x30) = .cont (IntKind.wrap .i64 ((IntKind.wrap .i64 ((IntKind.wrap .i64 (x29 + 1)) + 1)) + 1), (x30.set k3 (⟨(l_markText x29), (l_markText (IntKind.wrap .i64 (x29 + 1))), decide ((Int.tmod (IntKind.wrap .i64 ((IntKind.wrap .i64 (x29 + 1)) + 1)) 3) = 0)⟩ : DWrite))) := by simp only [B_l_markWriteS_0, cL]
   exact ⟨p_a.length - (k3 + 1), by omega, k3 + 1, IntKind.wrap .i64 ((IntKind.wrap .i64 ((IntKind.wrap .i64 (x29 + 1)) + 1)) + 1), (x30.set k3 (⟨(l_markText x29), (l_markText (IntKind.wrap .i64 (x29 + 1))), decide ((Int.tmod (IntKind.wrap .i64 ((IntKind.wrap .i64 (x29 + 1)) + 1)) 3) = 0)⟩ : DWrite)), rfl, hlt46, (by omega), (sR rfl), hB71, (Mut.only (Mut.only (Mut.ex (Mut.only (Mut.ex hf42 hE49) hO56 (by simp only [InR, or_false]; omega)) hE59) hO66 (by simp only [InR, or_false]; omega)) hO72 (by simp only [InR, or_false]; omega)), (by first | omega | assumption | (simp only [wI] at *; omega)), (loopM.cont hlt46 hB73).symm.trans hI38⟩
  ·refine CW.seq (CW.seq (CW.region (sd rfl (yl_move rfl rfl (sd rfl (yl_move rfl rfl (sd rfl (yl_len un36 rfl rfl (sd rfl (yl_lss rfl rfl rfl (dn ?_)))))))))))
   refine CW.cond_f rfl (lt_f hlt46) (CW.exit (tx (tx ?_)))
   have hL79 : loopM (B_l_markWriteS_0 p_a p_k) (p_a.length - 0) 0 (p_k, p_a) = .done (x29, x30) := hI38.symm.trans (loopM.stop hlt46)
   refine bx (tn (CW.seq (CW.region (sd rfl (yl_move rfl rfl (sd rfl (yl_assign rfl rfl (dn (CW.ret ?_)))))))))
   refine rr rfl (.cons rfl .nil) ?_
   rw [show (l_markWriteS p_a p_k) = ((x29, x30)) by simp only [l_markWriteS, hL79, cL]]
   exact ⟨rfl, hf41, hf42⟩
theorem c_l_markRowS {A1 : Option Addr} {c1 : Nat} {lo1 hi1 : Nat} {w : World} (p_a : List DRow) (p_k : Int) (h1 : OwnU w lo1 hi1 61 1 RO_Row A1 p_a.length c1 p_a) (hrn2 : (0 ≤ lo1 ∧ lo1 ≤ hi1 ∧ hi1 ≤ w.heap.size)) (pre0 : p_k ≤ 9223372036854775807) : Cal Tryz.prog 15 #[.slice A1 p_a.length c1, .int .i64 (p_k)] w fun v w' => v = .int .i64 ((l_markRowS p_a p_k).1) ∧ OwnU w' lo1 hi1 61 1 RO_Row A1 p_a.length c1 ((l_markRowS p_a p_k).2) ∧ Mut [(lo1, hi1)] w w' := by
 refine Cal.of func15 rfl ntmps15 rfl (CW.seq (CW.region (sd rfl (yl_assign rfl rfl (dn (CW.seq (CW.seq (CW.region ?_))))))))
 refine sd rfl (yl_assign rfl rfl (dn (CW.block (CW.loop (fun m15 L16 w17 => ∃ (k3 : Nat) (x13 : Int) (x14 : List DRow), m15 = p_a.length - k3 ∧ k3 ≤ p_a.length ∧ w.heap.size ≤ w17.heap.size ∧ Sub [(0, .slice A1 p_a.length c1), (1, .int .i64 (x13)), (5, .int .i64 ((k3 : Int)))] L16 ∧ OwnU w17 lo1 hi1 61 1 RO_Row A1 p_a.length c1 x14 ∧ Mut [(lo1, hi1)] w w17 ∧ x13 ≤ 9223372036854775807 ∧ loopM (B_l_markRowS_0 p_a p_k) (p_a.length - k3) k3 (x13, x14) = loopM (B_l_markRowS_0 p_a p_k) (p_a.length - 0) 0 (p_k, p_a)) (p_a.length - 0) ?_ ?_))))
 ·exact ⟨0, p_k, p_a, rfl, (by omega), Nat.le_refl _, (sR rfl), h1, (Mut.refl (l := [(lo1, hi1)]) w), (by first | omega | assumption | (simp only [wI] at *; omega)), rfl⟩
 ·rintro m18 L19 w20 ⟨k3, x13, x14, rfl, hk21, hsz23, hl24, hf25, hf26, hv27, hI22⟩
  refine CW.sub hl24 ?_
  have hf26z := Mut.size hf26
  have hbg28 := RdS.big (OwnL.rd good_Row (OwnU.own goodO_Row good_Row hf25))
  rcases Nat.lt_or_ge k3 p_a.length with hlt30 | hlt30
  ·refine CW.seq (CW.seq (CW.region (sd rfl (yl_move rfl rfl (sd rfl (yl_move rfl rfl (sd rfl (yl_len un29 rfl rfl (sd rfl (yl_lss rfl rfl rfl (dn ?_)))))))))))
   refine CW.cond_t rfl (lt_t hlt30) (CW.skip (tn (CW.seq (CW.block (CW.region (sd rfl (yl_move rfl rfl (sd rfl (yl_move rfl rfl ?_)))))))))
   obtain ⟨dg31, dv31, _, dA31, dr31, ds31, dx31, dlh31, ⟨A32, c32, lo32, hi32, rfl, h32, hrn33⟩, dR31⟩ := OwnU.open d_Row (i := k3) hf25 (by first | omega | assumption | (simp only [wI] at *; omega))
   refine sd rfl (yl_ixN un29 ty61 rfl rfl rfl dA31 (sd rfl (yl_fieldAddr fd61_0 rfl rfl (sd rfl (yl_load1 ty22 rfl rfl ((OwnV.cells (g := dg31) (by have h := dR31; rw [dA31] at h; exact h)) 0 _ rfl) (sd rfl (yl_move rfl rfl (sd rfl (yl_call en43 rfl (oc rfl (oc rfl oz)) (Cal.mono (c_l_markStringS ((x14.getD k3 d_Row).Vals) x13 h32 (by omega) (by first | omega | assumption | (simp only [wI] at *; omega))) ?_))))))))))
   rintro v35 w34 ⟨rfl, h37, hm36⟩
   have hm36z := Mut.size hm36
   have hrf38 := rf_markStringS ((x14.getD k3 d_Row).Vals) x13 (by first | omega | assumption | (simp only [wI] at *; omega))
   refine sd rfl (yl_assign rfl rfl (SeqR.done (bn (tn (CW.region (sd rfl (yl_move rfl rfl (sd rfl (yl_inc rfl rfl rfl (by omega) (sd rfl (yl_assign rfl rfl (SeqR.done ?_))))))))))))
   refine tn ?_
   have hB39 : B_l_markRowS_0 p_a p_k k3 (x13, x14) = .cont ((l_markStringS ((x14.getD k3 d_Row).Vals) x13).1, (x14.set k3 (⟨(l_markStringS ((x14.getD k3 d_Row).Vals) x13).2⟩ : DRow))) := by simp only [B_l_markRowS_0, cL]
   exact ⟨p_a.length - (k3 + 1), by omega, k3 + 1, (l_markStringS ((x14.getD k3 d_Row).Vals) x13).1, (x14.set k3 (⟨(l_markStringS ((x14.getD k3 d_Row).Vals) x13).2⟩ : DRow)), rfl, hlt30, (by omega), (sR rfl), (show OwnU w34 lo1 hi1 61 1 RO_Row A1 p_a.length c1 (x14.set k3 (⟨(l_markStringS ((x14.getD k3 d_Row).Vals) x13).2⟩ : DRow)) from OwnV.close (v' := dv31) (OwnV.mut goodO_Row dR31 hm36 kR) (mkO_Row (l := dv31.1) (h := dv31.2) h37 (by omega)) (Nat.le_refl _) (.inl ⟨rfl, by omega⟩)), (Mut.mut hf26 hm36 (fun k hk => by simp only [InR, or_false] at hk ⊢; omega)), (by first | omega | assumption | (simp only [wI] at *; omega)), (loopM.cont hlt30 hB39).symm.trans hI22⟩
  ·refine CW.seq (CW.seq (CW.region (sd rfl (yl_move rfl rfl (sd rfl (yl_move rfl rfl (sd rfl (yl_len un29 rfl rfl (sd rfl (yl_lss rfl rfl rfl (dn ?_)))))))))))
   refine CW.cond_f rfl (lt_f hlt30) (CW.exit (tx (tx ?_)))
   have hL42 : loopM (B_l_markRowS_0 p_a p_k) (p_a.length - 0) 0 (p_k, p_a) = .done (x13, x14) := hI22.symm.trans (loopM.stop hlt30)
   refine bx (tn (CW.seq (CW.region (sd rfl (yl_move rfl rfl (sd rfl (yl_assign rfl rfl (dn (CW.ret ?_)))))))))
   refine rr rfl (.cons rfl .nil) ?_
   rw [show (l_markRowS p_a p_k) = ((x13, x14)) by simp only [l_markRowS, hL42, cL]]
   exact ⟨rfl, hf25, hf26⟩
theorem c_l_heldStringS {A1 : Option Addr} {c1 : Nat} {w : World} (p_a : List Str) (p_k : Int) (h1 : RdS w (Iv 0 w.heap.size) (RF e_Str) 1 A1 p_a.length c1 p_a) (pre0 : p_k ≤ 9223372036854775807) : Cal Tryz.prog 46 #[.slice A1 p_a.length c1, .int .i64 (p_k)] w fun v w' => v = .int .i64 ((l_heldStringS p_a p_k)) ∧ Ex w w' := by
 refine Cal.of func46 rfl ntmps46 rfl (CW.seq (CW.region (sd rfl (yl_assign rfl rfl (dn (CW.seq (CW.seq (CW.region ?_))))))))
 refine sd rfl (yl_assign rfl rfl (dn (CW.block (CW.loop (fun m4 L5 w6 => ∃ (k2 : Nat) (x3 : Int), m4 = p_a.length - k2 ∧ k2 ≤ p_a.length ∧ w.heap.size ≤ w6.heap.size ∧ Sub [(0, .slice A1 p_a.length c1), (1, .int .i64 (x3)), (5, .int .i64 ((k2 : Int)))] L5 ∧ Ex w w6 ∧ x3 ≤ 9223372036854775807 ∧ loopM (B_l_heldStringS_0 p_a p_k) (p_a.length - k2) k2 (x3) = loopM (B_l_heldStringS_0 p_a p_k) (p_a.length - 0) 0 (p_k)) (p_a.length - 0) ?_ ?_))))
 ·exact ⟨0, p_k, rfl, (by omega), Nat.le_refl _, (sR rfl), (Ex.refl w), (by first | omega | assumption | (simp only [wI] at *; omega)), rfl⟩
 ·rintro m7 L8 w9 ⟨k2, x3, rfl, hk10, hsz12, hl13, hf14, hv15, hI11⟩
  refine CW.sub hl13 ?_
  have hf14z := Ex.size hf14
  have q17 := RdS.ex good_Str h1 hf14
  have hbg16 := RdS.big q17
  rcases Nat.lt_or_ge k2 p_a.length with hlt18 | hlt18
  ·refine CW.seq (CW.seq (CW.region (sd rfl (yl_move rfl rfl (sd rfl (yl_move rfl rfl (sd rfl (yl_len un22 rfl rfl (sd rfl (yl_lss rfl rfl rfl (dn ?_)))))))))))
   refine CW.cond_t rfl (lt_t hlt18) (CW.skip (tn (CW.seq (CW.block (CW.seq (CW.seq ?_))))))
   obtain ⟨eb19, eo19, _, eA19, _, ebl19, _, eR19, eC19⟩ := RdS.aD q17 d_Str (i := k2)
   obtain rfl := eR19
   refine drJ 7 [.slice A1 p_a.length c1, .int .i64 ((k2 : Int)), .pointer (some ⟨eb19, eo19 + k2 * 1, none⟩), .string (bs ((p_a.getD k2 d_Str))), .int .i64 (x3), .string (bs ((l_markText x3))), .bool (!((p_a.getD k2 d_Str) == (l_markText x3)))] Tryz.follows rfl ⟨oI rfl fun h => yl_move rfl (h.g 0 rfl) kI, oI rfl fun h => yl_move rfl (h.g 5 rfl) kI, ?_, oI rfl fun h => yl_load1 ty9 rfl (h.g 14 rfl) ((Cells.ex eC19 h.ex) 0 _ rfl) kI, oI rfl fun h => yl_move rfl (h.g 1 rfl) kI, ?_, oI rfl fun h => yl_sneq (a := (p_a.getD k2 d_Str)) (b := (l_markText x3)) rfl (h.g 15 rfl) (h.g 17 rfl) kI, trivial⟩ ?_
   ·intro L31 w32 hi33
    have hE34 := hi33.ex
    have hE34z := Ex.size hE34
    exact os rfl ((yl_ixN un22 ty9 rfl (hi33.g 12 rfl) (hi33.g 13 rfl) eA19 kI))
   ·intro L48 w49 hi50
    have hE51 := hi50.ex
    have hE51z := Ex.size hE51
    exact OpR.op' rfl (yl_call en45 rfl (oc (hi50.g 16 rfl) oz) (Cal.mono (c_l_markText x3 (by first | omega | assumption | (simp only [wI] at *; omega))) fun _ _ h => h))
   ·intro fl65 fh66 L62 w63 hp64
    have hE67 := hp64.ex
    have hE67z := Ex.size hE67
    refine dn (CW.sub (hp64.ss [0, 1, 5, 18] rfl) (bcase ((p_a.getD k2 d_Str) == (l_markText x3)) (fun hb72 => ?_) (fun hb72 => ?_)))
    ·refine CW.cond_f rfl (not_t hb72) (CW.skip (tn (CW.region (sd rfl (yl_move rfl rfl (sd rfl (yl_add rfl rfl rfl (sd rfl (yl_assign rfl rfl (SeqR.done (bn ?_)))))))))))
     refine tn (CW.region (sd rfl (yl_move rfl rfl (sd rfl (yl_inc rfl rfl rfl (by omega) (sd rfl (yl_assign rfl rfl (dn ?_))))))))
     have hB73 : B_l_heldStringS_0 p_a p_k k2 (x3) = .cont (IntKind.wrap .i64 (x3 + 1)) := by simp only [B_l_heldStringS_0, hb72, cL]
     exact ⟨p_a.length - (k2 + 1), by omega, k2 + 1, IntKind.wrap .i64 (x3 + 1), rfl, hlt18, (by omega), (sR rfl), (Ex.trans hf14 hE67), (by first | omega | assumption | (simp only [wI] at *; omega)), (loopM.cont hlt18 hB73).symm.trans hI11⟩
    ·refine CW.cond_t rfl (not_f hb72) (CW.seq (CW.region (sd rfl (yl_assign rfl rfl (dn (CW.ret (tr (br ?_))))))))
     refine tr (tr ?_)
     have hB76 : B_l_heldStringS_0 p_a p_k k2 (x3) = .ret (-1) := by simp only [B_l_heldStringS_0, hb72, cL]
     have hL75 : loopM (B_l_heldStringS_0 p_a p_k) (p_a.length - 0) 0 (p_k) = .ret (-1) := hI11.symm.trans (loopM.ret hlt18 hB76)
     refine br (tr (rr rfl (.cons rfl .nil) ?_))
     rw [show (l_heldStringS p_a p_k) = (-1) by simp only [l_heldStringS, hb72, hL75, cL]]
     exact ⟨rfl, (Ex.trans hf14 hE67)⟩
  ·refine CW.seq (CW.seq (CW.region (sd rfl (yl_move rfl rfl (sd rfl (yl_move rfl rfl (sd rfl (yl_len un22 rfl rfl (sd rfl (yl_lss rfl rfl rfl (dn ?_)))))))))))
   refine CW.cond_f rfl (lt_f hlt18) (CW.exit (tx (tx ?_)))
   have hL79 : loopM (B_l_heldStringS_0 p_a p_k) (p_a.length - 0) 0 (p_k) = .done (x3) := hI11.symm.trans (loopM.stop hlt18)
   refine bx (tn (CW.seq (CW.region (sd rfl (yl_move rfl rfl (sd rfl (yl_assign rfl rfl (dn (CW.ret ?_)))))))))
   refine rr rfl (.cons rfl .nil) ?_
   rw [show (l_heldStringS p_a p_k) = (x3) by simp only [l_heldStringS, hL79, cL]]
   exact ⟨rfl, hf14⟩
theorem c_l_heldRowS {A1 : Option Addr} {c1 : Nat} {w : World} (p_a : List DRow) (p_k : Int) (h1 : RdS w (Iv 0 w.heap.size) R_Row 1 A1 p_a.length c1 p_a) (pre0 : p_k ≤ 9223372036854775807) : Cal Tryz.prog 16 #[.slice A1 p_a.length c1, .int .i64 (p_k)] w fun v w' => v = .int .i64 ((l_heldRowS p_a p_k)) ∧ Ex w w' := by
 refine Cal.of func16 rfl ntmps16 rfl (CW.seq (CW.region (sd rfl (yl_assign rfl rfl (dn (CW.seq (CW.seq (CW.region ?_))))))))
 refine sd rfl (yl_assign rfl rfl (dn (CW.block (CW.loop (fun m4 L5 w6 => ∃ (k2 : Nat) (x3 : Int), m4 = p_a.length - k2 ∧ k2 ≤ p_a.length ∧ w.heap.size ≤ w6.heap.size ∧ Sub [(0, .slice A1 p_a.length c1), (1, .int .i64 (x3)), (5, .int .i64 ((k2 : Int)))] L5 ∧ Ex w w6 ∧ x3 ≤ 9223372036854775807 ∧ loopM (B_l_heldRowS_0 p_a p_k) (p_a.length - k2) k2 (x3) = loopM (B_l_heldRowS_0 p_a p_k) (p_a.length - 0) 0 (p_k)) (p_a.length - 0) ?_ ?_))))
 ·exact ⟨0, p_k, rfl, (by omega), Nat.le_refl _, (sR rfl), (Ex.refl w), (by first | omega | assumption | (simp only [wI] at *; omega)), rfl⟩
 ·rintro m7 L8 w9 ⟨k2, x3, rfl, hk10, hsz12, hl13, hf14, hv15, hI11⟩
  refine CW.sub hl13 ?_
  have hf14z := Ex.size hf14
  have q17 := RdS.ex good_Row h1 hf14
  have hbg16 := RdS.big q17
  rcases Nat.lt_or_ge k2 p_a.length with hlt18 | hlt18
  ·refine CW.seq (CW.seq (CW.region (sd rfl (yl_move rfl rfl (sd rfl (yl_move rfl rfl (sd rfl (yl_len un29 rfl rfl (sd rfl (yl_lss rfl rfl rfl (dn ?_)))))))))))
   refine CW.cond_t rfl (lt_t hlt18) (CW.skip (tn (CW.seq (CW.block (CW.seq (CW.region (sd rfl (yl_move rfl rfl (sd rfl (yl_move rfl rfl ?_))))))))))
   obtain ⟨_, _, _, eA19, _, ebl19, _, eR19, eC19⟩ := RdS.aD q17 d_Row (i := k2)
   obtain ⟨A20, c20, rfl, h20⟩ := eR19
   refine sd rfl (yl_ixN un29 ty61 rfl rfl rfl eA19 (sd rfl (yl_fieldAddr fd61_0 rfl rfl (sd rfl (yl_load1 ty22 rfl rfl (eC19 0 _ rfl) (sd rfl (yl_move rfl rfl (sd rfl (yl_call en46 rfl (oc rfl (oc rfl oz)) (Cal.mono (c_l_heldStringS ((p_a.getD k2 d_Row).Vals) x3 (RdS.up h20 good_Str) (by first | omega | assumption | (simp only [wI] at *; omega))) ?_))))))))))
   rintro v22 w21 ⟨rfl, hE23⟩
   have hE23z := Ex.size hE23
   have hrf24 := rf_heldStringS ((p_a.getD k2 d_Row).Vals) x3 (by first | omega | assumption | (simp only [wI] at *; omega))
   refine sd rfl (yl_assign rfl rfl (dn (CW.seq (CW.region (sd rfl (yl_move rfl rfl (sd rfl (yl_lss rfl rfl rfl (dn ?_)))))))))
   refine bcD (q := (l_heldStringS ((p_a.getD k2 d_Row).Vals) x3) < 0) (fun hb25 hb25p => ?_) (fun hb25 hb25p => ?_)
   ·refine CW.cond_t rfl hb25 (CW.seq (CW.region (sd rfl (yl_assign rfl rfl (dn (CW.ret (br (tr ?_))))))))
    refine tr ?_
    have hB27 : B_l_heldRowS_0 p_a p_k k2 (x3) = .ret (-1) := by simp only [B_l_heldRowS_0, hb25, cL]
    have hL26 : loopM (B_l_heldRowS_0 p_a p_k) (p_a.length - 0) 0 (p_k) = .ret (-1) := hI11.symm.trans (loopM.ret hlt18 hB27)
    refine br (tr (rr rfl (.cons rfl .nil) ?_))
    rw [show (l_heldRowS p_a p_k) = (-1) by simp only [l_heldRowS, hb25, hL26, cL]]
    exact ⟨rfl, (Ex.trans hf14 hE23)⟩
   ·refine CW.cond_f rfl hb25 (CW.skip (bn (tn (CW.region (sd rfl (yl_move rfl rfl (sd rfl (yl_inc rfl rfl rfl (by omega) (sd rfl (yl_assign rfl rfl (SeqR.done ?_)))))))))))
    refine tn ?_
    have hB30 : B_l_heldRowS_0 p_a p_k k2 (x3) = .cont ((l_heldStringS ((p_a.getD k2 d_Row).Vals) x3)) := by simp only [B_l_heldRowS_0, hb25, cL]
    exact ⟨p_a.length - (k2 + 1), by omega, k2 + 1, (l_heldStringS ((p_a.getD k2 d_Row).Vals) x3), rfl, hlt18, (by omega), (sR rfl), (Ex.trans hf14 hE23), (by first | omega | assumption | (simp only [wI] at *; omega)), (loopM.cont hlt18 hB30).symm.trans hI11⟩
  ·refine CW.seq (CW.seq (CW.region (sd rfl (yl_move rfl rfl (sd rfl (yl_move rfl rfl (sd rfl (yl_len un29 rfl rfl (sd rfl (yl_lss rfl rfl rfl (dn ?_)))))))))))
   refine CW.cond_f rfl (lt_f hlt18) (CW.exit (tx (tx ?_)))
   have hL32 : loopM (B_l_heldRowS_0 p_a p_k) (p_a.length - 0) 0 (p_k) = .done (x3) := hI11.symm.trans (loopM.stop hlt18)
   refine bx (tn (CW.seq (CW.region (sd rfl (yl_move rfl rfl (sd rfl (yl_assign rfl rfl (dn (CW.ret ?_)))))))))
   refine rr rfl (.cons rfl .nil) ?_
   rw [show (l_heldRowS p_a p_k) = (x3) by simp only [l_heldRowS, hL32, cL]]
   exact ⟨rfl, hf14⟩
end Go.Proofs.YtdhfokkkpcelpaaGreatDoor
