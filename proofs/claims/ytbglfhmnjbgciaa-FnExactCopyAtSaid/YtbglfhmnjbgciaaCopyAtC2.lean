/- Copy At: what each call returns, part 2. -/
import Derived.Test.YtbglfhmnjbgciaaCopyAtC1
set_option maxRecDepth 100000
set_option maxHeartbeats 2000000
open Go.Proofs.Try Go.Proofs.Ytbglfhmnjbgciaa.Try
set_option linter.unusedVariables false
set_option linter.unusedSimpArgs false
namespace Go.Proofs.Ytbglfhmnjbgciaa
open Go.RowKit Go.X
theorem c_l_eqCellS {A1 : Option Addr} {c1 : Nat} {A2 : Option Addr} {c2 : Nat} {w : World} (p_a : List DCell) (p_b : List DCell) (h1 : RdS w (Iv 0 w.heap.size) R_Cell 2 A1 p_a.length c1 p_a) (h2 : RdS w (Iv 0 w.heap.size) R_Cell 2 A2 p_b.length c2 p_b) : Cal Try.prog 9 #[.slice A1 p_a.length c1, .slice A2 p_b.length c2] w fun v w' => v = .bool ((l_eqCellS p_a p_b)) ∧ Ex w w' := by
 refine Cal.of func9 rfl ntmps9 rfl (cR (sA rfl (dn (CW.seq (cR ?_)))))
 refine sM rfl (sd rfl (yL un29 rfl rfl (sM rfl (sd rfl (yL un29 rfl rfl (sd rfl (yl_neq rfl rfl rfl (dn (bcase (decide ((p_a.length : Int) = (p_b.length : Int))) (fun hb3 => ?_) (fun hb3 => ?_))))))))))
 ·have hb3p := dec_t hb3
  refine CW.cond_f rfl (not_t hb3) (CW.skip (tn (CW.seq (cR (sA rfl (dn ?_))))))
  refine CW.block (CW.loop (fun m5 L6 w7 => ∃ (k4 : Nat), m5 = p_a.length - k4 ∧ k4 ≤ p_a.length ∧ w.heap.size ≤ w7.heap.size ∧ lkp L6 0 = some (.slice A1 p_a.length c1) ∧ lkp L6 1 = some (.slice A2 p_b.length c2) ∧ lkp L6 5 = some (.int .i64 ((k4 : Int))) ∧ RdS w7 (Iv 0 w.heap.size) R_Cell 2 A1 p_a.length c1 p_a ∧ RdS w7 (Iv 0 w.heap.size) R_Cell 2 A2 p_b.length c2 p_b ∧ Ex w w7 ∧ loopM (B_l_eqCellS_0 p_a p_b) (p_a.length - k4) k4 () = loopM (B_l_eqCellS_0 p_a p_b) (p_a.length - 0) 0 ()) (p_a.length - 0) ?_ ?_)
  ·exact ⟨0, rfl, oM, Nat.le_refl _, rfl, rfl, rfl, h1, h2, (Ex.refl w), rfl⟩
  ·rintro m8 L9 w10 ⟨k4, rfl, hk11, hsz13, hl14, hl15, hl16, hf17, hf18, hf19, hI12⟩
   refine CW.sub (Sub.cons hl14 (Sub.cons hl15 (Sub.cons hl16 (Sub.nil _)))) ?_
   have hf19z := Ex.size hf19
   have hbg20 := RdS.big hf17
   rcases Nat.lt_or_ge k4 p_a.length with hlt21 | hlt21
   ·refine CW.seq (cR (sM rfl (sM rfl (sd rfl (yL un29 rfl rfl (sd rfl (yl_lss rfl rfl rfl (dn ?_))))))))
    refine CW.cond_t rfl (lt_t hlt21) (CW.skip (tn (CW.seq (CW.block (CW.seq ?_)))))
    obtain ⟨eb22, eo22, _, eA22, _, ebl22, _, eR22, eC22⟩ := RdS.aD hf17 d_Cell (i := k4)
    obtain ⟨A23, c23, rfl, h23⟩ := eR22
    obtain ⟨eb24, eo24, _, eA24, _, ebl24, _, eR24, eC24⟩ := RdS.aD hf18 d_Cell (i := k4)
    obtain ⟨A25, c25, rfl, h25⟩ := eR24
    refine drI 10 [.slice A1 p_a.length c1, .int .i64 ((k4 : Int)), .pointer (some ⟨eb22, eo22 + k4 * 2, none⟩), .agg #[.string (bs ((p_a.getD k4 d_Cell).Key)), .slice A23 (((p_a.getD k4 d_Cell).Vers).length) c23], .slice A2 p_b.length c2, .int .i64 ((k4 : Int)), .pointer (some ⟨eb24, eo24 + k4 * 2, none⟩), .agg #[.string (bs ((p_b.getD k4 d_Cell).Key)), .slice A25 (((p_b.getD k4 d_Cell).Vers).length) c25], .bool ((l_eqCell (p_a.getD k4 d_Cell) (p_b.getD k4 d_Cell))), .bool (!(l_eqCell (p_a.getD k4 d_Cell) (p_b.getD k4 d_Cell)))] Try.follows rfl ⟨?_, ?_, ?_, ?_, ?_, ?_, ?_, ?_, ?_, ?_, trivial⟩ ?_
    ·exact oI rfl fun h => yM rfl (h.old 0 _ rfl rfl) kI
    ·exact oI rfl fun h => yM rfl (h.old 5 _ rfl rfl) kI
    ·intro L37 w38 hi39
     have hE40 := hi39.ex
     have hE40z := Ex.size hE40
     exact os rfl ((yl_ixN un29 ty44 rfl (hi39.dt 0 17 rfl rfl rfl) (hi39.dt 1 18 rfl rfl rfl) eA22 kI))
    ·exact oI rfl fun h => yl_loadN ty44 rfl (h.dt 2 19 rfl rfl rfl) (Cells.ex eC22 h.ex) rfl kI
    ·exact oI rfl fun h => yM rfl (h.old 1 _ rfl rfl) kI
    ·exact oI rfl fun h => yM rfl (h.old 5 _ rfl rfl) kI
    ·intro L59 w60 hi61
     have hE62 := hi61.ex
     have hE62z := Ex.size hE62
     exact os rfl ((yl_ixN un29 ty44 rfl (hi61.dt 4 21 rfl rfl rfl) (hi61.dt 5 22 rfl rfl rfl) eA24 kI))
    ·exact oI rfl fun h => yl_loadN ty44 rfl (h.dt 6 23 rfl rfl rfl) (Cells.ex eC24 h.ex) rfl kI
    ·intro L71 w72 hi73
     have hE74 := hi73.ex
     exact OpR.op' rfl (yC en20 rfl (oc (hi73.dt 3 20 rfl rfl rfl) (oc (hi73.dt 7 24 rfl rfl rfl) oz)) (Cal.mono (c_l_eqCell (p_a.getD k4 d_Cell) (p_b.getD k4 d_Cell) (RdS.up (RdS.ex good_Ver h23 hE74) good_Ver) (RdS.up (RdS.ex good_Ver h25 hE74) good_Ver)) fun _ _ h => h))
    ·exact oI rfl fun h => yl_not rfl (h.dt 8 25 rfl rfl rfl) kI
    ·intro fl90 fh91 L87 w88 hp89
     have hE92 := hp89.ex
     have hE92z := Ex.size hE92
     refine dn (CW.sub (sC 0 (hp89.old 0 _ rfl rfl) (sC 1 (hp89.old 1 _ rfl rfl) (sC 5 (hp89.old 5 _ rfl rfl) (sC 26 (hp89.nt 9 26 rfl rfl rfl) (Sub.nil _))))) (bcase (l_eqCell (p_a.getD k4 d_Cell) (p_b.getD k4 d_Cell)) (fun hb97 => ?_) (fun hb97 => ?_)))
     ·refine CW.cond_f rfl (not_t hb97) (CW.skip (bn (tn (CW.region (sM rfl (sd rfl (yl_inc rfl rfl rfl oM (sA rfl (SeqR.done ?_)))))))))
      refine tn ?_
      have hB98 : B_l_eqCellS_0 p_a p_b k4 () = .cont () := by simp only [B_l_eqCellS_0, hb3, hb97, cL]
      exact ⟨p_a.length - (k4 + 1), oM, k4 + 1, rfl, hlt21, oM, rfl, rfl, rfl, (RdS.ex good_Cell hf17 hE92), (RdS.ex good_Cell hf18 hE92), (Ex.trans hf19 hE92), (loopM.cont hlt21 hB98).symm.trans hI12⟩
     ·refine CW.cond_t rfl (not_f hb97) (cR (sA rfl (dn (CW.ret (br (tr ?_))))))
      refine tr ?_
      have hB103 : B_l_eqCellS_0 p_a p_b k4 () = .ret false := by simp only [B_l_eqCellS_0, hb3, hb97, cL]
      have hL102 : loopM (B_l_eqCellS_0 p_a p_b) (p_a.length - 0) 0 () = .ret false := hI12.symm.trans (loopM.ret hlt21 hB103)
      refine br (tr (rr rfl (.cons rfl .nil) ?_))
      have hM104 : (l_eqCellS p_a p_b) = (false) := by simp only [l_eqCellS, hb3, hb97, hL102, cL]
      rw [hM104]
      exact ⟨rfl, (Ex.trans hf19 hE92)⟩
   ·refine CW.seq (cR (sM rfl (sM rfl (sd rfl (yL un29 rfl rfl (sd rfl (yl_lss rfl rfl rfl (dn ?_))))))))
    refine CW.cond_f rfl (lt_f hlt21) (CW.exit (tx (tx ?_)))
    have hL106 : loopM (B_l_eqCellS_0 p_a p_b) (p_a.length - 0) 0 () = .done () := hI12.symm.trans (loopM.stop hlt21)
    refine bx (tn (cR (sA rfl (dn (CW.ret (rr rfl (.cons rfl .nil) ?_))))))
    have hM107 : (l_eqCellS p_a p_b) = (true) := by simp only [l_eqCellS, hb3, hL106, cL]
    rw [hM107]
    exact ⟨rfl, hf19⟩
 ·have hb3p := dec_f hb3
  refine CW.cond_t rfl (not_f hb3) (cR (sA rfl (dn (CW.ret (tr (rr rfl (.cons rfl .nil) ?_))))))
  have hM108 : (l_eqCellS p_a p_b) = (false) := by simp only [l_eqCellS, hb3, cL]
  rw [hM108]
  exact ⟨rfl, (Ex.refl w)⟩
theorem c_l_markText {w : World} (p_k : Int) (pre0 : p_k ≤ 9223372036854775807) : Cal Try.prog 21 #[.int .i64 (p_k)] w fun v w' => v = .string (bs ((l_markText p_k))) ∧ Ex w w' := by
 refine Cal.of func21 rfl ntmps21 rfl (cR (sA rfl (dn (CW.seq (cR ?_)))))
 refine sM rfl (sd rfl (yl_leq rfl rfl rfl (dn (bcase (decide (p_k ≤ 0)) (fun hb1 => ?_) (fun hb1 => ?_)))))
 ·have hb1p := dec_t hb1
  refine CW.cond_t rfl hb1 (cR (sA rfl (dn (CW.ret (tr (rr rfl (.cons rfl .nil) ?_))))))
  have hM2 : (l_markText p_k) = (([109, 48] : Str)) := by simp only [l_markText, hb1, cL]
  rw [hM2]
  exact ⟨rfl, (Ex.refl w)⟩
 ·have hb1p := dec_f hb1
  refine CW.cond_f rfl hb1 (CW.skip (tn (cR (sA rfl (dn (CW.seq ?_))))))
  refine CW.block (CW.loop (fun m18 L19 w20 => ∃ (x16 : Int) (x17 : Str), (((x16).toNat + 1) / 2) < m18 ∧ w.heap.size ≤ w20.heap.size ∧ lkp L19 0 = some (.int .i64 (x16)) ∧ lkp L19 3 = some (.string (bs (x17))) ∧ Ex w w20 ∧ x17.length + 1 * (((x16).toNat + 1) / 2) ≤ 0 + 1 * (((p_k).toNat + 1) / 2) ∧ x16 ≤ 9223372036854775807 ∧ loopW (B_l_markText_0 p_k) m18 (x16, x17) = loopW (B_l_markText_0 p_k) ((((p_k).toNat + 1) / 2) + 1) (p_k, ([] : Str))) ((((p_k).toNat + 1) / 2) + 1) ?_ ?_)
  ·exact ⟨p_k, ([] : Str), Nat.lt_succ_self _, Nat.le_refl _, rfl, rfl, (Ex.refl w), (by first | (simp; done) | (first | omega | (simp only [lN, toS_length]; omega))), Bo, rfl⟩
  ·rintro m21 L22 w23 ⟨x16, x17, hk24, hsz26, hl27, hl28, hf29, hln30, hv31, hI25⟩
   refine CW.sub (Sub.cons hl27 (Sub.cons hl28 (Sub.nil _))) ?_
   have hf29z := Ex.size hf29
   refine CW.seq (cR (sM rfl (sd rfl (yl_gtr rfl rfl rfl (dn (bcase (decide (0 < x16)) (fun hb32 => ?_) (fun hb32 => ?_)))))))
   ·have hb32p := dec_t hb32
    refine CW.cond_t rfl hb32 (CW.skip (tn (CW.block (cR (sM rfl (sd rfl (yl_rem rfl rfl rfl (by decide) (sd rfl (yl_add rfl rfl rfl ?_)))))))))
    refine sd rfl (yl_conv un3 un5 rfl rfl (sd rfl (yl_buildSlice (cs := [.int .u8 (IntKind.wrap .u8 (IntKind.wrap .i64 (48 + (Int.tmod x16 10))))]) un66 ty5 (by decide) rfl (oc rfl oz) (by kernel_rfl) ?_)))
    intro b33 w34 hs35 hz36 hB37 hE38
    have hO39 : OwnL w34 b33 (b33 + 1) 5 1 (RF e_U8) (some ⟨b33, 0, none⟩) 1 1 ([IntKind.wrap .u8 (IntKind.wrap .i64 (48 + (Int.tmod x16 10)))] : List Int) := OwnL.of_box (S := fun _ => False) hB37 (Nat.le_refl _) (Nat.lt_succ_self _) (EncL.cons (c := [.int .u8 (IntKind.wrap .u8 (IntKind.wrap .i64 (48 + (Int.tmod x16 10))))]) rfl rfl EncL.nil) (nb rfl) (fun h => h) (fun _ h => False.elim h)
    refine sd rfl (yl_toS un66 un5 un9 rfl rfl (OwnL.rd gU hO39) (sM rfl ?_))
    have hol41 : (toS ([IntKind.wrap .u8 (IntKind.wrap .i64 (48 + (Int.tmod x16 10)))] : List Int)).length ≤ 1073741824 := (okS_toS (nb rfl))
    refine sd rfl (yl_sadd (a := (toS ([IntKind.wrap .u8 (IntKind.wrap .i64 (48 + (Int.tmod x16 10)))] : List Int))) (b := x17) rfl rfl rfl Bl (sA rfl (dn (CW.region (sM rfl (sd rfl (yl_quo rfl rfl rfl (by decide) (sA rfl (SeqR.done ?_)))))))))
    refine bn (tn ?_)
    have hB42 : B_l_markText_0 p_k (x16, x17) = .cont (IntKind.wrap .i64 (Int.tdiv x16 10), (toS ([IntKind.wrap .u8 (IntKind.wrap .i64 (48 + (Int.tmod x16 10)))] : List Int)) ++ x17) := by simp only [B_l_markText_0, hb1, hb32, cL]
    have hmu44 : (((IntKind.wrap .i64 (Int.tdiv x16 10)).toNat + 1) / 2) < (((x16).toNat + 1) / 2) := by (have hq := wtd (n := x16) (c := 10) (by decide) oM oM; omega)
    exact ⟨m21 - 1, oM, IntKind.wrap .i64 (Int.tdiv x16 10), (toS ([IntKind.wrap .u8 (IntKind.wrap .i64 (48 + (Int.tmod x16 10)))] : List Int)) ++ x17, oM, oM, rfl, rfl, (Ex.trans hf29 hE38), Bl, (by (have hq := wtd (n := x16) (c := 10) (by decide) oM oM; omega)), (loopW.cont hk24 hB42).symm.trans hI25⟩
   ·have hb32p := dec_f hb32
    refine CW.cond_f rfl hb32 (CW.exit (tx (tx ?_)))
    have hB46 : B_l_markText_0 p_k (x16, x17) = .brk (x16, x17) := by simp only [B_l_markText_0, hb1, hb32, cL]
    have hL45 : loopW (B_l_markText_0 p_k) ((((p_k).toNat + 1) / 2) + 1) (p_k, ([] : Str)) = .done (x16, x17) := hI25.symm.trans (loopW.brk hk24 hB46)
    refine bx (tn (cR (sM rfl (sd rfl (yl_sadd (a := ([109] : Str)) (b := x17) rfl rfl rfl Bl (sA rfl (dn ?_)))))))
    refine CW.ret (rr rfl (.cons rfl .nil) ?_)
    have hM47 : (l_markText p_k) = (([109] : Str) ++ x17) := by simp only [l_markText, hb1, hb32, hL45, cL]
    rw [hM47]
    exact ⟨rfl, hf29⟩
theorem c_l_markVerS {A1 : Option Addr} {c1 : Nat} {lo1 hi1 : Nat} {w : World} (p_a : List DVer) (p_k : Int) (h1 : OwnL w lo1 hi1 68 3 (RF e_Ver) A1 p_a.length c1 p_a) (hrn2 : (0 ≤ lo1 ∧ lo1 ≤ hi1 ∧ hi1 ≤ w.heap.size)) (pre0 : p_k ≤ 9223372036854775807) : Cal Try.prog 22 #[.slice A1 p_a.length c1, .int .i64 (p_k)] w fun v w' => v = .int .i64 ((l_markVerS p_a p_k).1) ∧ OwnL w' lo1 hi1 68 3 (RF e_Ver) A1 p_a.length c1 ((l_markVerS p_a p_k).2) ∧ Mut [(lo1, hi1)] w w' := by
 refine Cal.of func22 rfl ntmps22 rfl (cR (sA rfl (dn (CW.seq (cR ?_)))))
 refine sA rfl (dn (CW.block (CW.loop (fun m28 L29 w30 => ∃ (k3 : Nat) (x26 : Int) (x27 : List DVer), m28 = p_a.length - k3 ∧ k3 ≤ p_a.length ∧ w.heap.size ≤ w30.heap.size ∧ lkp L29 0 = some (.slice A1 p_a.length c1) ∧ lkp L29 1 = some (.int .i64 (x26)) ∧ lkp L29 5 = some (.int .i64 ((k3 : Int))) ∧ OwnL w30 lo1 hi1 68 3 (RF e_Ver) A1 p_a.length c1 x27 ∧ Mut [(lo1, hi1)] w w30 ∧ x26 ≤ 9223372036854775807 ∧ loopM (B_l_markVerS_0 p_a p_k) (p_a.length - k3) k3 (x26, x27) = loopM (B_l_markVerS_0 p_a p_k) (p_a.length - 0) 0 (p_k, p_a)) (p_a.length - 0) ?_ ?_)))
 ·exact ⟨0, p_k, p_a, rfl, oM, Nat.le_refl _, rfl, rfl, rfl, h1, (Mut.refl (l := [(lo1, hi1)]) w), Bo, rfl⟩
 ·rintro m31 L32 w33 ⟨k3, x26, x27, rfl, hk34, hsz36, hl37, hl38, hl39, hf40, hf41, hv42, hI35⟩
  refine CW.sub (Sub.cons hl37 (Sub.cons hl38 (Sub.cons hl39 (Sub.nil _)))) ?_
  have hf41z := Mut.size hf41
  have hbg43 := RdS.big (OwnL.rd good_Ver hf40)
  rcases Nat.lt_or_ge k3 p_a.length with hlt45 | hlt45
  ·refine CW.seq (cR (sM rfl (sM rfl (sd rfl (yL un42 rfl rfl (sd rfl (yl_lss rfl rfl rfl (dn ?_))))))))
   refine CW.cond_t rfl (lt_t hlt45) (CW.skip (tn (CW.seq (CW.block (cR (sM rfl (sM rfl ?_)))))))
   refine sM rfl ?_
   obtain ⟨eb47, eo47, _, eA47, _, ebl47, _, eR47, eC47⟩ := RdS.aD (OwnL.rd good_Ver hf40) d_Ver (i := k3)
   obtain rfl := eR47
   have eC47 : Cells w33 eb47 (eo47 + k3 * 3) [.int .i64 ((x27.getD k3 d_Ver).Time), .string (bs ((x27.getD k3 d_Ver).Val)), .bool ((x27.getD k3 d_Ver).Gone)] := eC47
   refine sd rfl (yl_ixN un42 ty68 rfl rfl rfl eA47 (sd rfl (yl_fieldAddr fd68_0 rfl rfl ?_)))
   have hrg48 := OwnL.rng hf40 (i := k3) Bo eb47 (by rw [eA47]; rfl)
   refine SeqR.u rfl rfl (yl_storeF (off := eo47) (i := k3) (d := 0) (dx := d_Ver) (x' := (⟨x26, (x27.getD k3 d_Ver).Val, (x27.getD k3 d_Ver).Gone⟩ : DVer)) (vs := [.int .i64 (x26)]) ty3 rfl hf40 eA47 rfl rfl rfl rfl rfl Bo (nb rfl) rfl rfl ?_)
   intro w49 hB50 hO51
   have hO51z := hO51.size
   refine dn (cR (sM rfl (sd rfl (yl_add rfl rfl rfl (sA rfl (dn ?_))))))
   refine cR (sM rfl (sM rfl (sM rfl (sd rfl (yC en21 rfl (oc rfl oz) (Cal.mono (c_l_markText (IntKind.wrap .i64 (x26 + 1)) Bo) ?_))))))
   rintro v53 w52 ⟨rfl, hE54⟩
   have hE54z := Ex.size hE54
   have q56 := OwnL.ex good_Ver hB50 hE54
   obtain ⟨eb57, eo57, _, eA57, _, ebl57, _, eR57, eC57⟩ := RdS.aD (OwnL.rd good_Ver q56) d_Ver (i := k3)
   obtain rfl := eR57
   rw [getD_set_self (by have hq := OwnL.len q56; simp only [List.length_set] at hq; omega)] at eC57
   have eC57 : Cells w52 eb57 (eo57 + k3 * 3) [.int .i64 (x26), .string (bs ((x27.getD k3 d_Ver).Val)), .bool ((x27.getD k3 d_Ver).Gone)] := eC57
   refine sd rfl (yl_ixN un42 ty68 rfl rfl rfl eA57 (sd rfl (yl_fieldAddr fd68_1 rfl rfl ?_)))
   have hrg58 := OwnL.rng q56 (i := k3) Bo eb57 (by rw [eA57]; rfl)
   refine SeqR.u rfl rfl (yl_storeF (off := eo57) (i := k3) (d := 1) (dx := d_Ver) (x' := (⟨x26, (l_markText (IntKind.wrap .i64 (x26 + 1))), (x27.getD k3 d_Ver).Gone⟩ : DVer)) (vs := [.string (bs ((l_markText (IntKind.wrap .i64 (x26 + 1)))))]) ty9 rfl q56 eA57 rfl rfl rfl rfl rfl Bo (nb rfl) (by rw [getD_set_self (by have hq := OwnL.len q56; simp only [List.length_set] at hq; omega)]; rfl) rfl ?_)
   intro w59 hB60 hO61
   have hO61z := hO61.size
   rw [List.set_set] at hB60
   refine dn (cR (sM rfl (sd rfl (yl_add rfl rfl rfl (sA rfl (dn ?_))))))
   refine cR (sM rfl (sM rfl (sM rfl (sd rfl (yl_rem rfl rfl rfl (by decide) (sd rfl (yl_eql rfl rfl rfl ?_)))))))
   obtain ⟨eb63, eo63, _, eA63, _, ebl63, _, eR63, eC63⟩ := RdS.aD (OwnL.rd good_Ver hB60) d_Ver (i := k3)
   obtain rfl := eR63
   rw [getD_set_self (by have hq := OwnL.len hB60; simp only [List.length_set] at hq; omega)] at eC63
   have eC63 : Cells w59 eb63 (eo63 + k3 * 3) [.int .i64 (x26), .string (bs ((l_markText (IntKind.wrap .i64 (x26 + 1))))), .bool ((x27.getD k3 d_Ver).Gone)] := eC63
   refine sd rfl (yl_ixN un42 ty68 rfl rfl rfl eA63 (sd rfl (yl_fieldAddr fd68_2 rfl rfl ?_)))
   have hrg64 := OwnL.rng hB60 (i := k3) Bo eb63 (by rw [eA63]; rfl)
   refine SeqR.u rfl rfl (yl_storeF (off := eo63) (i := k3) (d := 2) (dx := d_Ver) (x' := (⟨x26, (l_markText (IntKind.wrap .i64 (x26 + 1))), decide ((Int.tmod (IntKind.wrap .i64 ((IntKind.wrap .i64 (x26 + 1)) + 1)) 3) = 0)⟩ : DVer)) (vs := [.bool (decide ((Int.tmod (IntKind.wrap .i64 ((IntKind.wrap .i64 (x26 + 1)) + 1)) 3) = 0))]) ty4 rfl hB60 eA63 rfl rfl rfl rfl rfl Bo (nb rfl) (by rw [getD_set_self (by have hq := OwnL.len hB60; simp only [List.length_set] at hq; omega)]; rfl) rfl ?_)
   intro w65 hB66 hO67
   have hO67z := hO67.size
   rw [List.set_set] at hB66
   refine dn (CW.region (sM rfl (sd rfl (yl_add rfl rfl rfl (sA rfl (SeqR.done (bn (tn ?_))))))))
   refine CW.region (sM rfl (sd rfl (yl_inc rfl rfl rfl oM (sA rfl (dn ?_)))))
   have hB68 : B_l_markVerS_0 p_a p_k k3 (x26, x27) = .cont (IntKind.wrap .i64 ((IntKind.wrap .i64 ((IntKind.wrap .i64 (x26 + 1)) + 1)) + 1), (x27.set k3 (⟨x26, (l_markText (IntKind.wrap .i64 (x26 + 1))), decide ((Int.tmod (IntKind.wrap .i64 ((IntKind.wrap .i64 (x26 + 1)) + 1)) 3) = 0)⟩ : DVer))) := by simp only [B_l_markVerS_0, cL]
   exact ⟨p_a.length - (k3 + 1), oM, k3 + 1, IntKind.wrap .i64 ((IntKind.wrap .i64 ((IntKind.wrap .i64 (x26 + 1)) + 1)) + 1), (x27.set k3 (⟨x26, (l_markText (IntKind.wrap .i64 (x26 + 1))), decide ((Int.tmod (IntKind.wrap .i64 ((IntKind.wrap .i64 (x26 + 1)) + 1)) 3) = 0)⟩ : DVer)), rfl, hlt45, oM, rfl, rfl, rfl, hB66, (Mut.only (Mut.only (Mut.ex (Mut.only hf41 hO51 (by simp only [InR, or_false]; omega)) hE54) hO61 (by simp only [InR, or_false]; omega)) hO67 (by simp only [InR, or_false]; omega)), Bo, (loopM.cont hlt45 hB68).symm.trans hI35⟩
  ·refine CW.seq (cR (sM rfl (sM rfl (sd rfl (yL un42 rfl rfl (sd rfl (yl_lss rfl rfl rfl (dn ?_))))))))
   refine CW.cond_f rfl (lt_f hlt45) (CW.exit (tx (tx ?_)))
   have hL73 : loopM (B_l_markVerS_0 p_a p_k) (p_a.length - 0) 0 (p_k, p_a) = .done (x26, x27) := hI35.symm.trans (loopM.stop hlt45)
   refine bx (tn (cR (sM rfl (sA rfl (dn (CW.ret ?_))))))
   refine rr rfl (.cons rfl .nil) ?_
   have hM74 : (l_markVerS p_a p_k) = ((x26, x27)) := by simp only [l_markVerS, hL73, cL]
   rw [hM74]
   exact ⟨rfl, hf40, hf41⟩
theorem c_l_markCellS {A1 : Option Addr} {c1 : Nat} {lo1 hi1 : Nat} {w : World} (p_a : List DCell) (p_k : Int) (h1 : OwnD w lo1 hi1 44 2 RO_Cell A1 p_a.length c1 p_a) (hrn2 : (0 ≤ lo1 ∧ lo1 ≤ hi1 ∧ hi1 ≤ w.heap.size)) (pre0 : p_k ≤ 9223372036854775807) : Cal Try.prog 10 #[.slice A1 p_a.length c1, .int .i64 (p_k)] w fun v w' => v = .int .i64 ((l_markCellS p_a p_k).1) ∧ OwnD w' lo1 hi1 44 2 RO_Cell A1 p_a.length c1 ((l_markCellS p_a p_k).2) ∧ Mut [(lo1, hi1)] w w' := by
 refine Cal.of func10 rfl ntmps10 rfl (cR (sA rfl (dn (CW.seq (cR ?_)))))
 refine sA rfl (dn (CW.block (CW.loop (fun m21 L22 w23 => ∃ (k3 : Nat) (x19 : Int) (x20 : List DCell), m21 = p_a.length - k3 ∧ k3 ≤ p_a.length ∧ w.heap.size ≤ w23.heap.size ∧ lkp L22 0 = some (.slice A1 p_a.length c1) ∧ lkp L22 1 = some (.int .i64 (x19)) ∧ lkp L22 5 = some (.int .i64 ((k3 : Int))) ∧ OwnD w23 lo1 hi1 44 2 RO_Cell A1 p_a.length c1 x20 ∧ Mut [(lo1, hi1)] w w23 ∧ x19 ≤ 9223372036854775807 ∧ loopM (B_l_markCellS_0 p_a p_k) (p_a.length - k3) k3 (x19, x20) = loopM (B_l_markCellS_0 p_a p_k) (p_a.length - 0) 0 (p_k, p_a)) (p_a.length - 0) ?_ ?_)))
 ·exact ⟨0, p_k, p_a, rfl, oM, Nat.le_refl _, rfl, rfl, rfl, h1, (Mut.refl (l := [(lo1, hi1)]) w), Bo, rfl⟩
 ·rintro m24 L25 w26 ⟨k3, x19, x20, rfl, hk27, hsz29, hl30, hl31, hl32, hf33, hf34, hv35, hI28⟩
  refine CW.sub (Sub.cons hl30 (Sub.cons hl31 (Sub.cons hl32 (Sub.nil _)))) ?_
  have hf34z := Mut.size hf34
  have hbg36 := RdS.big (OwnL.rd good_Cell (OwnD.own goodO_Cell good_Cell hf33))
  rcases Nat.lt_or_ge k3 p_a.length with hlt38 | hlt38
  ·refine CW.seq (cR (sM rfl (sM rfl (sd rfl (yL un29 rfl rfl (sd rfl (yl_lss rfl rfl rfl (dn ?_))))))))
   refine CW.cond_t rfl (lt_t hlt38) (CW.skip (tn (CW.seq (CW.block (cR (sM rfl (sM rfl ?_)))))))
   refine sM rfl (sd rfl (yC en21 rfl (oc rfl oz) (Cal.mono (c_l_markText x19 Bo) ?_)))
   rintro v40 w39 ⟨rfl, hE41⟩
   have hE41z := Ex.size hE41
   obtain ⟨dg43, dl43, dh43, _, dA43, dr43, ds43, dx43, dlh43, ⟨A44, c44, lo44, hi44, rfl, h44, hrn45⟩, dR43⟩ := OwnD.open d_Cell (i := k3) (OwnD.ex goodO_Cell hf33 hE41) Bo
   refine sd rfl (yl_ixN un29 ty44 rfl rfl rfl dA43 (sd rfl (yl_fieldAddr fd44_0 rfl rfl (SeqR.u rfl rfl (yl_storeR (vs := [.string (bs ((l_markText x19)))]) (d := 0) ty9 rfl dR43 dA43 goodO_Cell rfl rfl rfl rfl rfl (nb rfl) ?_)))))
   intro w46 hB47 hO48
   have hO48z := hO48.size
   refine dn (cR (sM rfl (sd rfl (yl_add rfl rfl rfl (sA rfl (dn ?_))))))
   refine CW.region (sM rfl (sM rfl (sd rfl (yl_ixN un29 ty44 rfl rfl rfl dA43 (sd rfl (yl_fieldAddr fd44_1 rfl rfl (sd rfl (yl_load1 ty42 rfl rfl ((OwnR.cells' dA43 hB47) 1 _ rfl) (sM rfl (sd rfl (yC en22 rfl (oc rfl (oc rfl oz)) (Cal.mono (c_l_markVerS ((x20.getD k3 d_Cell).Vers) (IntKind.wrap .i64 (x19 + 1)) (OwnL.only good_Ver h44 hO48 oM) oM Bo) ?_))))))))))))
   rintro v51 w50 ⟨rfl, h53, hm52⟩
   have hm52z := Mut.size hm52
   have hrf54 := rf_markVerS ((x20.getD k3 d_Cell).Vers) (IntKind.wrap .i64 (x19 + 1)) Bo
   refine sA rfl (SeqR.done (bn (tn (CW.region (sM rfl (sd rfl (yl_inc rfl rfl rfl oM (sA rfl (SeqR.done ?_)))))))))
   refine tn ?_
   have hB55 : B_l_markCellS_0 p_a p_k k3 (x19, x20) = .cont ((l_markVerS ((x20.getD k3 d_Cell).Vers) (IntKind.wrap .i64 (x19 + 1))).1, (x20.set k3 (⟨(l_markText x19), (l_markVerS ((x20.getD k3 d_Cell).Vers) (IntKind.wrap .i64 (x19 + 1))).2⟩ : DCell))) := by simp only [B_l_markCellS_0, cL]
   exact ⟨p_a.length - (k3 + 1), oM, k3 + 1, (l_markVerS ((x20.getD k3 d_Cell).Vers) (IntKind.wrap .i64 (x19 + 1))).1, (x20.set k3 (⟨(l_markText x19), (l_markVerS ((x20.getD k3 d_Cell).Vers) (IntKind.wrap .i64 (x19 + 1))).2⟩ : DCell)), rfl, hlt38, oM, rfl, rfl, rfl, (OwnR.close (OwnR.mut goodO_Cell hB47 hm52 (fun k hk => by simp only [InR, or_false] at hk; omega)) (mkO_Cell (l := dl43) (h := dh43) h53 oM)), (Mut.mut (Mut.only (Mut.ex hf34 hE41) hO48 (by simp only [InR, or_false]; omega)) hm52 (fun k hk => by simp only [InR, or_false] at hk ⊢; omega)), Bo, (loopM.cont hlt38 hB55).symm.trans hI28⟩
  ·refine CW.seq (cR (sM rfl (sM rfl (sd rfl (yL un29 rfl rfl (sd rfl (yl_lss rfl rfl rfl (dn ?_))))))))
   refine CW.cond_f rfl (lt_f hlt38) (CW.exit (tx (tx ?_)))
   have hL60 : loopM (B_l_markCellS_0 p_a p_k) (p_a.length - 0) 0 (p_k, p_a) = .done (x19, x20) := hI28.symm.trans (loopM.stop hlt38)
   refine bx (tn (cR (sM rfl (sA rfl (dn (CW.ret ?_))))))
   refine rr rfl (.cons rfl .nil) ?_
   have hM61 : (l_markCellS p_a p_k) = ((x19, x20)) := by simp only [l_markCellS, hL60, cL]
   rw [hM61]
   exact ⟨rfl, hf33, hf34⟩
theorem c_l_markWriteS {A1 : Option Addr} {c1 : Nat} {lo1 hi1 : Nat} {w : World} (p_a : List DWrite) (p_k : Int) (h1 : OwnL w lo1 hi1 63 3 (RF e_Write) A1 p_a.length c1 p_a) (hrn2 : (0 ≤ lo1 ∧ lo1 ≤ hi1 ∧ hi1 ≤ w.heap.size)) (pre0 : p_k ≤ 9223372036854775807) : Cal Try.prog 23 #[.slice A1 p_a.length c1, .int .i64 (p_k)] w fun v w' => v = .int .i64 ((l_markWriteS p_a p_k).1) ∧ OwnL w' lo1 hi1 63 3 (RF e_Write) A1 p_a.length c1 ((l_markWriteS p_a p_k).2) ∧ Mut [(lo1, hi1)] w w' := by
 refine Cal.of func23 rfl ntmps23 rfl (cR (sA rfl (dn (CW.seq (cR ?_)))))
 refine sA rfl (dn (CW.block (CW.loop (fun m31 L32 w33 => ∃ (k3 : Nat) (x29 : Int) (x30 : List DWrite), m31 = p_a.length - k3 ∧ k3 ≤ p_a.length ∧ w.heap.size ≤ w33.heap.size ∧ lkp L32 0 = some (.slice A1 p_a.length c1) ∧ lkp L32 1 = some (.int .i64 (x29)) ∧ lkp L32 5 = some (.int .i64 ((k3 : Int))) ∧ OwnL w33 lo1 hi1 63 3 (RF e_Write) A1 p_a.length c1 x30 ∧ Mut [(lo1, hi1)] w w33 ∧ x29 ≤ 9223372036854775807 ∧ loopM (B_l_markWriteS_0 p_a p_k) (p_a.length - k3) k3 (x29, x30) = loopM (B_l_markWriteS_0 p_a p_k) (p_a.length - 0) 0 (p_k, p_a)) (p_a.length - 0) ?_ ?_)))
 ·exact ⟨0, p_k, p_a, rfl, oM, Nat.le_refl _, rfl, rfl, rfl, h1, (Mut.refl (l := [(lo1, hi1)]) w), Bo, rfl⟩
 ·rintro m34 L35 w36 ⟨k3, x29, x30, rfl, hk37, hsz39, hl40, hl41, hl42, hf43, hf44, hv45, hI38⟩
  refine CW.sub (Sub.cons hl40 (Sub.cons hl41 (Sub.cons hl42 (Sub.nil _)))) ?_
  have hf44z := Mut.size hf44
  have hbg46 := RdS.big (OwnL.rd gW hf43)
  rcases Nat.lt_or_ge k3 p_a.length with hlt48 | hlt48
  ·refine CW.seq (cR (sM rfl (sM rfl (sd rfl (yL un24 rfl rfl (sd rfl (yl_lss rfl rfl rfl (dn ?_))))))))
   refine CW.cond_t rfl (lt_t hlt48) (CW.skip (tn (CW.seq (CW.block (cR (sM rfl (sM rfl ?_)))))))
   refine sM rfl (sd rfl (yC en21 rfl (oc rfl oz) (Cal.mono (c_l_markText x29 Bo) ?_)))
   rintro v50 w49 ⟨rfl, hE51⟩
   have hE51z := Ex.size hE51
   have q53 := OwnL.ex gW hf43 hE51
   obtain ⟨eb54, eo54, _, eA54, _, ebl54, _, eR54, eC54⟩ := RdS.aD (OwnL.rd gW q53) d_Write (i := k3)
   obtain rfl := eR54
   have eC54 : Cells w49 eb54 (eo54 + k3 * 3) [.string (bs ((x30.getD k3 d_Write).Key)), .string (bs ((x30.getD k3 d_Write).Val)), .bool ((x30.getD k3 d_Write).Gone)] := eC54
   refine sd rfl (yl_ixN un24 ty63 rfl rfl rfl eA54 (sd rfl (yl_fieldAddr fd63_0 rfl rfl ?_)))
   have hrg55 := OwnL.rng q53 (i := k3) Bo eb54 (by rw [eA54]; rfl)
   refine SeqR.u rfl rfl (yl_storeF (off := eo54) (i := k3) (d := 0) (dx := d_Write) (x' := (⟨(l_markText x29), (x30.getD k3 d_Write).Val, (x30.getD k3 d_Write).Gone⟩ : DWrite)) (vs := [.string (bs ((l_markText x29)))]) ty9 rfl q53 eA54 rfl rfl rfl rfl rfl Bo (nb rfl) rfl rfl ?_)
   intro w56 hB57 hO58
   have hO58z := hO58.size
   refine dn (cR (sM rfl (sd rfl (yl_add rfl rfl rfl (sA rfl (dn ?_))))))
   refine cR (sM rfl (sM rfl (sM rfl (sd rfl (yC en21 rfl (oc rfl oz) (Cal.mono (c_l_markText (IntKind.wrap .i64 (x29 + 1)) Bo) ?_))))))
   rintro v60 w59 ⟨rfl, hE61⟩
   have hE61z := Ex.size hE61
   have q63 := OwnL.ex gW hB57 hE61
   obtain ⟨eb64, eo64, _, eA64, _, ebl64, _, eR64, eC64⟩ := RdS.aD (OwnL.rd gW q63) d_Write (i := k3)
   obtain rfl := eR64
   rw [getD_set_self (by have hq := OwnL.len q63; simp only [List.length_set] at hq; omega)] at eC64
   have eC64 : Cells w59 eb64 (eo64 + k3 * 3) [.string (bs ((l_markText x29))), .string (bs ((x30.getD k3 d_Write).Val)), .bool ((x30.getD k3 d_Write).Gone)] := eC64
   refine sd rfl (yl_ixN un24 ty63 rfl rfl rfl eA64 (sd rfl (yl_fieldAddr fd63_1 rfl rfl ?_)))
   have hrg65 := OwnL.rng q63 (i := k3) Bo eb64 (by rw [eA64]; rfl)
   refine SeqR.u rfl rfl (yl_storeF (off := eo64) (i := k3) (d := 1) (dx := d_Write) (x' := (⟨(l_markText x29), (l_markText (IntKind.wrap .i64 (x29 + 1))), (x30.getD k3 d_Write).Gone⟩ : DWrite)) (vs := [.string (bs ((l_markText (IntKind.wrap .i64 (x29 + 1)))))]) ty9 rfl q63 eA64 rfl rfl rfl rfl rfl Bo (nb rfl) (by rw [getD_set_self (by have hq := OwnL.len q63; simp only [List.length_set] at hq; omega)]; rfl) rfl ?_)
   intro w66 hB67 hO68
   have hO68z := hO68.size
   rw [List.set_set] at hB67
   refine dn (cR (sM rfl (sd rfl (yl_add rfl rfl rfl (sA rfl (dn ?_))))))
   refine cR (sM rfl (sM rfl (sM rfl (sd rfl (yl_rem rfl rfl rfl (by decide) (sd rfl (yl_eql rfl rfl rfl ?_)))))))
   obtain ⟨eb70, eo70, _, eA70, _, ebl70, _, eR70, eC70⟩ := RdS.aD (OwnL.rd gW hB67) d_Write (i := k3)
   obtain rfl := eR70
   rw [getD_set_self (by have hq := OwnL.len hB67; simp only [List.length_set] at hq; omega)] at eC70
   have eC70 : Cells w66 eb70 (eo70 + k3 * 3) [.string (bs ((l_markText x29))), .string (bs ((l_markText (IntKind.wrap .i64 (x29 + 1))))), .bool ((x30.getD k3 d_Write).Gone)] := eC70
   refine sd rfl (yl_ixN un24 ty63 rfl rfl rfl eA70 (sd rfl (yl_fieldAddr fd63_2 rfl rfl ?_)))
   have hrg71 := OwnL.rng hB67 (i := k3) Bo eb70 (by rw [eA70]; rfl)
   refine SeqR.u rfl rfl (yl_storeF (off := eo70) (i := k3) (d := 2) (dx := d_Write) (x' := (⟨(l_markText x29), (l_markText (IntKind.wrap .i64 (x29 + 1))), decide ((Int.tmod (IntKind.wrap .i64 ((IntKind.wrap .i64 (x29 + 1)) + 1)) 3) = 0)⟩ : DWrite)) (vs := [.bool (decide ((Int.tmod (IntKind.wrap .i64 ((IntKind.wrap .i64 (x29 + 1)) + 1)) 3) = 0))]) ty4 rfl hB67 eA70 rfl rfl rfl rfl rfl Bo (nb rfl) (by rw [getD_set_self (by have hq := OwnL.len hB67; simp only [List.length_set] at hq; omega)]; rfl) rfl ?_)
   intro w72 hB73 hO74
   have hO74z := hO74.size
   rw [List.set_set] at hB73
   refine dn (CW.region (sM rfl (sd rfl (yl_add rfl rfl rfl (sA rfl (SeqR.done (bn (tn ?_))))))))
   refine CW.region (sM rfl (sd rfl (yl_inc rfl rfl rfl oM (sA rfl (dn ?_)))))
   have hB75 : B_l_markWriteS_0 p_a p_k k3 (x29, x30) = .cont (IntKind.wrap .i64 ((IntKind.wrap .i64 ((IntKind.wrap .i64 (x29 + 1)) + 1)) + 1), (x30.set k3 (⟨(l_markText x29), (l_markText (IntKind.wrap .i64 (x29 + 1))), decide ((Int.tmod (IntKind.wrap .i64 ((IntKind.wrap .i64 (x29 + 1)) + 1)) 3) = 0)⟩ : DWrite))) := by simp only [B_l_markWriteS_0, cL]
   exact ⟨p_a.length - (k3 + 1), oM, k3 + 1, IntKind.wrap .i64 ((IntKind.wrap .i64 ((IntKind.wrap .i64 (x29 + 1)) + 1)) + 1), (x30.set k3 (⟨(l_markText x29), (l_markText (IntKind.wrap .i64 (x29 + 1))), decide ((Int.tmod (IntKind.wrap .i64 ((IntKind.wrap .i64 (x29 + 1)) + 1)) 3) = 0)⟩ : DWrite)), rfl, hlt48, oM, rfl, rfl, rfl, hB73, (Mut.only (Mut.only (Mut.ex (Mut.only (Mut.ex hf44 hE51) hO58 (by simp only [InR, or_false]; omega)) hE61) hO68 (by simp only [InR, or_false]; omega)) hO74 (by simp only [InR, or_false]; omega)), Bo, (loopM.cont hlt48 hB75).symm.trans hI38⟩
  ·refine CW.seq (cR (sM rfl (sM rfl (sd rfl (yL un24 rfl rfl (sd rfl (yl_lss rfl rfl rfl (dn ?_))))))))
   refine CW.cond_f rfl (lt_f hlt48) (CW.exit (tx (tx ?_)))
   have hL81 : loopM (B_l_markWriteS_0 p_a p_k) (p_a.length - 0) 0 (p_k, p_a) = .done (x29, x30) := hI38.symm.trans (loopM.stop hlt48)
   refine bx (tn (cR (sM rfl (sA rfl (dn (CW.ret ?_))))))
   refine rr rfl (.cons rfl .nil) ?_
   have hM82 : (l_markWriteS p_a p_k) = ((x29, x30)) := by simp only [l_markWriteS, hL81, cL]
   rw [hM82]
   exact ⟨rfl, hf43, hf44⟩
theorem c_l_markCopy {A1 : Option Addr} {c1 : Nat} {lo1 hi1 : Nat} {w : World} (p_a : DCopy) (p_k : Int) (h1 : OwnL w lo1 hi1 63 3 (RF e_Write) A1 p_a.Rows.length c1 p_a.Rows) (hrn2 : (0 ≤ lo1 ∧ lo1 ≤ hi1 ∧ hi1 ≤ w.heap.size)) (pre0 : p_k ≤ 9223372036854775807) : Cal Try.prog 11 #[.agg #[.int .i64 (p_a.Time), .slice A1 p_a.Rows.length c1], .int .i64 (p_k)] w fun v w' => v = .int .i64 ((l_markCopy p_a p_k).1) ∧ OwnL w' lo1 hi1 63 3 (RF e_Write) A1 p_a.Rows.length c1 ((l_markCopy p_a p_k).2.Rows) ∧ Mut [(lo1, hi1)] w w' := by
 refine Cal.of func11 rfl ntmps11 rfl (cR (sd rfl (yl_box rfl rfl rfl ?_)))
 intro b3 w4 hs5 hz6 hB7 hE8
 refine sA rfl (dn (cR (sd rfl (yl_fieldAddr fd26_1 rfl rfl (sd rfl (yl_load1 ty24 rfl rfl ((hB7.cell 1).trans rfl) (sM rfl (sd rfl (yC en23 rfl (oc rfl (oc rfl oz)) (Cal.mono (c_l_markWriteS p_a.Rows p_k (OwnL.ex gW h1 hE8) oM Bo) ?_))))))))))
 rintro v11 w10 ⟨rfl, h13, hm12⟩
 have hm12z := Mut.size hm12
 have hrf14 := rf_markWriteS p_a.Rows p_k Bo
 refine sA rfl (dn (cR (sM rfl (sA rfl (dn ?_)))))
 refine CW.ret (rr rfl (.cons rfl .nil) ?_)
 have hM15 : (l_markCopy p_a p_k) = (((l_markWriteS p_a.Rows p_k).1, (⟨p_a.Time, (l_markWriteS p_a.Rows p_k).2⟩ : DCopy))) := by simp only [l_markCopy, cL]
 rw [hM15]
 exact ⟨rfl, h13, (Mut.mut (Mut.ex (Mut.refl (l := [(lo1, hi1)]) w) hE8) hm12 (fun k hk => by simp only [InR, or_false] at hk ⊢; omega))⟩
theorem c_l_heldWriteS {A1 : Option Addr} {c1 : Nat} {w : World} (p_a : List DWrite) (p_k : Int) (h1 : RdS w (Iv 0 w.heap.size) (RF e_Write) 3 A1 p_a.length c1 p_a) (pre0 : p_k ≤ 9223372036854775807) : Cal Try.prog 24 #[.slice A1 p_a.length c1, .int .i64 (p_k)] w fun v w' => v = .int .i64 ((l_heldWriteS p_a p_k)) ∧ Ex w w' := by
 refine Cal.of func24 rfl ntmps24 rfl (cR (sA rfl (dn (CW.seq (cR ?_)))))
 refine sA rfl (dn (CW.block (CW.loop (fun m4 L5 w6 => ∃ (k2 : Nat) (x3 : Int), m4 = p_a.length - k2 ∧ k2 ≤ p_a.length ∧ w.heap.size ≤ w6.heap.size ∧ lkp L5 0 = some (.slice A1 p_a.length c1) ∧ lkp L5 1 = some (.int .i64 (x3)) ∧ lkp L5 5 = some (.int .i64 ((k2 : Int))) ∧ RdS w6 (Iv 0 w.heap.size) (RF e_Write) 3 A1 p_a.length c1 p_a ∧ Ex w w6 ∧ x3 ≤ 9223372036854775807 ∧ loopM (B_l_heldWriteS_0 p_a p_k) (p_a.length - k2) k2 (x3) = loopM (B_l_heldWriteS_0 p_a p_k) (p_a.length - 0) 0 (p_k)) (p_a.length - 0) ?_ ?_)))
 ·exact ⟨0, p_k, rfl, oM, Nat.le_refl _, rfl, rfl, rfl, h1, (Ex.refl w), Bo, rfl⟩
 ·rintro m7 L8 w9 ⟨k2, x3, rfl, hk10, hsz12, hl13, hl14, hl15, hf16, hf17, hv18, hI11⟩
  refine CW.sub (Sub.cons hl13 (Sub.cons hl14 (Sub.cons hl15 (Sub.nil _)))) ?_
  have hf17z := Ex.size hf17
  have hbg19 := RdS.big hf16
  rcases Nat.lt_or_ge k2 p_a.length with hlt20 | hlt20
  ·refine CW.seq (cR (sM rfl (sM rfl (sd rfl (yL un24 rfl rfl (sd rfl (yl_lss rfl rfl rfl (dn ?_))))))))
   refine CW.cond_t rfl (lt_t hlt20) (CW.skip (tn (CW.seq (CW.block (CW.seq (CW.seq ?_))))))
   obtain ⟨eb21, eo21, _, eA21, _, ebl21, _, eR21, eC21⟩ := RdS.aD hf16 d_Write (i := k2)
   obtain rfl := eR21
   have eC21 : Cells w9 eb21 (eo21 + k2 * 3) [.string (bs ((p_a.getD k2 d_Write).Key)), .string (bs ((p_a.getD k2 d_Write).Val)), .bool ((p_a.getD k2 d_Write).Gone)] := eC21
   refine drI 8 [.slice A1 p_a.length c1, .int .i64 ((k2 : Int)), .pointer (some ⟨eb21, eo21 + k2 * 3, none⟩), .pointer (some ⟨eb21, eo21 + k2 * 3 + 0, none⟩), .string (bs ((p_a.getD k2 d_Write).Key)), .int .i64 (x3), .string (bs ((l_markText x3))), .bool (!(((p_a.getD k2 d_Write).Key) == (l_markText x3)))] Try.follows rfl ⟨?_, ?_, ?_, ?_, ?_, ?_, ?_, ?_, trivial⟩ ?_
   ·exact oI rfl fun h => yM rfl (h.old 0 _ rfl rfl) kI
   ·exact oI rfl fun h => yM rfl (h.old 5 _ rfl rfl) kI
   ·intro L33 w34 hi35
    have hE36 := hi35.ex
    have hE36z := Ex.size hE36
    exact os rfl ((yl_ixN un24 ty63 rfl (hi35.dt 0 12 rfl rfl rfl) (hi35.dt 1 13 rfl rfl rfl) eA21 kI))
   ·exact oI rfl fun h => yl_fieldAddr fd63_0 rfl (h.dt 2 14 rfl rfl rfl) kI
   ·exact oI rfl fun h => yl_load1 ty9 rfl (h.dt 3 15 rfl rfl rfl) ((Cells.ex eC21 h.ex) 0 _ rfl) kI
   ·exact oI rfl fun h => yM rfl (h.old 1 _ rfl rfl) kI
   ·intro L55 w56 hi57
    have hE58 := hi57.ex
    have hE58z := Ex.size hE58
    exact OpR.op' rfl (yC en21 rfl (oc (hi57.dt 5 17 rfl rfl rfl) oz) (Cal.mono (c_l_markText x3 Bo) fun _ _ h => h))
   ·exact oI rfl fun h => yl_sneq (a := ((p_a.getD k2 d_Write).Key)) (b := (l_markText x3)) rfl (h.dt 4 16 rfl rfl rfl) (h.dt 6 18 rfl rfl rfl) kI
   ·intro fl72 fh73 L69 w70 hp71
    have hE74 := hp71.ex
    have hE74z := Ex.size hE74
    refine dn (CW.sub (sC 0 (hp71.old 0 _ rfl rfl) (sC 1 (hp71.old 1 _ rfl rfl) (sC 5 (hp71.old 5 _ rfl rfl) (sC 19 (hp71.nt 7 19 rfl rfl rfl) (Sub.nil _))))) (bcase (((p_a.getD k2 d_Write).Key) == (l_markText x3)) (fun hb79 => ?_) (fun hb79 => ?_)))
    ·refine CW.cond_f rfl (not_t hb79) (CW.skip (tn (cR (sM rfl (sd rfl (yl_add rfl rfl rfl (sA rfl (SeqR.done ?_))))))))
     refine tn (CW.seq (CW.seq ?_))
     have q80 := Cells.ex eC21 hE74
     refine drI 8 [.slice A1 p_a.length c1, .int .i64 ((k2 : Int)), .pointer (some ⟨eb21, eo21 + k2 * 3, none⟩), .pointer (some ⟨eb21, eo21 + k2 * 3 + 1, none⟩), .string (bs ((p_a.getD k2 d_Write).Val)), .int .i64 (IntKind.wrap .i64 (x3 + 1)), .string (bs ((l_markText (IntKind.wrap .i64 (x3 + 1))))), .bool (!(((p_a.getD k2 d_Write).Val) == (l_markText (IntKind.wrap .i64 (x3 + 1)))))] Try.follows rfl ⟨?_, ?_, ?_, ?_, ?_, ?_, ?_, ?_, trivial⟩ ?_
     ·exact oI rfl fun h => yM rfl (h.old 0 _ rfl rfl) kI
     ·exact oI rfl fun h => yM rfl (h.old 5 _ rfl rfl) kI
     ·intro L92 w93 hi94
      have hE95 := hi94.ex
      have hE95z := Ex.size hE95
      exact os rfl ((yl_ixN un24 ty63 rfl (hi94.dt 0 22 rfl rfl rfl) (hi94.dt 1 23 rfl rfl rfl) eA21 kI))
     ·exact oI rfl fun h => yl_fieldAddr fd63_1 rfl (h.dt 2 24 rfl rfl rfl) kI
     ·exact oI rfl fun h => yl_load1 ty9 rfl (h.dt 3 25 rfl rfl rfl) ((Cells.ex q80 h.ex) 1 _ rfl) kI
     ·exact oI rfl fun h => yM rfl (h.old 1 _ rfl rfl) kI
     ·intro L114 w115 hi116
      have hE117 := hi116.ex
      have hE117z := Ex.size hE117
      exact OpR.op' rfl (yC en21 rfl (oc (hi116.dt 5 27 rfl rfl rfl) oz) (Cal.mono (c_l_markText (IntKind.wrap .i64 (x3 + 1)) Bo) fun _ _ h => h))
     ·exact oI rfl fun h => yl_sneq (a := ((p_a.getD k2 d_Write).Val)) (b := (l_markText (IntKind.wrap .i64 (x3 + 1)))) rfl (h.dt 4 26 rfl rfl rfl) (h.dt 6 28 rfl rfl rfl) kI
     ·intro fl131 fh132 L128 w129 hp130
      have hE133 := hp130.ex
      have hE133z := Ex.size hE133
      refine dn (CW.sub (sC 0 (hp130.old 0 _ rfl rfl) (sC 1 (hp130.old 1 _ rfl rfl) (sC 5 (hp130.old 5 _ rfl rfl) (sC 29 (hp130.nt 7 29 rfl rfl rfl) (Sub.nil _))))) (bcase (((p_a.getD k2 d_Write).Val) == (l_markText (IntKind.wrap .i64 (x3 + 1)))) (fun hb138 => ?_) (fun hb138 => ?_)))
      ·refine CW.cond_f rfl (not_t hb138) (CW.skip (tn (cR (sM rfl (sd rfl (yl_add rfl rfl rfl (sA rfl (SeqR.done ?_))))))))
       refine tn (CW.seq (cR (sM rfl (sM rfl (sd rfl (yl_ixN un24 ty63 rfl rfl rfl eA21 (sd rfl (yl_fieldAddr fd63_2 rfl rfl (sd rfl (yl_load1 ty4 rfl rfl ((Cells.ex q80 hE133) 2 _ rfl) ?_))))))))))
       refine sM rfl (sd rfl (yl_rem rfl rfl rfl (by decide) (sd rfl (yl_eql rfl rfl rfl (sd rfl (yl_bneq un4 rfl rfl rfl (dn (bcase (((p_a.getD k2 d_Write).Gone) == (decide ((Int.tmod (IntKind.wrap .i64 ((IntKind.wrap .i64 (x3 + 1)) + 1)) 3) = 0))) (fun hb140 => ?_) (fun hb140 => ?_)))))))))
       ·refine CW.cond_f rfl (not_t hb140) (CW.skip (tn (CW.region (sM rfl (sd rfl (yl_add rfl rfl rfl (sA rfl (SeqR.done (bn ?_)))))))))
        refine tn (CW.region (sM rfl (sd rfl (yl_inc rfl rfl rfl oM (sA rfl (dn ?_))))))
        have hB141 : B_l_heldWriteS_0 p_a p_k k2 (x3) = .cont (IntKind.wrap .i64 ((IntKind.wrap .i64 ((IntKind.wrap .i64 (x3 + 1)) + 1)) + 1)) := by simp only [B_l_heldWriteS_0, hb79, hb138, hb140, cL]
        exact ⟨p_a.length - (k2 + 1), oM, k2 + 1, IntKind.wrap .i64 ((IntKind.wrap .i64 ((IntKind.wrap .i64 (x3 + 1)) + 1)) + 1), rfl, hlt20, oM, rfl, rfl, rfl, (RdS.ex gW (RdS.ex gW hf16 hE74) hE133), (Ex.trans (Ex.trans hf17 hE74) hE133), Bo, (loopM.cont hlt20 hB141).symm.trans hI11⟩
       ·refine CW.cond_t rfl (not_f hb140) (cR (sA rfl (dn (CW.ret (tr (br ?_))))))
        refine tr (tr ?_)
        have hB147 : B_l_heldWriteS_0 p_a p_k k2 (x3) = .ret (-1) := by simp only [B_l_heldWriteS_0, hb79, hb138, hb140, cL]
        have hL146 : loopM (B_l_heldWriteS_0 p_a p_k) (p_a.length - 0) 0 (p_k) = .ret (-1) := hI11.symm.trans (loopM.ret hlt20 hB147)
        refine br (tr (rr rfl (.cons rfl .nil) ?_))
        have hM148 : (l_heldWriteS p_a p_k) = (-1) := by simp only [l_heldWriteS, hb79, hb138, hb140, hL146, cL]
        rw [hM148]
        exact ⟨rfl, (Ex.trans (Ex.trans hf17 hE74) hE133)⟩
      ·refine CW.cond_t rfl (not_f hb138) (cR (sA rfl (dn (CW.ret (tr (br ?_))))))
       refine tr (tr ?_)
       have hB152 : B_l_heldWriteS_0 p_a p_k k2 (x3) = .ret (-1) := by simp only [B_l_heldWriteS_0, hb79, hb138, cL]
       have hL151 : loopM (B_l_heldWriteS_0 p_a p_k) (p_a.length - 0) 0 (p_k) = .ret (-1) := hI11.symm.trans (loopM.ret hlt20 hB152)
       refine br (tr (rr rfl (.cons rfl .nil) ?_))
       have hM153 : (l_heldWriteS p_a p_k) = (-1) := by simp only [l_heldWriteS, hb79, hb138, hL151, cL]
       rw [hM153]
       exact ⟨rfl, (Ex.trans (Ex.trans hf17 hE74) hE133)⟩
    ·refine CW.cond_t rfl (not_f hb79) (cR (sA rfl (dn (CW.ret (tr (br ?_))))))
     refine tr (tr ?_)
     have hB157 : B_l_heldWriteS_0 p_a p_k k2 (x3) = .ret (-1) := by simp only [B_l_heldWriteS_0, hb79, cL]
     have hL156 : loopM (B_l_heldWriteS_0 p_a p_k) (p_a.length - 0) 0 (p_k) = .ret (-1) := hI11.symm.trans (loopM.ret hlt20 hB157)
     refine br (tr (rr rfl (.cons rfl .nil) ?_))
     have hM158 : (l_heldWriteS p_a p_k) = (-1) := by simp only [l_heldWriteS, hb79, hL156, cL]
     rw [hM158]
     exact ⟨rfl, (Ex.trans hf17 hE74)⟩
  ·refine CW.seq (cR (sM rfl (sM rfl (sd rfl (yL un24 rfl rfl (sd rfl (yl_lss rfl rfl rfl (dn ?_))))))))
   refine CW.cond_f rfl (lt_f hlt20) (CW.exit (tx (tx ?_)))
   have hL160 : loopM (B_l_heldWriteS_0 p_a p_k) (p_a.length - 0) 0 (p_k) = .done (x3) := hI11.symm.trans (loopM.stop hlt20)
   refine bx (tn (cR (sM rfl (sA rfl (dn (CW.ret ?_))))))
   refine rr rfl (.cons rfl .nil) ?_
   have hM161 : (l_heldWriteS p_a p_k) = (x3) := by simp only [l_heldWriteS, hL160, cL]
   rw [hM161]
   exact ⟨rfl, hf17⟩
theorem c_l_heldCopy {A1 : Option Addr} {c1 : Nat} {w : World} (p_a : DCopy) (p_k : Int) (h1 : RdS w (Iv 0 w.heap.size) (RF e_Write) 3 A1 p_a.Rows.length c1 p_a.Rows) (pre0 : p_k ≤ 9223372036854775807) : Cal Try.prog 12 #[.agg #[.int .i64 (p_a.Time), .slice A1 p_a.Rows.length c1], .int .i64 (p_k)] w fun v w' => v = .int .i64 ((l_heldCopy p_a p_k)) ∧ Ex w w' := by
 refine Cal.of func12 rfl ntmps12 rfl (cR (sd rfl (yl_box rfl rfl rfl ?_)))
 intro b2 w3 hs4 hz5 hB6 hE7
 refine sA rfl (dn (cR (sd rfl (yl_fieldAddr fd26_1 rfl rfl (sd rfl (yl_load1 ty24 rfl rfl ((hB6.cell 1).trans rfl) (sM rfl (sd rfl (yC en24 rfl (oc rfl (oc rfl oz)) (Cal.mono (c_l_heldWriteS p_a.Rows p_k (RdS.up (RdS.ex gW h1 hE7) gW) Bo) ?_))))))))))
 rintro v10 w9 ⟨rfl, hE11⟩
 have hE11z := Ex.size hE11
 have hrf12 := rf_heldWriteS p_a.Rows p_k Bo
 refine sA rfl (dn (CW.seq (cR (sM rfl (sd rfl (yl_lss rfl rfl rfl (SeqR.done ?_)))))))
 refine tn (bcase (decide ((l_heldWriteS p_a.Rows p_k) < 0)) (fun hb13 => ?_) (fun hb13 => ?_))
 ·have hb13p := dec_t hb13
  refine CW.cond_t rfl hb13 (cR (sA rfl (dn (CW.ret (tr (rr rfl (.cons rfl .nil) ?_))))))
  have hM14 : (l_heldCopy p_a p_k) = (-1) := by simp only [l_heldCopy, hb13, cL]
  rw [hM14]
  exact ⟨rfl, (Ex.trans (Ex.trans (Ex.refl w) hE7) hE11)⟩
 ·have hb13p := dec_f hb13
  refine CW.cond_f rfl hb13 (CW.skip (tn (cR (sM rfl (sA rfl (dn ?_))))))
  refine CW.ret (rr rfl (.cons rfl .nil) ?_)
  have hM17 : (l_heldCopy p_a p_k) = ((l_heldWriteS p_a.Rows p_k)) := by simp only [l_heldCopy, hb13, cL]
  rw [hM17]
  exact ⟨rfl, (Ex.trans (Ex.trans (Ex.refl w) hE7) hE11)⟩
theorem c_l_FnExactCopyAt {A1 : Option Addr} {c1 : Nat} {w : World} (p_0 : List DCell) (p_1 : Int) (h1 : RdS w (Iv 0 w.heap.size) R_Cell 2 A1 p_0.length c1 p_0) (pre0 : (wfL wf_Cell) p_0) (pre1 : wfI p_1) : Cal Try.prog 3 #[.slice A1 p_0.length c1, .int .i64 (p_1)] w fun v w' => v = .bool ((l_FnExactCopyAt p_0 p_1)) ∧ Ex w w' := by
 refine Cal.of func3 rfl ntmps3 rfl (cR (sA rfl (dn (cR (sA rfl ?_)))))
 refine dn (cR (sM rfl (sM rfl (sd rfl (yC en4 rfl (oc rfl (oc rfl oz)) (Cal.mono (c_l_szCellS p_0 1048576 (RdS.up h1 good_Cell)) ?_))))))
 rintro v3 w2 ⟨rfl, hE4⟩
 have hE4z := Ex.size hE4
 refine sA rfl (dn (CW.seq (cR (sM rfl (sd rfl (yl_lss rfl rfl rfl (SeqR.done ?_)))))))
 refine tn (bcase (decide ((l_szCellS p_0 1048576) < 0)) (fun hb5 => ?_) (fun hb5 => ?_))
 ·have hb5p := dec_t hb5
  refine CW.cond_t rfl hb5 (cR (sA rfl (dn (CW.ret (tr (rr rfl (.cons rfl .nil) ?_))))))
  have hM6 : (l_FnExactCopyAt p_0 p_1) = (true) := by simp only [l_FnExactCopyAt, hb5, cL]
  rw [hM6]
  exact ⟨rfl, (Ex.trans (Ex.refl w) hE4)⟩
 ·have hb5p := dec_f hb5
  refine CW.cond_f rfl hb5 (CW.skip (tn (cR (sM rfl ?_))))
  have q8 := RdS.ex good_Cell h1 hE4
  refine sd rfl (yC en6 rfl (oc rfl oz) (Cal.mono (c_l_toCellS p_0 (RdS.up q8 good_Cell) ((szok_CellS pre0 (by decide) (dec_f hb5)).1)) ?_))
  rintro v11 w9 ⟨A10, c10, lo10, hi10, rfl, h10, hrn13, hE12⟩
  have hE12z := Ex.size hE12
  refine sM rfl (sd rfl (yC en5 rfl (oc rfl (oc rfl oz)) (Cal.mono (c_s_CopyAt p_0 p_1 (RdS.up (OwnL.rd good_Cell (OwnD.own goodO_Cell good_Cell h10)) good_Cell) ((szok_CellS pre0 (by decide) (dec_f hb5)).1)) ?_)))
  rintro v18 w15 ⟨A16, c16, lo16, hi16, rfl, h16, ho17, hrn20, hE19⟩
  have hE19z := Ex.size hE19
  refine sM rfl (sd rfl (yl_extract rfl rfl rfl (sd rfl (yl_extract rfl rfl rfl (sd rfl (yB ty26 (cs := [.int .i64 (0), .slice none 0 0]) rfl rfl ?_))))))
  intro b21 w22 hs23 hz24 hB25 hE26
  refine SeqR.u rfl rfl (yl_store (vs := [.int .i64 ((s_CopyAt p_0 p_1).1.Time), .slice A16 (((s_CopyAt p_0 p_1).1.Rows).length) c16]) ty26 rfl rfl rfl rfl rfl rfl hB25 (nb rfl) ?_)
  intro w27 hB28 hO29
  have hB28 : Box w27 b21 26 [.int .i64 ((s_CopyAt p_0 p_1).1.Time), .slice A16 (((s_CopyAt p_0 p_1).1.Rows).length) c16] := hB28
  have hO29z := hO29.size
  refine sA rfl (dn (cR (sM rfl ?_)))
  have q33 := RdS.only good_Cell (RdS.ex good_Cell (RdS.ex good_Cell (RdS.ex good_Cell q8 hE12) hE19) hE26) hO29 (by simp only [Iv]; omega)
  refine sd rfl (yC en6 rfl (oc rfl oz) (Cal.mono (c_l_toCellS p_0 (RdS.up q33 good_Cell) ((szok_CellS pre0 (by decide) (dec_f hb5)).1)) ?_))
  rintro v36 w34 ⟨A35, c35, lo35, hi35, rfl, h35, hrn38, hE37⟩
  have hE37z := Ex.size hE37
  refine sA rfl (dn (cR (sM rfl (sM rfl (sd rfl (yC en7 rfl (oc rfl (oc rfl oz)) (Cal.mono (c_i_CopyAt p_0 p_1 (RdS.up (OwnL.rd good_Cell (OwnD.own goodO_Cell good_Cell h35)) good_Cell) ((szok_CellS pre0 (by decide) (dec_f hb5)).1)) ?_)))))))
  rintro v43 w40 ⟨A41, c41, lo41, hi41, rfl, h41, ho42, hrn45, hE44⟩
  have hE44z := Ex.size hE44
  refine sM rfl (sd rfl (yl_extract rfl rfl rfl (sd rfl (yl_extract rfl rfl rfl (sd rfl (yB ty26 (cs := [.int .i64 (0), .slice none 0 0]) rfl rfl ?_))))))
  intro b46 w47 hs48 hz49 hB50 hE51
  refine SeqR.u rfl rfl (yl_store (vs := [.int .i64 ((i_CopyAt p_0 p_1).1.Time), .slice A41 (((i_CopyAt p_0 p_1).1.Rows).length) c41]) ty26 rfl rfl rfl rfl rfl rfl hB50 (nb rfl) ?_)
  intro w52 hB53 hO54
  have hB53 : Box w52 b46 26 [.int .i64 ((i_CopyAt p_0 p_1).1.Time), .slice A41 (((i_CopyAt p_0 p_1).1.Rows).length) c41] := hB53
  have hO54z := hO54.size
  refine sA rfl (dn (CW.seq (cR (sd rfl (yl_loadN ty26 rfl rfl (hB53.cells (n := 2) rfl) rfl ?_)))))
  have q58 := Box.only (Box.ex (Box.ex (Box.ex hB28 hE37) hE44) hE51) hO54 oM
  refine sd rfl (yl_loadN ty26 rfl rfl (q58.cells (n := 2) rfl) rfl ?_)
  have q61 := OwnL.only gW (OwnL.ex gW h41 hE51) hO54 oM
  have q68 := OwnL.only gW (OwnL.ex gW (OwnL.ex gW (OwnL.ex gW (OwnL.only gW (OwnL.ex gW h16 hE26) hO29 oM) hE37) hE44) hE51) hO54 oM
  refine sd rfl (yC en8 rfl (oc rfl (oc rfl oz)) (Cal.mono (c_l_eqCopy ((i_CopyAt p_0 p_1).1) ((s_CopyAt p_0 p_1).1) (RdS.up (OwnL.rd gW q61) gW) (RdS.up (OwnL.rd gW q68) gW)) ?_))
  rintro v70 w69 ⟨rfl, hE71⟩
  have hE71z := Ex.size hE71
  refine sd rfl (yl_not rfl rfl (sM rfl (bcase (l_eqCopy ((i_CopyAt p_0 p_1).1) ((s_CopyAt p_0 p_1).1)) (fun hb72 => ?_) (fun hb72 => ?_))))
  ·refine sy rfl rfl (not_t hb72) (yM rfl rfl (sy rfl rfl (not_t hb72) (yM rfl rfl (sy rfl rfl (not_t hb72) (yl_bneq un4 rfl rfl rfl (sd rfl (yl_pick_f rfl rfl (not_t hb72) rfl (dn (bcase (((i_CopyAt p_0 p_1).2) == ((s_CopyAt p_0 p_1).2)) (fun hb73 => ?_) (fun hb73 => ?_))))))))))
   ·refine CW.cond_f rfl (not_t hb73) (CW.skip (tn (CW.seq (cR (sM rfl (sM rfl ?_))))))
    have q78 := RdS.ex good_Cell (RdS.only good_Cell (RdS.ex good_Cell (RdS.ex good_Cell (RdS.ex good_Cell q33 hE37) hE44) hE51) hO54 (by simp only [Iv]; omega)) hE71
    refine sd rfl (yC en6 rfl (oc rfl oz) (Cal.mono (c_l_toCellS p_0 (RdS.up q78 good_Cell) ((szok_CellS pre0 (by decide) (dec_f hb5)).1)) ?_))
    rintro v81 w79 ⟨A80, c80, lo80, hi80, rfl, h80, hrn83, hE82⟩
    have hE82z := Ex.size hE82
    have q89 := OwnD.ex goodO_Cell (OwnD.ex goodO_Cell (OwnD.only goodO_Cell (OwnD.ex goodO_Cell (OwnD.ex goodO_Cell h35 hE44) hE51) hO54 oM) hE71) hE82
    refine sd rfl (yC en9 rfl (oc rfl (oc rfl oz)) (Cal.mono (c_l_eqCellS p_0 p_0 (RdS.up (OwnL.rd good_Cell (OwnD.own goodO_Cell good_Cell q89)) good_Cell) (RdS.up (OwnL.rd good_Cell (OwnD.own goodO_Cell good_Cell h80)) good_Cell)) ?_))
    rintro v92 w91 ⟨rfl, hE93⟩
    have hE93z := Ex.size hE93
    refine sd rfl (yl_not rfl rfl (dn (bcase (l_eqCellS p_0 p_0) (fun hb94 => ?_) (fun hb94 => ?_))))
    ·refine CW.cond_f rfl (not_t hb94) (CW.skip (tn (cR (sA rfl (dn (CW.seq ?_))))))
     refine CW.region (sM rfl (sM rfl (sd rfl (yC en10 rfl (oc rfl (oc rfl oz)) (Cal.mono (c_l_markCellS p_0 1 (OwnD.ex goodO_Cell q89 hE93) oM Bo) ?_)))))
     rintro v97 w96 ⟨rfl, h99, hm98⟩
     have hm98z := Mut.size hm98
     have hrf100 := rf_markCellS p_0 1 Bo
     refine sA rfl (dn (CW.seq (cR (sM rfl (sd rfl (yl_lss rfl rfl rfl (sM rfl ?_)))))))
     refine bcase (decide (((l_markCellS p_0 1).1) < 0)) (fun hb101 => ?_) (fun hb101 => ?_)
     ·have hb101p := dec_t hb101
      refine sz rfl rfl hb101 (sz rfl rfl hb101 (sz rfl rfl hb101 (sz rfl rfl hb101 (sd rfl (yl_pick_t rfl rfl hb101 rfl (sM rfl (sz rfl rfl rfl (sz rfl rfl rfl (sz rfl rfl rfl ?_)))))))))
      refine sd rfl (yl_pick_t rfl rfl rfl rfl (dn (CW.cond_t rfl rfl (cR (sA rfl (dn ?_))))))
      refine CW.ret (tr (rr rfl (.cons rfl .nil) ?_))
      have hM102 : (l_FnExactCopyAt p_0 p_1) = (false) := by simp only [l_FnExactCopyAt, hb5, hb72, hb73, hb94, hb101, cL]
      rw [hM102]
      exact ⟨rfl, (Ex.mut (Ex.trans (Ex.trans (Ex.trans (Below.only (Ex.trans (Ex.trans (Ex.trans (Below.only (Ex.trans (Ex.trans (Ex.trans (Ex.trans (Ex.refl w) hE4) hE12) hE19) hE26) hO29 oM) hE37) hE44) hE51) hO54 oM) hE71) hE82) hE93) hm98 (fun k hk => by simp only [InR, or_false] at hk; omega))⟩
     ·have hb101p := dec_f hb101
      have q119 := Box.mut (Box.ex (Box.ex (Box.ex hB53 hE71) hE82) hE93) hm98 (fun k hk => by simp only [InR, or_false] at hk; omega)
      refine sy rfl rfl hb101 (yl_loadN ty26 rfl rfl (q119.cells (n := 2) rfl) rfl ?_)
      have q123 := Box.mut (Box.ex (Box.ex (Box.ex q58 hE71) hE82) hE93) hm98 (fun k hk => by simp only [InR, or_false] at hk; omega)
      refine sy rfl rfl hb101 (yl_loadN ty26 rfl rfl (q123.cells (n := 2) rfl) rfl ?_)
      have q128 := OwnL.mut gW (OwnL.ex gW (OwnL.ex gW (OwnL.ex gW q61 hE71) hE82) hE93) hm98 (fun k hk => by simp only [InR, or_false] at hk; omega)
      have q133 := OwnL.mut gW (OwnL.ex gW (OwnL.ex gW (OwnL.ex gW q68 hE71) hE82) hE93) hm98 (fun k hk => by simp only [InR, or_false] at hk; omega)
      refine sy rfl rfl hb101 (yC en8 rfl (oc rfl (oc rfl oz)) (Cal.mono (c_l_eqCopy ((i_CopyAt p_0 p_1).1) ((s_CopyAt p_0 p_1).1) (RdS.up (OwnL.rd gW q128) gW) (RdS.up (OwnL.rd gW q133) gW)) ?_))
      rintro v135 w134 ⟨rfl, hE136⟩
      have hE136z := Ex.size hE136
      refine sy rfl rfl hb101 (yl_not rfl rfl (sd rfl (yl_pick_f rfl rfl hb101 rfl (sM rfl (sy rfl rfl (not_t hb72) (yM rfl rfl (sy rfl rfl (not_t hb72) (yM rfl rfl (sy rfl rfl (not_t hb72) (yl_bneq un4 rfl rfl rfl (sd rfl (yl_pick_f rfl rfl (not_t hb72) rfl (dn ?_)))))))))))))
      refine CW.cond_f rfl (not_t hb73) (CW.skip (tn (cR (sA rfl (dn (CW.seq ?_))))))
      refine CW.region ?_
      have q137 := Box.ex q119 hE136
      refine sd rfl (yl_loadN ty26 rfl rfl (q137.cells (n := 2) rfl) rfl (sM rfl (sd rfl (yC en11 rfl (oc rfl (oc rfl oz)) (Cal.mono (c_l_markCopy ((i_CopyAt p_0 p_1).1) 1 (OwnL.ex gW q128 hE136) oM Bo) ?_)))))
      rintro v140 w139 ⟨rfl, h142, hm141⟩
      have hm141z := Mut.size hm141
      have hrf143 := rf_markCopy ((i_CopyAt p_0 p_1).1) 1 Bo
      refine sA rfl (dn (cR (sA rfl (dn (CW.seq ?_)))))
      refine CW.region ?_
      have q144 := Box.mut q137 hm141 (fun k hk => by simp only [InR, or_false] at hk; omega)
      refine sd rfl (yl_loadN ty26 rfl rfl (q144.cells (n := 2) rfl) rfl (sM rfl ?_))
      have hle145 := OwnL.len h142
      refine sd rfl (yC en12 rfl (oc rfl (oc rfl oz)) (Cal.mono (Cal.args (by rw [← hle145] <;> rfl) (c_l_heldCopy (⟨(i_CopyAt p_0 p_1).1.Time, (l_markCopy ((i_CopyAt p_0 p_1).1) 1).2.Rows⟩ : DCopy) 1 (RdS.fix (RdS.up (OwnL.rd gW h142) gW)) Bo)) ?_))
      rintro v148 w147 ⟨rfl, hE149⟩
      have hE149z := Ex.size hE149
      have hrf150 := rf_heldCopy (⟨(i_CopyAt p_0 p_1).1.Time, (l_markCopy ((i_CopyAt p_0 p_1).1) 1).2.Rows⟩ : DCopy) 1 Bo
      refine sA rfl (dn (CW.seq (cR (sM rfl (sd rfl (yl_lss rfl rfl rfl (SeqR.done ?_)))))))
      refine tn (bcase (decide ((l_heldCopy (⟨(i_CopyAt p_0 p_1).1.Time, (l_markCopy ((i_CopyAt p_0 p_1).1) 1).2.Rows⟩ : DCopy) 1) < 0)) (fun hb151 => ?_) (fun hb151 => ?_))
      ·have hb151p := dec_t hb151
       refine CW.cond_t rfl hb151 (cR (sA rfl (dn (CW.ret (tr (rr rfl (.cons rfl .nil) ?_))))))
       have hM152 : (l_FnExactCopyAt p_0 p_1) = (false) := by simp only [l_FnExactCopyAt, hb5, hb72, hb73, hb94, hb101, hb151, cL]
       rw [hM152]
       have q168 := Ex.trans (Ex.mut (Ex.trans (Ex.mut (Ex.trans (Ex.trans (Ex.trans (Below.only (Ex.trans (Ex.trans (Ex.trans (Below.only (Ex.trans (Ex.trans (Ex.trans (Ex.trans (Ex.refl w) hE4) hE12) hE19) hE26) hO29 oM) hE37) hE44) hE51) hO54 oM) hE71) hE82) hE93) hm98 (fun k hk => by simp only [InR, or_false] at hk; omega)) hE136) hm141 (fun k hk => by simp only [InR, or_false] at hk; omega)) hE149
       exact ⟨rfl, q168⟩
      ·have hb151p := dec_f hb151
       refine CW.cond_f rfl hb151 (CW.skip (tn (CW.seq (cR (sM rfl (sM rfl (sd rfl (yl_neq rfl rfl rfl ?_))))))))
       refine dn (bcase (decide ((l_heldCopy (⟨(i_CopyAt p_0 p_1).1.Time, (l_markCopy ((i_CopyAt p_0 p_1).1) 1).2.Rows⟩ : DCopy) 1) = ((l_markCopy ((i_CopyAt p_0 p_1).1) 1).1))) (fun hb169 => ?_) (fun hb169 => ?_))
       ·have hb169p := dec_t hb169
        refine CW.cond_f rfl (not_t hb169) (CW.skip (tn (cR (sM rfl (sd rfl (yC en6 rfl (oc rfl oz) (Cal.mono (c_l_toCellS p_0 (RdS.up (RdS.ex good_Cell (RdS.mut good_Cell (RdS.ex good_Cell (RdS.mut good_Cell (RdS.ex good_Cell (RdS.ex good_Cell q78 hE82) hE93) hm98 (fun k hk => by simp only [InR, or_false, Iv, Ge] at hk ⊢; omega)) hE136) hm141 (fun k hk => by simp only [InR, or_false, Iv, Ge] at hk ⊢; omega)) hE149) good_Cell) ((szok_CellS pre0 (by decide) (dec_f hb5)).1)) ?_)))))))
        rintro v178 w176 ⟨A177, c177, lo177, hi177, rfl, h177, hrn180, hE179⟩
        have hE179z := Ex.size hE179
        refine sM rfl (sd rfl (yC en7 rfl (oc rfl (oc rfl oz)) (Cal.mono (c_i_CopyAt p_0 p_1 (RdS.up (OwnL.rd good_Cell (OwnD.own goodO_Cell good_Cell h177)) good_Cell) ((szok_CellS pre0 (by decide) (dec_f hb5)).1)) ?_)))
        rintro v185 w182 ⟨A183, c183, lo183, hi183, rfl, h183, ho184, hrn187, hE186⟩
        have hE186z := Ex.size hE186
        refine sM rfl (sd rfl (yl_extract rfl rfl rfl (sd rfl (yl_extract rfl rfl rfl (sd rfl (yB ty26 (cs := [.int .i64 (0), .slice none 0 0]) rfl rfl ?_))))))
        intro b188 w189 hs190 hz191 hB192 hE193
        refine SeqR.u rfl rfl (yl_store (vs := [.int .i64 ((i_CopyAt p_0 p_1).1.Time), .slice A183 (((i_CopyAt p_0 p_1).1.Rows).length) c183]) ty26 rfl rfl rfl rfl rfl rfl hB192 (nb rfl) ?_)
        intro w194 hB195 hO196
        have hB195 : Box w194 b188 26 [.int .i64 ((i_CopyAt p_0 p_1).1.Time), .slice A183 (((i_CopyAt p_0 p_1).1.Rows).length) c183] := hB195
        have hO196z := hO196.size
        refine sA rfl (dn (CW.seq (cR (sd rfl (yl_loadN ty26 rfl rfl (hB195.cells (n := 2) rfl) rfl (sd rfl (yl_loadN ty26 rfl rfl ((Box.only (Box.ex (Box.ex (Box.ex (Box.ex (Box.mut (Box.ex q123 hE136) hm141 (fun k hk => by simp only [InR, or_false] at hk; omega)) hE149) hE179) hE186) hE193) hO196 oM).cells (n := 2) rfl) rfl (sd rfl (yC en8 rfl (oc rfl (oc rfl oz)) (Cal.mono (c_l_eqCopy ((i_CopyAt p_0 p_1).1) ((s_CopyAt p_0 p_1).1) (RdS.up (OwnL.rd gW (OwnL.only gW (OwnL.ex gW h183 hE193) hO196 oM)) gW) (RdS.up (OwnL.rd gW (OwnL.only gW (OwnL.ex gW (OwnL.ex gW (OwnL.ex gW (OwnL.ex gW (OwnL.mut gW (OwnL.ex gW q133 hE136) hm141 (fun k hk => by simp only [InR, or_false] at hk; omega)) hE149) hE179) hE186) hE193) hO196 oM)) gW)) ?_))))))))))
        rintro v216 w215 ⟨rfl, hE217⟩
        have hE217z := Ex.size hE217
        refine sd rfl (yl_not rfl rfl (sM rfl (sy rfl rfl (not_t hb72) (yM rfl rfl (sy rfl rfl (not_t hb72) (yM rfl rfl (sy rfl rfl (not_t hb72) (yl_bneq un4 rfl rfl rfl (sd rfl (yl_pick_f rfl rfl (not_t hb72) rfl (dn (CW.cond_f rfl (not_t hb73) ?_))))))))))))
        refine CW.skip (tn (cR (sA rfl (dn (cR ?_)))))
        refine sd rfl (yl_loadN ty26 rfl rfl ((Box.ex (Box.only (Box.ex (Box.ex (Box.ex (Box.ex q144 hE149) hE179) hE186) hE193) hO196 oM) hE217).cells (n := 2) rfl) rfl (sM rfl ?_))
        have q230 := OwnL.ex gW (OwnL.only gW (OwnL.ex gW (OwnL.ex gW (OwnL.ex gW (OwnL.ex gW h142 hE149) hE179) hE186) hE193) hO196 oM) hE217
        have hle224 := OwnL.len q230
        refine sd rfl (yC en12 rfl (oc rfl (oc rfl oz)) (Cal.mono (Cal.args (by rw [← hle224] <;> rfl) (c_l_heldCopy (⟨(i_CopyAt p_0 p_1).1.Time, (l_markCopy ((i_CopyAt p_0 p_1).1) 1).2.Rows⟩ : DCopy) 1 (RdS.fix (RdS.up (OwnL.rd gW q230) gW)) Bo)) ?_))
        rintro v233 w232 ⟨rfl, hE234⟩
        have hE234z := Ex.size hE234
        have hrf235 := rf_heldCopy (⟨(i_CopyAt p_0 p_1).1.Time, (l_markCopy ((i_CopyAt p_0 p_1).1) 1).2.Rows⟩ : DCopy) 1 Bo
        refine sA rfl (dn (CW.seq (cR (sM rfl (sd rfl (yl_lss rfl rfl rfl (SeqR.done ?_)))))))
        refine tn (CW.cond_f rfl hb151 (CW.skip (tn (CW.seq (cR (sM rfl (sM rfl ?_)))))))
        refine sd rfl (yl_neq rfl rfl rfl (dn (CW.cond_f rfl (not_t hb169) (CW.skip (tn (cR (sA rfl ?_)))))))
        refine dn (CW.ret (rr rfl (.cons rfl .nil) ?_))
        have hM236 : (l_FnExactCopyAt p_0 p_1) = (true) := by simp only [l_FnExactCopyAt, hb5, hb72, hb73, hb94, hb101, hb151, hb169, cL]
        rw [hM236]
        have q252 := Ex.trans (Ex.mut (Ex.trans (Ex.mut (Ex.trans (Ex.trans (Ex.trans (Below.only (Ex.trans (Ex.trans (Ex.trans (Below.only (Ex.trans (Ex.trans (Ex.trans (Ex.trans (Ex.refl w) hE4) hE12) hE19) hE26) hO29 oM) hE37) hE44) hE51) hO54 oM) hE71) hE82) hE93) hm98 (fun k hk => by simp only [InR, or_false] at hk; omega)) hE136) hm141 (fun k hk => by simp only [InR, or_false] at hk; omega)) hE149
        exact ⟨rfl, (Ex.trans (Ex.trans (Below.only (Ex.trans (Ex.trans (Ex.trans q252 hE179) hE186) hE193) hO196 oM) hE217) hE234)⟩
       ·have hb169p := dec_f hb169
        refine CW.cond_t rfl (not_f hb169) (cR (sA rfl (dn (CW.ret (tr (rr rfl (.cons rfl .nil) ?_))))))
        have hM259 : (l_FnExactCopyAt p_0 p_1) = (false) := by simp only [l_FnExactCopyAt, hb5, hb72, hb73, hb94, hb101, hb151, hb169, cL]
        rw [hM259]
        have q275 := Ex.trans (Ex.mut (Ex.trans (Ex.mut (Ex.trans (Ex.trans (Ex.trans (Below.only (Ex.trans (Ex.trans (Ex.trans (Below.only (Ex.trans (Ex.trans (Ex.trans (Ex.trans (Ex.refl w) hE4) hE12) hE19) hE26) hO29 oM) hE37) hE44) hE51) hO54 oM) hE71) hE82) hE93) hm98 (fun k hk => by simp only [InR, or_false] at hk; omega)) hE136) hm141 (fun k hk => by simp only [InR, or_false] at hk; omega)) hE149
        exact ⟨rfl, q275⟩
    ·refine CW.cond_t rfl (not_f hb94) (cR (sA rfl (dn (CW.ret (tr (rr rfl (.cons rfl .nil) ?_))))))
     have hM276 : (l_FnExactCopyAt p_0 p_1) = (false) := by simp only [l_FnExactCopyAt, hb5, hb72, hb73, hb94, cL]
     rw [hM276]
     exact ⟨rfl, (Ex.trans (Ex.trans (Ex.trans (Below.only (Ex.trans (Ex.trans (Ex.trans (Below.only (Ex.trans (Ex.trans (Ex.trans (Ex.trans (Ex.refl w) hE4) hE12) hE19) hE26) hO29 oM) hE37) hE44) hE51) hO54 oM) hE71) hE82) hE93)⟩
   ·refine CW.cond_t rfl (not_f hb73) (cR (sA rfl (dn (CW.ret (tr (rr rfl (.cons rfl .nil) ?_))))))
    have hM289 : (l_FnExactCopyAt p_0 p_1) = (false) := by simp only [l_FnExactCopyAt, hb5, hb72, hb73, cL]
    rw [hM289]
    exact ⟨rfl, (Ex.trans (Below.only (Ex.trans (Ex.trans (Ex.trans (Below.only (Ex.trans (Ex.trans (Ex.trans (Ex.trans (Ex.refl w) hE4) hE12) hE19) hE26) hO29 oM) hE37) hE44) hE51) hO54 oM) hE71)⟩
  ·refine sz rfl rfl (not_f hb72) (sz rfl rfl (not_f hb72) (sz rfl rfl (not_f hb72) (sd rfl (yl_pick_t rfl rfl (not_f hb72) rfl (dn (CW.cond_t rfl rfl (cR ?_)))))))
   refine sA rfl (dn (CW.ret (tr (rr rfl (.cons rfl .nil) ?_))))
   have hM300 : (l_FnExactCopyAt p_0 p_1) = (false) := by simp only [l_FnExactCopyAt, hb5, hb72, cL]
   rw [hM300]
   exact ⟨rfl, (Ex.trans (Below.only (Ex.trans (Ex.trans (Ex.trans (Below.only (Ex.trans (Ex.trans (Ex.trans (Ex.trans (Ex.refl w) hE4) hE12) hE19) hE26) hO29 oM) hE37) hE44) hE51) hO54 oM) hE71)⟩
end Go.Proofs.Ytbglfhmnjbgciaa
