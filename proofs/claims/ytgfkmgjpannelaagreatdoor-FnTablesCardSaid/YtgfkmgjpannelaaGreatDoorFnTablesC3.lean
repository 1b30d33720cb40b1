/- Fn Tables: what each call returns, part 3. -/
import Derived.Test.YtgfkmgjpannelaaGreatDoorFnTablesC2
set_option maxRecDepth 100000
set_option maxHeartbeats 2000000
open Go.Proofs.Tryz Go.Proofs.YtgfkmgjpannelaaGreatDoor.Tryz
set_option linter.unusedVariables false
set_option linter.unusedSimpArgs false
namespace Go.Proofs.YtgfkmgjpannelaaGreatDoor
open Go.RowKit Go.X
theorem c_g_slices_Equal_string {A1 : Option Addr} {c1 : Nat} {A3 : Option Addr} {c3 : Nat} {w : World} (p_s1 : List Str) (p_s2 : List Str) (h1 : RdS w (Iv 0 w.heap.size) (RF e_Str) 1 A1 p_s1.length c1 p_s1) (h3 : RdS w (Iv 0 w.heap.size) (RF e_Str) 1 A3 p_s2.length c3 p_s2) (o2 : (okL okS) p_s1) (o4 : (okL okS) p_s2) : Cal Tryz.prog 63 #[.slice A1 p_s1.length c1, .slice A3 p_s2.length c3] w fun v w' => v = .bool ((g_slices_Equal_string p_s1 p_s2)) ∧ Ex w w' := by
 have hol5 := o2.1
 have hol6 := o4.1
 refine Cal.of func63 rfl ntmps63 rfl (cR (sA rfl (dn (CW.seq (cR ?_)))))
 refine sM rfl (sd rfl (yL un23 rfl rfl (sM rfl (sd rfl (yL un23 rfl rfl (sd rfl (yl_neq rfl rfl rfl (dn (bcase (decide ((p_s1.length : Int) = (p_s2.length : Int))) (fun hb7 => ?_) (fun hb7 => ?_))))))))))
 ·have hb7p := dec_t hb7
  refine CW.cond_f rfl (not_t hb7) (CW.skip (tn (CW.seq (cR (sM rfl (sd rfl (yL un23 rfl rfl (sM rfl ?_))))))))
  refine dn (CW.block (CW.loop (fun m9 L10 w11 => ∃ (k8 : Nat), m9 = p_s1.length - k8 ∧ k8 ≤ p_s1.length ∧ w.heap.size ≤ w11.heap.size ∧ lkp L10 0 = some (.slice A1 p_s1.length c1) ∧ lkp L10 1 = some (.slice A3 p_s2.length c3) ∧ lkp L10 12 = some (.int .i64 ((p_s1.length : Int))) ∧ lkp L10 13 = some (.int .i64 ((k8 : Int))) ∧ RdS w11 (Iv 0 w.heap.size) (RF e_Str) 1 A1 p_s1.length c1 p_s1 ∧ RdS w11 (Iv 0 w.heap.size) (RF e_Str) 1 A3 p_s2.length c3 p_s2 ∧ Ex w w11 ∧ loopM (B_g_slices_Equal_string_0 p_s1 p_s2) (p_s1.length - k8) k8 () = loopM (B_g_slices_Equal_string_0 p_s1 p_s2) (p_s1.length - 0) 0 ()) (p_s1.length - 0) ?_ ?_))
  ·exact ⟨0, rfl, oM, Nat.le_refl _, rfl, rfl, rfl, rfl, h1, h3, (Ex.refl w), rfl⟩
  ·rintro m12 L13 w14 ⟨k8, rfl, hk15, hsz17, hl18, hl19, hl20, hl21, hf22, hf23, hf24, hI16⟩
   refine CW.sub (Sub.cons hl18 (Sub.cons hl19 (Sub.cons hl20 (Sub.cons hl21 (Sub.nil _))))) ?_
   have hf24z := Ex.size hf24
   have hbg25 := RdS.big hf22
   rcases Nat.lt_or_ge k8 p_s1.length with hlt26 | hlt26
   ·refine cR (sd rfl (yl_lss rfl rfl rfl (dn (CW.seq (CW.cond_t rfl (lt_t hlt26) (CW.skip (tn ?_)))))))
    refine CW.seq (CW.block (cR (sM rfl (sA rfl (dn (CW.seq ?_))))))
    obtain ⟨eb27, eo27, _, eA27, _, ebl27, _, eR27, eC27⟩ := RdS.aD hf22 d_Str (i := k8)
    obtain rfl := eR27
    have eC27 : Cells w14 eb27 (eo27 + k8 * 1) [.string (bs ((p_s1.getD k8 d_Str)))] := eC27
    obtain ⟨eb28, eo28, _, eA28, _, ebl28, _, eR28, eC28⟩ := RdS.aD hf23 d_Str (i := k8)
    obtain rfl := eR28
    have eC28 : Cells w14 eb28 (eo28 + k8 * 1) [.string (bs ((p_s2.getD k8 d_Str)))] := eC28
    refine drI 9 [.slice A1 p_s1.length c1, .int .i64 ((k8 : Int)), .pointer (some ⟨eb27, eo27 + k8 * 1, none⟩), .string (bs ((p_s1.getD k8 d_Str))), .slice A3 p_s2.length c3, .int .i64 ((k8 : Int)), .pointer (some ⟨eb28, eo28 + k8 * 1, none⟩), .string (bs ((p_s2.getD k8 d_Str))), .bool (!((p_s1.getD k8 d_Str) == (p_s2.getD k8 d_Str)))] Tryz.follows rfl ⟨?_, ?_, ?_, ?_, ?_, ?_, ?_, ?_, ?_, trivial⟩ ?_
    ·exact oI rfl fun h => yM rfl (h.old 0 _ rfl rfl) kI
    ·exact oI rfl fun h => yM rfl (h.old 5 _ rfl rfl) kI
    ·intro L39 w40 hi41
     have hE42 := hi41.ex
     have hE42z := Ex.size hE42
     exact os rfl ((yl_ixN un23 ty9 rfl (hi41.dt 0 16 rfl rfl rfl) (hi41.dt 1 17 rfl rfl rfl) eA27 kI))
    ·exact oI rfl fun h => yl_load1 ty9 rfl (h.dt 2 18 rfl rfl rfl) ((Cells.ex eC27 h.ex) 0 _ rfl) kI
    ·exact oI rfl fun h => yM rfl (h.old 1 _ rfl rfl) kI
    ·exact oI rfl fun h => yM rfl (h.old 5 _ rfl rfl) kI
    ·intro L61 w62 hi63
     have hE64 := hi63.ex
     have hE64z := Ex.size hE64
     exact os rfl ((yl_ixN un23 ty9 rfl (hi63.dt 4 20 rfl rfl rfl) (hi63.dt 5 21 rfl rfl rfl) eA28 kI))
    ·exact oI rfl fun h => yl_load1 ty9 rfl (h.dt 6 22 rfl rfl rfl) ((Cells.ex eC28 h.ex) 0 _ rfl) kI
    ·exact oI rfl fun h => yl_sneq (a := (p_s1.getD k8 d_Str)) (b := (p_s2.getD k8 d_Str)) rfl (h.dt 3 19 rfl rfl rfl) (h.dt 7 23 rfl rfl rfl) kI
    ·intro fl82 fh83 L79 w80 hp81
     have hE84 := hp81.ex
     have hE84z := Ex.size hE84
     refine dn (CW.sub (sC 0 (hp81.old 0 _ rfl rfl) (sC 1 (hp81.old 1 _ rfl rfl) (sC 12 (hp81.old 12 _ rfl rfl) (sC 13 (hp81.old 13 _ rfl rfl) (sC 24 (hp81.nt 8 24 rfl rfl rfl) (Sub.nil _)))))) (bcase ((p_s1.getD k8 d_Str) == (p_s2.getD k8 d_Str)) (fun hb90 => ?_) (fun hb90 => ?_)))
     ·refine CW.cond_f rfl (not_t hb90) (CW.skip (bn (tn (CW.region (sd rfl (yl_inc rfl rfl rfl oM (sM rfl (dn ?_))))))))
      have hB91 : B_g_slices_Equal_string_0 p_s1 p_s2 k8 () = .cont () := by simp only [B_g_slices_Equal_string_0, hb7, hb90, cL]
      exact ⟨p_s1.length - (k8 + 1), oM, k8 + 1, rfl, hlt26, oM, rfl, rfl, rfl, rfl, (RdS.ex gS hf22 hE84), (RdS.ex gS hf23 hE84), (Ex.trans hf24 hE84), (loopM.cont hlt26 hB91).symm.trans hI16⟩
     ·refine CW.cond_t rfl (not_f hb90) (cR (sA rfl (dn (CW.ret (br (tr ?_))))))
      refine tr ?_
      have hB96 : B_g_slices_Equal_string_0 p_s1 p_s2 k8 () = .ret false := by simp only [B_g_slices_Equal_string_0, hb7, hb90, cL]
      have hL95 : loopM (B_g_slices_Equal_string_0 p_s1 p_s2) (p_s1.length - 0) 0 () = .ret false := hI16.symm.trans (loopM.ret hlt26 hB96)
      refine br (tr (rr rfl (.cons rfl .nil) ?_))
      have hM97 : (g_slices_Equal_string p_s1 p_s2) = (false) := by simp only [g_slices_Equal_string, hb7, hb90, hL95, cL]
      rw [hM97]
      exact ⟨rfl, (Ex.trans hf24 hE84)⟩
   ·refine cR (sd rfl (yl_lss rfl rfl rfl (dn (CW.seq (CW.cond_f rfl (lt_f hlt26) (CW.exit (tx ?_)))))))
    refine tx ?_
    have hL99 : loopM (B_g_slices_Equal_string_0 p_s1 p_s2) (p_s1.length - 0) 0 () = .done () := hI16.symm.trans (loopM.stop hlt26)
    refine bx (tn (cR (sA rfl (dn (CW.ret (rr rfl (.cons rfl .nil) ?_))))))
    have hM100 : (g_slices_Equal_string p_s1 p_s2) = (true) := by simp only [g_slices_Equal_string, hb7, hL99, cL]
    rw [hM100]
    exact ⟨rfl, hf24⟩
 ·have hb7p := dec_f hb7
  refine CW.cond_t rfl (not_f hb7) (cR (sA rfl (dn (CW.ret (tr (rr rfl (.cons rfl .nil) ?_))))))
  have hM101 : (g_slices_Equal_string p_s1 p_s2) = (false) := by simp only [g_slices_Equal_string, hb7, cL]
  rw [hM101]
  exact ⟨rfl, (Ex.refl w)⟩
theorem c_g_slices_Equal_Idx {A1 : Option Addr} {c1 : Nat} {A3 : Option Addr} {c3 : Nat} {w : World} (p_s1 : List DIdx) (p_s2 : List DIdx) (h1 : RdS w (Iv 0 w.heap.size) (RF e_Idx) 3 A1 p_s1.length c1 p_s1) (h3 : RdS w (Iv 0 w.heap.size) (RF e_Idx) 3 A3 p_s2.length c3 p_s2) (o2 : (okL ok_Idx) p_s1) (o4 : (okL ok_Idx) p_s2) : Cal Tryz.prog 64 #[.slice A1 p_s1.length c1, .slice A3 p_s2.length c3] w fun v w' => v = .bool ((g_slices_Equal_Idx p_s1 p_s2)) ∧ Ex w w' := by
 have hol5 := o2.1
 have hol6 := o4.1
 refine Cal.of func64 rfl ntmps64 rfl (cR (sA rfl (dn (CW.seq (cR ?_)))))
 refine sM rfl (sd rfl (yL un24 rfl rfl (sM rfl (sd rfl (yL un24 rfl rfl (sd rfl (yl_neq rfl rfl rfl (dn (bcase (decide ((p_s1.length : Int) = (p_s2.length : Int))) (fun hb7 => ?_) (fun hb7 => ?_))))))))))
 ·have hb7p := dec_t hb7
  refine CW.cond_f rfl (not_t hb7) (CW.skip (tn (CW.seq (cR (sM rfl (sd rfl (yL un24 rfl rfl (sM rfl ?_))))))))
  refine dn (CW.block (CW.loop (fun m9 L10 w11 => ∃ (k8 : Nat), m9 = p_s1.length - k8 ∧ k8 ≤ p_s1.length ∧ w.heap.size ≤ w11.heap.size ∧ lkp L10 0 = some (.slice A1 p_s1.length c1) ∧ lkp L10 1 = some (.slice A3 p_s2.length c3) ∧ lkp L10 12 = some (.int .i64 ((p_s1.length : Int))) ∧ lkp L10 13 = some (.int .i64 ((k8 : Int))) ∧ RdS w11 (Iv 0 w.heap.size) (RF e_Idx) 3 A1 p_s1.length c1 p_s1 ∧ RdS w11 (Iv 0 w.heap.size) (RF e_Idx) 3 A3 p_s2.length c3 p_s2 ∧ Ex w w11 ∧ loopM (B_g_slices_Equal_Idx_0 p_s1 p_s2) (p_s1.length - k8) k8 () = loopM (B_g_slices_Equal_Idx_0 p_s1 p_s2) (p_s1.length - 0) 0 ()) (p_s1.length - 0) ?_ ?_))
  ·exact ⟨0, rfl, oM, Nat.le_refl _, rfl, rfl, rfl, rfl, h1, h3, (Ex.refl w), rfl⟩
  ·rintro m12 L13 w14 ⟨k8, rfl, hk15, hsz17, hl18, hl19, hl20, hl21, hf22, hf23, hf24, hI16⟩
   refine CW.sub (Sub.cons hl18 (Sub.cons hl19 (Sub.cons hl20 (Sub.cons hl21 (Sub.nil _))))) ?_
   have hf24z := Ex.size hf24
   have hbg25 := RdS.big hf22
   rcases Nat.lt_or_ge k8 p_s1.length with hlt26 | hlt26
   ·refine cR (sd rfl (yl_lss rfl rfl rfl (dn (CW.seq (CW.cond_t rfl (lt_t hlt26) (CW.skip (tn ?_)))))))
    refine CW.seq (CW.block (cR (sM rfl (sA rfl (dn (CW.seq ?_))))))
    obtain ⟨eb27, eo27, _, eA27, _, ebl27, _, eR27, eC27⟩ := RdS.aD hf22 d_Idx (i := k8)
    obtain rfl := eR27
    have eC27 : Cells w14 eb27 (eo27 + k8 * 3) [.string (bs ((p_s1.getD k8 d_Idx).Name)), .int .i64 ((p_s1.getD k8 d_Idx).Col), .int .i64 ((p_s1.getD k8 d_Idx).Stage)] := eC27
    obtain ⟨eb28, eo28, _, eA28, _, ebl28, _, eR28, eC28⟩ := RdS.aD hf23 d_Idx (i := k8)
    obtain rfl := eR28
    have eC28 : Cells w14 eb28 (eo28 + k8 * 3) [.string (bs ((p_s2.getD k8 d_Idx).Name)), .int .i64 ((p_s2.getD k8 d_Idx).Col), .int .i64 ((p_s2.getD k8 d_Idx).Stage)] := eC28
    refine drI 9 [.slice A1 p_s1.length c1, .int .i64 ((k8 : Int)), .pointer (some ⟨eb27, eo27 + k8 * 3, none⟩), .agg #[.string (bs ((p_s1.getD k8 d_Idx).Name)), .int .i64 ((p_s1.getD k8 d_Idx).Col), .int .i64 ((p_s1.getD k8 d_Idx).Stage)], .slice A3 p_s2.length c3, .int .i64 ((k8 : Int)), .pointer (some ⟨eb28, eo28 + k8 * 3, none⟩), .agg #[.string (bs ((p_s2.getD k8 d_Idx).Name)), .int .i64 ((p_s2.getD k8 d_Idx).Col), .int .i64 ((p_s2.getD k8 d_Idx).Stage)], .bool (!((((p_s1.getD k8 d_Idx).Name) == ((p_s2.getD k8 d_Idx).Name)) && ((decide (((p_s1.getD k8 d_Idx).Col) = ((p_s2.getD k8 d_Idx).Col))) && (decide (((p_s1.getD k8 d_Idx).Stage) = ((p_s2.getD k8 d_Idx).Stage))))))] Tryz.follows rfl ⟨?_, ?_, ?_, ?_, ?_, ?_, ?_, ?_, ?_, trivial⟩ ?_
    ·exact oI rfl fun h => yM rfl (h.old 0 _ rfl rfl) kI
    ·exact oI rfl fun h => yM rfl (h.old 5 _ rfl rfl) kI
    ·intro L39 w40 hi41
     have hE42 := hi41.ex
     have hE42z := Ex.size hE42
     exact os rfl ((yl_ixN un24 ty35 rfl (hi41.dt 0 16 rfl rfl rfl) (hi41.dt 1 17 rfl rfl rfl) eA27 kI))
    ·exact oI rfl fun h => yl_loadN ty35 rfl (h.dt 2 18 rfl rfl rfl) (Cells.ex eC27 h.ex) rfl kI
    ·exact oI rfl fun h => yM rfl (h.old 1 _ rfl rfl) kI
    ·exact oI rfl fun h => yM rfl (h.old 5 _ rfl rfl) kI
    ·intro L61 w62 hi63
     have hE64 := hi63.ex
     have hE64z := Ex.size hE64
     exact os rfl ((yl_ixN un24 ty35 rfl (hi63.dt 4 20 rfl rfl rfl) (hi63.dt 5 21 rfl rfl rfl) eA28 kI))
    ·exact oI rfl fun h => yl_loadN ty35 rfl (h.dt 6 22 rfl rfl rfl) (Cells.ex eC28 h.ex) rfl kI
    ·exact oI rfl fun h => yl_aneq (xs := [.string (bs ((p_s1.getD k8 d_Idx).Name)), .int .i64 ((p_s1.getD k8 d_Idx).Col), .int .i64 ((p_s1.getD k8 d_Idx).Stage)]) (ys := [.string (bs ((p_s2.getD k8 d_Idx).Name)), .int .i64 ((p_s2.getD k8 d_Idx).Col), .int .i64 ((p_s2.getD k8 d_Idx).Stage)]) Tryz.ae35 rfl (h.dt 3 19 rfl rfl rfl) (h.dt 7 23 rfl rfl rfl) kI
    ·intro fl82 fh83 L79 w80 hp81
     have hE84 := hp81.ex
     have hE84z := Ex.size hE84
     refine dn (CW.sub (sC 0 (hp81.old 0 _ rfl rfl) (sC 1 (hp81.old 1 _ rfl rfl) (sC 12 (hp81.old 12 _ rfl rfl) (sC 13 (hp81.old 13 _ rfl rfl) (sC 24 (hp81.nt 8 24 rfl rfl rfl) (Sub.nil _)))))) (bcase ((((p_s1.getD k8 d_Idx).Name) == ((p_s2.getD k8 d_Idx).Name)) && ((decide (((p_s1.getD k8 d_Idx).Col) = ((p_s2.getD k8 d_Idx).Col))) && (decide (((p_s1.getD k8 d_Idx).Stage) = ((p_s2.getD k8 d_Idx).Stage))))) (fun hb90 => ?_) (fun hb90 => ?_)))
     ·refine CW.cond_f rfl (not_t hb90) (CW.skip (bn (tn (CW.region (sd rfl (yl_inc rfl rfl rfl oM (sM rfl (dn ?_))))))))
      have hB91 : B_g_slices_Equal_Idx_0 p_s1 p_s2 k8 () = .cont () := by simp only [B_g_slices_Equal_Idx_0, hb7, hb90, cL]
      exact ⟨p_s1.length - (k8 + 1), oM, k8 + 1, rfl, hlt26, oM, rfl, rfl, rfl, rfl, (RdS.ex gI hf22 hE84), (RdS.ex gI hf23 hE84), (Ex.trans hf24 hE84), (loopM.cont hlt26 hB91).symm.trans hI16⟩
     ·refine CW.cond_t rfl (not_f hb90) (cR (sA rfl (dn (CW.ret (br (tr ?_))))))
      refine tr ?_
      have hB96 : B_g_slices_Equal_Idx_0 p_s1 p_s2 k8 () = .ret false := by simp only [B_g_slices_Equal_Idx_0, hb7, hb90, cL]
      have hL95 : loopM (B_g_slices_Equal_Idx_0 p_s1 p_s2) (p_s1.length - 0) 0 () = .ret false := hI16.symm.trans (loopM.ret hlt26 hB96)
      refine br (tr (rr rfl (.cons rfl .nil) ?_))
      have hM97 : (g_slices_Equal_Idx p_s1 p_s2) = (false) := by simp only [g_slices_Equal_Idx, hb7, hb90, hL95, cL]
      rw [hM97]
      exact ⟨rfl, (Ex.trans hf24 hE84)⟩
   ·refine cR (sd rfl (yl_lss rfl rfl rfl (dn (CW.seq (CW.cond_f rfl (lt_f hlt26) (CW.exit (tx ?_)))))))
    refine tx ?_
    have hL99 : loopM (B_g_slices_Equal_Idx_0 p_s1 p_s2) (p_s1.length - 0) 0 () = .done () := hI16.symm.trans (loopM.stop hlt26)
    refine bx (tn (cR (sA rfl (dn (CW.ret (rr rfl (.cons rfl .nil) ?_))))))
    have hM100 : (g_slices_Equal_Idx p_s1 p_s2) = (true) := by simp only [g_slices_Equal_Idx, hb7, hL99, cL]
    rw [hM100]
    exact ⟨rfl, hf24⟩
 ·have hb7p := dec_f hb7
  refine CW.cond_t rfl (not_f hb7) (cR (sA rfl (dn (CW.ret (tr (rr rfl (.cons rfl .nil) ?_))))))
  have hM101 : (g_slices_Equal_Idx p_s1 p_s2) = (false) := by simp only [g_slices_Equal_Idx, hb7, cL]
  rw [hM101]
  exact ⟨rfl, (Ex.refl w)⟩
theorem c_i_sameTable {A1 : Option Addr} {c1 : Nat} {A2 : Option Addr} {c2 : Nat} {A4 : Option Addr} {c4 : Nat} {A5 : Option Addr} {c5 : Nat} {w : World} (p_a : DTable) (p_b : DTable) (h1 : RdS w (Iv 0 w.heap.size) (RF e_Str) 1 A1 p_a.Cols.length c1 p_a.Cols) (h2 : RdS w (Iv 0 w.heap.size) (RF e_Idx) 3 A2 p_a.Idxs.length c2 p_a.Idxs) (h4 : RdS w (Iv 0 w.heap.size) (RF e_Str) 1 A4 p_b.Cols.length c4 p_b.Cols) (h5 : RdS w (Iv 0 w.heap.size) (RF e_Idx) 3 A5 p_b.Idxs.length c5 p_b.Idxs) (o3 : ok_Table p_a) (o6 : ok_Table p_b) : Cal Tryz.prog 42 #[.agg #[.string (bs (p_a.Name)), .slice A1 p_a.Cols.length c1, .slice A2 p_a.Idxs.length c2], .agg #[.string (bs (p_b.Name)), .slice A4 p_b.Cols.length c4, .slice A5 p_b.Idxs.length c5]] w fun v w' => v = .bool ((i_sameTable p_a p_b)) ∧ Ex w w' := by
 refine Cal.of func42 rfl ntmps42 rfl (cR (sd rfl (yl_box rfl rfl rfl ?_)))
 intro b13 w14 hs15 hz16 hB17 hE18
 refine sd rfl (yl_box rfl rfl rfl ?_)
 intro b19 w20 hs21 hz22 hB23 hE24
 refine sA rfl (dn (cR (sd rfl (yl_fieldAddr fd26_0 rfl rfl ?_))))
 have q25 := Box.ex hB17 hE24
 refine sd rfl (yl_load1 ty9 rfl rfl ((q25.cell 0).trans rfl) (sd rfl (yl_fieldAddr fd26_0 rfl rfl (sd rfl (yl_load1 ty9 rfl rfl ((hB23.cell 0).trans rfl) (sd rfl (yl_seql (a := p_a.Name) (b := p_b.Name) rfl rfl rfl (sM rfl (bcase (p_a.Name == p_b.Name) (fun hb26 => ?_) (fun hb26 => ?_))))))))))
 ·refine sy rfl rfl hb26 (yl_fieldAddr fd26_1 rfl rfl (sy rfl rfl hb26 (yl_load1 ty23 rfl rfl ((q25.cell 1).trans rfl) (sy rfl rfl hb26 (yl_fieldAddr fd26_1 rfl rfl (sy rfl rfl hb26 (yl_load1 ty23 rfl rfl ((hB23.cell 1).trans rfl) (sy rfl rfl hb26 (yC en63 rfl (oc rfl (oc rfl oz)) (Cal.mono (c_g_slices_Equal_string p_a.Cols p_b.Cols (RdS.up (RdS.ex gS (RdS.ex gS h1 hE18) hE24) gS) (RdS.up (RdS.ex gS (RdS.ex gS h4 hE18) hE24) gS) o3.2.1 o6.2.1) ?_))))))))))
  rintro v32 w31 ⟨rfl, hE33⟩
  refine sd rfl (yl_pick_t rfl rfl hb26 rfl (sM rfl (bcase (g_slices_Equal_string p_a.Cols p_b.Cols) (fun hb34 => ?_) (fun hb34 => ?_))))
  ·refine sy rfl rfl hb34 (yl_fieldAddr fd26_2 rfl rfl (sy rfl rfl hb34 (yl_load1 ty24 rfl rfl (((Box.ex q25 hE33).cell 2).trans rfl) (sy rfl rfl hb34 (yl_fieldAddr fd26_2 rfl rfl (sy rfl rfl hb34 (yl_load1 ty24 rfl rfl (((Box.ex hB23 hE33).cell 2).trans rfl) (sy rfl rfl hb34 (yC en64 rfl (oc rfl (oc rfl oz)) (Cal.mono (c_g_slices_Equal_Idx p_a.Idxs p_b.Idxs (RdS.up (RdS.ex gI (RdS.ex gI (RdS.ex gI h2 hE18) hE24) hE33) gI) (RdS.up (RdS.ex gI (RdS.ex gI (RdS.ex gI h5 hE18) hE24) hE33) gI) o3.2.2 o6.2.2) ?_))))))))))
   rintro v44 w43 ⟨rfl, hE45⟩
   refine sd rfl (yl_pick_t rfl rfl hb34 rfl (sA rfl (dn (CW.ret (rr rfl (.cons rfl .nil) ?_)))))
   have hM46 : (i_sameTable p_a p_b) = ((g_slices_Equal_Idx p_a.Idxs p_b.Idxs)) := by simp only [i_sameTable, hb26, hb34, cL]
   rw [hM46]
   exact ⟨rfl, (Ex.trans (Ex.trans (Ex.trans (Ex.trans (Ex.refl w) hE18) hE24) hE33) hE45)⟩
  ·refine sz rfl rfl hb34 (sz rfl rfl hb34 (sz rfl rfl hb34 (sz rfl rfl hb34 (sz rfl rfl hb34 (sd rfl (yl_pick_f rfl rfl hb34 rfl (sA rfl (dn ?_))))))))
   refine CW.ret (rr rfl (.cons rfl .nil) ?_)
   have hM51 : (i_sameTable p_a p_b) = (false) := by simp only [i_sameTable, hb26, hb34, cL]
   rw [hM51]
   exact ⟨rfl, (Ex.trans (Ex.trans (Ex.trans (Ex.refl w) hE18) hE24) hE33)⟩
 ·refine sz rfl rfl hb26 (sz rfl rfl hb26 (sz rfl rfl hb26 (sz rfl rfl hb26 (sz rfl rfl hb26 (sd rfl (yl_pick_f rfl rfl hb26 rfl (sM rfl (sz rfl rfl rfl (sz rfl rfl rfl ?_)))))))))
  refine sz rfl rfl rfl (sz rfl rfl rfl (sz rfl rfl rfl (sd rfl (yl_pick_f rfl rfl rfl rfl (sA rfl (dn (CW.ret (rr rfl (.cons rfl .nil) ?_))))))))
  have hM55 : (i_sameTable p_a p_b) = (false) := by simp only [i_sameTable, hb26, cL]
  rw [hM55]
  exact ⟨rfl, (Ex.trans (Ex.trans (Ex.refl w) hE18) hE24)⟩
theorem c_i_NextTo {A1 : Option Addr} {c1 : Nat} {A2 : Option Addr} {c2 : Nat} {A4 : Option Addr} {c4 : Nat} {A5 : Option Addr} {c5 : Nat} {w : World} (p_a : DTable) (p_b : DTable) (h1 : RdS w (Iv 0 w.heap.size) (RF e_Str) 1 A1 p_a.Cols.length c1 p_a.Cols) (h2 : RdS w (Iv 0 w.heap.size) (RF e_Idx) 3 A2 p_a.Idxs.length c2 p_a.Idxs) (h4 : RdS w (Iv 0 w.heap.size) (RF e_Str) 1 A4 p_b.Cols.length c4 p_b.Cols) (h5 : RdS w (Iv 0 w.heap.size) (RF e_Idx) 3 A5 p_b.Idxs.length c5 p_b.Idxs) (o3 : ok_Table p_a) (o6 : ok_Table p_b) : Cal Tryz.prog 15 #[.agg #[.string (bs (p_a.Name)), .slice A1 p_a.Cols.length c1, .slice A2 p_a.Idxs.length c2], .agg #[.string (bs (p_b.Name)), .slice A4 p_b.Cols.length c4, .slice A5 p_b.Idxs.length c5]] w fun v w' => v = .tuple #[.bool ((i_NextTo p_a p_b).1), .bool ((i_NextTo p_a p_b).2)] ∧ Ex w w' := by
 have hol7 : p_a.Name.length ≤ 1073741824 := o3.1
 have hol8 := o3.2.1.1
 have hol9 := o3.2.2.1
 have hol10 : p_b.Name.length ≤ 1073741824 := o6.1
 have hol11 := o6.2.1.1
 have hol12 := o6.2.2.1
 refine Cal.of func15 rfl ntmps15 rfl (cR (sd rfl (yl_box rfl rfl rfl ?_)))
 intro b13 w14 hs15 hz16 hB17 hE18
 refine sd rfl (yl_box rfl rfl rfl ?_)
 intro b19 w20 hs21 hz22 hB23 hE24
 refine sA rfl (sA rfl (dn (CW.seq (cR ?_))))
 have q25 := Box.ex hB17 hE24
 refine sd rfl (yl_loadN ty26 rfl rfl (q25.cells (n := 3) rfl) rfl ?_)
 have q27 := RdS.ex gS (RdS.ex gS h1 hE18) hE24
 have q29 := RdS.ex gI (RdS.ex gI h2 hE18) hE24
 refine sd rfl (yC en13 rfl (oc rfl oz) (Cal.mono (c_i_GoodTable p_a (RdS.up q27 gS) (RdS.up q29 gI) o3) ?_))
 rintro v31 w30 ⟨rfl, hE32⟩
 have hE32z := Ex.size hE32
 refine sd rfl (yl_not rfl rfl (sM rfl (bcase (i_GoodTable p_a) (fun hb33 => ?_) (fun hb33 => ?_))))
 ·have hb33p := f_i_GoodTable hb33
  have q34 := Box.ex hB23 hE32
  refine sy rfl rfl (not_t hb33) (yl_loadN ty26 rfl rfl (q34.cells (n := 3) rfl) rfl ?_)
  have q37 := RdS.ex gS (RdS.ex gS (RdS.ex gS h4 hE18) hE24) hE32
  have q40 := RdS.ex gI (RdS.ex gI (RdS.ex gI h5 hE18) hE24) hE32
  refine sy rfl rfl (not_t hb33) (yC en13 rfl (oc rfl oz) (Cal.mono (c_i_GoodTable p_b (RdS.up q37 gS) (RdS.up q40 gI) o6) ?_))
  rintro v42 w41 ⟨rfl, hE43⟩
  have hE43z := Ex.size hE43
  refine sy rfl rfl (not_t hb33) (yl_not rfl rfl (sd rfl (yl_pick_f rfl rfl (not_t hb33) rfl (dn (bcase (i_GoodTable p_b) (fun hb44 => ?_) (fun hb44 => ?_))))))
  ·have hb44p := f_i_GoodTable hb44
   refine CW.cond_f rfl (not_t hb44) (CW.skip (tn (CW.seq (cR ?_))))
   have q46 := Box.ex (Box.ex q25 hE32) hE43
   refine sd rfl (yl_loadN ty26 rfl rfl (q46.cells (n := 3) rfl) rfl ?_)
   have q47 := Box.ex q34 hE43
   refine sd rfl (yl_loadN ty26 rfl rfl (q47.cells (n := 3) rfl) rfl ?_)
   have q49 := RdS.ex gS (RdS.ex gS q27 hE32) hE43
   have q51 := RdS.ex gI (RdS.ex gI q29 hE32) hE43
   have q52 := RdS.ex gS q37 hE43
   have q53 := RdS.ex gI q40 hE43
   refine sd rfl (yC en42 rfl (oc rfl (oc rfl oz)) (Cal.mono (c_i_sameTable p_a p_b (RdS.up q49 gS) (RdS.up q51 gI) (RdS.up q52 gS) (RdS.up q53 gI) o3 o6) ?_))
   rintro v55 w54 ⟨rfl, hE56⟩
   have hE56z := Ex.size hE56
   refine dn (bcase (i_sameTable p_a p_b) (fun hb57 => ?_) (fun hb57 => ?_))
   ·refine CW.cond_t rfl hb57 (cR (sA rfl (sA rfl (dn (CW.ret (tr ?_))))))
    refine rr rfl (.cons rfl (.cons rfl .nil)) ?_
    have hM58 : (i_NextTo p_a p_b) = ((true, true)) := by simp only [i_NextTo, hb33, hb44, hb57, cL]
    rw [hM58]
    exact ⟨rfl, (Ex.trans (Ex.trans (Ex.trans (Ex.trans (Ex.trans (Ex.refl w) hE18) hE24) hE32) hE43) hE56)⟩
   ·refine CW.cond_f rfl hb57 (CW.skip (tn (CW.seq (cR (sd rfl (yl_fieldAddr fd26_2 rfl rfl ?_))))))
    have q64 := Box.ex q46 hE56
    refine sd rfl (yl_load1 ty24 rfl rfl ((q64.cell 2).trans rfl) (sd rfl (yL un24 rfl rfl (sM rfl (dn (CW.block (CW.loop (fun m92 L93 w94 => ∃ (k65 : Nat), m92 = p_a.Idxs.length - k65 ∧ k65 ≤ p_a.Idxs.length ∧ w54.heap.size ≤ w94.heap.size ∧ lkp L93 2 = some (.pointer (some ⟨b13, 0, none⟩)) ∧ lkp L93 3 = some (.pointer (some ⟨b19, 0, none⟩)) ∧ lkp L93 22 = some (.slice A2 p_a.Idxs.length c2) ∧ lkp L93 23 = some (.int .i64 ((p_a.Idxs.length : Int))) ∧ lkp L93 24 = some (.int .i64 ((k65 : Int))) ∧ Box w94 b13 26 [.string (bs (p_a.Name)), .slice A1 p_a.Cols.length c1, .slice A2 p_a.Idxs.length c2] ∧ RdS w94 (Iv 0 w.heap.size) (RF e_Str) 1 A1 p_a.Cols.length c1 p_a.Cols ∧ RdS w94 (Iv 0 w.heap.size) (RF e_Idx) 3 A2 p_a.Idxs.length c2 p_a.Idxs ∧ Box w94 b19 26 [.string (bs (p_b.Name)), .slice A4 p_b.Cols.length c4, .slice A5 p_b.Idxs.length c5] ∧ RdS w94 (Iv 0 w.heap.size) (RF e_Str) 1 A4 p_b.Cols.length c4 p_b.Cols ∧ RdS w94 (Iv 0 w.heap.size) (RF e_Idx) 3 A5 p_b.Idxs.length c5 p_b.Idxs ∧ Ex w w94 ∧ loopM (B_i_NextTo_0 p_a p_b) (p_a.Idxs.length - k65) k65 () = loopM (B_i_NextTo_0 p_a p_b) (p_a.Idxs.length - 0) 0 ()) (p_a.Idxs.length - 0) ?_ ?_)))))))
    ·exact ⟨0, rfl, oM, Nat.le_refl _, rfl, rfl, rfl, rfl, rfl, q64, (RdS.ex gS q49 hE56), (RdS.ex gI q51 hE56), (Box.ex q47 hE56), (RdS.ex gS q52 hE56), (RdS.ex gI q53 hE56), (Ex.trans (Ex.trans (Ex.trans (Ex.trans (Ex.trans (Ex.refl w) hE18) hE24) hE32) hE43) hE56), rfl⟩
    ·rintro m105 L106 w107 ⟨k65, rfl, hk108, hsz110, hl111, hl112, hl113, hl114, hl115, hf116, hf117, hf118, hf119, hf120, hf121, hf122, hI109⟩
     refine CW.sub (Sub.cons hl111 (Sub.cons hl112 (Sub.cons hl113 (Sub.cons hl114 (Sub.cons hl115 (Sub.nil _)))))) ?_
     have hf116z := Box.lt hf116
     have hf119z := Box.lt hf119
     have hf122z := Ex.size hf122
     have hbg123 := RdS.big hf118
     rcases Nat.lt_or_ge k65 p_a.Idxs.length with hlt124 | hlt124
     ·refine cR (sd rfl (yl_lss rfl rfl rfl (dn (CW.seq (CW.cond_t rfl (lt_t hlt124) (CW.skip (tn ?_)))))))
      refine CW.seq (CW.block (cR ?_))
      obtain ⟨eb125, eo125, _, eA125, _, ebl125, _, eR125, eC125⟩ := RdS.aD hf118 d_Idx (i := k65)
      obtain rfl := eR125
      have eC125 : Cells w107 eb125 (eo125 + k65 * 3) [.string (bs ((p_a.Idxs.getD k65 d_Idx).Name)), .int .i64 ((p_a.Idxs.getD k65 d_Idx).Col), .int .i64 ((p_a.Idxs.getD k65 d_Idx).Stage)] := eC125
      refine sd rfl (yl_ixN un24 ty35 rfl rfl rfl eA125 (sd rfl (yl_loadN ty35 rfl rfl eC125 rfl (sd rfl (yB ty35 (cs := [.string (bs (([] : Str))), .int .i64 (0), .int .i64 (0)]) rfl rfl ?_)))))
      intro b126 w127 hs128 hz129 hB130 hE131
      refine SeqR.u rfl rfl (yl_store (vs := [.string (bs ((p_a.Idxs.getD k65 d_Idx).Name)), .int .i64 ((p_a.Idxs.getD k65 d_Idx).Col), .int .i64 ((p_a.Idxs.getD k65 d_Idx).Stage)]) ty35 rfl rfl rfl rfl rfl rfl hB130 (nb rfl) ?_)
      intro w132 hB133 hO134
      have hB133 : Box w132 b126 35 [.string (bs ((p_a.Idxs.getD k65 d_Idx).Name)), .int .i64 ((p_a.Idxs.getD k65 d_Idx).Col), .int .i64 ((p_a.Idxs.getD k65 d_Idx).Stage)] := hB133
      have hO134z := hO134.size
      refine dn (cR (sd rfl (yl_fieldAddr fd35_2 rfl rfl (sd rfl (yl_load1 ty3 rfl rfl ((hB133.cell 2).trans rfl) (sd rfl (yl_sub rfl rfl rfl (sd rfl (yl_fieldAddr fd35_2 rfl rfl (sd rfl (yl_load1 ty3 rfl rfl ((hB133.cell 2).trans rfl) ?_)))))))))))
      refine sd rfl (yl_add rfl rfl rfl (sd rfl (yl_buildSlice (cs := [.int .i64 (IntKind.wrap .i64 (((p_a.Idxs.getD k65 d_Idx).Stage) - 1)), .int .i64 (IntKind.wrap .i64 (((p_a.Idxs.getD k65 d_Idx).Stage) + 1))]) un68 ty3 (by decide) rfl (oc rfl (oc rfl oz)) (by kernel_rfl) ?_)))
      intro b135 w136 hs137 hz138 hB139 hE140
      have hO141 : OwnL w136 b135 (b135 + 1) 3 1 (RF e_Int) (some ⟨b135, 0, none⟩) 2 2 ([IntKind.wrap .i64 (((p_a.Idxs.getD k65 d_Idx).Stage) - 1), IntKind.wrap .i64 (((p_a.Idxs.getD k65 d_Idx).Stage) + 1)] : List Int) := OwnL.of_box (S := fun _ => False) hB139 (Nat.le_refl _) (Nat.lt_succ_self _) (EncL.cons (c := [.int .i64 (IntKind.wrap .i64 (((p_a.Idxs.getD k65 d_Idx).Stage) - 1))]) rfl rfl (EncL.cons (c := [.int .i64 (IntKind.wrap .i64 (((p_a.Idxs.getD k65 d_Idx).Stage) + 1))]) rfl rfl EncL.nil)) (nb rfl) (fun h => h) (fun _ h => False.elim h)
      refine sd rfl (yL un68 rfl rfl (sM rfl (dn (CW.block (CW.loop (fun m143 L144 w145 => ∃ (k142 : Nat), m143 = 2 - k142 ∧ k142 ≤ 2 ∧ w136.heap.size ≤ w145.heap.size ∧ lkp L144 2 = some (.pointer (some ⟨b13, 0, none⟩)) ∧ lkp L144 3 = some (.pointer (some ⟨b19, 0, none⟩)) ∧ lkp L144 7 = some (.pointer (some ⟨b126, 0, none⟩)) ∧ lkp L144 22 = some (.slice A2 p_a.Idxs.length c2) ∧ lkp L144 23 = some (.int .i64 ((p_a.Idxs.length : Int))) ∧ lkp L144 24 = some (.int .i64 ((k65 : Int))) ∧ lkp L144 34 = some (.slice (some ⟨b135, 0, none⟩) 2 2) ∧ lkp L144 35 = some (.int .i64 ((2 : Int))) ∧ lkp L144 36 = some (.int .i64 ((k142 : Int))) ∧ Box w145 b13 26 [.string (bs (p_a.Name)), .slice A1 p_a.Cols.length c1, .slice A2 p_a.Idxs.length c2] ∧ RdS w145 (Iv 0 w.heap.size) (RF e_Str) 1 A1 p_a.Cols.length c1 p_a.Cols ∧ RdS w145 (Iv 0 w.heap.size) (RF e_Idx) 3 A2 p_a.Idxs.length c2 p_a.Idxs ∧ Box w145 b19 26 [.string (bs (p_b.Name)), .slice A4 p_b.Cols.length c4, .slice A5 p_b.Idxs.length c5] ∧ RdS w145 (Iv 0 w.heap.size) (RF e_Str) 1 A4 p_b.Cols.length c4 p_b.Cols ∧ RdS w145 (Iv 0 w.heap.size) (RF e_Idx) 3 A5 p_b.Idxs.length c5 p_b.Idxs ∧ Box w145 b126 35 [.string (bs ((p_a.Idxs.getD k65 d_Idx).Name)), .int .i64 ((p_a.Idxs.getD k65 d_Idx).Col), .int .i64 ((p_a.Idxs.getD k65 d_Idx).Stage)] ∧ OwnL w145 b135 (b135 + 1) 3 1 (RF e_Int) (some ⟨b135, 0, none⟩) 2 2 ([IntKind.wrap .i64 (((p_a.Idxs.getD k65 d_Idx).Stage) - 1), IntKind.wrap .i64 (((p_a.Idxs.getD k65 d_Idx).Stage) + 1)] : List Int) ∧ Ex w w145 ∧ loopM (B_i_NextTo_1 p_a p_b k65) (2 - k142) k142 () = loopM (B_i_NextTo_1 p_a p_b k65) (2 - 0) 0 ()) (2 - 0) ?_ ?_)))))
      ·exact ⟨0, rfl, oM, Nat.le_refl _, rfl, rfl, rfl, rfl, rfl, rfl, rfl, rfl, rfl, (Box.ex (Box.only (Box.ex hf116 hE131) hO134 oM) hE140), (RdS.ex gS (RdS.only gS (RdS.ex gS hf117 hE131) hO134 (by simp only [Iv]; omega)) hE140), (RdS.ex gI (RdS.only gI (RdS.ex gI hf118 hE131) hO134 (by simp only [Iv]; omega)) hE140), (Box.ex (Box.only (Box.ex hf119 hE131) hO134 oM) hE140), (RdS.ex gS (RdS.only gS (RdS.ex gS hf120 hE131) hO134 (by simp only [Iv]; omega)) hE140), (RdS.ex gI (RdS.only gI (RdS.ex gI hf121 hE131) hO134 (by simp only [Iv]; omega)) hE140), (Box.ex hB133 hE140), hO141, (Ex.trans (Below.only (Ex.trans hf122 hE131) hO134 oM) hE140), rfl⟩
      ·rintro m168 L169 w170 ⟨k142, rfl, hk171, hsz173, hl174, hl175, hl176, hl177, hl178, hl179, hl180, hl181, hl182, hf183, hf184, hf185, hf186, hf187, hf188, hf189, hf190, hf191, hI172⟩
       refine CW.sub (Sub.cons hl174 (Sub.cons hl175 (Sub.cons hl176 (Sub.cons hl177 (Sub.cons hl178 (Sub.cons hl179 (Sub.cons hl180 (Sub.cons hl181 (Sub.cons hl182 (Sub.nil _)))))))))) ?_
       have hf183z := Box.lt hf183
       have hf186z := Box.lt hf186
       have hf189z := Box.lt hf189
       have hf191z := Ex.size hf191
       rcases Nat.lt_or_ge k142 2 with hlt192 | hlt192
       ·refine cR (sd rfl (yl_lss rfl rfl rfl (dn (CW.seq (CW.cond_t rfl (lt_t hlt192) (CW.skip (tn ?_)))))))
        refine CW.seq (CW.block (cR ?_))
        obtain ⟨eb194, eo194, _, eA194, _, ebl194, _, eR194, eC194⟩ := RdS.aD (OwnL.rd good_Int hf190) d_Int (i := k142)
        obtain rfl := eR194
        have eC194 : Cells w170 eb194 (eo194 + k142 * 1) [.int .i64 ((([IntKind.wrap .i64 (((p_a.Idxs.getD k65 d_Idx).Stage) - 1), IntKind.wrap .i64 (((p_a.Idxs.getD k65 d_Idx).Stage) + 1)] : List Int).getD k142 d_Int))] := eC194
        refine sd rfl (yl_ixN un68 ty3 rfl rfl rfl eA194 (sd rfl (yl_load1 ty3 rfl rfl (eC194 0 _ rfl) (sA rfl (dn (CW.seq (CW.drawsI 7 (vgetI [DetI (.agg #[.string (bs (p_a.Name)), .slice A1 p_a.Cols.length c1, .slice A2 p_a.Idxs.length c2]), DetI (.pointer (some ⟨b126, 0 + 0, none⟩)), DetI (.string (bs ((p_a.Idxs.getD k65 d_Idx).Name))), DetI (.int .i64 ((([IntKind.wrap .i64 (((p_a.Idxs.getD k65 d_Idx).Stage) - 1), IntKind.wrap .i64 (((p_a.Idxs.getD k65 d_Idx).Stage) + 1)] : List Int).getD k142 d_Int))), fun lo hi v wq => ∃ A196 c196 lo196 hi196 A197 c197 lo197 hi197, v = .agg #[.string (bs ((i_Table_withStage p_a ((p_a.Idxs.getD k65 d_Idx).Name) (([IntKind.wrap .i64 (((p_a.Idxs.getD k65 d_Idx).Stage) - 1), IntKind.wrap .i64 (((p_a.Idxs.getD k65 d_Idx).Stage) + 1)] : List Int).getD k142 d_Int)).Name)), .slice A196 (((i_Table_withStage p_a ((p_a.Idxs.getD k65 d_Idx).Name) (([IntKind.wrap .i64 (((p_a.Idxs.getD k65 d_Idx).Stage) - 1), IntKind.wrap .i64 (((p_a.Idxs.getD k65 d_Idx).Stage) + 1)] : List Int).getD k142 d_Int)).Cols).length) c196, .slice A197 (((i_Table_withStage p_a ((p_a.Idxs.getD k65 d_Idx).Name) (([IntKind.wrap .i64 (((p_a.Idxs.getD k65 d_Idx).Stage) - 1), IntKind.wrap .i64 (((p_a.Idxs.getD k65 d_Idx).Stage) + 1)] : List Int).getD k142 d_Int)).Idxs).length) c197] ∧ OwnL wq lo196 hi196 9 1 (RF e_Str) A196 (((i_Table_withStage p_a ((p_a.Idxs.getD k65 d_Idx).Name) (([IntKind.wrap .i64 (((p_a.Idxs.getD k65 d_Idx).Stage) - 1), IntKind.wrap .i64 (((p_a.Idxs.getD k65 d_Idx).Stage) + 1)] : List Int).getD k142 d_Int)).Cols).length) c196 ((i_Table_withStage p_a ((p_a.Idxs.getD k65 d_Idx).Name) (([IntKind.wrap .i64 (((p_a.Idxs.getD k65 d_Idx).Stage) - 1), IntKind.wrap .i64 (((p_a.Idxs.getD k65 d_Idx).Stage) + 1)] : List Int).getD k142 d_Int)).Cols) ∧ OwnL wq lo197 hi197 35 3 (RF e_Idx) A197 (((i_Table_withStage p_a ((p_a.Idxs.getD k65 d_Idx).Name) (([IntKind.wrap .i64 (((p_a.Idxs.getD k65 d_Idx).Stage) - 1), IntKind.wrap .i64 (((p_a.Idxs.getD k65 d_Idx).Stage) + 1)] : List Int).getD k142 d_Int)).Idxs).length) c197 ((i_Table_withStage p_a ((p_a.Idxs.getD k65 d_Idx).Name) (([IntKind.wrap .i64 (((p_a.Idxs.getD k65 d_Idx).Stage) - 1), IntKind.wrap .i64 (((p_a.Idxs.getD k65 d_Idx).Stage) + 1)] : List Int).getD k142 d_Int)).Idxs) ∧ ok_Table (i_Table_withStage p_a ((p_a.Idxs.getD k65 d_Idx).Name) (([IntKind.wrap .i64 (((p_a.Idxs.getD k65 d_Idx).Stage) - 1), IntKind.wrap .i64 (((p_a.Idxs.getD k65 d_Idx).Stage) + 1)] : List Int).getD k142 d_Int)) ∧ (lo ≤ lo196 ∧ lo196 ≤ hi196 ∧ hi196 ≤ hi) ∧ (lo ≤ lo197 ∧ lo197 ≤ hi197 ∧ hi197 ≤ hi) ∧ (hi196 ≤ lo197 ∨ hi197 ≤ lo196), DetI (.agg #[.string (bs (p_b.Name)), .slice A4 p_b.Cols.length c4, .slice A5 p_b.Idxs.length c5]), DetI (.bool ((i_sameTable (i_Table_withStage p_a ((p_a.Idxs.getD k65 d_Idx).Name) (([IntKind.wrap .i64 (((p_a.Idxs.getD k65 d_Idx).Stage) - 1), IntKind.wrap .i64 (((p_a.Idxs.getD k65 d_Idx).Stage) + 1)] : List Int).getD k142 d_Int)) p_b)))]) Tryz.follows rfl rfl rfl rfl rfl rfl (vgetI_stable ⟨StableI.det _, StableI.det _, StableI.det _, StableI.det _, (fun _ _ _ _ _ ⟨A196, c196, lo196, hi196, A197, c197, lo197, hi197, hv, h196, h197, ho198, hr0, hr1, hr2⟩ e => ⟨A196, c196, lo196, hi196, A197, c197, lo197, hi197, hv, OwnL.ex gS h196 e, OwnL.ex gI h197 e, ho198, hr0, hr1, hr2⟩), StableI.det _, StableI.det _, trivial⟩) ⟨?_, ?_, ?_, ?_, ?_, ?_, ?_, trivial⟩ ?_)))))))
        ·exact oI rfl fun h => yl_loadN ty26 rfl (h.old 2 _ rfl rfl) ((Box.ex hf183 h.ex).cells (n := 3) rfl) rfl kI
        ·exact oI rfl fun h => yl_fieldAddr fd35_0 rfl (h.old 7 _ rfl rfl) kI
        ·exact oI rfl fun h => yl_load1 ty9 rfl (h.dt 1 41 rfl rfl rfl) (((Box.ex hf189 h.ex).cell 0).trans rfl) kI
        ·exact oI rfl fun h => yM rfl (h.old 9 _ rfl rfl) kI
        ·intro L222 w223 hi224
         have hE225 := hi224.ex
         have hE225z := Ex.size hE225
         refine OpR.op' rfl (yC en31 rfl (oc (hi224.dt 0 40 rfl rfl rfl) (oc (hi224.dt 2 42 rfl rfl rfl) (oc (hi224.dt 3 43 rfl rfl rfl) oz))) (Cal.mono (c_i_Table_withStage p_a ((p_a.Idxs.getD k65 d_Idx).Name) (([IntKind.wrap .i64 (((p_a.Idxs.getD k65 d_Idx).Stage) - 1), IntKind.wrap .i64 (((p_a.Idxs.getD k65 d_Idx).Stage) + 1)] : List Int).getD k142 d_Int) (RdS.up (RdS.ex gS hf184 hE225) gS) (RdS.up (RdS.ex gI hf185 hE225) gI) o3 (okL.getD o3.2.2 ok_d_Idx _) (own_findIdx (t := p_a) (k := k65) oM)) ?_))
         rintro v235 w231 ⟨A232, c232, lo232, hi232, A233, c233, lo233, hi233, rfl, h232, h233, ho234, hrn237, hrn238, hrn239, hE236⟩
         exact ⟨⟨A232, c232, lo232, hi232, A233, c233, lo233, hi233, rfl, h232, h233, ho234, hrn237, hrn238, hrn239⟩, hE236⟩
        ·exact oI rfl fun h => yl_loadN ty26 rfl (h.old 3 _ rfl rfl) ((Box.ex hf186 h.ex).cells (n := 3) rfl) rfl kI
        ·intro L246 w247 hi248
         have hE249 := hi248.ex
         obtain ⟨lo251, hh252, _, hx250, hr253, hr254, hr255, A196_256, c196_257, lo196_258, hi196_259, A197_260, c197_261, lo197_262, hi197_263, rfl, h264, h265, h266, hrn267, hrn268, hrn269⟩ := hi248.dep 4 44 rfl rfl
         exact OpR.op' rfl (yC en42 rfl (oc hx250 (oc (hi248.dt 5 45 rfl rfl rfl) oz)) (Cal.mono (c_i_sameTable (i_Table_withStage p_a ((p_a.Idxs.getD k65 d_Idx).Name) (([IntKind.wrap .i64 (((p_a.Idxs.getD k65 d_Idx).Stage) - 1), IntKind.wrap .i64 (((p_a.Idxs.getD k65 d_Idx).Stage) + 1)] : List Int).getD k142 d_Int)) p_b (RdS.up (OwnL.rd gS h264) gS) (RdS.up (OwnL.rd gI h265) gI) (RdS.up (RdS.ex gS hf187 hE249) gS) (RdS.up (RdS.ex gI hf188 hE249) gI) h266 o6) fun _ _ h => h))
        ·intro fl281 fh282 L278 w279 hp280
         have hE283 := hp280.ex
         have hE283z := Ex.size hE283
         have hr294 := hp280.rng 4 rfl
         obtain ⟨_, hx293, A196_295, c196_296, lo196_297, hi196_298, A197_299, c197_300, lo197_301, hi197_302, rfl, h303, h304, h305, hrn306, hrn307, hrn308⟩ := hp280.new 4 44 rfl rfl
         refine dn (CW.sub (sC 2 (hp280.old 2 _ rfl rfl) (sC 3 (hp280.old 3 _ rfl rfl) (sC 7 (hp280.old 7 _ rfl rfl) (sC 22 (hp280.old 22 _ rfl rfl) (sC 23 (hp280.old 23 _ rfl rfl) (sC 24 (hp280.old 24 _ rfl rfl) (sC 34 (hp280.old 34 _ rfl rfl) (sC 35 (hp280.old 35 _ rfl rfl) (sC 36 (hp280.old 36 _ rfl rfl) (sC 46 (hp280.nt 6 46 rfl rfl rfl) (Sub.nil _))))))))))) (bcase (i_sameTable (i_Table_withStage p_a ((p_a.Idxs.getD k65 d_Idx).Name) (([IntKind.wrap .i64 (((p_a.Idxs.getD k65 d_Idx).Stage) - 1), IntKind.wrap .i64 (((p_a.Idxs.getD k65 d_Idx).Stage) + 1)] : List Int).getD k142 d_Int)) p_b) (fun hb310 => ?_) (fun hb310 => ?_)))
         ·refine CW.cond_t rfl hb310 (cR (sA rfl (sA rfl (dn (CW.ret (br ?_))))))
          refine tr (tr ?_)
          have hB312 : B_i_NextTo_1 p_a p_b k65 k142 () = .ret (true, true) := by simp only [B_i_NextTo_1, hb33, hb44, hb57, hb310, cL]
          have hL311 : loopM (B_i_NextTo_1 p_a p_b k65) (2 - 0) 0 () = .ret (true, true) := hI172.symm.trans (loopM.ret hlt192 hB312)
          refine br (br (tr (tr ?_)))
          have hB314 : B_i_NextTo_0 p_a p_b k65 () = .ret (true, true) := by simp only [B_i_NextTo_0, hb33, hb44, hb57, hb310, hL311, cL]
          have hL313 : loopM (B_i_NextTo_0 p_a p_b) (p_a.Idxs.length - 0) 0 () = .ret (true, true) := hI109.symm.trans (loopM.ret hlt124 hB314)
          refine br (tr (rr rfl (.cons rfl (.cons rfl .nil)) ?_))
          have hM315 : (i_NextTo p_a p_b) = ((true, true)) := by simp only [i_NextTo, hb33, hb44, hb57, hb310, hL311, hL313, cL]
          rw [hM315]
          exact ⟨rfl, (Ex.trans hf191 hE283)⟩
         ·refine CW.cond_f rfl hb310 (CW.skip (bn (tn (CW.region (sd rfl (yl_inc rfl rfl rfl oM (sM rfl (dn ?_))))))))
          have hB317 : B_i_NextTo_1 p_a p_b k65 k142 () = .cont () := by simp only [B_i_NextTo_1, hb33, hb44, hb57, hb310, cL]
          exact ⟨2 - (k142 + 1), oM, k142 + 1, rfl, hlt192, oM, rfl, rfl, rfl, rfl, rfl, rfl, rfl, rfl, rfl, (Box.ex hf183 hE283), (RdS.ex gS hf184 hE283), (RdS.ex gI hf185 hE283), (Box.ex hf186 hE283), (RdS.ex gS hf187 hE283), (RdS.ex gI hf188 hE283), (Box.ex hf189 hE283), (OwnL.ex good_Int hf190 hE283), (Ex.trans hf191 hE283), (loopM.cont hlt192 hB317).symm.trans hI172⟩
       ·refine cR (sd rfl (yl_lss rfl rfl rfl (dn (CW.seq (CW.cond_f rfl (lt_f hlt192) (CW.exit (tx ?_)))))))
        refine tx ?_
        have hL327 : loopM (B_i_NextTo_1 p_a p_b k65) (2 - 0) 0 () = .done () := hI172.symm.trans (loopM.stop hlt192)
        refine bx (bn (tn (CW.region (sd rfl (yl_inc rfl rfl rfl oM (sM rfl (dn ?_)))))))
        have hB328 : B_i_NextTo_0 p_a p_b k65 () = .cont () := by simp only [B_i_NextTo_0, hb33, hb44, hb57, hL327, cL]
        exact ⟨p_a.Idxs.length - (k65 + 1), oM, k65 + 1, rfl, hlt124, oM, rfl, rfl, rfl, rfl, rfl, hf183, hf184, hf185, hf186, hf187, hf188, hf191, (loopM.cont hlt124 hB328).symm.trans hI109⟩
     ·refine cR (sd rfl (yl_lss rfl rfl rfl (dn (CW.seq (CW.cond_f rfl (lt_f hlt124) (CW.exit (tx ?_)))))))
      refine tx ?_
      have hL329 : loopM (B_i_NextTo_0 p_a p_b) (p_a.Idxs.length - 0) 0 () = .done () := hI109.symm.trans (loopM.stop hlt124)
      refine bx (tn (cR (sA rfl (sA rfl (dn (CW.ret ?_))))))
      refine rr rfl (.cons rfl (.cons rfl .nil)) ?_
      have hM330 : (i_NextTo p_a p_b) = ((false, true)) := by simp only [i_NextTo, hb33, hb44, hb57, hL329, cL]
      rw [hM330]
      exact ⟨rfl, hf122⟩
  ·refine CW.cond_t rfl (not_f hb44) (cR (sA rfl (sA rfl (dn (CW.ret (tr ?_))))))
   refine rr rfl (.cons rfl (.cons rfl .nil)) ?_
   have hM331 : (i_NextTo p_a p_b) = ((false, false)) := by simp only [i_NextTo, hb33, hb44, cL]
   rw [hM331]
   exact ⟨rfl, (Ex.trans (Ex.trans (Ex.trans (Ex.trans (Ex.refl w) hE18) hE24) hE32) hE43)⟩
 ·refine sz rfl rfl (not_f hb33) (sz rfl rfl (not_f hb33) (sz rfl rfl (not_f hb33) (sd rfl (yl_pick_t rfl rfl (not_f hb33) rfl (dn (CW.cond_t rfl rfl (cR ?_)))))))
  refine sA rfl (sA rfl (dn (CW.ret (tr (rr rfl (.cons rfl (.cons rfl .nil)) ?_)))))
  have hM336 : (i_NextTo p_a p_b) = ((false, false)) := by simp only [i_NextTo, hb33, cL]
  rw [hM336]
  exact ⟨rfl, (Ex.trans (Ex.trans (Ex.trans (Ex.refl w) hE18) hE24) hE32)⟩
theorem c_i_tableText {A1 : Option Addr} {c1 : Nat} {A2 : Option Addr} {c2 : Nat} {w : World} (p_t : DTable) (h1 : RdS w (Iv 0 w.heap.size) (RF e_Str) 1 A1 p_t.Cols.length c1 p_t.Cols) (h2 : RdS w (Iv 0 w.heap.size) (RF e_Idx) 3 A2 p_t.Idxs.length c2 p_t.Idxs) (o3 : ok_Table p_t) (pre0 : s_GoodTable p_t = true) : Cal Tryz.prog 43 #[.agg #[.string (bs (p_t.Name)), .slice A1 p_t.Cols.length c1, .slice A2 p_t.Idxs.length c2]] w fun v w' => v = .string (bs ((i_tableText p_t))) ∧ Ex w w' := by
 have hol4 : p_t.Name.length ≤ 1073741824 := o3.1
 have hol5 := o3.2.1.1
 have hol6 := o3.2.2.1
 have hgt := f_s_GoodTable pre0
 have hgn := gt_name pre0
 have hjc := join_cols pre0
 refine Cal.of func43 rfl ntmps43 rfl (cR (sd rfl (yl_box rfl rfl rfl ?_)))
 intro b7 w8 hs9 hz10 hB11 hE12
 refine sA rfl (dn (CW.seq ?_))
 have hol13 : p_t.Name.length ≤ 1073741824 := o3.1
 have q14 := RdS.ex gS h1 hE12
 have hol17 : p_t.Name.length ≤ 1073741824 := o3.1
 have hol18 : p_t.Name.length ≤ 1073741824 := o3.1
 refine CW.drawsI 9 (vgetI [DetI (.pointer (some ⟨b7, 0 + 0, none⟩)), DetI (.string (bs (p_t.Name))), DetI (.string (bs (p_t.Name ++ ([40] : Str)))), DetI (.pointer (some ⟨b7, 0 + 1, none⟩)), DetI (.slice A1 p_t.Cols.length c1), fun lo hi v wq => v = .string (bs ((g_strings_Join p_t.Cols ([44] : Str)))) ∧ okS (g_strings_Join p_t.Cols ([44] : Str)), DetI (.string (bs ((p_t.Name ++ ([40] : Str)) ++ (g_strings_Join p_t.Cols ([44] : Str))))), DetI (.string (bs (((p_t.Name ++ ([40] : Str)) ++ (g_strings_Join p_t.Cols ([44] : Str))) ++ ([41] : Str)))), DetI (.string (bs (((p_t.Name ++ ([40] : Str)) ++ (g_strings_Join p_t.Cols ([44] : Str))) ++ ([41] : Str))))]) Tryz.follows rfl rfl rfl rfl rfl rfl (vgetI_stable ⟨StableI.det _, StableI.det _, StableI.det _, StableI.det _, StableI.det _, (fun _ _ _ _ _ ⟨hv, ho16⟩ e => ⟨hv, ho16⟩), StableI.det _, StableI.det _, StableI.det _, trivial⟩) ⟨?_, ?_, ?_, ?_, ?_, ?_, ?_, ?_, ?_, trivial⟩ ?_
 ·exact oI rfl fun h => yl_fieldAddr fd26_0 rfl (h.old 1 _ rfl rfl) kI
 ·exact oI rfl fun h => yl_load1 ty9 rfl (h.dt 0 6 rfl rfl rfl) (((Box.ex hB11 h.ex).cell 0).trans rfl) kI
 ·intro L30 w31 hi32
  have hE33 := hi32.ex
  have hE33z := Ex.size hE33
  have hol35 : p_t.Name.length ≤ 1073741824 := o3.1
  exact os rfl ((yl_sadd (a := p_t.Name) (b := ([40] : Str)) rfl (hi32.dt 1 7 rfl rfl rfl) rfl Bl kI))
 ·exact oI rfl fun h => yl_fieldAddr fd26_1 rfl (h.old 1 _ rfl rfl) kI
 ·exact oI rfl fun h => yl_load1 ty23 rfl (h.dt 3 9 rfl rfl rfl) (((Box.ex hB11 h.ex).cell 1).trans rfl) kI
 ·intro L47 w48 hi49
  have hE50 := hi49.ex
  refine OpR.op' rfl (yC en65 rfl (oc (hi49.dt 4 10 rfl rfl rfl) (oc rfl oz)) (Cal.mono (c_g_strings_Join p_t.Cols ([44] : Str) (RdS.up (RdS.ex gS q14 hE50) gS) o3.2.1 (okS.lit rfl) (join_cols pre0)) ?_))
  rintro v55 w53 ⟨rfl, ho54, hE56⟩
  exact ⟨⟨rfl, ho54⟩, hE56⟩
 ·intro L57 w58 hi59
  have hE60 := hi59.ex
  have hE60z := Ex.size hE60
  obtain ⟨lo63, hh64, _, hx62, hr65, hr66, hr67, rfl, h68⟩ := hi59.dep 5 11 rfl rfl
  have hol69 : p_t.Name.length ≤ 1073741824 := o3.1
  have hol70 : (g_strings_Join p_t.Cols ([44] : Str)).length ≤ 1073741824 := h68
  exact os rfl ((yl_sadd (a := (p_t.Name ++ ([40] : Str))) (b := (g_strings_Join p_t.Cols ([44] : Str))) rfl (hi59.dt 2 8 rfl rfl rfl) hx62 Bl kI))
 ·intro L71 w72 hi73
  have hE74 := hi73.ex
  have hE74z := Ex.size hE74
  have hol76 : p_t.Name.length ≤ 1073741824 := o3.1
  exact os rfl ((yl_sadd (a := ((p_t.Name ++ ([40] : Str)) ++ (g_strings_Join p_t.Cols ([44] : Str)))) (b := ([41] : Str)) rfl (hi73.dt 6 12 rfl rfl rfl) rfl Bl kI))
 ·exact oI rfl fun h => yA rfl (h.dt 7 13 rfl rfl rfl) kI
 ·intro fl85 fh86 L82 w83 hp84
  have hE87 := hp84.ex
  have hE87z := Ex.size hE87
  refine dn (CW.sub (sC 1 (hp84.old 1 _ rfl rfl) (sC 3 (hp84.nt 8 3 rfl rfl rfl) (Sub.nil _))) (CW.seq (cR (sd rfl (yl_fieldAddr fd26_2 rfl rfl ?_)))))
  have q90 := Box.ex hB11 hE87
  refine sd rfl (yl_load1 ty24 rfl rfl ((q90.cell 2).trans rfl) (sd rfl (yL un24 rfl rfl (sM rfl (dn (CW.block (CW.loop (fun m141 L142 w143 => ∃ (k91 : Nat) (x140 : Str), m141 = p_t.Idxs.length - k91 ∧ k91 ≤ p_t.Idxs.length ∧ w83.heap.size ≤ w143.heap.size ∧ lkp L142 1 = some (.pointer (some ⟨b7, 0, none⟩)) ∧ lkp L142 3 = some (.string (bs (x140))) ∧ lkp L142 15 = some (.slice A2 p_t.Idxs.length c2) ∧ lkp L142 16 = some (.int .i64 ((p_t.Idxs.length : Int))) ∧ lkp L142 17 = some (.int .i64 ((k91 : Int))) ∧ Box w143 b7 26 [.string (bs (p_t.Name)), .slice A1 p_t.Cols.length c1, .slice A2 p_t.Idxs.length c2] ∧ RdS w143 (Iv 0 w.heap.size) (RF e_Str) 1 A1 p_t.Cols.length c1 p_t.Cols ∧ RdS w143 (Iv 0 w.heap.size) (RF e_Idx) 3 A2 p_t.Idxs.length c2 p_t.Idxs ∧ Ex w w143 ∧ x140.length ≤ p_t.Name.length + 1 + (g_strings_Join p_t.Cols ([44] : Str)).length + 1 + 8589934592 * (k91 - 0) ∧ loopM (B_i_tableText_0 p_t) (p_t.Idxs.length - k91) k91 (x140) = loopM (B_i_tableText_0 p_t) (p_t.Idxs.length - 0) 0 (((p_t.Name ++ ([40] : Str)) ++ (g_strings_Join p_t.Cols ([44] : Str))) ++ ([41] : Str))) (p_t.Idxs.length - 0) ?_ ?_)))))))
  ·exact ⟨0, ((p_t.Name ++ ([40] : Str)) ++ (g_strings_Join p_t.Cols ([44] : Str))) ++ ([41] : Str), rfl, oM, Nat.le_refl _, rfl, rfl, rfl, rfl, rfl, q90, (RdS.ex gS q14 hE87), (RdS.ex gI (RdS.ex gI h2 hE12) hE87), (Ex.trans (Ex.trans (Ex.refl w) hE12) hE87), (by first | (simp; done) | (first | omega | (simp only [lN, toS_length]; omega))), rfl⟩
  ·rintro m149 L150 w151 ⟨k91, x140, rfl, hk152, hsz154, hl155, hl156, hl157, hl158, hl159, hf160, hf161, hf162, hf163, hln164, hI153⟩
   refine CW.sub (Sub.cons hl155 (Sub.cons hl156 (Sub.cons hl157 (Sub.cons hl158 (Sub.cons hl159 (Sub.nil _)))))) ?_
   have hf160z := Box.lt hf160
   have hf163z := Ex.size hf163
   have hbg165 := RdS.big hf162
   rcases Nat.lt_or_ge k91 p_t.Idxs.length with hlt166 | hlt166
   ·have hgi := gt_idx pre0 hlt166
    refine cR (sd rfl (yl_lss rfl rfl rfl (dn (CW.seq (CW.cond_t rfl (lt_t hlt166) (CW.skip (tn ?_)))))))
    refine CW.seq (CW.block (cR ?_))
    obtain ⟨eb167, eo167, _, eA167, _, ebl167, _, eR167, eC167⟩ := RdS.aD hf162 d_Idx (i := k91)
    obtain rfl := eR167
    have eC167 : Cells w151 eb167 (eo167 + k91 * 3) [.string (bs ((p_t.Idxs.getD k91 d_Idx).Name)), .int .i64 ((p_t.Idxs.getD k91 d_Idx).Col), .int .i64 ((p_t.Idxs.getD k91 d_Idx).Stage)] := eC167
    refine sd rfl (yl_ixN un24 ty35 rfl rfl rfl eA167 (sd rfl (yl_loadN ty35 rfl rfl eC167 rfl (sd rfl (yB ty35 (cs := [.string (bs (([] : Str))), .int .i64 (0), .int .i64 (0)]) rfl rfl ?_)))))
    intro b168 w169 hs170 hz171 hB172 hE173
    refine SeqR.u rfl rfl (yl_store (vs := [.string (bs ((p_t.Idxs.getD k91 d_Idx).Name)), .int .i64 ((p_t.Idxs.getD k91 d_Idx).Col), .int .i64 ((p_t.Idxs.getD k91 d_Idx).Stage)]) ty35 rfl rfl rfl rfl rfl rfl hB172 (nb rfl) ?_)
    intro w174 hB175 hO176
    have hB175 : Box w174 b168 35 [.string (bs ((p_t.Idxs.getD k91 d_Idx).Name)), .int .i64 ((p_t.Idxs.getD k91 d_Idx).Col), .int .i64 ((p_t.Idxs.getD k91 d_Idx).Stage)] := hB175
    have hO176z := hO176.size
    refine dn ?_
    have hol177 : ((p_t.Idxs.getD k91 d_Idx).Name).length ≤ 1073741824 := (okL.getD o3.2.2 ok_d_Idx _)
    have hol178 : ((p_t.Idxs.getD k91 d_Idx).Name).length ≤ 1073741824 := (okL.getD o3.2.2 ok_d_Idx _)
    have q180 := Box.only (Box.ex hf160 hE173) hO176 oM
    have q182 := RdS.only gS (RdS.ex gS hf161 hE173) hO176 (by simp only [Iv]; omega)
    obtain ⟨eb183, eo183, _, eA183, _, ebl183, _, eR183, eC183⟩ := RdS.atD q182 d_Str (i := ((p_t.Idxs.getD k91 d_Idx).Col).toNat) Bo
    obtain rfl := eR183
    have eC183 : Cells w174 eb183 (eo183 + (((p_t.Idxs.getD k91 d_Idx).Col).toNat) * 1) [.string (bs ((p_t.Cols.getD (((p_t.Idxs.getD k91 d_Idx).Col).toNat) d_Str)))] := eC183
    have hol184 : ((p_t.Idxs.getD k91 d_Idx).Name).length ≤ 1073741824 := (okL.getD o3.2.2 ok_d_Idx _)
    have hol185 : (p_t.Cols.getD (((p_t.Idxs.getD k91 d_Idx).Col).toNat) d_Str).length ≤ 1073741824 := (okL.getD o3.2.1 ok_d_Str _)
    have hol186 : ((p_t.Idxs.getD k91 d_Idx).Name).length ≤ 1073741824 := (okL.getD o3.2.2 ok_d_Idx _)
    have hol187 : (p_t.Cols.getD (((p_t.Idxs.getD k91 d_Idx).Col).toNat) d_Str).length ≤ 1073741824 := (okL.getD o3.2.1 ok_d_Str _)
    have hol190 : ((p_t.Idxs.getD k91 d_Idx).Name).length ≤ 1073741824 := (okL.getD o3.2.2 ok_d_Idx _)
    have hol191 : (p_t.Cols.getD (((p_t.Idxs.getD k91 d_Idx).Col).toNat) d_Str).length ≤ 1073741824 := (okL.getD o3.2.1 ok_d_Str _)
    have hol192 : ((p_t.Idxs.getD k91 d_Idx).Name).length ≤ 1073741824 := (okL.getD o3.2.2 ok_d_Idx _)
    have hol193 : (p_t.Cols.getD (((p_t.Idxs.getD k91 d_Idx).Col).toNat) d_Str).length ≤ 1073741824 := (okL.getD o3.2.1 ok_d_Str _)
    have hrf194 := rf_Itoa ((p_t.Idxs.getD k91 d_Idx).Stage)
    refine CW.drawsI 19 (vgetI [DetI (.string (bs (x140))), DetI (.pointer (some ⟨b168, 0 + 0, none⟩)), DetI (.string (bs ((p_t.Idxs.getD k91 d_Idx).Name))), DetI (.string (bs (([32] : Str) ++ ((p_t.Idxs.getD k91 d_Idx).Name)))), DetI (.string (bs ((([32] : Str) ++ ((p_t.Idxs.getD k91 d_Idx).Name)) ++ ([47] : Str)))), DetI (.pointer (some ⟨b7, 0 + 1, none⟩)), DetI (.slice A1 p_t.Cols.length c1), DetI (.pointer (some ⟨b168, 0 + 1, none⟩)), DetI (.int .i64 ((p_t.Idxs.getD k91 d_Idx).Col)), DetI (.pointer (some ⟨eb183, eo183 + (((p_t.Idxs.getD k91 d_Idx).Col).toNat) * 1, none⟩)), DetI (.string (bs ((p_t.Cols.getD (((p_t.Idxs.getD k91 d_Idx).Col).toNat) d_Str)))), DetI (.string (bs (((([32] : Str) ++ ((p_t.Idxs.getD k91 d_Idx).Name)) ++ ([47] : Str)) ++ (p_t.Cols.getD (((p_t.Idxs.getD k91 d_Idx).Col).toNat) d_Str)))), DetI (.string (bs ((((([32] : Str) ++ ((p_t.Idxs.getD k91 d_Idx).Name)) ++ ([47] : Str)) ++ (p_t.Cols.getD (((p_t.Idxs.getD k91 d_Idx).Col).toNat) d_Str)) ++ ([47] : Str)))), DetI (.pointer (some ⟨b168, 0 + 2, none⟩)), DetI (.int .i64 ((p_t.Idxs.getD k91 d_Idx).Stage)), fun lo hi v wq => v = .string (bs ((g_strconv_Itoa ((p_t.Idxs.getD k91 d_Idx).Stage)))) ∧ okS (g_strconv_Itoa ((p_t.Idxs.getD k91 d_Idx).Stage)), DetI (.string (bs (((((([32] : Str) ++ ((p_t.Idxs.getD k91 d_Idx).Name)) ++ ([47] : Str)) ++ (p_t.Cols.getD (((p_t.Idxs.getD k91 d_Idx).Col).toNat) d_Str)) ++ ([47] : Str)) ++ (g_strconv_Itoa ((p_t.Idxs.getD k91 d_Idx).Stage))))), DetI (.string (bs (x140 ++ (((((([32] : Str) ++ ((p_t.Idxs.getD k91 d_Idx).Name)) ++ ([47] : Str)) ++ (p_t.Cols.getD (((p_t.Idxs.getD k91 d_Idx).Col).toNat) d_Str)) ++ ([47] : Str)) ++ (g_strconv_Itoa ((p_t.Idxs.getD k91 d_Idx).Stage)))))), DetI (.string (bs (x140 ++ (((((([32] : Str) ++ ((p_t.Idxs.getD k91 d_Idx).Name)) ++ ([47] : Str)) ++ (p_t.Cols.getD (((p_t.Idxs.getD k91 d_Idx).Col).toNat) d_Str)) ++ ([47] : Str)) ++ (g_strconv_Itoa ((p_t.Idxs.getD k91 d_Idx).Stage))))))]) Tryz.follows rfl rfl rfl rfl rfl rfl (vgetI_stable ⟨StableI.det _, StableI.det _, StableI.det _, StableI.det _, StableI.det _, StableI.det _, StableI.det _, StableI.det _, StableI.det _, StableI.det _, StableI.det _, StableI.det _, StableI.det _, StableI.det _, StableI.det _, (fun _ _ _ _ _ ⟨hv, ho189⟩ e => ⟨hv, ho189⟩), StableI.det _, StableI.det _, StableI.det _, trivial⟩) ⟨?_, ?_, ?_, ?_, ?_, ?_, ?_, ?_, ?_, ?_, ?_, ?_, ?_, ?_, ?_, ?_, ?_, ?_, ?_, trivial⟩ ?_
    ·exact oI rfl fun h => yM rfl (h.old 3 _ rfl rfl) kI
    ·exact oI rfl fun h => yl_fieldAddr fd35_0 rfl (h.old 5 _ rfl rfl) kI
    ·exact oI rfl fun h => yl_load1 ty9 rfl (h.dt 1 22 rfl rfl rfl) (((Box.ex hB175 h.ex).cell 0).trans rfl) kI
    ·intro L211 w212 hi213
     have hE214 := hi213.ex
     have hE214z := Ex.size hE214
     have hol216 : ((p_t.Idxs.getD k91 d_Idx).Name).length ≤ 1073741824 := (okL.getD o3.2.2 ok_d_Idx _)
     exact os rfl ((yl_sadd (a := ([32] : Str)) (b := ((p_t.Idxs.getD k91 d_Idx).Name)) rfl rfl (hi213.dt 2 23 rfl rfl rfl) Bl kI))
    ·intro L217 w218 hi219
     have hE220 := hi219.ex
     have hE220z := Ex.size hE220
     have hol222 : ((p_t.Idxs.getD k91 d_Idx).Name).length ≤ 1073741824 := (okL.getD o3.2.2 ok_d_Idx _)
     exact os rfl ((yl_sadd (a := (([32] : Str) ++ ((p_t.Idxs.getD k91 d_Idx).Name))) (b := ([47] : Str)) rfl (hi219.dt 3 24 rfl rfl rfl) rfl Bl kI))
    ·exact oI rfl fun h => yl_fieldAddr fd26_1 rfl (h.old 1 _ rfl rfl) kI
    ·exact oI rfl fun h => yl_load1 ty23 rfl (h.dt 5 26 rfl rfl rfl) (((Box.ex q180 h.ex).cell 1).trans rfl) kI
    ·exact oI rfl fun h => yl_fieldAddr fd35_1 rfl (h.old 5 _ rfl rfl) kI
    ·exact oI rfl fun h => yl_load1 ty3 rfl (h.dt 7 28 rfl rfl rfl) (((Box.ex hB175 h.ex).cell 1).trans rfl) kI
    ·intro L245 w246 hi247
     have hE248 := hi247.ex
     have hE248z := Ex.size hE248
     exact os rfl ((yl_indexAddr un23 ty9 rfl (hi247.dt 6 27 rfl rfl rfl) (hi247.dt 8 29 rfl rfl rfl) eA183 Bo Bo kI))
    ·exact oI rfl fun h => yl_load1 ty9 rfl (h.dt 9 30 rfl rfl rfl) ((Cells.ex eC183 h.ex) 0 _ rfl) kI
    ·intro L257 w258 hi259
     have hE260 := hi259.ex
     have hE260z := Ex.size hE260
     have hol263 : ((p_t.Idxs.getD k91 d_Idx).Name).length ≤ 1073741824 := (okL.getD o3.2.2 ok_d_Idx _)
     have hol264 : (p_t.Cols.getD (((p_t.Idxs.getD k91 d_Idx).Col).toNat) d_Str).length ≤ 1073741824 := (okL.getD o3.2.1 ok_d_Str _)
     exact os rfl ((yl_sadd (a := ((([32] : Str) ++ ((p_t.Idxs.getD k91 d_Idx).Name)) ++ ([47] : Str))) (b := (p_t.Cols.getD (((p_t.Idxs.getD k91 d_Idx).Col).toNat) d_Str)) rfl (hi259.dt 4 25 rfl rfl rfl) (hi259.dt 10 31 rfl rfl rfl) Bl kI))
    ·intro L265 w266 hi267
     have hE268 := hi267.ex
     have hE268z := Ex.size hE268
     have hol270 : ((p_t.Idxs.getD k91 d_Idx).Name).length ≤ 1073741824 := (okL.getD o3.2.2 ok_d_Idx _)
     have hol271 : (p_t.Cols.getD (((p_t.Idxs.getD k91 d_Idx).Col).toNat) d_Str).length ≤ 1073741824 := (okL.getD o3.2.1 ok_d_Str _)
     exact os rfl ((yl_sadd (a := (((([32] : Str) ++ ((p_t.Idxs.getD k91 d_Idx).Name)) ++ ([47] : Str)) ++ (p_t.Cols.getD (((p_t.Idxs.getD k91 d_Idx).Col).toNat) d_Str))) (b := ([47] : Str)) rfl (hi267.dt 11 32 rfl rfl rfl) rfl Bl kI))
    ·exact oI rfl fun h => yl_fieldAddr fd35_2 rfl (h.old 5 _ rfl rfl) kI
    ·exact oI rfl fun h => yl_load1 ty3 rfl (h.dt 13 34 rfl rfl rfl) (((Box.ex hB175 h.ex).cell 2).trans rfl) kI
    ·intro L283 w284 hi285
     have hE286 := hi285.ex
     have hE286z := Ex.size hE286
     refine OpR.op' rfl (yC en66 rfl (oc (hi285.dt 14 35 rfl rfl rfl) oz) (Cal.mono (c_g_strconv_Itoa ((p_t.Idxs.getD k91 d_Idx).Stage) Bo) ?_))
     rintro v290 w288 ⟨rfl, ho289, hE291⟩
     exact ⟨⟨rfl, ho289⟩, hE291⟩
    ·intro L292 w293 hi294
     have hE295 := hi294.ex
     have hE295z := Ex.size hE295
     obtain ⟨lo298, hh299, _, hx297, hr300, hr301, hr302, rfl, h303⟩ := hi294.dep 15 36 rfl rfl
     have hol304 : ((p_t.Idxs.getD k91 d_Idx).Name).length ≤ 1073741824 := (okL.getD o3.2.2 ok_d_Idx _)
     have hol305 : (p_t.Cols.getD (((p_t.Idxs.getD k91 d_Idx).Col).toNat) d_Str).length ≤ 1073741824 := (okL.getD o3.2.1 ok_d_Str _)
     have hol306 : (g_strconv_Itoa ((p_t.Idxs.getD k91 d_Idx).Stage)).length ≤ 1073741824 := h303
     exact os rfl ((yl_sadd (a := ((((([32] : Str) ++ ((p_t.Idxs.getD k91 d_Idx).Name)) ++ ([47] : Str)) ++ (p_t.Cols.getD (((p_t.Idxs.getD k91 d_Idx).Col).toNat) d_Str)) ++ ([47] : Str))) (b := (g_strconv_Itoa ((p_t.Idxs.getD k91 d_Idx).Stage))) rfl (hi294.dt 12 33 rfl rfl rfl) hx297 Bl kI))
    ·intro L307 w308 hi309
     have hE310 := hi309.ex
     have hE310z := Ex.size hE310
     have hol313 : ((p_t.Idxs.getD k91 d_Idx).Name).length ≤ 1073741824 := (okL.getD o3.2.2 ok_d_Idx _)
     have hol314 : (p_t.Cols.getD (((p_t.Idxs.getD k91 d_Idx).Col).toNat) d_Str).length ≤ 1073741824 := (okL.getD o3.2.1 ok_d_Str _)
     exact os rfl ((yl_sadd (a := x140) (b := (((((([32] : Str) ++ ((p_t.Idxs.getD k91 d_Idx).Name)) ++ ([47] : Str)) ++ (p_t.Cols.getD (((p_t.Idxs.getD k91 d_Idx).Col).toNat) d_Str)) ++ ([47] : Str)) ++ (g_strconv_Itoa ((p_t.Idxs.getD k91 d_Idx).Stage)))) rfl (hi309.dt 0 21 rfl rfl rfl) (hi309.dt 16 37 rfl rfl rfl) Bl kI))
    ·exact oI rfl fun h => yA rfl (h.dt 17 38 rfl rfl rfl) kI
    ·intro fl323 fh324 L320 w321 hp322
     have hE325 := hp322.ex
     have hE325z := Ex.size hE325
     refine SeqR.done (bn (tn (CW.sub (sC 1 (hp322.old 1 _ rfl rfl) (sC 3 (hp322.nt 18 3 rfl rfl rfl) (sC 15 (hp322.old 15 _ rfl rfl) (sC 16 (hp322.old 16 _ rfl rfl) (sC 17 (hp322.old 17 _ rfl rfl) (Sub.nil _)))))) (CW.region (sd rfl (yl_inc rfl rfl rfl oM (sM rfl (dn ?_))))))))
     have hB331 : B_i_tableText_0 p_t k91 (x140) = .cont (x140 ++ (((((([32] : Str) ++ ((p_t.Idxs.getD k91 d_Idx).Name)) ++ ([47] : Str)) ++ (p_t.Cols.getD (((p_t.Idxs.getD k91 d_Idx).Col).toNat) d_Str)) ++ ([47] : Str)) ++ (g_strconv_Itoa ((p_t.Idxs.getD k91 d_Idx).Stage)))) := by simp only [B_i_tableText_0, cL]
     exact ⟨p_t.Idxs.length - (k91 + 1), oM, k91 + 1, x140 ++ (((((([32] : Str) ++ ((p_t.Idxs.getD k91 d_Idx).Name)) ++ ([47] : Str)) ++ (p_t.Cols.getD (((p_t.Idxs.getD k91 d_Idx).Col).toNat) d_Str)) ++ ([47] : Str)) ++ (g_strconv_Itoa ((p_t.Idxs.getD k91 d_Idx).Stage))), rfl, hlt166, oM, rfl, rfl, rfl, rfl, rfl, (Box.ex q180 hE325), (RdS.ex gS q182 hE325), (RdS.ex gI (RdS.only gI (RdS.ex gI hf162 hE173) hO176 (by simp only [Iv]; omega)) hE325), (Ex.trans (Below.only (Ex.trans hf163 hE173) hO176 oM) hE325), Bl, (loopM.cont hlt166 hB331).symm.trans hI153⟩
   ·refine cR (sd rfl (yl_lss rfl rfl rfl (dn (CW.seq (CW.cond_f rfl (lt_f hlt166) (CW.exit (tx ?_)))))))
    refine tx ?_
    have hL340 : loopM (B_i_tableText_0 p_t) (p_t.Idxs.length - 0) 0 (((p_t.Name ++ ([40] : Str)) ++ (g_strings_Join p_t.Cols ([44] : Str))) ++ ([41] : Str)) = .done (x140) := hI153.symm.trans (loopM.stop hlt166)
    refine bx (tn (cR (sM rfl (sA rfl (dn (CW.ret ?_))))))
    refine rr rfl (.cons rfl .nil) ?_
    have hM341 : (i_tableText p_t) = (x140) := by simp only [i_tableText, hL340, cL]
    rw [hM341]
    exact ⟨rfl, hf163⟩
theorem c_i_TableText {A1 : Option Addr} {c1 : Nat} {A2 : Option Addr} {c2 : Nat} {w : World} (p_t : DTable) (h1 : RdS w (Iv 0 w.heap.size) (RF e_Str) 1 A1 p_t.Cols.length c1 p_t.Cols) (h2 : RdS w (Iv 0 w.heap.size) (RF e_Idx) 3 A2 p_t.Idxs.length c2 p_t.Idxs) (o3 : ok_Table p_t) : Cal Tryz.prog 16 #[.agg #[.string (bs (p_t.Name)), .slice A1 p_t.Cols.length c1, .slice A2 p_t.Idxs.length c2]] w fun v w' => v = .tuple #[.string (bs ((i_TableText p_t).1)), .bool ((i_TableText p_t).2)] ∧ Ex w w' := by
 refine Cal.of func16 rfl ntmps16 rfl (cR (sd rfl (yl_box rfl rfl rfl ?_)))
 intro b7 w8 hs9 hz10 hB11 hE12
 refine sA rfl (sA rfl (dn (CW.seq (cR (sd rfl (yl_loadN ty26 rfl rfl (hB11.cells (n := 3) rfl) rfl ?_))))))
 have q13 := RdS.ex gS h1 hE12
 have q14 := RdS.ex gI h2 hE12
 refine sd rfl (yC en13 rfl (oc rfl oz) (Cal.mono (c_i_GoodTable p_t (RdS.up q13 gS) (RdS.up q14 gI) o3) ?_))
 rintro v16 w15 ⟨rfl, hE17⟩
 refine sd rfl (yl_not rfl rfl (dn (bcase (i_GoodTable p_t) (fun hb18 => ?_) (fun hb18 => ?_))))
 ·have hb18p := f_i_GoodTable hb18
  refine CW.cond_f rfl (not_t hb18) (CW.skip (tn (cR (sd rfl (yl_loadN ty26 rfl rfl ((Box.ex hB11 hE17).cells (n := 3) rfl) rfl (sd rfl (yC en43 rfl (oc rfl oz) (Cal.mono (c_i_tableText p_t (RdS.up (RdS.ex gS q13 hE17) gS) (RdS.up (RdS.ex gI q14 hE17) gI) o3 (GoodTable_eq _ ▸ hb18)) ?_))))))))
  rintro v23 w22 ⟨rfl, hE24⟩
  refine sA rfl (sA rfl (dn (CW.ret (rr rfl (.cons rfl (.cons rfl .nil)) ?_))))
  have hM25 : (i_TableText p_t) = (((i_tableText p_t), true)) := by simp only [i_TableText, hb18, cL]
  rw [hM25]
  exact ⟨rfl, (Ex.trans (Ex.trans (Ex.trans (Ex.refl w) hE12) hE17) hE24)⟩
 ·refine CW.cond_t rfl (not_f hb18) (cR (sA rfl (sA rfl (dn (CW.ret (tr ?_))))))
  refine rr rfl (.cons rfl (.cons rfl .nil)) ?_
  have hM29 : (i_TableText p_t) = ((([] : Str), false)) := by simp only [i_TableText, hb18, cL]
  rw [hM29]
  exact ⟨rfl, (Ex.trans (Ex.trans (Ex.refl w) hE12) hE17)⟩
theorem c_g_internal_stringslite_IndexByte {w : World} (p_s : Str) (p_c : Int) (o1 : okS p_s) : Cal Tryz.prog 91 #[.string (bs (p_s)), .int .u8 (p_c)] w fun v w' => v = .int .i64 ((g_internal_stringslite_IndexByte p_s p_c)) ∧ Ex w w' := by
 refine Cal.of func91 rfl ntmps91 rfl (cR (sA rfl (dn (cR (sM rfl ?_)))))
 refine sM rfl (sd rfl (yl_idxB (s := p_s) (c := p_c) Tryz.ex109 rfl (oc rfl (oc rfl oz)) (sA rfl (dn (CW.ret (rr rfl (.cons rfl .nil) ?_))))))
 have hM3 : (g_internal_stringslite_IndexByte p_s p_c) = (idxB p_s p_c) := by simp only [g_internal_stringslite_IndexByte, cL]
 rw [hM3]
 exact ⟨rfl, (Ex.refl w)⟩
theorem c_g_internal_bytealg_Cutover {w : World} (p_n : Int) : Cal Tryz.prog 93 #[.int .i64 (p_n)] w fun v w' => v = .int .i64 ((g_internal_bytealg_Cutover p_n)) ∧ Ex w w' := by
 refine Cal.of func93 rfl ntmps93 rfl (cR (sA rfl (dn (cR (sM rfl ?_)))))
 refine sd rfl (yl_add rfl rfl rfl (sd rfl (yl_quo rfl rfl rfl (by decide) (sA rfl (dn (CW.ret (rr rfl (.cons rfl .nil) ?_)))))))
 have hM1 : (g_internal_bytealg_Cutover p_n) = (IntKind.wrap .i64 (Int.tdiv (IntKind.wrap .i64 (p_n + 16)) 8)) := by simp only [g_internal_bytealg_Cutover, cL]
 rw [hM1]
 exact ⟨rfl, (Ex.refl w)⟩
theorem c_g_internal_stringslite_Index {w : World} (p_0 : Str) (p_1 : Str) (o1 : okS p_0) (o2 : okS p_1) (pre0 : p_1.length = 1) : Cal Tryz.prog 82 #[.string (bs (p_0)), .string (bs (p_1))] w fun v w' => v = .int .i64 ((g_internal_stringslite_Index p_0 p_1)) ∧ Ex w w' := by
 have hol3 : p_0.length ≤ 1073741824 := o1
 have hol4 : p_1.length ≤ 1073741824 := o2
 refine Cal.of func82 rfl ntmps82 rfl (cR (sA rfl (dn (cR (sM rfl ?_)))))
 refine sd rfl (yl_slen un9 (a := p_1) rfl rfl (sA rfl (dn (CW.seq (CW.block (cR (sM rfl ?_)))))))
 refine sd rfl (yl_eql rfl rfl rfl (sM rfl (sy rfl rfl (decide_eq_false oM) (yM rfl rfl (sy rfl rfl (decide_eq_false oM) (yM rfl rfl (sy rfl rfl (decide_eq_false oM) (yl_seql (a := p_1) (b := p_0) rfl rfl rfl (sd rfl (yl_pick_f rfl rfl (decide_eq_false oM) rfl (sA rfl (dn ?_))))))))))))
 refine bcase (p_1 == p_0) (fun hb5 => ?_) (fun hb5 => ?_)
 ·refine CW.cond_t rfl hb5 (cR (sA rfl (dn (CW.ret (br (tr ?_))))))
  refine rr rfl (.cons rfl .nil) ?_
  have hM6 : (g_internal_stringslite_Index p_0 p_1) = (0) := by simp only [g_internal_stringslite_Index, hb5, cL]
  rw [hM6]
  exact ⟨rfl, (Ex.refl w)⟩
 ·refine CW.cond_f rfl hb5 (cR (sM rfl (sd rfl (yl_eql rfl rfl rfl (sA rfl (dn (CW.cond_t rfl (decide_eq_true oM) ?_)))))))
  refine cR (sM rfl (sM rfl (sd rfl (yl_sindexN un9 (a := p_1) rfl rfl rfl Bo (sd rfl (yC en91 rfl (oc rfl (oc rfl oz)) (Cal.mono (c_g_internal_stringslite_IndexByte p_0 ((p_1.getD 0 0).toNat : Int) o1) ?_)))))))
  rintro v8 w7 ⟨rfl, hE9⟩
  have hE9z := Ex.size hE9
  refine sA rfl (dn (CW.ret (br (tr (rr rfl (.cons rfl .nil) ?_)))))
  have hM10 : (g_internal_stringslite_Index p_0 p_1) = ((g_internal_stringslite_IndexByte p_0 ((p_1.getD 0 0).toNat : Int))) := by simp only [g_internal_stringslite_Index, hb5, cL]
  rw [hM10]
  exact ⟨rfl, (Ex.trans (Ex.refl w) hE9)⟩
theorem c_g_internal_stringslite_Cut {w : World} (p_s : Str) (p_sep : Str) (o1 : okS p_s) (o2 : okS p_sep) (pre0 : p_sep.length = 1) : Cal Tryz.prog 67 #[.string (bs (p_s)), .string (bs (p_sep))] w fun v w' => v = .tuple #[.string (bs ((g_internal_stringslite_Cut p_s p_sep).1)), .string (bs ((g_internal_stringslite_Cut p_s p_sep).2.1)), .bool ((g_internal_stringslite_Cut p_s p_sep).2.2)] ∧ okS ((g_internal_stringslite_Cut p_s p_sep).1) ∧ okS ((g_internal_stringslite_Cut p_s p_sep).2.1) ∧ Ex w w' := by
 have hol3 : p_s.length ≤ 1073741824 := o1
 have hol4 : p_sep.length ≤ 1073741824 := o2
 refine Cal.of func67 rfl ntmps67 rfl (cR (sA rfl (sA rfl (sA rfl (dn (CW.seq ?_))))))
 refine cR (sM rfl (sM rfl (sd rfl (yC en82 rfl (oc rfl (oc rfl oz)) (Cal.mono (c_g_internal_stringslite_Index p_s p_sep o1 o2 Bo) ?_)))))
 rintro v6 w5 ⟨rfl, hE7⟩
 have hE7z := Ex.size hE7
 have hrf8 := rf_Index (s := p_s) (sub := p_sep) Bo
 refine sA rfl (dn (cR (sM rfl (sd rfl (yl_geq rfl rfl rfl (dn ?_))))))
 refine bcase (decide (0 ≤ (g_internal_stringslite_Index p_s p_sep))) (fun hb9 => ?_) (fun hb9 => ?_)
 ·have hb9p := dec_t hb9
  have hb9q := f_Cut o1 pre0 hb9
  refine CW.cond_t rfl hb9 (CW.seq (drI 12 [.string (bs (p_s)), .int .i64 ((g_internal_stringslite_Index p_s p_sep)), .string (bs ((p_s.take (((g_internal_stringslite_Index p_s p_sep)).toNat)))), .string (bs (p_s)), .int .i64 ((g_internal_stringslite_Index p_s p_sep)), .string (bs (p_sep)), .int .i64 ((p_sep.length : Int)), .int .i64 (IntKind.wrap .i64 ((g_internal_stringslite_Index p_s p_sep) + (p_sep.length : Int))), .string (bs ((p_s.drop ((IntKind.wrap .i64 ((g_internal_stringslite_Index p_s p_sep) + (p_sep.length : Int))).toNat)))), .string (bs ((p_s.take (((g_internal_stringslite_Index p_s p_sep)).toNat)))), .string (bs ((p_s.drop ((IntKind.wrap .i64 ((g_internal_stringslite_Index p_s p_sep) + (p_sep.length : Int))).toNat)))), .bool (true)] Tryz.follows rfl ⟨?_, ?_, ?_, ?_, ?_, ?_, ?_, ?_, ?_, ?_, ?_, ?_, trivial⟩ ?_))
  ·exact oI rfl fun h => yM rfl (h.old 0 _ rfl rfl) kI
  ·exact oI rfl fun h => yM rfl (h.old 7 _ rfl rfl) kI
  ·intro L20 w21 hi22
   have hE23 := hi22.ex
   have hE23z := Ex.size hE23
   exact os rfl ((yl_sslice_hi un9 (a := p_s) (h := ((g_internal_stringslite_Index p_s p_sep)).toNat) rfl (hi22.dt 0 13 rfl rfl rfl) (toNat_op (hi22.dt 1 14 rfl rfl rfl) oM) oM kI))
  ·exact oI rfl fun h => yM rfl (h.old 0 _ rfl rfl) kI
  ·exact oI rfl fun h => yM rfl (h.old 7 _ rfl rfl) kI
  ·exact oI rfl fun h => yM rfl (h.old 1 _ rfl rfl) kI
  ·exact oI rfl fun h => yl_slen un9 (a := p_sep) rfl (h.dt 5 18 rfl rfl rfl) kI
  ·exact oI rfl fun h => yl_add rfl (h.dt 4 17 rfl rfl rfl) (h.dt 6 19 rfl rfl rfl) kI
  ·intro L52 w53 hi54
   have hE55 := hi54.ex
   have hE55z := Ex.size hE55
   exact os rfl ((yl_sslice_lo un9 (a := p_s) (l := (IntKind.wrap .i64 ((g_internal_stringslite_Index p_s p_sep) + (p_sep.length : Int))).toNat) rfl (hi54.dt 3 16 rfl rfl rfl) (toNat_op (hi54.dt 7 20 rfl rfl rfl) oM) oM kI))
  ·exact oI rfl fun h => yA rfl (h.dt 2 15 rfl rfl rfl) kI
  ·exact oI rfl fun h => yA rfl (h.dt 8 21 rfl rfl rfl) kI
  ·exact oI rfl fun _ => yA rfl rfl kI
  ·intro fl75 fh76 L72 w73 hp74
   have hE77 := hp74.ex
   have hE77z := Ex.size hE77
   refine dn (CW.sub (sC 4 (hp74.nt 9 4 rfl rfl rfl) (sC 5 (hp74.nt 10 5 rfl rfl rfl) (sC 6 (hp74.nt 11 6 rfl rfl rfl) (Sub.nil _)))) (CW.ret (tr (rr rfl (.cons rfl (.cons rfl (.cons rfl .nil))) ?_))))
   have hM81 : (g_internal_stringslite_Cut p_s p_sep) = (((p_s.take (((g_internal_stringslite_Index p_s p_sep)).toNat)), (p_s.drop ((IntKind.wrap .i64 ((g_internal_stringslite_Index p_s p_sep) + (p_sep.length : Int))).toNat)), true)) := by simp only [g_internal_stringslite_Cut, hb9, cL]
   rw [hM81]
   exact ⟨rfl, (okS.take o1 _), (okS.drop o1 _), (Ex.trans (Ex.trans (Ex.refl w) hE7) hE77)⟩
 ·have hb9p := dec_f hb9
  refine CW.cond_f rfl hb9 (CW.skip (tn (cR (sM rfl (sA rfl (sA rfl (sA rfl ?_)))))))
  refine dn (CW.ret (rr rfl (.cons rfl (.cons rfl (.cons rfl .nil))) ?_))
  have hM84 : (g_internal_stringslite_Cut p_s p_sep) = ((p_s, ([] : Str), false)) := by simp only [g_internal_stringslite_Cut, hb9, cL]
  rw [hM84]
  exact ⟨rfl, o1, (okS.lit rfl), (Ex.trans (Ex.refl w) hE7)⟩
theorem c_g_strings_Cut {w : World} (p_s : Str) (p_sep : Str) (o1 : okS p_s) (o2 : okS p_sep) (pre0 : p_sep.length = 1) : Cal Tryz.prog 44 #[.string (bs (p_s)), .string (bs (p_sep))] w fun v w' => v = .tuple #[.string (bs ((g_strings_Cut p_s p_sep).1)), .string (bs ((g_strings_Cut p_s p_sep).2.1)), .bool ((g_strings_Cut p_s p_sep).2.2)] ∧ okS ((g_strings_Cut p_s p_sep).1) ∧ okS ((g_strings_Cut p_s p_sep).2.1) ∧ Ex w w' := by
 have hol3 : p_s.length ≤ 1073741824 := o1
 have hol4 : p_sep.length ≤ 1073741824 := o2
 refine Cal.of func44 rfl ntmps44 rfl (cR (sA rfl (sA rfl (sA rfl (dn (CW.seq ?_))))))
 refine CW.region (sM rfl (sM rfl (sd rfl (yC en67 rfl (oc rfl (oc rfl oz)) (Cal.mono (c_g_internal_stringslite_Cut p_s p_sep o1 o2 Bo) ?_)))))
 rintro v8 w5 ⟨rfl, ho6, ho7, hE9⟩
 have hE9z := Ex.size hE9
 refine sd rfl (yl_extract rfl rfl rfl (sd rfl (yl_extract rfl rfl rfl (sd rfl (yl_extract rfl rfl rfl (sA rfl (sA rfl (sA rfl (dn (CW.ret ?_))))))))))
 refine rr rfl (.cons rfl (.cons rfl (.cons rfl .nil))) ?_
 have hM10 : (g_strings_Cut p_s p_sep) = (((g_internal_stringslite_Cut p_s p_sep).1, (g_internal_stringslite_Cut p_s p_sep).2.1, (g_internal_stringslite_Cut p_s p_sep).2.2)) := by simp only [g_strings_Cut, cL]
 rw [hM10]
 exact ⟨rfl, ho6, ho7, (Ex.trans (Ex.refl w) hE9)⟩
theorem c_i_ReadTable {w : World} (p_0 : Str) (o1 : okS p_0) (hgb : GB 1 2 w) : Cal Tryz.prog 17 #[.string (bs (p_0))] w fun v w' => ∃ A_1 c_1 lo_1 hi_1 A_2 c_2 lo_2 hi_2, v = .tuple #[.agg #[.string (bs ((i_ReadTable p_0).1.Name)), .slice A_1 (((i_ReadTable p_0).1.Cols).length) c_1, .slice A_2 (((i_ReadTable p_0).1.Idxs).length) c_2], .bool ((i_ReadTable p_0).2)] ∧ OwnL w' lo_1 hi_1 9 1 (RF e_Str) A_1 (((i_ReadTable p_0).1.Cols).length) c_1 ((i_ReadTable p_0).1.Cols) ∧ OwnL w' lo_2 hi_2 35 3 (RF e_Idx) A_2 (((i_ReadTable p_0).1.Idxs).length) c_2 ((i_ReadTable p_0).1.Idxs) ∧ ok_Table ((i_ReadTable p_0).1) ∧ (w.heap.size ≤ lo_1 ∧ lo_1 ≤ hi_1 ∧ hi_1 ≤ w'.heap.size) ∧ (w.heap.size ≤ lo_2 ∧ lo_2 ≤ hi_2 ∧ hi_2 ≤ w'.heap.size) ∧ (hi_1 ≤ lo_2 ∨ hi_2 ≤ lo_1) ∧ Ex w w' := by
 have hol2 : p_0.length ≤ 1073741824 := o1
 have hcut := rf_Cut p_0 ([41] : Str)
 refine Cal.of func17 rfl ntmps17 rfl (cR (sd rfl (yB ty26 (cs := [.string (bs (([] : Str))), .slice none 0 0, .slice none 0 0]) rfl rfl ?_)))
 intro b3 w4 hs5 hz6 hB7 hE8
 refine sA rfl (dn (cR (sM rfl (sd rfl (yC en44 rfl (oc rfl (oc rfl oz)) (Cal.mono (c_g_strings_Cut p_0 ([41] : Str) o1 (okS.lit rfl) rfl) ?_))))))
 rintro v12 w9 ⟨rfl, ho10, ho11, hE13⟩
 have hE13z := Ex.size hE13
 refine sM rfl (sd rfl (yl_extract rfl rfl rfl (sd rfl (yl_extract rfl rfl rfl (sd rfl (yl_extract rfl rfl rfl (sA rfl (sA rfl (sA rfl (dn ?_))))))))))
 refine cR (sM rfl (sd rfl (yC en44 rfl (oc rfl (oc rfl oz)) (Cal.mono (c_g_strings_Cut ((g_strings_Cut p_0 ([41] : Str)).1) ([40] : Str) ho10 (okS.lit rfl) rfl) ?_))))
 rintro v17 w14 ⟨rfl, ho15, ho16, hE18⟩
 have hE18z := Ex.size hE18
 refine sM rfl (sd rfl (yl_extract rfl rfl rfl (sd rfl (yl_extract rfl rfl rfl (sd rfl (yl_extract rfl rfl rfl (sA rfl (sA rfl (sA rfl (dn ?_))))))))))
 refine cR (sM rfl (sM rfl (sd rfl (yC en45 rfl (oc rfl (oc rfl oz)) (Cal.mono (c_g_strings_Split ((g_strings_Cut ((g_strings_Cut p_0 ([41] : Str)).1) ([40] : Str)).2.1) ([44] : Str) ho16 (okS.lit rfl) rfl) ?_)))))
 rintro v22 w19 ⟨A20, c20, lo20, hi20, rfl, h20, ho21, hrn24, hE23⟩
 have hE23z := Ex.size hE23
 have hrf25 := rf_Split ((g_strings_Cut ((g_strings_Cut p_0 ([41] : Str)).1) ([40] : Str)).2.1) ([44] : Str)
 refine sd rfl (yl_build (cs := [.string (bs ((g_strings_Cut ((g_strings_Cut p_0 ([41] : Str)).1) ([40] : Str)).1)), .slice A20 ((g_strings_Split ((g_strings_Cut ((g_strings_Cut p_0 ([41] : Str)).1) ([40] : Str)).2.1) ([44] : Str)).length) c20, .slice none 0 0]) rfl (oc rfl (oc rfl oz)) (by kernel_rfl) (sd rfl (yB ty26 (cs := [.string (bs (([] : Str))), .slice none 0 0, .slice none 0 0]) rfl rfl ?_)))
 intro b26 w27 hs28 hz29 hB30 hE31
 refine SeqR.u rfl rfl (yl_store (vs := [.string (bs ((g_strings_Cut ((g_strings_Cut p_0 ([41] : Str)).1) ([40] : Str)).1)), .slice A20 ((g_strings_Split ((g_strings_Cut ((g_strings_Cut p_0 ([41] : Str)).1) ([40] : Str)).2.1) ([44] : Str)).length) c20, .slice none 0 0]) ty26 rfl rfl rfl rfl rfl rfl hB30 (nb rfl) ?_)
 intro w32 hB33 hO34
 have hB33 : Box w32 b26 26 [.string (bs ((g_strings_Cut ((g_strings_Cut p_0 ([41] : Str)).1) ([40] : Str)).1)), .slice A20 ((g_strings_Split ((g_strings_Cut ((g_strings_Cut p_0 ([41] : Str)).1) ([40] : Str)).2.1) ([44] : Str)).length) c20, .slice none 0 0] := hB33
 have hO34z := hO34.size
 refine dn (CW.seq (cR (sM rfl (sd rfl (yC en45 rfl (oc rfl (oc rfl oz)) (Cal.mono (c_g_strings_Split ((g_strings_Cut p_0 ([41] : Str)).2.1) ([32] : Str) ho11 (okS.lit rfl) rfl) ?_))))))
 rintro v38 w35 ⟨A36, c36, lo36, hi36, rfl, h36, ho37, hrn40, hE39⟩
 have hE39z := Ex.size hE39
 have hrf41 := rf_Split ((g_strings_Cut p_0 ([41] : Str)).2.1) ([32] : Str)
 refine sd rfl (yL un23 rfl rfl (sM rfl (dn (CW.block (CW.loop (fun m115 L116 w117 => ∃ (k42 : Nat) (x110 : Bool) (x111 : List DIdx) (A112 : Option Addr) (c113 : Nat) (u114 : Nat), m115 = (g_strings_Split ((g_strings_Cut p_0 ([41] : Str)).2.1) ([32] : Str)).length - k42 ∧ k42 ≤ (g_strings_Split ((g_strings_Cut p_0 ([41] : Str)).2.1) ([32] : Str)).length ∧ w35.heap.size ≤ w117.heap.size ∧ lkp L116 0 = some (.string (bs (p_0))) ∧ lkp L116 2 = some (.pointer (some ⟨b3, 0, none⟩)) ∧ lkp L116 6 = some (.bool (x110)) ∧ lkp L116 9 = some (.bool ((g_strings_Cut ((g_strings_Cut p_0 ([41] : Str)).1) ([40] : Str)).2.2)) ∧ lkp L116 10 = some (.pointer (some ⟨b26, 0, none⟩)) ∧ lkp L116 33 = some (.slice A36 ((g_strings_Split ((g_strings_Cut p_0 ([41] : Str)).2.1) ([32] : Str)).length) c36) ∧ lkp L116 34 = some (.int .i64 (((g_strings_Split ((g_strings_Cut p_0 ([41] : Str)).2.1) ([32] : Str)).length : Int))) ∧ lkp L116 35 = some (.int .i64 ((k42 : Int))) ∧ Box w117 b3 26 [.string (bs (([] : Str))), .slice none 0 0, .slice none 0 0] ∧ Box w117 b26 26 [.string (bs ((g_strings_Cut ((g_strings_Cut p_0 ([41] : Str)).1) ([40] : Str)).1)), .slice A20 ((g_strings_Split ((g_strings_Cut ((g_strings_Cut p_0 ([41] : Str)).1) ([40] : Str)).2.1) ([44] : Str)).length) c20, .slice A112 x111.length c113] ∧ OwnL w117 lo20 hi20 9 1 (RF e_Str) A20 ((g_strings_Split ((g_strings_Cut ((g_strings_Cut p_0 ([41] : Str)).1) ([40] : Str)).2.1) ([44] : Str)).length) c20 (g_strings_Split ((g_strings_Cut ((g_strings_Cut p_0 ([41] : Str)).1) ([40] : Str)).2.1) ([44] : Str)) ∧ OwnL w117 w35.heap.size u114 35 3 (RF e_Idx) A112 x111.length c113 x111 ∧ OwnL w117 lo36 hi36 9 1 (RF e_Str) A36 ((g_strings_Split ((g_strings_Cut p_0 ([41] : Str)).2.1) ([32] : Str)).length) c36 (g_strings_Split ((g_strings_Cut p_0 ([41] : Str)).2.1) ([32] : Str)) ∧ Ex w w117 ∧ (w35.heap.size ≤ u114 ∧ u114 ≤ w117.heap.size) ∧ x111.length ≤ 0 + 1 * (k42 - 0) ∧ (∀ y ∈ x111, ok_Idx y) ∧ loopM (B_i_ReadTable_0 p_0) ((g_strings_Split ((g_strings_Cut p_0 ([41] : Str)).2.1) ([32] : Str)).length - k42) k42 (x110, x111) = loopM (B_i_ReadTable_0 p_0) ((g_strings_Split ((g_strings_Cut p_0 ([41] : Str)).2.1) ([32] : Str)).length - 0) 0 ((g_strings_Cut p_0 ([41] : Str)).2.2, ([] : List DIdx))) ((g_strings_Split ((g_strings_Cut p_0 ([41] : Str)).2.1) ([32] : Str)).length - 0) ?_ ?_)))))
 ·exact ⟨0, (g_strings_Cut p_0 ([41] : Str)).2.2, ([] : List DIdx), none, 0, w35.heap.size, rfl, oM, Nat.le_refl _, rfl, rfl, rfl, rfl, rfl, rfl, rfl, rfl, (Box.ex (Box.only (Box.ex (Box.ex (Box.ex (Box.ex hB7 hE13) hE18) hE23) hE31) hO34 oM) hE39), (Box.ex hB33 hE39), (OwnL.ex gS (OwnL.only gS (OwnL.ex gS h20 hE31) hO34 oM) hE39), (OwnL.nil w35 w35.heap.size w35.heap.size 35 3 (RF e_Idx)), h36, (Ex.trans (Below.only (Ex.trans (Ex.trans (Ex.trans (Ex.trans (Ex.trans (Ex.refl w) hE8) hE13) hE18) hE23) hE31) hO34 oM) hE39), oM, (by first | (simp; done) | (first | omega | (simp only [lN, toS_length]; omega))), okE.nil, rfl⟩
 ·rintro m135 L136 w137 ⟨k42, x110, x111, A112, c113, u114, rfl, hk138, hsz140, hl141, hl142, hl143, hl144, hl145, hl146, hl147, hl148, hf149, hf150, hf151, hf152, hf153, hf154, hu155, hln156, hok157, hI139⟩
  refine CW.sub (Sub.cons hl141 (Sub.cons hl142 (Sub.cons hl143 (Sub.cons hl144 (Sub.cons hl145 (Sub.cons hl146 (Sub.cons hl147 (Sub.cons hl148 (Sub.nil _))))))))) ?_
  have hf149z := Box.lt hf149
  have hf150z := Box.lt hf150
  have hf154z := Ex.size hf154
  have hbg158 := RdS.big (OwnL.rd gS hf153)
  rcases Nat.lt_or_ge k42 ((g_strings_Split ((g_strings_Cut p_0 ([41] : Str)).2.1) ([32] : Str)).length) with hlt160 | hlt160
  ·refine cR (sd rfl (yl_lss rfl rfl rfl (dn (CW.seq (CW.cond_t rfl (lt_t hlt160) (CW.skip (tn ?_)))))))
   refine CW.seq (CW.block (cR (sM rfl ?_)))
   obtain ⟨eb162, eo162, _, eA162, _, ebl162, _, eR162, eC162⟩ := RdS.aD (OwnL.rd gS hf153) d_Str (i := k42)
   obtain rfl := eR162
   have eC162 : Cells w137 eb162 (eo162 + k42 * 1) [.string (bs (((g_strings_Split ((g_strings_Cut p_0 ([41] : Str)).2.1) ([32] : Str)).getD k42 d_Str)))] := eC162
   refine sd rfl (yl_ixN un23 ty9 rfl rfl rfl eA162 (sd rfl (yl_load1 ty9 rfl rfl (eC162 0 _ rfl) (sA rfl (sA rfl (dn (CW.seq (cR ?_))))))))
   refine sM rfl (sd rfl (yl_eql rfl rfl rfl (dn (bcase (decide ((k42 : Int) = 0)) (fun hb163 => ?_) (fun hb163 => ?_)))))
   ·have hb163p := dec_t hb163
    refine CW.cond_t rfl hb163 (CW.exit (tx (bx (tn (CW.region (sd rfl (yl_inc rfl rfl rfl oM (sM rfl (SeqR.done ?_)))))))))
    refine tn ?_
    have hB164 : B_i_ReadTable_0 p_0 k42 (x110, x111) = .cont (x110, x111) := by simp only [B_i_ReadTable_0, hb163, cL]
    exact ⟨(g_strings_Split ((g_strings_Cut p_0 ([41] : Str)).2.1) ([32] : Str)).length - (k42 + 1), oM, k42 + 1, x110, x111, A112, c113, u114, rfl, hlt160, oM, rfl, rfl, rfl, rfl, rfl, rfl, rfl, rfl, hf149, hf150, hf151, hf152, hf153, hf154, oM, Bl, hok157, (loopM.cont hlt160 hB164).symm.trans hI139⟩
   ·have hb163p := dec_f hb163
    refine CW.cond_f rfl hb163 (CW.skip (tn (cR (sM rfl (sd rfl (yC en45 rfl (oc rfl (oc rfl oz)) (Cal.mono (c_g_strings_Split ((g_strings_Split ((g_strings_Cut p_0 ([41] : Str)).2.1) ([32] : Str)).getD k42 d_Str) ([47] : Str) (okL.getD ho37 ok_d_Str _) (okS.lit rfl) rfl) ?_)))))))
    rintro v168 w165 ⟨A166, c166, lo166, hi166, rfl, h166, ho167, hrn170, hE169⟩
    have hE169z := Ex.size hE169
    have hrf171 := rf_Split ((g_strings_Split ((g_strings_Cut p_0 ([41] : Str)).2.1) ([32] : Str)).getD k42 d_Str) ([47] : Str)
    refine sA rfl (dn (CW.seq (cR (sM rfl (sd rfl (yL un23 rfl rfl (sd rfl (yl_neq rfl rfl rfl ?_))))))))
    refine dn (bcase (decide (((g_strings_Split ((g_strings_Split ((g_strings_Cut p_0 ([41] : Str)).2.1) ([32] : Str)).getD k42 d_Str) ([47] : Str)).length : Int) = 3)) (fun hb172 => ?_) (fun hb172 => ?_))
    ·have hb172p := dec_t hb172
     refine CW.cond_f rfl (not_t hb172) (CW.skip (tn (cR (sM rfl ?_))))
     obtain ⟨eb174, eo174, _, eA174, _, ebl174, _, eR174, eC174⟩ := RdS.aD (OwnL.rd gS h166) d_Str (i := 2)
     obtain rfl := eR174
     have eC174 : Cells w165 eb174 (eo174 + 2 * 1) [.string (bs (((g_strings_Split ((g_strings_Split ((g_strings_Cut p_0 ([41] : Str)).2.1) ([32] : Str)).getD k42 d_Str) ([47] : Str)).getD 2 d_Str)))] := eC174
     refine sd rfl (yl_ixN un23 ty9 rfl rfl rfl eA174 (sd rfl (yl_load1 ty9 rfl rfl (eC174 0 _ rfl) ?_)))
     have q175 := Ex.trans hf154 hE169
     refine sd rfl (yC en46 rfl (oc rfl (oc rfl (oc rfl oz))) (Cal.mono (c_i_readInt ((g_strings_Split ((g_strings_Split ((g_strings_Cut p_0 ([41] : Str)).2.1) ([32] : Str)).getD k42 d_Str) ([47] : Str)).getD 2 d_Str) 0 3 (okL.getD ho167 ok_d_Str _) Bo Bo (GB.ex hgb q175)) ?_))
     rintro v177 w176 ⟨rfl, hE178⟩
     have hE178z := Ex.size hE178
     refine sM rfl (sd rfl (yl_extract rfl rfl rfl (sd rfl (yl_extract rfl rfl rfl (sA rfl (sA rfl (dn (cR ?_))))))))
     refine sM rfl (sM rfl (bcase (x110) (fun hb179 => ?_) (fun hb179 => ?_)))
     ·refine sy rfl rfl hb179 (yM rfl rfl (sd rfl (yl_pick_t rfl rfl hb179 rfl (sA rfl (dn ?_)))))
      have q181 := Box.ex (Box.ex hf150 hE169) hE178
      have q183 := OwnL.ex gS h166 hE178
      obtain ⟨eb184, eo184, _, eA184, _, ebl184, _, eR184, eC184⟩ := RdS.aD (OwnL.rd gS q183) d_Str (i := 0)
      obtain rfl := eR184
      have eC184 : Cells w176 eb184 (eo184 + 0 * 1) [.string (bs (((g_strings_Split ((g_strings_Split ((g_strings_Cut p_0 ([41] : Str)).2.1) ([32] : Str)).getD k42 d_Str) ([47] : Str)).getD 0 d_Str)))] := eC184
      obtain ⟨eb186, eo186, _, eA186, _, ebl186, _, eR186, eC186⟩ := RdS.aD (OwnL.rd gS q183) d_Str (i := 1)
      obtain rfl := eR186
      have eC186 : Cells w176 eb186 (eo186 + 1 * 1) [.string (bs (((g_strings_Split ((g_strings_Split ((g_strings_Cut p_0 ([41] : Str)).2.1) ([32] : Str)).getD k42 d_Str) ([47] : Str)).getD 1 d_Str)))] := eC186
      have q189 := OwnL.ex gS (OwnL.ex gS hf151 hE169) hE178
      refine CW.drawsI 14 (vgetI [DetI (.pointer (some ⟨b26, 0 + 2, none⟩)), DetI (.slice A112 x111.length c113), DetI (.slice A166 ((g_strings_Split ((g_strings_Split ((g_strings_Cut p_0 ([41] : Str)).2.1) ([32] : Str)).getD k42 d_Str) ([47] : Str)).length) c166), DetI (.pointer (some ⟨eb184, eo184 + 0 * 1, none⟩)), DetI (.string (bs (((g_strings_Split ((g_strings_Split ((g_strings_Cut p_0 ([41] : Str)).2.1) ([32] : Str)).getD k42 d_Str) ([47] : Str)).getD 0 d_Str)))), DetI (.pointer (some ⟨b26, 0 + 1, none⟩)), DetI (.slice A20 ((g_strings_Split ((g_strings_Cut ((g_strings_Cut p_0 ([41] : Str)).1) ([40] : Str)).2.1) ([44] : Str)).length) c20), DetI (.slice A166 ((g_strings_Split ((g_strings_Split ((g_strings_Cut p_0 ([41] : Str)).2.1) ([32] : Str)).getD k42 d_Str) ([47] : Str)).length) c166), DetI (.pointer (some ⟨eb186, eo186 + 1 * 1, none⟩)), DetI (.string (bs (((g_strings_Split ((g_strings_Split ((g_strings_Cut p_0 ([41] : Str)).2.1) ([32] : Str)).getD k42 d_Str) ([47] : Str)).getD 1 d_Str)))), DetI (.int .i64 ((g_slices_Index_string (g_strings_Split ((g_strings_Cut ((g_strings_Cut p_0 ([41] : Str)).1) ([40] : Str)).2.1) ([44] : Str)) ((g_strings_Split ((g_strings_Split ((g_strings_Cut p_0 ([41] : Str)).2.1) ([32] : Str)).getD k42 d_Str) ([47] : Str)).getD 1 d_Str)))), DetI (.int .i64 ((i_readInt ((g_strings_Split ((g_strings_Split ((g_strings_Cut p_0 ([41] : Str)).2.1) ([32] : Str)).getD k42 d_Str) ([47] : Str)).getD 2 d_Str) 0 3).1)), DetI (.agg #[.string (bs (((g_strings_Split ((g_strings_Split ((g_strings_Cut p_0 ([41] : Str)).2.1) ([32] : Str)).getD k42 d_Str) ([47] : Str)).getD 0 d_Str))), .int .i64 ((g_slices_Index_string (g_strings_Split ((g_strings_Cut ((g_strings_Cut p_0 ([41] : Str)).1) ([40] : Str)).2.1) ([44] : Str)) ((g_strings_Split ((g_strings_Split ((g_strings_Cut p_0 ([41] : Str)).2.1) ([32] : Str)).getD k42 d_Str) ([47] : Str)).getD 1 d_Str))), .int .i64 ((i_readInt ((g_strings_Split ((g_strings_Split ((g_strings_Cut p_0 ([41] : Str)).2.1) ([32] : Str)).getD k42 d_Str) ([47] : Str)).getD 2 d_Str) 0 3).1)]), fun lo hi v wq => ∃ A191 c192, v = .slice A191 1 c192 ∧ OwnL wq lo hi 35 3 (RF e_Idx) A191 1 c192 ([(⟨((g_strings_Split ((g_strings_Split ((g_strings_Cut p_0 ([41] : Str)).2.1) ([32] : Str)).getD k42 d_Str) ([47] : Str)).getD 0 d_Str), (g_slices_Index_string (g_strings_Split ((g_strings_Cut ((g_strings_Cut p_0 ([41] : Str)).1) ([40] : Str)).2.1) ([44] : Str)) ((g_strings_Split ((g_strings_Split ((g_strings_Cut p_0 ([41] : Str)).2.1) ([32] : Str)).getD k42 d_Str) ([47] : Str)).getD 1 d_Str)), (i_readInt ((g_strings_Split ((g_strings_Split ((g_strings_Cut p_0 ([41] : Str)).2.1) ([32] : Str)).getD k42 d_Str) ([47] : Str)).getD 2 d_Str) 0 3).1⟩ : DIdx)] : List DIdx)]) Tryz.follows rfl rfl rfl rfl rfl rfl (vgetI_stable ⟨StableI.det _, StableI.det _, StableI.det _, StableI.det _, StableI.det _, StableI.det _, StableI.det _, StableI.det _, StableI.det _, StableI.det _, StableI.det _, StableI.det _, StableI.det _, (fun _ _ _ _ _ ⟨A191, c192, hv, hO⟩ e => ⟨A191, c192, hv, OwnL.ex gI hO e⟩), trivial⟩) ⟨?_, ?_, ?_, ?_, ?_, ?_, ?_, ?_, ?_, ?_, ?_, ?_, ?_, ?_, trivial⟩ ?_
      ·exact oI rfl fun h => yl_fieldAddr fd26_2 rfl (h.old 10 _ rfl rfl) kI
      ·exact oI rfl fun h => yl_load1 ty24 rfl (h.dt 0 59 rfl rfl rfl) (((Box.ex q181 h.ex).cell 2).trans rfl) kI
      ·exact oI rfl fun h => yM rfl (h.old 13 _ rfl rfl) kI
      ·intro L210 w211 hi212
       have hE213 := hi212.ex
       have hE213z := Ex.size hE213
       exact os rfl ((yl_ixN un23 ty9 rfl (hi212.dt 2 61 rfl rfl rfl) rfl eA184 kI))
      ·exact oI rfl fun h => yl_load1 ty9 rfl (h.dt 3 62 rfl rfl rfl) ((Cells.ex eC184 h.ex) 0 _ rfl) kI
      ·exact oI rfl fun h => yl_fieldAddr fd26_1 rfl (h.old 10 _ rfl rfl) kI
      ·exact oI rfl fun h => yl_load1 ty23 rfl (h.dt 5 64 rfl rfl rfl) (((Box.ex q181 h.ex).cell 1).trans rfl) kI
      ·exact oI rfl fun h => yM rfl (h.old 13 _ rfl rfl) kI
      ·intro L237 w238 hi239
       have hE240 := hi239.ex
       have hE240z := Ex.size hE240
       exact os rfl ((yl_ixN un23 ty9 rfl (hi239.dt 7 66 rfl rfl rfl) rfl eA186 kI))
      ·exact oI rfl fun h => yl_load1 ty9 rfl (h.dt 8 67 rfl rfl rfl) ((Cells.ex eC186 h.ex) 0 _ rfl) kI
      ·intro L248 w249 hi250
       have hE251 := hi250.ex
       exact OpR.op' rfl (yC en47 rfl (oc (hi250.dt 6 65 rfl rfl rfl) (oc (hi250.dt 9 68 rfl rfl rfl) oz)) (Cal.mono (c_g_slices_Index_string (g_strings_Split ((g_strings_Cut ((g_strings_Cut p_0 ([41] : Str)).1) ([40] : Str)).2.1) ([44] : Str)) ((g_strings_Split ((g_strings_Split ((g_strings_Cut p_0 ([41] : Str)).2.1) ([32] : Str)).getD k42 d_Str) ([47] : Str)).getD 1 d_Str) (RdS.up (OwnL.rd gS (OwnL.ex gS q189 hE251)) gS) ho21 (okL.getD ho167 ok_d_Str _)) fun _ _ h => h))
      ·exact oI rfl fun h => yM rfl (h.old 14 _ rfl rfl) kI
      ·exact oI rfl fun h => yl_build (cs := [.string (bs (((g_strings_Split ((g_strings_Split ((g_strings_Cut p_0 ([41] : Str)).2.1) ([32] : Str)).getD k42 d_Str) ([47] : Str)).getD 0 d_Str))), .int .i64 ((g_slices_Index_string (g_strings_Split ((g_strings_Cut ((g_strings_Cut p_0 ([41] : Str)).1) ([40] : Str)).2.1) ([44] : Str)) ((g_strings_Split ((g_strings_Split ((g_strings_Cut p_0 ([41] : Str)).2.1) ([32] : Str)).getD k42 d_Str) ([47] : Str)).getD 1 d_Str))), .int .i64 ((i_readInt ((g_strings_Split ((g_strings_Split ((g_strings_Cut p_0 ([41] : Str)).2.1) ([32] : Str)).getD k42 d_Str) ([47] : Str)).getD 2 d_Str) 0 3).1)]) rfl (oc (h.dt 4 63 rfl rfl rfl) (oc (h.dt 10 69 rfl rfl rfl) (oc (h.dt 11 70 rfl rfl rfl) oz))) (by kernel_rfl) kI
      ·intro L271 w272 hi273
       have hE274 := hi273.ex
       have hE274z := Ex.size hE274
       refine OpR.op' rfl (yl_buildSlice (cs := [.string (bs (((g_strings_Split ((g_strings_Split ((g_strings_Cut p_0 ([41] : Str)).2.1) ([32] : Str)).getD k42 d_Str) ([47] : Str)).getD 0 d_Str))), .int .i64 ((g_slices_Index_string (g_strings_Split ((g_strings_Cut ((g_strings_Cut p_0 ([41] : Str)).1) ([40] : Str)).2.1) ([44] : Str)) ((g_strings_Split ((g_strings_Split ((g_strings_Cut p_0 ([41] : Str)).2.1) ([32] : Str)).getD k42 d_Str) ([47] : Str)).getD 1 d_Str))), .int .i64 ((i_readInt ((g_strings_Split ((g_strings_Split ((g_strings_Cut p_0 ([41] : Str)).2.1) ([32] : Str)).getD k42 d_Str) ([47] : Str)).getD 2 d_Str) 0 3).1)]) un24 ty35 (by decide) rfl (oc (hi273.dt 12 71 rfl rfl rfl) oz) (by kernel_rfl) ?_)
       intro b276 w277 hs278 hz279 hB280 hE281
       have hO282 : OwnL w277 b276 (b276 + 1) 35 3 (RF e_Idx) (some ⟨b276, 0, none⟩) 1 1 ([(⟨((g_strings_Split ((g_strings_Split ((g_strings_Cut p_0 ([41] : Str)).2.1) ([32] : Str)).getD k42 d_Str) ([47] : Str)).getD 0 d_Str), (g_slices_Index_string (g_strings_Split ((g_strings_Cut ((g_strings_Cut p_0 ([41] : Str)).1) ([40] : Str)).2.1) ([44] : Str)) ((g_strings_Split ((g_strings_Split ((g_strings_Cut p_0 ([41] : Str)).2.1) ([32] : Str)).getD k42 d_Str) ([47] : Str)).getD 1 d_Str)), (i_readInt ((g_strings_Split ((g_strings_Split ((g_strings_Cut p_0 ([41] : Str)).2.1) ([32] : Str)).getD k42 d_Str) ([47] : Str)).getD 2 d_Str) 0 3).1⟩ : DIdx)] : List DIdx) := OwnL.of_box (S := fun _ => False) hB280 (Nat.le_refl _) (Nat.lt_succ_self _) (EncL.cons (c := [.string (bs (((g_strings_Split ((g_strings_Split ((g_strings_Cut p_0 ([41] : Str)).2.1) ([32] : Str)).getD k42 d_Str) ([47] : Str)).getD 0 d_Str))), .int .i64 ((g_slices_Index_string (g_strings_Split ((g_strings_Cut ((g_strings_Cut p_0 ([41] : Str)).1) ([40] : Str)).2.1) ([44] : Str)) ((g_strings_Split ((g_strings_Split ((g_strings_Cut p_0 ([41] : Str)).2.1) ([32] : Str)).getD k42 d_Str) ([47] : Str)).getD 1 d_Str))), .int .i64 ((i_readInt ((g_strings_Split ((g_strings_Split ((g_strings_Cut p_0 ([41] : Str)).2.1) ([32] : Str)).getD k42 d_Str) ([47] : Str)).getD 2 d_Str) 0 3).1)]) rfl rfl EncL.nil) (nb rfl) (fun h => h) (fun _ h => False.elim h)
       exact ⟨⟨(some ⟨b276, 0, none⟩), 1, rfl, OwnL.more hO282 oM oM⟩, hE281⟩
      ·intro fl286 fh287 L283 w284 hp285
       have hE288 := hp285.ex
       have hE288z := Ex.size hE288
       have hx293 := hp285.old 10 _ rfl rfl
       have hr300 := hp285.rng 13 rfl
       obtain ⟨_, hx299, A191_301, c192_302, rfl, h303⟩ := hp285.new 13 72 rfl rfl
       have q307 := OwnL.rd gI h303
       obtain ⟨nw308, he309, hs310⟩ := RdS.src q307
       refine sd rfl (yl_appendL (S := (fun _ => False)) (lo := w35.heap.size) (hi := u114) (xs := x111) (ys := ([(⟨((g_strings_Split ((g_strings_Split ((g_strings_Cut p_0 ([41] : Str)).2.1) ([32] : Str)).getD k42 d_Str) ([47] : Str)).getD 0 d_Str), (g_slices_Index_string (g_strings_Split ((g_strings_Cut ((g_strings_Cut p_0 ([41] : Str)).1) ([40] : Str)).2.1) ([44] : Str)) ((g_strings_Split ((g_strings_Split ((g_strings_Cut p_0 ([41] : Str)).2.1) ([32] : Str)).getD k42 d_Str) ([47] : Str)).getD 1 d_Str)), (i_readInt ((g_strings_Split ((g_strings_Split ((g_strings_Cut p_0 ([41] : Str)).2.1) ([32] : Str)).getD k42 d_Str) ([47] : Str)).getD 2 d_Str) 0 3).1⟩ : DIdx)] : List DIdx)) gI un24 ty35 rfl (nb rfl) rfl (hp285.nt 1 60 rfl rfl rfl) hx299 (OwnL.ex gI (OwnL.ex gI (OwnL.ex gI hf152 hE169) hE178) hE288) he309 hs310 (RdS.len q307) Bl Bl oM oM (fun _ h _ => False.elim h) oM ?_)
       intro A311 c312 w313 row314 hO315 hG316 hrg317
       have hG316z := hG316.size
       refine sd rfl (yl_fieldAddr fd26_2 rfl hx293 (SeqR.u rfl rfl (yl_store (vs := [.slice A311 ((x111 ++ ([(⟨((g_strings_Split ((g_strings_Split ((g_strings_Cut p_0 ([41] : Str)).2.1) ([32] : Str)).getD k42 d_Str) ([47] : Str)).getD 0 d_Str), (g_slices_Index_string (g_strings_Split ((g_strings_Cut ((g_strings_Cut p_0 ([41] : Str)).1) ([40] : Str)).2.1) ([44] : Str)) ((g_strings_Split ((g_strings_Split ((g_strings_Cut p_0 ([41] : Str)).2.1) ([32] : Str)).getD k42 d_Str) ([47] : Str)).getD 1 d_Str)), (i_readInt ((g_strings_Split ((g_strings_Split ((g_strings_Cut p_0 ([41] : Str)).2.1) ([32] : Str)).getD k42 d_Str) ([47] : Str)).getD 2 d_Str) 0 3).1⟩ : DIdx)] : List DIdx)).length) c312]) ty24 rfl rfl rfl rfl rfl rfl (Box.grown (Box.ex q181 hE288) hG316 (fun k hk => by have := hrg317 k hk; omega)) (nb rfl) ?_)))
       intro w320 hB321 hO322
       have hB321 : Box w320 b26 26 [.string (bs ((g_strings_Cut ((g_strings_Cut p_0 ([41] : Str)).1) ([40] : Str)).1)), .slice A20 ((g_strings_Split ((g_strings_Cut ((g_strings_Cut p_0 ([41] : Str)).1) ([40] : Str)).2.1) ([44] : Str)).length) c20, .slice A311 ((x111 ++ ([(⟨((g_strings_Split ((g_strings_Split ((g_strings_Cut p_0 ([41] : Str)).2.1) ([32] : Str)).getD k42 d_Str) ([47] : Str)).getD 0 d_Str), (g_slices_Index_string (g_strings_Split ((g_strings_Cut ((g_strings_Cut p_0 ([41] : Str)).1) ([40] : Str)).2.1) ([44] : Str)) ((g_strings_Split ((g_strings_Split ((g_strings_Cut p_0 ([41] : Str)).2.1) ([32] : Str)).getD k42 d_Str) ([47] : Str)).getD 1 d_Str)), (i_readInt ((g_strings_Split ((g_strings_Split ((g_strings_Cut p_0 ([41] : Str)).2.1) ([32] : Str)).getD k42 d_Str) ([47] : Str)).getD 2 d_Str) 0 3).1⟩ : DIdx)] : List DIdx)).length) c312] := hB321
       have hO322z := hO322.size
       refine SeqR.done (bn (tn (CW.sub (sC 0 (hp285.old 0 _ rfl rfl) (sC 2 (hp285.old 2 _ rfl rfl) (sC 6 (hp285.old 6 _ rfl rfl) (sC 9 (hp285.old 9 _ rfl rfl) (sC 10 hx293 (sC 33 (hp285.old 33 _ rfl rfl) (sC 34 (hp285.old 34 _ rfl rfl) (sC 35 (hp285.old 35 _ rfl rfl) (sC 57 (hp285.old 57 _ rfl rfl) (Sub.nil _)))))))))) (CW.region (sd rfl (yl_inc rfl rfl rfl oM (sM rfl (dn ?_))))))))
       have hB323 : B_i_ReadTable_0 p_0 k42 (x110, x111) = .cont ((i_readInt ((g_strings_Split ((g_strings_Split ((g_strings_Cut p_0 ([41] : Str)).2.1) ([32] : Str)).getD k42 d_Str) ([47] : Str)).getD 2 d_Str) 0 3).2, (x111 ++ ([(⟨((g_strings_Split ((g_strings_Split ((g_strings_Cut p_0 ([41] : Str)).2.1) ([32] : Str)).getD k42 d_Str) ([47] : Str)).getD 0 d_Str), (g_slices_Index_string (g_strings_Split ((g_strings_Cut ((g_strings_Cut p_0 ([41] : Str)).1) ([40] : Str)).2.1) ([44] : Str)) ((g_strings_Split ((g_strings_Split ((g_strings_Cut p_0 ([41] : Str)).2.1) ([32] : Str)).getD k42 d_Str) ([47] : Str)).getD 1 d_Str)), (i_readInt ((g_strings_Split ((g_strings_Split ((g_strings_Cut p_0 ([41] : Str)).2.1) ([32] : Str)).getD k42 d_Str) ([47] : Str)).getD 2 d_Str) 0 3).1⟩ : DIdx)] : List DIdx))) := by simp only [B_i_ReadTable_0, hb163, hb172, hb179, cL]
       exact ⟨(g_strings_Split ((g_strings_Cut p_0 ([41] : Str)).2.1) ([32] : Str)).length - (k42 + 1), oM, k42 + 1, (i_readInt ((g_strings_Split ((g_strings_Split ((g_strings_Cut p_0 ([41] : Str)).2.1) ([32] : Str)).getD k42 d_Str) ([47] : Str)).getD 2 d_Str) 0 3).2, (x111 ++ ([(⟨((g_strings_Split ((g_strings_Split ((g_strings_Cut p_0 ([41] : Str)).2.1) ([32] : Str)).getD k42 d_Str) ([47] : Str)).getD 0 d_Str), (g_slices_Index_string (g_strings_Split ((g_strings_Cut ((g_strings_Cut p_0 ([41] : Str)).1) ([40] : Str)).2.1) ([44] : Str)) ((g_strings_Split ((g_strings_Split ((g_strings_Cut p_0 ([41] : Str)).2.1) ([32] : Str)).getD k42 d_Str) ([47] : Str)).getD 1 d_Str)), (i_readInt ((g_strings_Split ((g_strings_Split ((g_strings_Cut p_0 ([41] : Str)).2.1) ([32] : Str)).getD k42 d_Str) ([47] : Str)).getD 2 d_Str) 0 3).1⟩ : DIdx)] : List DIdx)), A311, c312, w313.heap.size, rfl, hlt160, oM, rfl, rfl, rfl, rfl, rfl, rfl, rfl, rfl, (Box.only (Box.grown (Box.ex (Box.ex (Box.ex hf149 hE169) hE178) hE288) hG316 (fun k hk => by have := hrg317 k hk; omega)) hO322 oM), hB321, (OwnL.only gS (OwnL.grown gS (OwnL.ex gS q189 hE288) hG316 (fun k hk => by have := hrg317 k hk; omega)) hO322 oM), (OwnL.only gI hO315 hO322 oM), (OwnL.only gS (OwnL.grown gS (OwnL.ex gS (OwnL.ex gS (OwnL.ex gS hf153 hE169) hE178) hE288) hG316 (fun k hk => by have := hrg317 k hk; omega)) hO322 oM), (Below.only (Below.grown (Ex.trans (Ex.trans q175 hE178) hE288) hG316 oM (fun k hk => by have := hrg317 k hk; omega)) hO322 oM), oM, Bl, (okE.append hok157 ((okL.mk (nb rfl) (okE.cons (show ok_Idx (⟨((g_strings_Split ((g_strings_Split ((g_strings_Cut p_0 ([41] : Str)).2.1) ([32] : Str)).getD k42 d_Str) ([47] : Str)).getD 0 d_Str), (g_slices_Index_string (g_strings_Split ((g_strings_Cut ((g_strings_Cut p_0 ([41] : Str)).1) ([40] : Str)).2.1) ([44] : Str)) ((g_strings_Split ((g_strings_Split ((g_strings_Cut p_0 ([41] : Str)).2.1) ([32] : Str)).getD k42 d_Str) ([47] : Str)).getD 1 d_Str)), (i_readInt ((g_strings_Split ((g_strings_Split ((g_strings_Cut p_0 ([41] : Str)).2.1) ([32] : Str)).getD k42 d_Str) ([47] : Str)).getD 2 d_Str) 0 3).1⟩ : DIdx) from (okL.getD ho167 ok_d_Str _)) okE.nil))).2), (loopM.cont hlt160 hB323).symm.trans hI139⟩
     ·refine sz rfl rfl hb179 (sd rfl (yl_pick_f rfl rfl hb179 rfl (sA rfl (dn ?_))))
      have q343 := Box.ex (Box.ex hf150 hE169) hE178
      have q345 := OwnL.ex gS h166 hE178
      obtain ⟨eb346, eo346, _, eA346, _, ebl346, _, eR346, eC346⟩ := RdS.aD (OwnL.rd gS q345) d_Str (i := 0)
      obtain rfl := eR346
      have eC346 : Cells w176 eb346 (eo346 + 0 * 1) [.string (bs (((g_strings_Split ((g_strings_Split ((g_strings_Cut p_0 ([41] : Str)).2.1) ([32] : Str)).getD k42 d_Str) ([47] : Str)).getD 0 d_Str)))] := eC346
      obtain ⟨eb348, eo348, _, eA348, _, ebl348, _, eR348, eC348⟩ := RdS.aD (OwnL.rd gS q345) d_Str (i := 1)
      obtain rfl := eR348
      have eC348 : Cells w176 eb348 (eo348 + 1 * 1) [.string (bs (((g_strings_Split ((g_strings_Split ((g_strings_Cut p_0 ([41] : Str)).2.1) ([32] : Str)).getD k42 d_Str) ([47] : Str)).getD 1 d_Str)))] := eC348
      have q351 := OwnL.ex gS (OwnL.ex gS hf151 hE169) hE178
      refine CW.drawsI 14 (vgetI [DetI (.pointer (some ⟨b26, 0 + 2, none⟩)), DetI (.slice A112 x111.length c113), DetI (.slice A166 ((g_strings_Split ((g_strings_Split ((g_strings_Cut p_0 ([41] : Str)).2.1) ([32] : Str)).getD k42 d_Str) ([47] : Str)).length) c166), DetI (.pointer (some ⟨eb346, eo346 + 0 * 1, none⟩)), DetI (.string (bs (((g_strings_Split ((g_strings_Split ((g_strings_Cut p_0 ([41] : Str)).2.1) ([32] : Str)).getD k42 d_Str) ([47] : Str)).getD 0 d_Str)))), DetI (.pointer (some ⟨b26, 0 + 1, none⟩)), DetI (.slice A20 ((g_strings_Split ((g_strings_Cut ((g_strings_Cut p_0 ([41] : Str)).1) ([40] : Str)).2.1) ([44] : Str)).length) c20), DetI (.slice A166 ((g_strings_Split ((g_strings_Split ((g_strings_Cut p_0 ([41] : Str)).2.1) ([32] : Str)).getD k42 d_Str) ([47] : Str)).length) c166), DetI (.pointer (some ⟨eb348, eo348 + 1 * 1, none⟩)), DetI (.string (bs (((g_strings_Split ((g_strings_Split ((g_strings_Cut p_0 ([41] : Str)).2.1) ([32] : Str)).getD k42 d_Str) ([47] : Str)).getD 1 d_Str)))), DetI (.int .i64 ((g_slices_Index_string (g_strings_Split ((g_strings_Cut ((g_strings_Cut p_0 ([41] : Str)).1) ([40] : Str)).2.1) ([44] : Str)) ((g_strings_Split ((g_strings_Split ((g_strings_Cut p_0 ([41] : Str)).2.1) ([32] : Str)).getD k42 d_Str) ([47] : Str)).getD 1 d_Str)))), DetI (.int .i64 ((i_readInt ((g_strings_Split ((g_strings_Split ((g_strings_Cut p_0 ([41] : Str)).2.1) ([32] : Str)).getD k42 d_Str) ([47] : Str)).getD 2 d_Str) 0 3).1)), DetI (.agg #[.string (bs (((g_strings_Split ((g_strings_Split ((g_strings_Cut p_0 ([41] : Str)).2.1) ([32] : Str)).getD k42 d_Str) ([47] : Str)).getD 0 d_Str))), .int .i64 ((g_slices_Index_string (g_strings_Split ((g_strings_Cut ((g_strings_Cut p_0 ([41] : Str)).1) ([40] : Str)).2.1) ([44] : Str)) ((g_strings_Split ((g_strings_Split ((g_strings_Cut p_0 ([41] : Str)).2.1) ([32] : Str)).getD k42 d_Str) ([47] : Str)).getD 1 d_Str))), .int .i64 ((i_readInt ((g_strings_Split ((g_strings_Split ((g_strings_Cut p_0 ([41] : Str)).2.1) ([32] : Str)).getD k42 d_Str) ([47] : Str)).getD 2 d_Str) 0 3).1)]), fun lo hi v wq => ∃ A353 c354, v = .slice A353 1 c354 ∧ OwnL wq lo hi 35 3 (RF e_Idx) A353 1 c354 ([(⟨((g_strings_Split ((g_strings_Split ((g_strings_Cut p_0 ([41] : Str)).2.1) ([32] : Str)).getD k42 d_Str) ([47] : Str)).getD 0 d_Str), (g_slices_Index_string (g_strings_Split ((g_strings_Cut ((g_strings_Cut p_0 ([41] : Str)).1) ([40] : Str)).2.1) ([44] : Str)) ((g_strings_Split ((g_strings_Split ((g_strings_Cut p_0 ([41] : Str)).2.1) ([32] : Str)).getD k42 d_Str) ([47] : Str)).getD 1 d_Str)), (i_readInt ((g_strings_Split ((g_strings_Split ((g_strings_Cut p_0 ([41] : Str)).2.1) ([32] : Str)).getD k42 d_Str) ([47] : Str)).getD 2 d_Str) 0 3).1⟩ : DIdx)] : List DIdx)]) Tryz.follows rfl rfl rfl rfl rfl rfl (vgetI_stable ⟨StableI.det _, StableI.det _, StableI.det _, StableI.det _, StableI.det _, StableI.det _, StableI.det _, StableI.det _, StableI.det _, StableI.det _, StableI.det _, StableI.det _, StableI.det _, (fun _ _ _ _ _ ⟨A353, c354, hv, hO⟩ e => ⟨A353, c354, hv, OwnL.ex gI hO e⟩), trivial⟩) ⟨?_, ?_, ?_, ?_, ?_, ?_, ?_, ?_, ?_, ?_, ?_, ?_, ?_, ?_, trivial⟩ ?_
      ·exact oI rfl fun h => yl_fieldAddr fd26_2 rfl (h.old 10 _ rfl rfl) kI
      ·exact oI rfl fun h => yl_load1 ty24 rfl (h.dt 0 59 rfl rfl rfl) (((Box.ex q343 h.ex).cell 2).trans rfl) kI
      ·exact oI rfl fun h => yM rfl (h.old 13 _ rfl rfl) kI
      ·intro L372 w373 hi374
       have hE375 := hi374.ex
       have hE375z := Ex.size hE375
       exact os rfl ((yl_ixN un23 ty9 rfl (hi374.dt 2 61 rfl rfl rfl) rfl eA346 kI))
      ·exact oI rfl fun h => yl_load1 ty9 rfl (h.dt 3 62 rfl rfl rfl) ((Cells.ex eC346 h.ex) 0 _ rfl) kI
      ·exact oI rfl fun h => yl_fieldAddr fd26_1 rfl (h.old 10 _ rfl rfl) kI
      ·exact oI rfl fun h => yl_load1 ty23 rfl (h.dt 5 64 rfl rfl rfl) (((Box.ex q343 h.ex).cell 1).trans rfl) kI
      ·exact oI rfl fun h => yM rfl (h.old 13 _ rfl rfl) kI
      ·intro L399 w400 hi401
       have hE402 := hi401.ex
       have hE402z := Ex.size hE402
       exact os rfl ((yl_ixN un23 ty9 rfl (hi401.dt 7 66 rfl rfl rfl) rfl eA348 kI))
      ·exact oI rfl fun h => yl_load1 ty9 rfl (h.dt 8 67 rfl rfl rfl) ((Cells.ex eC348 h.ex) 0 _ rfl) kI
      ·intro L410 w411 hi412
       have hE413 := hi412.ex
       exact OpR.op' rfl (yC en47 rfl (oc (hi412.dt 6 65 rfl rfl rfl) (oc (hi412.dt 9 68 rfl rfl rfl) oz)) (Cal.mono (c_g_slices_Index_string (g_strings_Split ((g_strings_Cut ((g_strings_Cut p_0 ([41] : Str)).1) ([40] : Str)).2.1) ([44] : Str)) ((g_strings_Split ((g_strings_Split ((g_strings_Cut p_0 ([41] : Str)).2.1) ([32] : Str)).getD k42 d_Str) ([47] : Str)).getD 1 d_Str) (RdS.up (OwnL.rd gS (OwnL.ex gS q351 hE413)) gS) ho21 (okL.getD ho167 ok_d_Str _)) fun _ _ h => h))
      ·exact oI rfl fun h => yM rfl (h.old 14 _ rfl rfl) kI
      ·exact oI rfl fun h => yl_build (cs := [.string (bs (((g_strings_Split ((g_strings_Split ((g_strings_Cut p_0 ([41] : Str)).2.1) ([32] : Str)).getD k42 d_Str) ([47] : Str)).getD 0 d_Str))), .int .i64 ((g_slices_Index_string (g_strings_Split ((g_strings_Cut ((g_strings_Cut p_0 ([41] : Str)).1) ([40] : Str)).2.1) ([44] : Str)) ((g_strings_Split ((g_strings_Split ((g_strings_Cut p_0 ([41] : Str)).2.1) ([32] : Str)).getD k42 d_Str) ([47] : Str)).getD 1 d_Str))), .int .i64 ((i_readInt ((g_strings_Split ((g_strings_Split ((g_strings_Cut p_0 ([41] : Str)).2.1) ([32] : Str)).getD k42 d_Str) ([47] : Str)).getD 2 d_Str) 0 3).1)]) rfl (oc (h.dt 4 63 rfl rfl rfl) (oc (h.dt 10 69 rfl rfl rfl) (oc (h.dt 11 70 rfl rfl rfl) oz))) (by kernel_rfl) kI
      ·intro L433 w434 hi435
       have hE436 := hi435.ex
       have hE436z := Ex.size hE436
       refine OpR.op' rfl (yl_buildSlice (cs := [.string (bs (((g_strings_Split ((g_strings_Split ((g_strings_Cut p_0 ([41] : Str)).2.1) ([32] : Str)).getD k42 d_Str) ([47] : Str)).getD 0 d_Str))), .int .i64 ((g_slices_Index_string (g_strings_Split ((g_strings_Cut ((g_strings_Cut p_0 ([41] : Str)).1) ([40] : Str)).2.1) ([44] : Str)) ((g_strings_Split ((g_strings_Split ((g_strings_Cut p_0 ([41] : Str)).2.1) ([32] : Str)).getD k42 d_Str) ([47] : Str)).getD 1 d_Str))), .int .i64 ((i_readInt ((g_strings_Split ((g_strings_Split ((g_strings_Cut p_0 ([41] : Str)).2.1) ([32] : Str)).getD k42 d_Str) ([47] : Str)).getD 2 d_Str) 0 3).1)]) un24 ty35 (by decide) rfl (oc (hi435.dt 12 71 rfl rfl rfl) oz) (by kernel_rfl) ?_)
       intro b438 w439 hs440 hz441 hB442 hE443
       have hO444 : OwnL w439 b438 (b438 + 1) 35 3 (RF e_Idx) (some ⟨b438, 0, none⟩) 1 1 ([(⟨((g_strings_Split ((g_strings_Split ((g_strings_Cut p_0 ([41] : Str)).2.1) ([32] : Str)).getD k42 d_Str) ([47] : Str)).getD 0 d_Str), (g_slices_Index_string (g_strings_Split ((g_strings_Cut ((g_strings_Cut p_0 ([41] : Str)).1) ([40] : Str)).2.1) ([44] : Str)) ((g_strings_Split ((g_strings_Split ((g_strings_Cut p_0 ([41] : Str)).2.1) ([32] : Str)).getD k42 d_Str) ([47] : Str)).getD 1 d_Str)), (i_readInt ((g_strings_Split ((g_strings_Split ((g_strings_Cut p_0 ([41] : Str)).2.1) ([32] : Str)).getD k42 d_Str) ([47] : Str)).getD 2 d_Str) 0 3).1⟩ : DIdx)] : List DIdx) := OwnL.of_box (S := fun _ => False) hB442 (Nat.le_refl _) (Nat.lt_succ_self _) (EncL.cons (c := [.string (bs (((g_strings_Split ((g_strings_Split ((g_strings_Cut p_0 ([41] : Str)).2.1) ([32] : Str)).getD k42 d_Str) ([47] : Str)).getD 0 d_Str))), .int .i64 ((g_slices_Index_string (g_strings_Split ((g_strings_Cut ((g_strings_Cut p_0 ([41] : Str)).1) ([40] : Str)).2.1) ([44] : Str)) ((g_strings_Split ((g_strings_Split ((g_strings_Cut p_0 ([41] : Str)).2.1) ([32] : Str)).getD k42 d_Str) ([47] : Str)).getD 1 d_Str))), .int .i64 ((i_readInt ((g_strings_Split ((g_strings_Split ((g_strings_Cut p_0 ([41] : Str)).2.1) ([32] : Str)).getD k42 d_Str) ([47] : Str)).getD 2 d_Str) 0 3).1)]) rfl rfl EncL.nil) (nb rfl) (fun h => h) (fun _ h => False.elim h)
       exact ⟨⟨(some ⟨b438, 0, none⟩), 1, rfl, OwnL.more hO444 oM oM⟩, hE443⟩
      ·intro fl448 fh449 L445 w446 hp447
       have hE450 := hp447.ex
       have hE450z := Ex.size hE450
       have hx455 := hp447.old 10 _ rfl rfl
       have hr462 := hp447.rng 13 rfl
       obtain ⟨_, hx461, A353_463, c354_464, rfl, h465⟩ := hp447.new 13 72 rfl rfl
       have q469 := OwnL.rd gI h465
       obtain ⟨nw470, he471, hs472⟩ := RdS.src q469
       refine sd rfl (yl_appendL (S := (fun _ => False)) (lo := w35.heap.size) (hi := u114) (xs := x111) (ys := ([(⟨((g_strings_Split ((g_strings_Split ((g_strings_Cut p_0 ([41] : Str)).2.1) ([32] : Str)).getD k42 d_Str) ([47] : Str)).getD 0 d_Str), (g_slices_Index_string (g_strings_Split ((g_strings_Cut ((g_strings_Cut p_0 ([41] : Str)).1) ([40] : Str)).2.1) ([44] : Str)) ((g_strings_Split ((g_strings_Split ((g_strings_Cut p_0 ([41] : Str)).2.1) ([32] : Str)).getD k42 d_Str) ([47] : Str)).getD 1 d_Str)), (i_readInt ((g_strings_Split ((g_strings_Split ((g_strings_Cut p_0 ([41] : Str)).2.1) ([32] : Str)).getD k42 d_Str) ([47] : Str)).getD 2 d_Str) 0 3).1⟩ : DIdx)] : List DIdx)) gI un24 ty35 rfl (nb rfl) rfl (hp447.nt 1 60 rfl rfl rfl) hx461 (OwnL.ex gI (OwnL.ex gI (OwnL.ex gI hf152 hE169) hE178) hE450) he471 hs472 (RdS.len q469) Bl Bl oM oM (fun _ h _ => False.elim h) oM ?_)
       intro A473 c474 w475 row476 hO477 hG478 hrg479
       have hG478z := hG478.size
       refine sd rfl (yl_fieldAddr fd26_2 rfl hx455 (SeqR.u rfl rfl (yl_store (vs := [.slice A473 ((x111 ++ ([(⟨((g_strings_Split ((g_strings_Split ((g_strings_Cut p_0 ([41] : Str)).2.1) ([32] : Str)).getD k42 d_Str) ([47] : Str)).getD 0 d_Str), (g_slices_Index_string (g_strings_Split ((g_strings_Cut ((g_strings_Cut p_0 ([41] : Str)).1) ([40] : Str)).2.1) ([44] : Str)) ((g_strings_Split ((g_strings_Split ((g_strings_Cut p_0 ([41] : Str)).2.1) ([32] : Str)).getD k42 d_Str) ([47] : Str)).getD 1 d_Str)), (i_readInt ((g_strings_Split ((g_strings_Split ((g_strings_Cut p_0 ([41] : Str)).2.1) ([32] : Str)).getD k42 d_Str) ([47] : Str)).getD 2 d_Str) 0 3).1⟩ : DIdx)] : List DIdx)).length) c474]) ty24 rfl rfl rfl rfl rfl rfl (Box.grown (Box.ex q343 hE450) hG478 (fun k hk => by have := hrg479 k hk; omega)) (nb rfl) ?_)))
       intro w482 hB483 hO484
       have hB483 : Box w482 b26 26 [.string (bs ((g_strings_Cut ((g_strings_Cut p_0 ([41] : Str)).1) ([40] : Str)).1)), .slice A20 ((g_strings_Split ((g_strings_Cut ((g_strings_Cut p_0 ([41] : Str)).1) ([40] : Str)).2.1) ([44] : Str)).length) c20, .slice A473 ((x111 ++ ([(⟨((g_strings_Split ((g_strings_Split ((g_strings_Cut p_0 ([41] : Str)).2.1) ([32] : Str)).getD k42 d_Str) ([47] : Str)).getD 0 d_Str), (g_slices_Index_string (g_strings_Split ((g_strings_Cut ((g_strings_Cut p_0 ([41] : Str)).1) ([40] : Str)).2.1) ([44] : Str)) ((g_strings_Split ((g_strings_Split ((g_strings_Cut p_0 ([41] : Str)).2.1) ([32] : Str)).getD k42 d_Str) ([47] : Str)).getD 1 d_Str)), (i_readInt ((g_strings_Split ((g_strings_Split ((g_strings_Cut p_0 ([41] : Str)).2.1) ([32] : Str)).getD k42 d_Str) ([47] : Str)).getD 2 d_Str) 0 3).1⟩ : DIdx)] : List DIdx)).length) c474] := hB483
       have hO484z := hO484.size
       refine SeqR.done (bn (tn (CW.sub (sC 0 (hp447.old 0 _ rfl rfl) (sC 2 (hp447.old 2 _ rfl rfl) (sC 6 (hp447.old 6 _ rfl rfl) (sC 9 (hp447.old 9 _ rfl rfl) (sC 10 hx455 (sC 33 (hp447.old 33 _ rfl rfl) (sC 34 (hp447.old 34 _ rfl rfl) (sC 35 (hp447.old 35 _ rfl rfl) (sC 57 (hp447.old 57 _ rfl rfl) (Sub.nil _)))))))))) (CW.region (sd rfl (yl_inc rfl rfl rfl oM (sM rfl (dn ?_))))))))
       have hB485 : B_i_ReadTable_0 p_0 k42 (x110, x111) = .cont (false, (x111 ++ ([(⟨((g_strings_Split ((g_strings_Split ((g_strings_Cut p_0 ([41] : Str)).2.1) ([32] : Str)).getD k42 d_Str) ([47] : Str)).getD 0 d_Str), (g_slices_Index_string (g_strings_Split ((g_strings_Cut ((g_strings_Cut p_0 ([41] : Str)).1) ([40] : Str)).2.1) ([44] : Str)) ((g_strings_Split ((g_strings_Split ((g_strings_Cut p_0 ([41] : Str)).2.1) ([32] : Str)).getD k42 d_Str) ([47] : Str)).getD 1 d_Str)), (i_readInt ((g_strings_Split ((g_strings_Split ((g_strings_Cut p_0 ([41] : Str)).2.1) ([32] : Str)).getD k42 d_Str) ([47] : Str)).getD 2 d_Str) 0 3).1⟩ : DIdx)] : List DIdx))) := by simp only [B_i_ReadTable_0, hb163, hb172, hb179, cL]
       exact ⟨(g_strings_Split ((g_strings_Cut p_0 ([41] : Str)).2.1) ([32] : Str)).length - (k42 + 1), oM, k42 + 1, false, (x111 ++ ([(⟨((g_strings_Split ((g_strings_Split ((g_strings_Cut p_0 ([41] : Str)).2.1) ([32] : Str)).getD k42 d_Str) ([47] : Str)).getD 0 d_Str), (g_slices_Index_string (g_strings_Split ((g_strings_Cut ((g_strings_Cut p_0 ([41] : Str)).1) ([40] : Str)).2.1) ([44] : Str)) ((g_strings_Split ((g_strings_Split ((g_strings_Cut p_0 ([41] : Str)).2.1) ([32] : Str)).getD k42 d_Str) ([47] : Str)).getD 1 d_Str)), (i_readInt ((g_strings_Split ((g_strings_Split ((g_strings_Cut p_0 ([41] : Str)).2.1) ([32] : Str)).getD k42 d_Str) ([47] : Str)).getD 2 d_Str) 0 3).1⟩ : DIdx)] : List DIdx)), A473, c474, w475.heap.size, rfl, hlt160, oM, rfl, rfl, rfl, rfl, rfl, rfl, rfl, rfl, (Box.only (Box.grown (Box.ex (Box.ex (Box.ex hf149 hE169) hE178) hE450) hG478 (fun k hk => by have := hrg479 k hk; omega)) hO484 oM), hB483, (OwnL.only gS (OwnL.grown gS (OwnL.ex gS q351 hE450) hG478 (fun k hk => by have := hrg479 k hk; omega)) hO484 oM), (OwnL.only gI hO477 hO484 oM), (OwnL.only gS (OwnL.grown gS (OwnL.ex gS (OwnL.ex gS (OwnL.ex gS hf153 hE169) hE178) hE450) hG478 (fun k hk => by have := hrg479 k hk; omega)) hO484 oM), (Below.only (Below.grown (Ex.trans (Ex.trans q175 hE178) hE450) hG478 oM (fun k hk => by have := hrg479 k hk; omega)) hO484 oM), oM, Bl, (okE.append hok157 ((okL.mk (nb rfl) (okE.cons (show ok_Idx (⟨((g_strings_Split ((g_strings_Split ((g_strings_Cut p_0 ([41] : Str)).2.1) ([32] : Str)).getD k42 d_Str) ([47] : Str)).getD 0 d_Str), (g_slices_Index_string (g_strings_Split ((g_strings_Cut ((g_strings_Cut p_0 ([41] : Str)).1) ([40] : Str)).2.1) ([44] : Str)) ((g_strings_Split ((g_strings_Split ((g_strings_Cut p_0 ([41] : Str)).2.1) ([32] : Str)).getD k42 d_Str) ([47] : Str)).getD 1 d_Str)), (i_readInt ((g_strings_Split ((g_strings_Split ((g_strings_Cut p_0 ([41] : Str)).2.1) ([32] : Str)).getD k42 d_Str) ([47] : Str)).getD 2 d_Str) 0 3).1⟩ : DIdx) from (okL.getD ho167 ok_d_Str _)) okE.nil))).2), (loopM.cont hlt160 hB485).symm.trans hI139⟩
    ·have hb172p := dec_f hb172
     refine CW.cond_t rfl (not_f hb172) (cR (sd rfl (yl_build (cs := [.string (bs (([] : Str))), .slice none 0 0, .slice none 0 0]) rfl opvs_nil (by kernel_rfl) (SeqR.u rfl rfl (yl_store (vs := [.string (bs (([] : Str))), .slice none 0 0, .slice none 0 0]) ty26 rfl rfl rfl rfl rfl rfl (Box.ex hf149 hE169) (nb rfl) ?_)))))
     intro w505 hB506 hO507
     have hB506 : Box w505 b3 26 [.string (bs (([] : Str))), .slice none 0 0, .slice none 0 0] := hB506
     have hO507z := hO507.size
     refine sA rfl (dn (CW.ret (tr (br (tr (tr ?_))))))
     have hB509 : B_i_ReadTable_0 p_0 k42 (x110, x111) = .ret ((⟨([] : Str), [], []⟩ : DTable), false) := by simp only [B_i_ReadTable_0, hb163, hb172, cL]
     have hL508 : loopM (B_i_ReadTable_0 p_0) ((g_strings_Split ((g_strings_Cut p_0 ([41] : Str)).2.1) ([32] : Str)).length - 0) 0 ((g_strings_Cut p_0 ([41] : Str)).2.2, ([] : List DIdx)) = .ret ((⟨([] : Str), [], []⟩ : DTable), false) := hI139.symm.trans (loopM.ret hlt160 hB509)
     refine br (tr (rr rfl (.cons ⟨_, rfl, run_loadN ty26 (cs := [.string (bs (([] : Str))), .slice none 0 0, .slice none 0 0]) rfl (hB506.cells (n := 3) rfl)⟩ (.cons rfl .nil)) ?_))
     have hM510 : (i_ReadTable p_0) = (((⟨([] : Str), [], []⟩ : DTable), false)) := by simp only [i_ReadTable, hb163, hb172, hL508, cL]
     rw [hM510]
     exact ⟨none, 0, w505.heap.size, w505.heap.size, none, 0, w505.heap.size, w505.heap.size, rfl, (OwnL.nil _ _ _ _ _ _), (OwnL.nil _ _ _ _ _ _), ⟨(okS.lit rfl), (okL.nil _), (okL.nil _)⟩, oM, oM, oM, (Below.only (Ex.trans hf154 hE169) hO507 oM)⟩
  ·refine cR (sd rfl (yl_lss rfl rfl rfl (dn (CW.seq (CW.cond_f rfl (lt_f hlt160) (CW.exit (tx ?_)))))))
   refine tx ?_
   have hL513 : loopM (B_i_ReadTable_0 p_0) ((g_strings_Split ((g_strings_Cut p_0 ([41] : Str)).2.1) ([32] : Str)).length - 0) 0 ((g_strings_Cut p_0 ([41] : Str)).2.2, ([] : List DIdx)) = .done (x110, x111) := hI139.symm.trans (loopM.stop hlt160)
   refine bx (tn (CW.seq (cR (sM rfl (sd rfl (yl_not rfl rfl (sM rfl (bcase (x110) (fun hb514 => ?_) (fun hb514 => ?_)))))))))
   ·refine sy rfl rfl (not_t hb514) (yM rfl rfl (sy rfl rfl (not_t hb514) (yl_not rfl rfl (sd rfl (yl_pick_f rfl rfl (not_t hb514) rfl (sM rfl (bcase ((g_strings_Cut ((g_strings_Cut p_0 ([41] : Str)).1) ([40] : Str)).2.2) (fun hb515 => ?_) (fun hb515 => ?_))))))))
    ·refine sy rfl rfl (not_t hb515) (yl_loadN ty26 rfl rfl (hf150.cells (n := 3) rfl) rfl (sy rfl rfl (not_t hb515) (yC en13 rfl (oc rfl oz) (Cal.mono (c_i_GoodTable (⟨(g_strings_Cut ((g_strings_Cut p_0 ([41] : Str)).1) ([40] : Str)).1, (g_strings_Split ((g_strings_Cut ((g_strings_Cut p_0 ([41] : Str)).1) ([40] : Str)).2.1) ([44] : Str)), x111⟩ : DTable) (RdS.up (OwnL.rd gS hf151) gS) (RdS.up (OwnL.rd gI hf152) gI) (⟨ho15, ho21, (okL.mk (xs := x111) Bl hok157)⟩)) ?_))))
     rintro v519 w518 ⟨rfl, hE520⟩
     have hE520z := Ex.size hE520
     refine sy rfl rfl (not_t hb515) (yl_not rfl rfl (sd rfl (yl_pick_f rfl rfl (not_t hb515) rfl (sM rfl (bcase (i_GoodTable (⟨(g_strings_Cut ((g_strings_Cut p_0 ([41] : Str)).1) ([40] : Str)).1, (g_strings_Split ((g_strings_Cut ((g_strings_Cut p_0 ([41] : Str)).1) ([40] : Str)).2.1) ([44] : Str)), x111⟩ : DTable)) (fun hb521 => ?_) (fun hb521 => ?_))))))
     ·have hb521p := f_i_GoodTable hb521
      have q522 := Box.ex hf150 hE520
      refine sy rfl rfl (not_t hb521) (yl_loadN ty26 rfl rfl (q522.cells (n := 3) rfl) rfl ?_)
      have q524 := OwnL.ex gS hf151 hE520
      have q526 := OwnL.ex gI hf152 hE520
      refine sy rfl rfl (not_t hb521) (yC en43 rfl (oc rfl oz) (Cal.mono (c_i_tableText (⟨(g_strings_Cut ((g_strings_Cut p_0 ([41] : Str)).1) ([40] : Str)).1, (g_strings_Split ((g_strings_Cut ((g_strings_Cut p_0 ([41] : Str)).1) ([40] : Str)).2.1) ([44] : Str)), x111⟩ : DTable) (RdS.up (OwnL.rd gS q524) gS) (RdS.up (OwnL.rd gI q526) gI) (⟨ho15, ho21, (okL.mk (xs := x111) Bl hok157)⟩) (GoodTable_eq _ ▸ hb521)) ?_))
      rintro v528 w527 ⟨rfl, hE529⟩
      have hE529z := Ex.size hE529
      refine sy rfl rfl (not_t hb521) (yM rfl rfl (sy rfl rfl (not_t hb521) (yl_sneq (a := (i_tableText (⟨(g_strings_Cut ((g_strings_Cut p_0 ([41] : Str)).1) ([40] : Str)).1, (g_strings_Split ((g_strings_Cut ((g_strings_Cut p_0 ([41] : Str)).1) ([40] : Str)).2.1) ([44] : Str)), x111⟩ : DTable))) (b := p_0) rfl rfl rfl (sd rfl (yl_pick_f rfl rfl (not_t hb521) rfl (dn (bcase ((i_tableText (⟨(g_strings_Cut ((g_strings_Cut p_0 ([41] : Str)).1) ([40] : Str)).1, (g_strings_Split ((g_strings_Cut ((g_strings_Cut p_0 ([41] : Str)).1) ([40] : Str)).2.1) ([44] : Str)), x111⟩ : DTable)) == p_0) (fun hb530 => ?_) (fun hb530 => ?_))))))))
      ·refine CW.cond_f rfl (not_t hb530) (CW.skip (tn (cR (sd rfl (yl_loadN ty26 rfl rfl ((Box.ex q522 hE529).cells (n := 3) rfl) rfl (SeqR.u rfl rfl (yl_store (vs := [.string (bs ((g_strings_Cut ((g_strings_Cut p_0 ([41] : Str)).1) ([40] : Str)).1)), .slice A20 ((g_strings_Split ((g_strings_Cut ((g_strings_Cut p_0 ([41] : Str)).1) ([40] : Str)).2.1) ([44] : Str)).length) c20, .slice A112 x111.length c113]) ty26 rfl rfl rfl rfl rfl rfl (Box.ex (Box.ex hf149 hE520) hE529) (nb rfl) ?_)))))))
       intro w534 hB535 hO536
       have hB535 : Box w534 b3 26 [.string (bs ((g_strings_Cut ((g_strings_Cut p_0 ([41] : Str)).1) ([40] : Str)).1)), .slice A20 ((g_strings_Split ((g_strings_Cut ((g_strings_Cut p_0 ([41] : Str)).1) ([40] : Str)).2.1) ([44] : Str)).length) c20, .slice A112 x111.length c113] := hB535
       have hO536z := hO536.size
       refine sA rfl (dn (CW.ret (rr rfl (.cons ⟨_, rfl, run_loadN ty26 (cs := [.string (bs ((g_strings_Cut ((g_strings_Cut p_0 ([41] : Str)).1) ([40] : Str)).1)), .slice A20 ((g_strings_Split ((g_strings_Cut ((g_strings_Cut p_0 ([41] : Str)).1) ([40] : Str)).2.1) ([44] : Str)).length) c20, .slice A112 x111.length c113]) rfl (hB535.cells (n := 3) rfl)⟩ (.cons rfl .nil)) ?_)))
       have hM537 : (i_ReadTable p_0) = (((⟨(g_strings_Cut ((g_strings_Cut p_0 ([41] : Str)).1) ([40] : Str)).1, (g_strings_Split ((g_strings_Cut ((g_strings_Cut p_0 ([41] : Str)).1) ([40] : Str)).2.1) ([44] : Str)), x111⟩ : DTable), true)) := by simp only [i_ReadTable, hb514, hb515, hb521, hb530, hL513, cL]
       rw [hM537]
       exact ⟨A20, c20, lo20, hi20, A112, c113, w35.heap.size, u114, rfl, (OwnL.only gS (OwnL.ex gS q524 hE529) hO536 oM), (OwnL.only gI (OwnL.ex gI q526 hE529) hO536 oM), ⟨ho15, ho21, (okL.mk (xs := x111) Bl hok157)⟩, oM, oM, oM, (Below.only (Ex.trans (Ex.trans hf154 hE520) hE529) hO536 oM)⟩
      ·refine CW.cond_t rfl (not_f hb530) (cR (sd rfl (yl_build (cs := [.string (bs (([] : Str))), .slice none 0 0, .slice none 0 0]) rfl opvs_nil (by kernel_rfl) (SeqR.u rfl rfl (yl_store (vs := [.string (bs (([] : Str))), .slice none 0 0, .slice none 0 0]) ty26 rfl rfl rfl rfl rfl rfl (Box.ex (Box.ex hf149 hE520) hE529) (nb rfl) ?_)))))
       intro w547 hB548 hO549
       have hB548 : Box w547 b3 26 [.string (bs (([] : Str))), .slice none 0 0, .slice none 0 0] := hB548
       have hO549z := hO549.size
       refine sA rfl (dn (CW.ret (tr (rr rfl (.cons ⟨_, rfl, run_loadN ty26 (cs := [.string (bs (([] : Str))), .slice none 0 0, .slice none 0 0]) rfl (hB548.cells (n := 3) rfl)⟩ (.cons rfl .nil)) ?_))))
       have hM550 : (i_ReadTable p_0) = (((⟨([] : Str), [], []⟩ : DTable), false)) := by simp only [i_ReadTable, hb514, hb515, hb521, hb530, hL513, cL]
       rw [hM550]
       exact ⟨none, 0, w547.heap.size, w547.heap.size, none, 0, w547.heap.size, w547.heap.size, rfl, (OwnL.nil _ _ _ _ _ _), (OwnL.nil _ _ _ _ _ _), ⟨(okS.lit rfl), (okL.nil _), (okL.nil _)⟩, oM, oM, oM, (Below.only (Ex.trans (Ex.trans hf154 hE520) hE529) hO549 oM)⟩
     ·refine sz rfl rfl (not_f hb521) (sz rfl rfl (not_f hb521) (sz rfl rfl (not_f hb521) (sz rfl rfl (not_f hb521) (sd rfl (yl_pick_t rfl rfl (not_f hb521) rfl (dn (CW.cond_t rfl rfl (CW.seq ?_))))))))
      refine CW.region (sd rfl (yl_build (cs := [.string (bs (([] : Str))), .slice none 0 0, .slice none 0 0]) rfl opvs_nil (by kernel_rfl) (SeqR.u rfl rfl (yl_store (vs := [.string (bs (([] : Str))), .slice none 0 0, .slice none 0 0]) ty26 rfl rfl rfl rfl rfl rfl (Box.ex hf149 hE520) (nb rfl) ?_))))
      intro w555 hB556 hO557
      have hB556 : Box w555 b3 26 [.string (bs (([] : Str))), .slice none 0 0, .slice none 0 0] := hB556
      have hO557z := hO557.size
      refine sA rfl (dn (CW.ret (tr (rr rfl (.cons ⟨_, rfl, run_loadN ty26 (cs := [.string (bs (([] : Str))), .slice none 0 0, .slice none 0 0]) rfl (hB556.cells (n := 3) rfl)⟩ (.cons rfl .nil)) ?_))))
      have hM558 : (i_ReadTable p_0) = (((⟨([] : Str), [], []⟩ : DTable), false)) := by simp only [i_ReadTable, hb514, hb515, hb521, hL513, cL]
      rw [hM558]
      exact ⟨none, 0, w555.heap.size, w555.heap.size, none, 0, w555.heap.size, w555.heap.size, rfl, (OwnL.nil _ _ _ _ _ _), (OwnL.nil _ _ _ _ _ _), ⟨(okS.lit rfl), (okL.nil _), (okL.nil _)⟩, oM, oM, oM, (Below.only (Ex.trans hf154 hE520) hO557 oM)⟩
    ·refine sz rfl rfl (not_f hb515) (sz rfl rfl (not_f hb515) (sz rfl rfl (not_f hb515) (sd rfl (yl_pick_t rfl rfl (not_f hb515) rfl (sM rfl (sz rfl rfl rfl (sz rfl rfl rfl (sz rfl rfl rfl (sz rfl rfl rfl ?_)))))))))
     refine sd rfl (yl_pick_t rfl rfl rfl rfl (dn (CW.cond_t rfl rfl (cR (sd rfl (yl_build (cs := [.string (bs (([] : Str))), .slice none 0 0, .slice none 0 0]) rfl opvs_nil (by kernel_rfl) (SeqR.u rfl rfl (yl_store (vs := [.string (bs (([] : Str))), .slice none 0 0, .slice none 0 0]) ty26 rfl rfl rfl rfl rfl rfl hf149 (nb rfl) ?_))))))))
     intro w561 hB562 hO563
     have hB562 : Box w561 b3 26 [.string (bs (([] : Str))), .slice none 0 0, .slice none 0 0] := hB562
     have hO563z := hO563.size
     refine sA rfl (dn (CW.ret (tr (rr rfl (.cons ⟨_, rfl, run_loadN ty26 (cs := [.string (bs (([] : Str))), .slice none 0 0, .slice none 0 0]) rfl (hB562.cells (n := 3) rfl)⟩ (.cons rfl .nil)) ?_))))
     have hM564 : (i_ReadTable p_0) = (((⟨([] : Str), [], []⟩ : DTable), false)) := by simp only [i_ReadTable, hb514, hb515, hL513, cL]
     rw [hM564]
     exact ⟨none, 0, w561.heap.size, w561.heap.size, none, 0, w561.heap.size, w561.heap.size, rfl, (OwnL.nil _ _ _ _ _ _), (OwnL.nil _ _ _ _ _ _), ⟨(okS.lit rfl), (okL.nil _), (okL.nil _)⟩, oM, oM, oM, (Below.only hf154 hO563 oM)⟩
   ·refine sz rfl rfl (not_f hb514) (sz rfl rfl (not_f hb514) (sd rfl (yl_pick_t rfl rfl (not_f hb514) rfl (sM rfl (sz rfl rfl rfl (sz rfl rfl rfl (sz rfl rfl rfl (sd rfl (yl_pick_t rfl rfl rfl rfl (sM rfl ?_))))))))))
    refine sz rfl rfl rfl (sz rfl rfl rfl (sz rfl rfl rfl (sz rfl rfl rfl (sd rfl (yl_pick_t rfl rfl rfl rfl (dn (CW.cond_t rfl rfl (CW.seq ?_))))))))
    refine CW.region (sd rfl (yl_build (cs := [.string (bs (([] : Str))), .slice none 0 0, .slice none 0 0]) rfl opvs_nil (by kernel_rfl) (SeqR.u rfl rfl (yl_store (vs := [.string (bs (([] : Str))), .slice none 0 0, .slice none 0 0]) ty26 rfl rfl rfl rfl rfl rfl hf149 (nb rfl) ?_))))
    intro w566 hB567 hO568
    have hB567 : Box w566 b3 26 [.string (bs (([] : Str))), .slice none 0 0, .slice none 0 0] := hB567
    have hO568z := hO568.size
    refine sA rfl (dn (CW.ret (tr (rr rfl (.cons ⟨_, rfl, run_loadN ty26 (cs := [.string (bs (([] : Str))), .slice none 0 0, .slice none 0 0]) rfl (hB567.cells (n := 3) rfl)⟩ (.cons rfl .nil)) ?_))))
    have hM569 : (i_ReadTable p_0) = (((⟨([] : Str), [], []⟩ : DTable), false)) := by simp only [i_ReadTable, hb514, hL513, cL]
    rw [hM569]
    exact ⟨none, 0, w566.heap.size, w566.heap.size, none, 0, w566.heap.size, w566.heap.size, rfl, (OwnL.nil _ _ _ _ _ _), (OwnL.nil _ _ _ _ _ _), ⟨(okS.lit rfl), (okL.nil _), (okL.nil _)⟩, oM, oM, oM, (Below.only hf154 hO568 oM)⟩
theorem c_s_DrawNextTo {A1 : Option Addr} {c1 : Nat} {w : World} (p_code : List Int) (h1 : RdS w (Iv 0 w.heap.size) (RF e_U8) 1 A1 p_code.length c1 p_code) (o2 : (okL okT) p_code) (pre0 : codeOk p_code) : Cal Tryz.prog 18 #[.slice A1 p_code.length c1] w fun v w' => ∃ A_1 c_1 A_2 c_2 lo_2 hi_2 A_3 c_3 lo_3 hi_3 A_4 c_4 lo_4 hi_4, v = .tuple #[.agg #[.string (bs ((s_DrawNextTo p_code).1.Name)), .slice A_1 (((s_DrawNextTo p_code).1.Cols).length) c_1, .slice A_2 (((s_DrawNextTo p_code).1.Idxs).length) c_2], .agg #[.string (bs ((s_DrawNextTo p_code).2.Name)), .slice A_3 (((s_DrawNextTo p_code).2.Cols).length) c_3, .slice A_4 (((s_DrawNextTo p_code).2.Idxs).length) c_4]] ∧ RdS w' (Iv w.heap.size w'.heap.size) (RF e_Str) 1 A_1 ((s_DrawNextTo p_code).1.Cols).length c_1 ((s_DrawNextTo p_code).1.Cols) ∧ OwnL w' lo_2 hi_2 35 3 (RF e_Idx) A_2 (((s_DrawNextTo p_code).1.Idxs).length) c_2 ((s_DrawNextTo p_code).1.Idxs) ∧ OwnL w' lo_3 hi_3 9 1 (RF e_Str) A_3 (((s_DrawNextTo p_code).2.Cols).length) c_3 ((s_DrawNextTo p_code).2.Cols) ∧ OwnL w' lo_4 hi_4 35 3 (RF e_Idx) A_4 (((s_DrawNextTo p_code).2.Idxs).length) c_4 ((s_DrawNextTo p_code).2.Idxs) ∧ ok_Table ((s_DrawNextTo p_code).1) ∧ ok_Table ((s_DrawNextTo p_code).2) ∧ (w.heap.size ≤ lo_2 ∧ lo_2 ≤ hi_2 ∧ hi_2 ≤ w'.heap.size) ∧ (w.heap.size ≤ lo_3 ∧ lo_3 ≤ hi_3 ∧ hi_3 ≤ w'.heap.size) ∧ (w.heap.size ≤ lo_4 ∧ lo_4 ≤ hi_4 ∧ hi_4 ≤ w'.heap.size) ∧ (hi_2 ≤ lo_3 ∨ hi_3 ≤ lo_2) ∧ (hi_2 ≤ lo_4 ∨ hi_4 ≤ lo_2) ∧ (hi_3 ≤ lo_4 ∨ hi_4 ≤ lo_3) ∧ Ex w w' := by
 have hol3 := o2.1
 refine Cal.of func18 rfl ntmps18 rfl (cR (sd rfl (yB ty26 (cs := [.string (bs (([] : Str))), .slice none 0 0, .slice none 0 0]) rfl rfl ?_)))
 intro b4 w5 hs6 hz7 hB8 hE9
 refine sd rfl (yB ty26 (cs := [.string (bs (([] : Str))), .slice none 0 0, .slice none 0 0]) rfl rfl ?_)
 intro b10 w11 hs12 hz13 hB14 hE15
 refine dn (cR (sM rfl (sd rfl (yl_build (cs := [.slice A1 p_code.length c1, .int .i64 (0), .int .u64 (0)]) rfl (oc rfl oz) (by kernel_rfl) (sd rfl (yl_box rfl rfl rfl ?_))))))
 intro b16 w17 hs18 hz19 hB20 hE21
 refine sA rfl (dn (cR (sM rfl ?_)))
 have q24 := RdS.ex gU (RdS.ex gU (RdS.ex gU h1 hE9) hE15) hE21
 refine sd rfl (yC en48 rfl (oc rfl oz) (Cal.mono (c_u_bentTable p_code (0, 0) hB20 q24 oM oM o2 oM (by assumption)) ?_))
 rintro v30 w25 ⟨A26, c26, A27, c27, lo27, hi27, rfl, h26, h27, ho28, hp29, hB32, hrn33, hc31⟩
 have hc31z := Chg.size hc31
 have hB32z := Box.lt hB32
 refine sd rfl (yB ty26 (cs := [.string (bs (([] : Str))), .slice none 0 0, .slice none 0 0]) rfl rfl ?_)
 intro b34 w35 hs36 hz37 hB38 hE39
 refine SeqR.u rfl rfl (yl_store (vs := [.string (bs ((u_bentTable p_code (0, 0)).1.Name)), .slice A26 (((u_bentTable p_code (0, 0)).1.Cols).length) c26, .slice A27 (((u_bentTable p_code (0, 0)).1.Idxs).length) c27]) ty26 rfl rfl rfl rfl rfl rfl hB38 (nb rfl) ?_)
 intro w40 hB41 hO42
 have hB41 : Box w40 b34 26 [.string (bs ((u_bentTable p_code (0, 0)).1.Name)), .slice A26 (((u_bentTable p_code (0, 0)).1.Cols).length) c26, .slice A27 (((u_bentTable p_code (0, 0)).1.Idxs).length) c27] := hB41
 have hO42z := hO42.size
 refine dn (cR (sd rfl (yl_loadN ty26 rfl rfl (hB41.cells (n := 3) rfl) rfl ?_)))
 have q44 := RdS.only gS (RdS.ex gS h26 hE39) hO42 (by simp only [Iv]; omega)
 have q47 := OwnL.only gI (OwnL.ex gI h27 hE39) hO42 oM
 refine sd rfl (yC en49 rfl (oc rfl oz) (Cal.mono (c_s_l24Own ((u_bentTable p_code (0, 0)).1) (RdS.up q44 gS) (RdS.up (OwnL.rd gI q47) gI) ho28) ?_))
 rintro v52 w48 ⟨A49, c49, lo49, hi49, A50, c50, lo50, hi50, rfl, h49, h50, ho51, hrn54, hrn55, hrn56, hE53⟩
 have hE53z := Ex.size hE53
 have hrf57 := rf_l24Own ((u_bentTable p_code (0, 0)).1)
 refine sd rfl (yB ty26 (cs := [.string (bs (([] : Str))), .slice none 0 0, .slice none 0 0]) rfl rfl ?_)
 intro b58 w59 hs60 hz61 hB62 hE63
 refine SeqR.u rfl rfl (yl_store (vs := [.string (bs ((s_l24Own ((u_bentTable p_code (0, 0)).1)).Name)), .slice A49 (((s_l24Own ((u_bentTable p_code (0, 0)).1)).Cols).length) c49, .slice A50 (((s_l24Own ((u_bentTable p_code (0, 0)).1)).Idxs).length) c50]) ty26 rfl rfl rfl rfl rfl rfl hB62 (nb rfl) ?_)
 intro w64 hB65 hO66
 have hB65 : Box w64 b58 26 [.string (bs ((s_l24Own ((u_bentTable p_code (0, 0)).1)).Name)), .slice A49 (((s_l24Own ((u_bentTable p_code (0, 0)).1)).Cols).length) c49, .slice A50 (((s_l24Own ((u_bentTable p_code (0, 0)).1)).Idxs).length) c50] := hB65
 have hO66z := hO66.size
 refine dn (CW.seq (cR (sd rfl (yl_fieldAddr fd26_2 rfl rfl (sd rfl (yl_load1 ty24 rfl rfl ((hB65.cell 2).trans rfl) (sd rfl (yL un24 rfl rfl (sd rfl (yl_gtr rfl rfl rfl ?_))))))))))
 refine dn (bcase (decide (0 < (((s_l24Own ((u_bentTable p_code (0, 0)).1)).Idxs).length : Int))) (fun hb67 => ?_) (fun hb67 => ?_))
 ·have hb67p := dec_t hb67
  refine CW.cond_t rfl hb67 (CW.seq ?_)
  have q78 := RdS.only gU (RdS.ex gU (RdS.ex gU (RdS.only gU (RdS.ex gU (RdS.chg gU q24 hc31 Bi) hE39) hO42 (by simp only [Iv]; omega)) hE53) hE63) hO66 (by simp only [Iv]; omega)
  refine CW.drawsG 7 (fun G b => G.dn 6 = true ∧ InR [(b16, b16 + 1)] b) (fun i G b => (i = 6 ∧ b16 ≤ b ∧ b < b16 + 1)) (vgetG [DetG (.pointer (some ⟨b58, 0 + 2, none⟩)), DetG (.slice A50 (((s_l24Own ((u_bentTable p_code (0, 0)).1)).Idxs).length) c50), DetG (.pointer (some ⟨b16, 0, none⟩)), DetG (.pointer (some ⟨b58, 0 + 2, none⟩)), DetG (.slice A50 (((s_l24Own ((u_bentTable p_code (0, 0)).1)).Idxs).length) c50), DetG (.int .i64 ((((s_l24Own ((u_bentTable p_code (0, 0)).1)).Idxs).length : Int))), fun G v wq => v = .int .i64 ((u_pick p_code ((u_bentTable p_code (0, 0)).2) (((s_l24Own ((u_bentTable p_code (0, 0)).1)).Idxs).length : Int)).1) ∧ (0 ≤ (u_pick p_code ((u_bentTable p_code (0, 0)).2) (((s_l24Own ((u_bentTable p_code (0, 0)).1)).Idxs).length : Int)).1 ∧ (u_pick p_code ((u_bentTable p_code (0, 0)).2) (((s_l24Own ((u_bentTable p_code (0, 0)).1)).Idxs).length : Int)).1 ≤ 65535 ∧ ((u_pick p_code ((u_bentTable p_code (0, 0)).2) (((s_l24Own ((u_bentTable p_code (0, 0)).1)).Idxs).length : Int)).1 < (((s_l24Own ((u_bentTable p_code (0, 0)).1)).Idxs).length : Int) ∨ (((((s_l24Own ((u_bentTable p_code (0, 0)).1)).Idxs).length : Int) : Int) ≤ 0 ∧ (u_pick p_code ((u_bentTable p_code (0, 0)).2) (((s_l24Own ((u_bentTable p_code (0, 0)).1)).Idxs).length : Int)).1 = 0))) ∧ (((u_bentTable p_code (0, 0)).2).1 ≤ ((u_pick p_code ((u_bentTable p_code (0, 0)).2) (((s_l24Own ((u_bentTable p_code (0, 0)).1)).Idxs).length : Int)).2).1 ∧ ((u_pick p_code ((u_bentTable p_code (0, 0)).2) (((s_l24Own ((u_bentTable p_code (0, 0)).1)).Idxs).length : Int)).2).1 ≤ ((u_bentTable p_code (0, 0)).2).1 + 2) ∧ Box wq b16 78 [.slice A1 p_code.length c1, .int .i64 (((u_pick p_code ((u_bentTable p_code (0, 0)).2) (((s_l24Own ((u_bentTable p_code (0, 0)).1)).Idxs).length : Int)).2).1), .int .u64 (((u_pick p_code ((u_bentTable p_code (0, 0)).2) (((s_l24Own ((u_bentTable p_code (0, 0)).1)).Idxs).length : Int)).2).2)]]) Tryz.follows rfl rfl rfl rfl rfl rfl (fun _ _ _ _ _ h => ⟨Gh.udn h.1, h.2⟩) (fun i G w lo hi b K hn hh hp => by exact (match hp with | ⟨e, q1, q2⟩ => by subst e; exact .inl ⟨Gh.sdn, .inl ⟨q1, q2⟩⟩)) (vgetG_kept ⟨(KeptG.det _), (KeptG.det _), (KeptG.det _), (KeptG.det _), (KeptG.det _), (KeptG.det _), (by rintro i G v w w' K hn hh hj ⟨hv, h0, h1, h2⟩ e; exact ⟨hv, h0, h1, (by exact Box.chg h2 e (fun hp => by obtain ⟨rfl, q1, q2⟩ := hp; rw [hj] at hn; cases hn))⟩), trivial⟩) ⟨?_, ?_, ?_, ?_, ?_, ?_, ?_, trivial⟩ ?_
  ·intro L84 w85 G83 hgk86
   have hE87 : Chg (fun b => InR [(b16, b16 + 1)] b ∨ w64.heap.size ≤ b) w64 w85 := hgk86.st.ex.imp (fun b _ h => h.imp (fun h => h.2) (fun h => h))
   have hE87z := Chg.size hE87
   exact OpR.op' rfl (Yl.sameG (yl_fieldAddr fd26_2 rfl (hgk86.old 6 _ rfl rfl) kI))
  ·intro L90 w91 G89 hgk92
   have hE93 : Chg (fun b => InR [(b16, b16 + 1)] b ∨ w64.heap.size ≤ b) w64 w91 := hgk92.st.ex.imp (fun b _ h => h.imp (fun h => h.2) (fun h => h))
   have hE93z := Chg.size hE93
   obtain ⟨_, hx94, rfl⟩ := hgk92.val 0 19 rfl rfl
   exact OpR.op' rfl (Yl.sameG (yl_load1 ty24 rfl hx94 (((Box.chg hB65 hE93 (Bx (Box.lt hB65))).cell 2).trans rfl) kI))
  ·intro L97 w98 G96 hgk99
   have hE100 := hgk99.st.ex.ex (fun b h => h.elim (fun h => hgk99.no rfl h) (fun h => h))
   have hE100z := Ex.size hE100
   exact OpR.op' rfl (Yl.sameG (yM rfl (hgk99.old 4 _ rfl rfl) kI))
  ·intro L103 w104 G102 hgk105
   have hE106 := hgk105.st.ex.ex (fun b h => h.elim (fun h => hgk105.no rfl h) (fun h => h))
   have hE106z := Ex.size hE106
   exact OpR.op' rfl (Yl.sameG (yl_fieldAddr fd26_2 rfl (hgk105.old 6 _ rfl rfl) kI))
  ·intro L109 w110 G108 hgk111
   have hE112 := hgk111.st.ex.ex (fun b h => h.elim (fun h => hgk111.no rfl h) (fun h => h))
   have hE112z := Ex.size hE112
   obtain ⟨_, hx113, rfl⟩ := hgk111.val 3 22 rfl rfl
   exact OpR.op' rfl (Yl.sameG (yl_load1 ty24 rfl hx113 (((Box.ex hB65 hE112).cell 2).trans rfl) kI))
  ·intro L116 w117 G115 hgk118
   have hE119 := hgk118.st.ex.ex (fun b h => h.elim (fun h => hgk118.no rfl h) (fun h => h))
   have hE119z := Ex.size hE119
   obtain ⟨_, hx120, rfl⟩ := hgk118.val 4 23 rfl rfl
   exact OpR.op' rfl (Yl.sameG (yL un24 rfl hx120 kI))
  ·intro L122 w123 G121 hgk124
   have hE125 := hgk124.st.ex.ex (fun b h => h.elim (fun h => hgk124.nw h) (fun h => h))
   have hE125z := Ex.size hE125
   obtain ⟨_, hx126, rfl⟩ := hgk124.val 2 21 rfl rfl
   obtain ⟨_, hx127, rfl⟩ := hgk124.val 5 24 rfl rfl
   refine OpR.op' rfl (yC en50 rfl (oc hx126 (oc hx127 oz)) (Cal.mono (c_u_pick p_code ((u_bentTable p_code (0, 0)).2) (((s_l24Own ((u_bentTable p_code (0, 0)).1)).Idxs).length : Int) (Box.ex (Box.only (Box.ex (Box.ex (Box.only (Box.ex hB32 hE39) hO42 oM) hE53) hE63) hO66 oM) hE125) (RdS.ex gU q78 hE125) oM oM o2 oM (by assumption)) ?_))
   rintro v133 w130 ⟨rfl, hp131, hp132, hB135, hE134⟩
   exact ⟨hE134.imp (fun k _ hk => hk.elim (fun hk => (⟨rfl, hk.1, hk.2⟩)) False.elim), rfl, hp131, hp132, hB135⟩
  ·intro G136 L137 w138 hgp139
   have hE140 : Chg (fun b => InR [(b16, b16 + 1)] b ∨ w64.heap.size ≤ b) w64 w138 := hgp139.st.ex.imp (fun b _ h => h.imp (fun h => h.2) (fun h => h))
   have hE140z := Chg.size hE140
   obtain ⟨_, hx146, rfl⟩ := hgp139.val 1 20 rfl rfl
   obtain ⟨_, hx147, rfl, h148, h149, h150⟩ := hgp139.val 6 25 rfl rfl
   have hbz151 := Box.lt h150
   have hr152 := hgp139.st.rng 6 (hgp139.has 6 rfl)
   have q156 := OwnL.chg gI (OwnL.only gI (OwnL.ex gI h50 hE63) hO66 oM) hE140 Bk
   obtain ⟨eb157, eo157, _, eA157, _, ebl157, _, eR157, eC157⟩ := RdS.atD (OwnL.rd gI q156) d_Idx (i := ((u_pick p_code ((u_bentTable p_code (0, 0)).2) (((s_l24Own ((u_bentTable p_code (0, 0)).1)).Idxs).length : Int)).1).toNat) Bo
   obtain rfl := eR157
   have eC157 : Cells w138 eb157 (eo157 + (((u_pick p_code ((u_bentTable p_code (0, 0)).2) (((s_l24Own ((u_bentTable p_code (0, 0)).1)).Idxs).length : Int)).1).toNat) * 3) [.string (bs ((((s_l24Own ((u_bentTable p_code (0, 0)).1)).Idxs).getD (((u_pick p_code ((u_bentTable p_code (0, 0)).2) (((s_l24Own ((u_bentTable p_code (0, 0)).1)).Idxs).length : Int)).1).toNat) d_Idx).Name)), .int .i64 ((((s_l24Own ((u_bentTable p_code (0, 0)).1)).Idxs).getD (((u_pick p_code ((u_bentTable p_code (0, 0)).2) (((s_l24Own ((u_bentTable p_code (0, 0)).1)).Idxs).length : Int)).1).toNat) d_Idx).Col), .int .i64 ((((s_l24Own ((u_bentTable p_code (0, 0)).1)).Idxs).getD (((u_pick p_code ((u_bentTable p_code (0, 0)).2) (((s_l24Own ((u_bentTable p_code (0, 0)).1)).Idxs).length : Int)).1).toNat) d_Idx).Stage)] := eC157
   refine sd rfl (yl_indexAddr un24 ty35 rfl hx146 hx147 eA157 Bo Bo (sA rfl (dn (CW.sub (sC 2 (hgp139.old 2 _ rfl rfl) (sC 3 (hgp139.old 3 _ rfl rfl) (sC 4 (hgp139.old 4 _ rfl rfl) (sC 5 (hgp139.old 5 _ rfl rfl) (sC 6 (hgp139.old 6 _ rfl rfl) (sC 7 rfl (Sub.nil _))))))) (cR (sM rfl (sM rfl ?_)))))))
   have q158 := RdS.chg gU q78 hE140 Bi
   refine sd rfl (yC en50 rfl (oc rfl (oc rfl oz)) (Cal.mono (c_u_pick p_code ((u_pick p_code ((u_bentTable p_code (0, 0)).2) (((s_l24Own ((u_bentTable p_code (0, 0)).1)).Idxs).length : Int)).2) 4 h150 q158 oM oM o2 oM (by assumption)) ?_))
   rintro v162 w159 ⟨rfl, hp160, hp161, hB164, hc163⟩
   have hc163z := Chg.size hc163
   have hB164z := Box.lt hB164
   refine sd rfl (yl_nil rfl rfl (sd rfl (yl_fieldAddr fd35_2 rfl rfl ?_)))
   have q165 := OwnL.chg gI q156 hc163 Bk
   have hrg166 := OwnL.rng q165 (i := ((u_pick p_code ((u_bentTable p_code (0, 0)).2) (((s_l24Own ((u_bentTable p_code (0, 0)).1)).Idxs).length : Int)).1).toNat) Bo eb157 (by rw [eA157]; rfl)
   refine SeqR.u rfl rfl (yl_storeF (off := eo157) (i := ((u_pick p_code ((u_bentTable p_code (0, 0)).2) (((s_l24Own ((u_bentTable p_code (0, 0)).1)).Idxs).length : Int)).1).toNat) (d := 2) (dx := d_Idx) (x' := (⟨(((s_l24Own ((u_bentTable p_code (0, 0)).1)).Idxs).getD (((u_pick p_code ((u_bentTable p_code (0, 0)).2) (((s_l24Own ((u_bentTable p_code (0, 0)).1)).Idxs).length : Int)).1).toNat) d_Idx).Name, (((s_l24Own ((u_bentTable p_code (0, 0)).1)).Idxs).getD (((u_pick p_code ((u_bentTable p_code (0, 0)).2) (((s_l24Own ((u_bentTable p_code (0, 0)).1)).Idxs).length : Int)).1).toNat) d_Idx).Col, (u_pick p_code ((u_pick p_code ((u_bentTable p_code (0, 0)).2) (((s_l24Own ((u_bentTable p_code (0, 0)).1)).Idxs).length : Int)).2) 4).1⟩ : DIdx)) (vs := [.int .i64 ((u_pick p_code ((u_pick p_code ((u_bentTable p_code (0, 0)).2) (((s_l24Own ((u_bentTable p_code (0, 0)).1)).Idxs).length : Int)).2) 4).1)]) ty3 rfl q165 eA157 rfl rfl rfl rfl rfl Bo (nb rfl) rfl rfl ?_)
   intro w167 hB168 hO169
   have hO169z := hO169.size
   refine dn (cR (sM rfl ?_))
   have q172 := RdS.only gU (RdS.chg gU q158 hc163 Bi) hO169 (by simp only [Iv]; omega)
   refine sd rfl (yC en51 rfl (oc rfl (oc rfl oz)) (Cal.mono (c_u_one p_code ((u_pick p_code ((u_pick p_code ((u_bentTable p_code (0, 0)).2) (((s_l24Own ((u_bentTable p_code (0, 0)).1)).Idxs).length : Int)).2) 4).2) 9 (Box.only hB164 hO169 oM) q172 oM oM o2 oM (by assumption)) ?_))
   rintro v175 w173 ⟨rfl, hp174, hB177, hc176⟩
   have hc176z := Chg.size hc176
   have hB177z := Box.lt hB177
   refine dn (bcase ((u_one p_code ((u_pick p_code ((u_pick p_code ((u_bentTable p_code (0, 0)).2) (((s_l24Own ((u_bentTable p_code (0, 0)).1)).Idxs).length : Int)).2) 4).2) 9).1) (fun hb178 => ?_) (fun hb178 => ?_))
   ·refine CW.cond_t rfl hb178 (CW.region (sM rfl (sM rfl ?_)))
    have q179 := RdS.chg gU q172 hc176 Bi
    refine sd rfl (yC en50 rfl (oc rfl (oc rfl oz)) (Cal.mono (c_u_pick p_code ((u_one p_code ((u_pick p_code ((u_pick p_code ((u_bentTable p_code (0, 0)).2) (((s_l24Own ((u_bentTable p_code (0, 0)).1)).Idxs).length : Int)).2) 4).2) 9).2) 3 hB177 q179 oM oM o2 oM (by assumption)) ?_))
    rintro v183 w180 ⟨rfl, hp181, hp182, hB185, hc184⟩
    have hc184z := Chg.size hc184
    have hB185z := Box.lt hB185
    refine sd rfl (yl_add rfl rfl rfl (sd rfl (yl_nil rfl rfl (sd rfl (yl_fieldAddr fd35_1 rfl rfl ?_)))))
    have q187 := OwnL.chg gI (OwnL.chg gI hB168 hc176 Bk) hc184 Bk
    have hrg188 := OwnL.rng q187 (i := ((u_pick p_code ((u_bentTable p_code (0, 0)).2) (((s_l24Own ((u_bentTable p_code (0, 0)).1)).Idxs).length : Int)).1).toNat) Bo eb157 (by rw [eA157]; rfl)
    refine SeqR.u rfl rfl (yl_storeF (off := eo157) (i := ((u_pick p_code ((u_bentTable p_code (0, 0)).2) (((s_l24Own ((u_bentTable p_code (0, 0)).1)).Idxs).length : Int)).1).toNat) (d := 1) (dx := d_Idx) (x' := (⟨(((s_l24Own ((u_bentTable p_code (0, 0)).1)).Idxs).getD (((u_pick p_code ((u_bentTable p_code (0, 0)).2) (((s_l24Own ((u_bentTable p_code (0, 0)).1)).Idxs).length : Int)).1).toNat) d_Idx).Name, IntKind.wrap .i64 (1 + ((u_pick p_code ((u_one p_code ((u_pick p_code ((u_pick p_code ((u_bentTable p_code (0, 0)).2) (((s_l24Own ((u_bentTable p_code (0, 0)).1)).Idxs).length : Int)).2) 4).2) 9).2) 3).1)), (u_pick p_code ((u_pick p_code ((u_bentTable p_code (0, 0)).2) (((s_l24Own ((u_bentTable p_code (0, 0)).1)).Idxs).length : Int)).2) 4).1⟩ : DIdx)) (vs := [.int .i64 (IntKind.wrap .i64 (1 + ((u_pick p_code ((u_one p_code ((u_pick p_code ((u_pick p_code ((u_bentTable p_code (0, 0)).2) (((s_l24Own ((u_bentTable p_code (0, 0)).1)).Idxs).length : Int)).2) 4).2) 9).2) 3).1)))]) ty3 rfl q187 eA157 rfl rfl rfl rfl rfl Bo (nb rfl) (by rw [getD_set_self (by have hq := OwnL.len q187; simp only [List.length_set] at hq; omega)]; rfl) rfl ?_)
    intro w189 hB190 hO191
    have hO191z := hO191.size
    rw [List.set_set] at hB190
    refine dn (CW.seq (cR (sM rfl ?_)))
    have q194 := RdS.only gU (RdS.chg gU q179 hc184 Bi) hO191 (by simp only [Iv]; omega)
    refine sd rfl (yC en51 rfl (oc rfl (oc rfl oz)) (Cal.mono (c_u_one p_code ((u_pick p_code ((u_one p_code ((u_pick p_code ((u_pick p_code ((u_bentTable p_code (0, 0)).2) (((s_l24Own ((u_bentTable p_code (0, 0)).1)).Idxs).length : Int)).2) 4).2) 9).2) 3).2) 9 (Box.only hB185 hO191 oM) q194 oM oM o2 oM (by assumption)) ?_))
    rintro v197 w195 ⟨rfl, hp196, hB199, hc198⟩
    have hc198z := Chg.size hc198
    have hB199z := Box.lt hB199
    refine dn (bcase ((u_one p_code ((u_pick p_code ((u_one p_code ((u_pick p_code ((u_pick p_code ((u_bentTable p_code (0, 0)).2) (((s_l24Own ((u_bentTable p_code (0, 0)).1)).Idxs).length : Int)).2) 4).2) 9).2) 3).2) 9).1) (fun hb200 => ?_) (fun hb200 => ?_))
    ·refine CW.cond_t rfl hb200 (CW.region (sM rfl (sd rfl (yC en52 rfl (oc rfl oz) (Cal.mono (c_u_table p_code ((u_one p_code ((u_pick p_code ((u_one p_code ((u_pick p_code ((u_pick p_code ((u_bentTable p_code (0, 0)).2) (((s_l24Own ((u_bentTable p_code (0, 0)).1)).Idxs).length : Int)).2) 4).2) 9).2) 3).2) 9).2) hB199 (RdS.chg gU q194 hc198 Bi) oM oM o2 oM (by assumption)) ?_)))))
     rintro v209 w202 ⟨A203, c203, lo203, hi203, A204, c204, lo204, hi204, rfl, h203, h204, ho205, hp206, hp207, hp208, hB211, hrn212, hrn213, hrn214, hc210⟩
     have hc210z := Chg.size hc210
     have hB211z := Box.lt hB211
     have hrf215 := rf_table (c := p_code) (by assumption) ((u_one p_code ((u_pick p_code ((u_one p_code ((u_pick p_code ((u_pick p_code ((u_bentTable p_code (0, 0)).2) (((s_l24Own ((u_bentTable p_code (0, 0)).1)).Idxs).length : Int)).2) 4).2) 9).2) 3).2) 9).2)
     have q216 := Box.chg hB65 hE140 (Bx (Box.lt hB65))
     have q218 := Box.only (Box.chg q216 hc163 (Bx (Box.lt q216))) hO169 oM
     have q219 := Box.chg q218 hc176 (Bx (Box.lt q218))
     have q221 := Box.only (Box.chg q219 hc184 (Bx (Box.lt q219))) hO191 oM
     have q222 := Box.chg q221 hc198 (Bx (Box.lt q221))
     refine SeqR.u rfl rfl (yl_store (vs := [.string (bs ((u_table p_code ((u_one p_code ((u_pick p_code ((u_one p_code ((u_pick p_code ((u_pick p_code ((u_bentTable p_code (0, 0)).2) (((s_l24Own ((u_bentTable p_code (0, 0)).1)).Idxs).length : Int)).2) 4).2) 9).2) 3).2) 9).2)).1.Name)), .slice A203 (((u_table p_code ((u_one p_code ((u_pick p_code ((u_one p_code ((u_pick p_code ((u_pick p_code ((u_bentTable p_code (0, 0)).2) (((s_l24Own ((u_bentTable p_code (0, 0)).1)).Idxs).length : Int)).2) 4).2) 9).2) 3).2) 9).2)).1.Cols).length) c203, .slice A204 (((u_table p_code ((u_one p_code ((u_pick p_code ((u_one p_code ((u_pick p_code ((u_pick p_code ((u_bentTable p_code (0, 0)).2) (((s_l24Own ((u_bentTable p_code (0, 0)).1)).Idxs).length : Int)).2) 4).2) 9).2) 3).2) 9).2)).1.Idxs).length) c204]) ty26 rfl rfl rfl rfl rfl rfl (Box.chg q222 hc210 (Bx (Box.lt q222))) (nb rfl) ?_)
     intro w224 hB225 hO226
     have hB225 : Box w224 b58 26 [.string (bs ((u_table p_code ((u_one p_code ((u_pick p_code ((u_one p_code ((u_pick p_code ((u_pick p_code ((u_bentTable p_code (0, 0)).2) (((s_l24Own ((u_bentTable p_code (0, 0)).1)).Idxs).length : Int)).2) 4).2) 9).2) 3).2) 9).2)).1.Name)), .slice A203 (((u_table p_code ((u_one p_code ((u_pick p_code ((u_one p_code ((u_pick p_code ((u_pick p_code ((u_bentTable p_code (0, 0)).2) (((s_l24Own ((u_bentTable p_code (0, 0)).1)).Idxs).length : Int)).2) 4).2) 9).2) 3).2) 9).2)).1.Cols).length) c203, .slice A204 (((u_table p_code ((u_one p_code ((u_pick p_code ((u_one p_code ((u_pick p_code ((u_pick p_code ((u_bentTable p_code (0, 0)).2) (((s_l24Own ((u_bentTable p_code (0, 0)).1)).Idxs).length : Int)).2) 4).2) 9).2) 3).2) 9).2)).1.Idxs).length) c204] := hB225
     have hO226z := hO226.size
     refine dn (CW.seq ?_)
     have q229 := Box.only (Box.ex (Box.ex hB41 hE53) hE63) hO66 oM
     have q230 := Box.chg q229 hE140 (Bx (Box.lt q229))
     have q232 := Box.only (Box.chg q230 hc163 (Bx (Box.lt q230))) hO169 oM
     have q233 := Box.chg q232 hc176 (Bx (Box.lt q232))
     have q235 := Box.only (Box.chg q233 hc184 (Bx (Box.lt q233))) hO191 oM
     have q236 := Box.chg q235 hc198 (Bx (Box.lt q235))
     refine CW.drawsG 3 (fun G b => G.dn 2 = true ∧ InR [(b4, b4 + 1)] b) (fun i G b => (i = 2 ∧ b4 ≤ b ∧ b < b4 + 1)) (vgetG [DetG (.agg #[.string (bs ((u_bentTable p_code (0, 0)).1.Name)), .slice A26 (((u_bentTable p_code (0, 0)).1.Cols).length) c26, .slice A27 (((u_bentTable p_code (0, 0)).1.Idxs).length) c27]), DetG (.agg #[.string (bs ((u_table p_code ((u_one p_code ((u_pick p_code ((u_one p_code ((u_pick p_code ((u_pick p_code ((u_bentTable p_code (0, 0)).2) (((s_l24Own ((u_bentTable p_code (0, 0)).1)).Idxs).length : Int)).2) 4).2) 9).2) 3).2) 9).2)).1.Name)), .slice A203 (((u_table p_code ((u_one p_code ((u_pick p_code ((u_one p_code ((u_pick p_code ((u_pick p_code ((u_bentTable p_code (0, 0)).2) (((s_l24Own ((u_bentTable p_code (0, 0)).1)).Idxs).length : Int)).2) 4).2) 9).2) 3).2) 9).2)).1.Cols).length) c203, .slice A204 (((u_table p_code ((u_one p_code ((u_pick p_code ((u_one p_code ((u_pick p_code ((u_pick p_code ((u_bentTable p_code (0, 0)).2) (((s_l24Own ((u_bentTable p_code (0, 0)).1)).Idxs).length : Int)).2) 4).2) 9).2) 3).2) 9).2)).1.Idxs).length) c204]), fun G v wq => Box wq b4 26 [.string (bs ((u_bentTable p_code (0, 0)).1.Name)), .slice A26 (((u_bentTable p_code (0, 0)).1.Cols).length) c26, .slice A27 (((u_bentTable p_code (0, 0)).1.Idxs).length) c27]]) Tryz.follows rfl rfl rfl rfl rfl rfl (fun _ _ _ _ _ h => ⟨Gh.udn h.1, h.2⟩) (fun i G w lo hi b K hn hh hp => by exact (match hp with | ⟨e, q1, q2⟩ => by subst e; exact .inl ⟨Gh.sdn, .inl ⟨q1, q2⟩⟩)) (vgetG_kept ⟨(KeptG.det _), (KeptG.det _), (by rintro i G v w w' K hn hh hj h0 e; exact (by exact Box.chg h0 e (fun hp => by obtain ⟨rfl, q1, q2⟩ := hp; rw [hj] at hn; cases hn))), trivial⟩) ⟨?_, ?_, ?_, trivial⟩ ?_
     ·intro L241 w242 G240 hgk243
      have hE244 := hgk243.st.ex.ex (fun b h => h.elim (fun h => hgk243.no rfl h) (fun h => h))
      have hE244z := Ex.size hE244
      exact OpR.op' rfl (Yl.sameG (yl_loadN ty26 rfl (hgk243.old 5 _ rfl rfl) ((Box.ex (Box.only (Box.chg q236 hc210 (Bx (Box.lt q236))) hO226 oM) hE244).cells (n := 3) rfl) rfl kI))
     ·intro L248 w249 G247 hgk250
      have hE251 : Chg (fun b => InR [(b4, b4 + 1)] b ∨ w224.heap.size ≤ b) w224 w249 := hgk250.st.ex.imp (fun b _ h => h.imp (fun h => h.2) (fun h => h))
      have hE251z := Chg.size hE251
      exact OpR.op' rfl (Yl.sameG (yl_loadN ty26 rfl (hgk250.old 6 _ rfl rfl) ((Box.chg hB225 hE251 (Bx (Box.lt hB225))).cells (n := 3) rfl) rfl kI))
     ·intro L255 w256 G254 hgk257
      have hE258 := hgk257.st.ex.ex (fun b h => h.elim (fun h => hgk257.nw h) (fun h => h))
      have hE258z := Ex.size hE258
      obtain ⟨_, hx260, rfl⟩ := hgk257.val 0 44 rfl rfl
      have q262 := Box.ex (Box.ex hB8 hE15) hE21
      have q268 := Box.only (Box.ex (Box.ex (Box.only (Box.ex (Box.chg q262 hc31 (Bx (Box.lt q262))) hE39) hO42 oM) hE53) hE63) hO66 oM
      have q269 := Box.chg q268 hE140 (Bx (Box.lt q268))
      have q271 := Box.only (Box.chg q269 hc163 (Bx (Box.lt q269))) hO169 oM
      have q272 := Box.chg q271 hc176 (Bx (Box.lt q271))
      have q274 := Box.only (Box.chg q272 hc184 (Bx (Box.lt q272))) hO191 oM
      have q275 := Box.chg q274 hc198 (Bx (Box.lt q274))
      refine OpR.op' rfl (yl_store (vs := [.string (bs ((u_bentTable p_code (0, 0)).1.Name)), .slice A26 (((u_bentTable p_code (0, 0)).1.Cols).length) c26, .slice A27 (((u_bentTable p_code (0, 0)).1.Idxs).length) c27]) ty26 rfl (hgk257.old 2 _ rfl rfl) hx260 rfl rfl rfl (Box.ex (Box.only (Box.chg q275 hc210 (Bx (Box.lt q275))) hO226 oM) hE258) (nb rfl) ?_)
      intro w279 hB280 hO281
      have hO281z := hO281.size
      exact ⟨Chg.of_only hO281 (⟨rfl, Nat.le_refl _, by omega⟩), hB280⟩
     ·intro G282 L283 w284 hgp285
      have hE286 : Chg (fun b => InR [(b4, b4 + 1)] b ∨ w224.heap.size ≤ b) w224 w284 := hgp285.st.ex.imp (fun b _ h => h.imp (fun h => h.2) (fun h => h))
      have hE286z := Chg.size hE286
      have hx288 := hgp285.old 3 _ rfl rfl
      obtain ⟨_, hx289, rfl⟩ := hgp285.val 1 45 rfl rfl
      obtain ⟨_, h290⟩ := hgp285.fact 2 rfl
      have hr291 := hgp285.st.rng 2 (hgp285.has 2 rfl)
      have q292 := Box.ex hB14 hE21
      have q298 := Box.only (Box.ex (Box.ex (Box.only (Box.ex (Box.chg q292 hc31 (Bx (Box.lt q292))) hE39) hO42 oM) hE53) hE63) hO66 oM
      have q299 := Box.chg q298 hE140 (Bx (Box.lt q298))
      have q301 := Box.only (Box.chg q299 hc163 (Bx (Box.lt q299))) hO169 oM
      have q302 := Box.chg q301 hc176 (Bx (Box.lt q301))
      have q304 := Box.only (Box.chg q302 hc184 (Bx (Box.lt q302))) hO191 oM
      have q305 := Box.chg q304 hc198 (Bx (Box.lt q304))
      have q307 := Box.only (Box.chg q305 hc210 (Bx (Box.lt q305))) hO226 oM
      refine SeqR.u rfl rfl (yl_store (vs := [.string (bs ((u_table p_code ((u_one p_code ((u_pick p_code ((u_one p_code ((u_pick p_code ((u_pick p_code ((u_bentTable p_code (0, 0)).2) (((s_l24Own ((u_bentTable p_code (0, 0)).1)).Idxs).length : Int)).2) 4).2) 9).2) 3).2) 9).2)).1.Name)), .slice A203 (((u_table p_code ((u_one p_code ((u_pick p_code ((u_one p_code ((u_pick p_code ((u_pick p_code ((u_bentTable p_code (0, 0)).2) (((s_l24Own ((u_bentTable p_code (0, 0)).1)).Idxs).length : Int)).2) 4).2) 9).2) 3).2) 9).2)).1.Cols).length) c203, .slice A204 (((u_table p_code ((u_one p_code ((u_pick p_code ((u_one p_code ((u_pick p_code ((u_pick p_code ((u_bentTable p_code (0, 0)).2) (((s_l24Own ((u_bentTable p_code (0, 0)).1)).Idxs).length : Int)).2) 4).2) 9).2) 3).2) 9).2)).1.Idxs).length) c204]) ty26 rfl hx288 hx289 rfl rfl rfl (Box.chg q307 hE286 (Bx (Box.lt q307))) (nb rfl) ?_)
      intro w309 hB310 hO311
      have hB310 : Box w309 b10 26 [.string (bs ((u_table p_code ((u_one p_code ((u_pick p_code ((u_one p_code ((u_pick p_code ((u_pick p_code ((u_bentTable p_code (0, 0)).2) (((s_l24Own ((u_bentTable p_code (0, 0)).1)).Idxs).length : Int)).2) 4).2) 9).2) 3).2) 9).2)).1.Name)), .slice A203 (((u_table p_code ((u_one p_code ((u_pick p_code ((u_one p_code ((u_pick p_code ((u_pick p_code ((u_bentTable p_code (0, 0)).2) (((s_l24Own ((u_bentTable p_code (0, 0)).1)).Idxs).length : Int)).2) 4).2) 9).2) 3).2) 9).2)).1.Cols).length) c203, .slice A204 (((u_table p_code ((u_one p_code ((u_pick p_code ((u_one p_code ((u_pick p_code ((u_pick p_code ((u_bentTable p_code (0, 0)).2) (((s_l24Own ((u_bentTable p_code (0, 0)).1)).Idxs).length : Int)).2) 4).2) 9).2) 3).2) 9).2)).1.Idxs).length) c204] := hB310
      have hO311z := hO311.size
      refine dn (CW.sub (sC 2 (hgp285.old 2 _ rfl rfl) (sC 3 hx288 (Sub.nil _))) (CW.ret (rr rfl (.cons ⟨_, rfl, run_loadN ty26 (cs := [.string (bs ((u_bentTable p_code (0, 0)).1.Name)), .slice A26 (((u_bentTable p_code (0, 0)).1.Cols).length) c26, .slice A27 (((u_bentTable p_code (0, 0)).1.Idxs).length) c27]) rfl ((Box.only h290 hO311 oM).cells (n := 3) rfl)⟩ (.cons ⟨_, rfl, run_loadN ty26 (cs := [.string (bs ((u_table p_code ((u_one p_code ((u_pick p_code ((u_one p_code ((u_pick p_code ((u_pick p_code ((u_bentTable p_code (0, 0)).2) (((s_l24Own ((u_bentTable p_code (0, 0)).1)).Idxs).length : Int)).2) 4).2) 9).2) 3).2) 9).2)).1.Name)), .slice A203 (((u_table p_code ((u_one p_code ((u_pick p_code ((u_one p_code ((u_pick p_code ((u_pick p_code ((u_bentTable p_code (0, 0)).2) (((s_l24Own ((u_bentTable p_code (0, 0)).1)).Idxs).length : Int)).2) 4).2) 9).2) 3).2) 9).2)).1.Cols).length) c203, .slice A204 (((u_table p_code ((u_one p_code ((u_pick p_code ((u_one p_code ((u_pick p_code ((u_pick p_code ((u_bentTable p_code (0, 0)).2) (((s_l24Own ((u_bentTable p_code (0, 0)).1)).Idxs).length : Int)).2) 4).2) 9).2) 3).2) 9).2)).1.Idxs).length) c204]) rfl (hB310.cells (n := 3) rfl)⟩ .nil)) ?_)))
      have hM313 : (s_DrawNextTo p_code) = (((u_bentTable p_code (0, 0)).1, (u_table p_code ((u_one p_code ((u_pick p_code ((u_one p_code ((u_pick p_code ((u_pick p_code ((u_bentTable p_code (0, 0)).2) (((s_l24Own ((u_bentTable p_code (0, 0)).1)).Idxs).length : Int)).2) 4).2) 9).2) 3).2) 9).2)).1)) := by simp only [s_DrawNextTo, hb67, hb178, hb200, cL]
      have q320 := RdS.chg gS (RdS.only gS (RdS.chg gS (RdS.chg gS (RdS.only gS (RdS.ex gS (RdS.ex gS q44 hE53) hE63) hO66 (by simp only [Iv]; omega)) hE140 Bi) hc163 Bi) hO169 (by simp only [Iv]; omega)) hc176 Bi
      have q326 := RdS.chg gS (RdS.only gS (RdS.chg gS (RdS.chg gS (RdS.only gS (RdS.chg gS q320 hc184 Bi) hO191 (by simp only [Iv]; omega)) hc198 Bi) hc210 Bi) hO226 (by simp only [Iv]; omega)) hE286 Bi
      have q335 := OwnL.chg gI (OwnL.chg gI (OwnL.only gI (OwnL.chg gI (OwnL.chg gI (OwnL.only gI (OwnL.ex gI (OwnL.ex gI q47 hE53) hE63) hO66 oM) hE140 Bk) hc163 Bk) hO169 oM) hc176 Bk) hc184 Bk
      rw [hM313]
      have q359 := Below.only (Ex.chg (Ex.chg (Below.only (Ex.trans (Ex.trans (Below.only (Ex.trans (Ex.chg (Ex.trans (Ex.trans (Ex.trans (Ex.refl w) hE9) hE15) hE21) hc31 (fun k hk => by simp only [InR, or_false] at hk; omega)) hE39) hO42 oM) hE53) hE63) hO66 oM) hE140 (fun k hk => by simp only [InR, or_false] at hk; omega)) hc163 (fun k hk => by simp only [InR, or_false] at hk; omega)) hO169 oM
      have q366 := Ex.chg (Below.only (Ex.chg (Ex.chg (Below.only (Ex.chg (Ex.chg q359 hc176 (fun k hk => by simp only [InR, or_false] at hk; omega)) hc184 (fun k hk => by simp only [InR, or_false] at hk; omega)) hO191 oM) hc198 (fun k hk => by simp only [InR, or_false] at hk; omega)) hc210 (fun k hk => by simp only [InR, or_false] at hk; omega)) hO226 oM) hE286 (fun k hk => by simp only [InR, or_false] at hk; omega)
      exact ⟨A26, c26, A27, c27, lo27, hi27, A203, c203, lo203, hi203, A204, c204, lo204, hi204, rfl, (RdS.wideI gS (RdS.only gS q326 hO311 (by simp only [Iv]; omega)) oM), (OwnL.only gI (OwnL.chg gI (OwnL.only gI (OwnL.chg gI (OwnL.chg gI (OwnL.only gI q335 hO191 oM) hc198 Bk) hc210 Bk) hO226 oM) hE286 Bk) hO311 oM), (OwnL.only gS (OwnL.chg gS (OwnL.only gS h203 hO226 oM) hE286 Bk) hO311 oM), (OwnL.only gI (OwnL.chg gI (OwnL.only gI h204 hO226 oM) hE286 Bk) hO311 oM), ho28, ho205, oM, oM, oM, oM, oM, oM, (Below.only q366 hO311 oM)⟩
    ·refine CW.cond_f rfl hb200 (CW.skip (tn (CW.seq ?_)))
     have q370 := Box.only (Box.ex (Box.ex hB41 hE53) hE63) hO66 oM
     have q371 := Box.chg q370 hE140 (Bx (Box.lt q370))
     have q373 := Box.only (Box.chg q371 hc163 (Bx (Box.lt q371))) hO169 oM
     have q374 := Box.chg q373 hc176 (Bx (Box.lt q373))
     have q376 := Box.only (Box.chg q374 hc184 (Bx (Box.lt q374))) hO191 oM
     have q378 := Box.chg hB65 hE140 (Bx (Box.lt hB65))
     have q380 := Box.only (Box.chg q378 hc163 (Bx (Box.lt q378))) hO169 oM
     have q381 := Box.chg q380 hc176 (Bx (Box.lt q380))
     have q383 := Box.only (Box.chg q381 hc184 (Bx (Box.lt q381))) hO191 oM
     have q384 := Box.chg q383 hc198 (Bx (Box.lt q383))
     refine CW.drawsG 3 (fun G b => G.dn 2 = true ∧ InR [(b4, b4 + 1)] b) (fun i G b => (i = 2 ∧ b4 ≤ b ∧ b < b4 + 1)) (vgetG [DetG (.agg #[.string (bs ((u_bentTable p_code (0, 0)).1.Name)), .slice A26 (((u_bentTable p_code (0, 0)).1.Cols).length) c26, .slice A27 (((u_bentTable p_code (0, 0)).1.Idxs).length) c27]), DetG (.agg #[.string (bs ((s_l24Own ((u_bentTable p_code (0, 0)).1)).Name)), .slice A49 (((s_l24Own ((u_bentTable p_code (0, 0)).1)).Cols).length) c49, .slice A50 (((s_l24Own ((u_bentTable p_code (0, 0)).1)).Idxs).length) c50]), fun G v wq => Box wq b4 26 [.string (bs ((u_bentTable p_code (0, 0)).1.Name)), .slice A26 (((u_bentTable p_code (0, 0)).1.Cols).length) c26, .slice A27 (((u_bentTable p_code (0, 0)).1.Idxs).length) c27]]) Tryz.follows rfl rfl rfl rfl rfl rfl (fun _ _ _ _ _ h => ⟨Gh.udn h.1, h.2⟩) (fun i G w lo hi b K hn hh hp => by exact (match hp with | ⟨e, q1, q2⟩ => by subst e; exact .inl ⟨Gh.sdn, .inl ⟨q1, q2⟩⟩)) (vgetG_kept ⟨(KeptG.det _), (KeptG.det _), (by rintro i G v w w' K hn hh hj h0 e; exact (by exact Box.chg h0 e (fun hp => by obtain ⟨rfl, q1, q2⟩ := hp; rw [hj] at hn; cases hn))), trivial⟩) ⟨?_, ?_, ?_, trivial⟩ ?_
     ·intro L387 w388 G386 hgk389
      have hE390 := hgk389.st.ex.ex (fun b h => h.elim (fun h => hgk389.no rfl h) (fun h => h))
      have hE390z := Ex.size hE390
      exact OpR.op' rfl (Yl.sameG (yl_loadN ty26 rfl (hgk389.old 5 _ rfl rfl) ((Box.ex (Box.chg q376 hc198 (Bx (Box.lt q376))) hE390).cells (n := 3) rfl) rfl kI))
     ·intro L394 w395 G393 hgk396
      have hE397 : Chg (fun b => InR [(b4, b4 + 1)] b ∨ w195.heap.size ≤ b) w195 w395 := hgk396.st.ex.imp (fun b _ h => h.imp (fun h => h.2) (fun h => h))
      have hE397z := Chg.size hE397
      exact OpR.op' rfl (Yl.sameG (yl_loadN ty26 rfl (hgk396.old 6 _ rfl rfl) ((Box.chg q384 hE397 (Bx (Box.lt q384))).cells (n := 3) rfl) rfl kI))
     ·intro L401 w402 G400 hgk403
      have hE404 := hgk403.st.ex.ex (fun b h => h.elim (fun h => hgk403.nw h) (fun h => h))
      have hE404z := Ex.size hE404
      obtain ⟨_, hx406, rfl⟩ := hgk403.val 0 44 rfl rfl
      have q408 := Box.ex (Box.ex hB8 hE15) hE21
      have q414 := Box.only (Box.ex (Box.ex (Box.only (Box.ex (Box.chg q408 hc31 (Bx (Box.lt q408))) hE39) hO42 oM) hE53) hE63) hO66 oM
      have q415 := Box.chg q414 hE140 (Bx (Box.lt q414))
      have q417 := Box.only (Box.chg q415 hc163 (Bx (Box.lt q415))) hO169 oM
      have q418 := Box.chg q417 hc176 (Bx (Box.lt q417))
      have q420 := Box.only (Box.chg q418 hc184 (Bx (Box.lt q418))) hO191 oM
      refine OpR.op' rfl (yl_store (vs := [.string (bs ((u_bentTable p_code (0, 0)).1.Name)), .slice A26 (((u_bentTable p_code (0, 0)).1.Cols).length) c26, .slice A27 (((u_bentTable p_code (0, 0)).1.Idxs).length) c27]) ty26 rfl (hgk403.old 2 _ rfl rfl) hx406 rfl rfl rfl (Box.ex (Box.chg q420 hc198 (Bx (Box.lt q420))) hE404) (nb rfl) ?_)
      intro w423 hB424 hO425
      have hO425z := hO425.size
      exact ⟨Chg.of_only hO425 (⟨rfl, Nat.le_refl _, by omega⟩), hB424⟩
     ·intro G426 L427 w428 hgp429
      have hE430 : Chg (fun b => InR [(b4, b4 + 1)] b ∨ w195.heap.size ≤ b) w195 w428 := hgp429.st.ex.imp (fun b _ h => h.imp (fun h => h.2) (fun h => h))
      have hE430z := Chg.size hE430
      have hx432 := hgp429.old 3 _ rfl rfl
      obtain ⟨_, hx433, rfl⟩ := hgp429.val 1 45 rfl rfl
      obtain ⟨_, h434⟩ := hgp429.fact 2 rfl
      have hr435 := hgp429.st.rng 2 (hgp429.has 2 rfl)
      have q436 := Box.ex hB14 hE21
      have q442 := Box.only (Box.ex (Box.ex (Box.only (Box.ex (Box.chg q436 hc31 (Bx (Box.lt q436))) hE39) hO42 oM) hE53) hE63) hO66 oM
      have q443 := Box.chg q442 hE140 (Bx (Box.lt q442))
      have q445 := Box.only (Box.chg q443 hc163 (Bx (Box.lt q443))) hO169 oM
      have q446 := Box.chg q445 hc176 (Bx (Box.lt q445))
      have q448 := Box.only (Box.chg q446 hc184 (Bx (Box.lt q446))) hO191 oM
      have q449 := Box.chg q448 hc198 (Bx (Box.lt q448))
      refine SeqR.u rfl rfl (yl_store (vs := [.string (bs ((s_l24Own ((u_bentTable p_code (0, 0)).1)).Name)), .slice A49 (((s_l24Own ((u_bentTable p_code (0, 0)).1)).Cols).length) c49, .slice A50 (((s_l24Own ((u_bentTable p_code (0, 0)).1)).Idxs).length) c50]) ty26 rfl hx432 hx433 rfl rfl rfl (Box.chg q449 hE430 (Bx (Box.lt q449))) (nb rfl) ?_)
      intro w451 hB452 hO453
      have hB452 : Box w451 b10 26 [.string (bs ((s_l24Own ((u_bentTable p_code (0, 0)).1)).Name)), .slice A49 (((s_l24Own ((u_bentTable p_code (0, 0)).1)).Cols).length) c49, .slice A50 (((s_l24Own ((u_bentTable p_code (0, 0)).1)).Idxs).length) c50] := hB452
      have hO453z := hO453.size
      refine dn (CW.sub (sC 2 (hgp429.old 2 _ rfl rfl) (sC 3 hx432 (Sub.nil _))) (CW.ret (rr rfl (.cons ⟨_, rfl, run_loadN ty26 (cs := [.string (bs ((u_bentTable p_code (0, 0)).1.Name)), .slice A26 (((u_bentTable p_code (0, 0)).1.Cols).length) c26, .slice A27 (((u_bentTable p_code (0, 0)).1.Idxs).length) c27]) rfl ((Box.only h434 hO453 oM).cells (n := 3) rfl)⟩ (.cons ⟨_, rfl, run_loadN ty26 (cs := [.string (bs ((s_l24Own ((u_bentTable p_code (0, 0)).1)).Name)), .slice A49 (((s_l24Own ((u_bentTable p_code (0, 0)).1)).Cols).length) c49, .slice A50 (((s_l24Own ((u_bentTable p_code (0, 0)).1)).Idxs).length) c50]) rfl (hB452.cells (n := 3) rfl)⟩ .nil)) ?_)))
      have hM455 : (s_DrawNextTo p_code) = (((u_bentTable p_code (0, 0)).1, (⟨(s_l24Own ((u_bentTable p_code (0, 0)).1)).Name, (s_l24Own ((u_bentTable p_code (0, 0)).1)).Cols, (((s_l24Own ((u_bentTable p_code (0, 0)).1)).Idxs).set (((u_pick p_code ((u_bentTable p_code (0, 0)).2) (((s_l24Own ((u_bentTable p_code (0, 0)).1)).Idxs).length : Int)).1).toNat) (⟨(((s_l24Own ((u_bentTable p_code (0, 0)).1)).Idxs).getD (((u_pick p_code ((u_bentTable p_code (0, 0)).2) (((s_l24Own ((u_bentTable p_code (0, 0)).1)).Idxs).length : Int)).1).toNat) d_Idx).Name, IntKind.wrap .i64 (1 + ((u_pick p_code ((u_one p_code ((u_pick p_code ((u_pick p_code ((u_bentTable p_code (0, 0)).2) (((s_l24Own ((u_bentTable p_code (0, 0)).1)).Idxs).length : Int)).2) 4).2) 9).2) 3).1)), (u_pick p_code ((u_pick p_code ((u_bentTable p_code (0, 0)).2) (((s_l24Own ((u_bentTable p_code (0, 0)).1)).Idxs).length : Int)).2) 4).1⟩ : DIdx))⟩ : DTable))) := by simp only [s_DrawNextTo, hb67, hb178, hb200, cL]
      have q462 := RdS.chg gS (RdS.only gS (RdS.chg gS (RdS.chg gS (RdS.only gS (RdS.ex gS (RdS.ex gS q44 hE53) hE63) hO66 (by simp only [Iv]; omega)) hE140 Bi) hc163 Bi) hO169 (by simp only [Iv]; omega)) hc176 Bi
      have q475 := OwnL.chg gI (OwnL.chg gI (OwnL.only gI (OwnL.chg gI (OwnL.chg gI (OwnL.only gI (OwnL.ex gI (OwnL.ex gI q47 hE53) hE63) hO66 oM) hE140 Bk) hc163 Bk) hO169 oM) hc176 Bk) hc184 Bk
      have q486 := OwnL.chg gS (OwnL.chg gS (OwnL.only gS (OwnL.chg gS (OwnL.chg gS (OwnL.only gS (OwnL.ex gS h49 hE63) hO66 oM) hE140 Bk) hc163 Bk) hO169 oM) hc176 Bk) hc184 Bk
      have q493 := OwnL.only gI (OwnL.chg gI (OwnL.chg gI hB190 hc198 Bk) hE430 Bk) hO453 oM
      have hfx494 := (q493).1
      have hol495 : ((s_l24Own ((u_bentTable p_code (0, 0)).1)).Idxs).length ≤ 2147483648 := ho51.2.2.1
      rw [hM455]
      have q507 := Below.only (Ex.chg (Ex.chg (Below.only (Ex.trans (Ex.trans (Below.only (Ex.trans (Ex.chg (Ex.trans (Ex.trans (Ex.trans (Ex.refl w) hE9) hE15) hE21) hc31 (fun k hk => by simp only [InR, or_false] at hk; omega)) hE39) hO42 oM) hE53) hE63) hO66 oM) hE140 (fun k hk => by simp only [InR, or_false] at hk; omega)) hc163 (fun k hk => by simp only [InR, or_false] at hk; omega)) hO169 oM
      exact ⟨A26, c26, A27, c27, lo27, hi27, A49, c49, lo49, hi49, A50, c50, lo50, hi50, (by first | rfl | (simp only [List.length_replicate, List.length_set]; done) | (simp only [List.length_replicate, List.length_set]; rfl) | rw [hfx494]), (RdS.wideI gS (RdS.only gS (RdS.chg gS (RdS.chg gS (RdS.only gS (RdS.chg gS q462 hc184 Bi) hO191 (by simp only [Iv]; omega)) hc198 Bi) hE430 Bi) hO453 (by simp only [Iv]; omega)) oM), (OwnL.only gI (OwnL.chg gI (OwnL.chg gI (OwnL.only gI q475 hO191 oM) hc198 Bk) hE430 Bk) hO453 oM), (OwnL.only gS (OwnL.chg gS (OwnL.chg gS (OwnL.only gS q486 hO191 oM) hc198 Bk) hE430 Bk) hO453 oM), (OwnL.fix q493), ho28, ⟨ho51.1, ho51.2.1, (okL.mk (xs := (((s_l24Own ((u_bentTable p_code (0, 0)).1)).Idxs).set (((u_pick p_code ((u_bentTable p_code (0, 0)).2) (((s_l24Own ((u_bentTable p_code (0, 0)).1)).Idxs).length : Int)).1).toNat) (⟨(((s_l24Own ((u_bentTable p_code (0, 0)).1)).Idxs).getD (((u_pick p_code ((u_bentTable p_code (0, 0)).2) (((s_l24Own ((u_bentTable p_code (0, 0)).1)).Idxs).length : Int)).1).toNat) d_Idx).Name, IntKind.wrap .i64 (1 + ((u_pick p_code ((u_one p_code ((u_pick p_code ((u_pick p_code ((u_bentTable p_code (0, 0)).2) (((s_l24Own ((u_bentTable p_code (0, 0)).1)).Idxs).length : Int)).2) 4).2) 9).2) 3).1)), (u_pick p_code ((u_pick p_code ((u_bentTable p_code (0, 0)).2) (((s_l24Own ((u_bentTable p_code (0, 0)).1)).Idxs).length : Int)).2) 4).1⟩ : DIdx))) Bl (okE.set (ho51.2.2).2 (okL.getD ho51.2.2 ok_d_Idx _)))⟩, oM, oM, oM, oM, oM, oM, (Below.only (Ex.chg (Ex.chg (Below.only (Ex.chg (Ex.chg q507 hc176 (fun k hk => by simp only [InR, or_false] at hk; omega)) hc184 (fun k hk => by simp only [InR, or_false] at hk; omega)) hO191 oM) hc198 (fun k hk => by simp only [InR, or_false] at hk; omega)) hE430 (fun k hk => by simp only [InR, or_false] at hk; omega)) hO453 oM)⟩
   ·refine CW.cond_f rfl hb178 (CW.skip (tn (CW.seq (cR (sM rfl ?_)))))
    have q514 := RdS.chg gU q172 hc176 Bi
    refine sd rfl (yC en51 rfl (oc rfl (oc rfl oz)) (Cal.mono (c_u_one p_code ((u_one p_code ((u_pick p_code ((u_pick p_code ((u_bentTable p_code (0, 0)).2) (((s_l24Own ((u_bentTable p_code (0, 0)).1)).Idxs).length : Int)).2) 4).2) 9).2) 9 hB177 q514 oM oM o2 oM (by assumption)) ?_))
    rintro v517 w515 ⟨rfl, hp516, hB519, hc518⟩
    have hc518z := Chg.size hc518
    have hB519z := Box.lt hB519
    refine dn (bcase ((u_one p_code ((u_one p_code ((u_pick p_code ((u_pick p_code ((u_bentTable p_code (0, 0)).2) (((s_l24Own ((u_bentTable p_code (0, 0)).1)).Idxs).length : Int)).2) 4).2) 9).2) 9).1) (fun hb520 => ?_) (fun hb520 => ?_))
    ·refine CW.cond_t rfl hb520 (CW.region (sM rfl (sd rfl (yC en52 rfl (oc rfl oz) (Cal.mono (c_u_table p_code ((u_one p_code ((u_one p_code ((u_pick p_code ((u_pick p_code ((u_bentTable p_code (0, 0)).2) (((s_l24Own ((u_bentTable p_code (0, 0)).1)).Idxs).length : Int)).2) 4).2) 9).2) 9).2) hB519 (RdS.chg gU q514 hc518 Bi) oM oM o2 oM (by assumption)) ?_)))))
     rintro v529 w522 ⟨A523, c523, lo523, hi523, A524, c524, lo524, hi524, rfl, h523, h524, ho525, hp526, hp527, hp528, hB531, hrn532, hrn533, hrn534, hc530⟩
     have hc530z := Chg.size hc530
     have hB531z := Box.lt hB531
     have hrf535 := rf_table (c := p_code) (by assumption) ((u_one p_code ((u_one p_code ((u_pick p_code ((u_pick p_code ((u_bentTable p_code (0, 0)).2) (((s_l24Own ((u_bentTable p_code (0, 0)).1)).Idxs).length : Int)).2) 4).2) 9).2) 9).2)
     have q536 := Box.chg hB65 hE140 (Bx (Box.lt hB65))
     have q538 := Box.only (Box.chg q536 hc163 (Bx (Box.lt q536))) hO169 oM
     have q539 := Box.chg q538 hc176 (Bx (Box.lt q538))
     have q540 := Box.chg q539 hc518 (Bx (Box.lt q539))
     refine SeqR.u rfl rfl (yl_store (vs := [.string (bs ((u_table p_code ((u_one p_code ((u_one p_code ((u_pick p_code ((u_pick p_code ((u_bentTable p_code (0, 0)).2) (((s_l24Own ((u_bentTable p_code (0, 0)).1)).Idxs).length : Int)).2) 4).2) 9).2) 9).2)).1.Name)), .slice A523 (((u_table p_code ((u_one p_code ((u_one p_code ((u_pick p_code ((u_pick p_code ((u_bentTable p_code (0, 0)).2) (((s_l24Own ((u_bentTable p_code (0, 0)).1)).Idxs).length : Int)).2) 4).2) 9).2) 9).2)).1.Cols).length) c523, .slice A524 (((u_table p_code ((u_one p_code ((u_one p_code ((u_pick p_code ((u_pick p_code ((u_bentTable p_code (0, 0)).2) (((s_l24Own ((u_bentTable p_code (0, 0)).1)).Idxs).length : Int)).2) 4).2) 9).2) 9).2)).1.Idxs).length) c524]) ty26 rfl rfl rfl rfl rfl rfl (Box.chg q540 hc530 (Bx (Box.lt q540))) (nb rfl) ?_)
     intro w542 hB543 hO544
     have hB543 : Box w542 b58 26 [.string (bs ((u_table p_code ((u_one p_code ((u_one p_code ((u_pick p_code ((u_pick p_code ((u_bentTable p_code (0, 0)).2) (((s_l24Own ((u_bentTable p_code (0, 0)).1)).Idxs).length : Int)).2) 4).2) 9).2) 9).2)).1.Name)), .slice A523 (((u_table p_code ((u_one p_code ((u_one p_code ((u_pick p_code ((u_pick p_code ((u_bentTable p_code (0, 0)).2) (((s_l24Own ((u_bentTable p_code (0, 0)).1)).Idxs).length : Int)).2) 4).2) 9).2) 9).2)).1.Cols).length) c523, .slice A524 (((u_table p_code ((u_one p_code ((u_one p_code ((u_pick p_code ((u_pick p_code ((u_bentTable p_code (0, 0)).2) (((s_l24Own ((u_bentTable p_code (0, 0)).1)).Idxs).length : Int)).2) 4).2) 9).2) 9).2)).1.Idxs).length) c524] := hB543
     have hO544z := hO544.size
     refine dn (CW.seq ?_)
     have q547 := Box.only (Box.ex (Box.ex hB41 hE53) hE63) hO66 oM
     have q548 := Box.chg q547 hE140 (Bx (Box.lt q547))
     have q550 := Box.only (Box.chg q548 hc163 (Bx (Box.lt q548))) hO169 oM
     have q551 := Box.chg q550 hc176 (Bx (Box.lt q550))
     have q552 := Box.chg q551 hc518 (Bx (Box.lt q551))
     refine CW.drawsG 3 (fun G b => G.dn 2 = true ∧ InR [(b4, b4 + 1)] b) (fun i G b => (i = 2 ∧ b4 ≤ b ∧ b < b4 + 1)) (vgetG [DetG (.agg #[.string (bs ((u_bentTable p_code (0, 0)).1.Name)), .slice A26 (((u_bentTable p_code (0, 0)).1.Cols).length) c26, .slice A27 (((u_bentTable p_code (0, 0)).1.Idxs).length) c27]), DetG (.agg #[.string (bs ((u_table p_code ((u_one p_code ((u_one p_code ((u_pick p_code ((u_pick p_code ((u_bentTable p_code (0, 0)).2) (((s_l24Own ((u_bentTable p_code (0, 0)).1)).Idxs).length : Int)).2) 4).2) 9).2) 9).2)).1.Name)), .slice A523 (((u_table p_code ((u_one p_code ((u_one p_code ((u_pick p_code ((u_pick p_code ((u_bentTable p_code (0, 0)).2) (((s_l24Own ((u_bentTable p_code (0, 0)).1)).Idxs).length : Int)).2) 4).2) 9).2) 9).2)).1.Cols).length) c523, .slice A524 (((u_table p_code ((u_one p_code ((u_one p_code ((u_pick p_code ((u_pick p_code ((u_bentTable p_code (0, 0)).2) (((s_l24Own ((u_bentTable p_code (0, 0)).1)).Idxs).length : Int)).2) 4).2) 9).2) 9).2)).1.Idxs).length) c524]), fun G v wq => Box wq b4 26 [.string (bs ((u_bentTable p_code (0, 0)).1.Name)), .slice A26 (((u_bentTable p_code (0, 0)).1.Cols).length) c26, .slice A27 (((u_bentTable p_code (0, 0)).1.Idxs).length) c27]]) Tryz.follows rfl rfl rfl rfl rfl rfl (fun _ _ _ _ _ h => ⟨Gh.udn h.1, h.2⟩) (fun i G w lo hi b K hn hh hp => by exact (match hp with | ⟨e, q1, q2⟩ => by subst e; exact .inl ⟨Gh.sdn, .inl ⟨q1, q2⟩⟩)) (vgetG_kept ⟨(KeptG.det _), (KeptG.det _), (by rintro i G v w w' K hn hh hj h0 e; exact (by exact Box.chg h0 e (fun hp => by obtain ⟨rfl, q1, q2⟩ := hp; rw [hj] at hn; cases hn))), trivial⟩) ⟨?_, ?_, ?_, trivial⟩ ?_
     ·intro L557 w558 G556 hgk559
      have hE560 := hgk559.st.ex.ex (fun b h => h.elim (fun h => hgk559.no rfl h) (fun h => h))
      have hE560z := Ex.size hE560
      exact OpR.op' rfl (Yl.sameG (yl_loadN ty26 rfl (hgk559.old 5 _ rfl rfl) ((Box.ex (Box.only (Box.chg q552 hc530 (Bx (Box.lt q552))) hO544 oM) hE560).cells (n := 3) rfl) rfl kI))
     ·intro L564 w565 G563 hgk566
      have hE567 : Chg (fun b => InR [(b4, b4 + 1)] b ∨ w542.heap.size ≤ b) w542 w565 := hgk566.st.ex.imp (fun b _ h => h.imp (fun h => h.2) (fun h => h))
      have hE567z := Chg.size hE567
      exact OpR.op' rfl (Yl.sameG (yl_loadN ty26 rfl (hgk566.old 6 _ rfl rfl) ((Box.chg hB543 hE567 (Bx (Box.lt hB543))).cells (n := 3) rfl) rfl kI))
     ·intro L571 w572 G570 hgk573
      have hE574 := hgk573.st.ex.ex (fun b h => h.elim (fun h => hgk573.nw h) (fun h => h))
      have hE574z := Ex.size hE574
      obtain ⟨_, hx576, rfl⟩ := hgk573.val 0 44 rfl rfl
      have q578 := Box.ex (Box.ex hB8 hE15) hE21
      have q584 := Box.only (Box.ex (Box.ex (Box.only (Box.ex (Box.chg q578 hc31 (Bx (Box.lt q578))) hE39) hO42 oM) hE53) hE63) hO66 oM
      have q585 := Box.chg q584 hE140 (Bx (Box.lt q584))
      have q587 := Box.only (Box.chg q585 hc163 (Bx (Box.lt q585))) hO169 oM
      have q588 := Box.chg q587 hc176 (Bx (Box.lt q587))
      have q589 := Box.chg q588 hc518 (Bx (Box.lt q588))
      refine OpR.op' rfl (yl_store (vs := [.string (bs ((u_bentTable p_code (0, 0)).1.Name)), .slice A26 (((u_bentTable p_code (0, 0)).1.Cols).length) c26, .slice A27 (((u_bentTable p_code (0, 0)).1.Idxs).length) c27]) ty26 rfl (hgk573.old 2 _ rfl rfl) hx576 rfl rfl rfl (Box.ex (Box.only (Box.chg q589 hc530 (Bx (Box.lt q589))) hO544 oM) hE574) (nb rfl) ?_)
      intro w593 hB594 hO595
      have hO595z := hO595.size
      exact ⟨Chg.of_only hO595 (⟨rfl, Nat.le_refl _, by omega⟩), hB594⟩
     ·intro G596 L597 w598 hgp599
      have hE600 : Chg (fun b => InR [(b4, b4 + 1)] b ∨ w542.heap.size ≤ b) w542 w598 := hgp599.st.ex.imp (fun b _ h => h.imp (fun h => h.2) (fun h => h))
      have hE600z := Chg.size hE600
      have hx602 := hgp599.old 3 _ rfl rfl
      obtain ⟨_, hx603, rfl⟩ := hgp599.val 1 45 rfl rfl
      obtain ⟨_, h604⟩ := hgp599.fact 2 rfl
      have hr605 := hgp599.st.rng 2 (hgp599.has 2 rfl)
      have q606 := Box.ex hB14 hE21
      have q612 := Box.only (Box.ex (Box.ex (Box.only (Box.ex (Box.chg q606 hc31 (Bx (Box.lt q606))) hE39) hO42 oM) hE53) hE63) hO66 oM
      have q613 := Box.chg q612 hE140 (Bx (Box.lt q612))
      have q615 := Box.only (Box.chg q613 hc163 (Bx (Box.lt q613))) hO169 oM
      have q616 := Box.chg q615 hc176 (Bx (Box.lt q615))
      have q617 := Box.chg q616 hc518 (Bx (Box.lt q616))
      have q619 := Box.only (Box.chg q617 hc530 (Bx (Box.lt q617))) hO544 oM
      refine SeqR.u rfl rfl (yl_store (vs := [.string (bs ((u_table p_code ((u_one p_code ((u_one p_code ((u_pick p_code ((u_pick p_code ((u_bentTable p_code (0, 0)).2) (((s_l24Own ((u_bentTable p_code (0, 0)).1)).Idxs).length : Int)).2) 4).2) 9).2) 9).2)).1.Name)), .slice A523 (((u_table p_code ((u_one p_code ((u_one p_code ((u_pick p_code ((u_pick p_code ((u_bentTable p_code (0, 0)).2) (((s_l24Own ((u_bentTable p_code (0, 0)).1)).Idxs).length : Int)).2) 4).2) 9).2) 9).2)).1.Cols).length) c523, .slice A524 (((u_table p_code ((u_one p_code ((u_one p_code ((u_pick p_code ((u_pick p_code ((u_bentTable p_code (0, 0)).2) (((s_l24Own ((u_bentTable p_code (0, 0)).1)).Idxs).length : Int)).2) 4).2) 9).2) 9).2)).1.Idxs).length) c524]) ty26 rfl hx602 hx603 rfl rfl rfl (Box.chg q619 hE600 (Bx (Box.lt q619))) (nb rfl) ?_)
      intro w621 hB622 hO623
      have hB622 : Box w621 b10 26 [.string (bs ((u_table p_code ((u_one p_code ((u_one p_code ((u_pick p_code ((u_pick p_code ((u_bentTable p_code (0, 0)).2) (((s_l24Own ((u_bentTable p_code (0, 0)).1)).Idxs).length : Int)).2) 4).2) 9).2) 9).2)).1.Name)), .slice A523 (((u_table p_code ((u_one p_code ((u_one p_code ((u_pick p_code ((u_pick p_code ((u_bentTable p_code (0, 0)).2) (((s_l24Own ((u_bentTable p_code (0, 0)).1)).Idxs).length : Int)).2) 4).2) 9).2) 9).2)).1.Cols).length) c523, .slice A524 (((u_table p_code ((u_one p_code ((u_one p_code ((u_pick p_code ((u_pick p_code ((u_bentTable p_code (0, 0)).2) (((s_l24Own ((u_bentTable p_code (0, 0)).1)).Idxs).length : Int)).2) 4).2) 9).2) 9).2)).1.Idxs).length) c524] := hB622
      have hO623z := hO623.size
      refine dn (CW.sub (sC 2 (hgp599.old 2 _ rfl rfl) (sC 3 hx602 (Sub.nil _))) (CW.ret (rr rfl (.cons ⟨_, rfl, run_loadN ty26 (cs := [.string (bs ((u_bentTable p_code (0, 0)).1.Name)), .slice A26 (((u_bentTable p_code (0, 0)).1.Cols).length) c26, .slice A27 (((u_bentTable p_code (0, 0)).1.Idxs).length) c27]) rfl ((Box.only h604 hO623 oM).cells (n := 3) rfl)⟩ (.cons ⟨_, rfl, run_loadN ty26 (cs := [.string (bs ((u_table p_code ((u_one p_code ((u_one p_code ((u_pick p_code ((u_pick p_code ((u_bentTable p_code (0, 0)).2) (((s_l24Own ((u_bentTable p_code (0, 0)).1)).Idxs).length : Int)).2) 4).2) 9).2) 9).2)).1.Name)), .slice A523 (((u_table p_code ((u_one p_code ((u_one p_code ((u_pick p_code ((u_pick p_code ((u_bentTable p_code (0, 0)).2) (((s_l24Own ((u_bentTable p_code (0, 0)).1)).Idxs).length : Int)).2) 4).2) 9).2) 9).2)).1.Cols).length) c523, .slice A524 (((u_table p_code ((u_one p_code ((u_one p_code ((u_pick p_code ((u_pick p_code ((u_bentTable p_code (0, 0)).2) (((s_l24Own ((u_bentTable p_code (0, 0)).1)).Idxs).length : Int)).2) 4).2) 9).2) 9).2)).1.Idxs).length) c524]) rfl (hB622.cells (n := 3) rfl)⟩ .nil)) ?_)))
      have hM625 : (s_DrawNextTo p_code) = (((u_bentTable p_code (0, 0)).1, (u_table p_code ((u_one p_code ((u_one p_code ((u_pick p_code ((u_pick p_code ((u_bentTable p_code (0, 0)).2) (((s_l24Own ((u_bentTable p_code (0, 0)).1)).Idxs).length : Int)).2) 4).2) 9).2) 9).2)).1)) := by simp only [s_DrawNextTo, hb67, hb178, hb520, cL]
      have q632 := RdS.chg gS (RdS.only gS (RdS.chg gS (RdS.chg gS (RdS.only gS (RdS.ex gS (RdS.ex gS q44 hE53) hE63) hO66 (by simp only [Iv]; omega)) hE140 Bi) hc163 Bi) hO169 (by simp only [Iv]; omega)) hc176 Bi
      have q645 := OwnL.chg gI (OwnL.chg gI (OwnL.only gI (OwnL.chg gI (OwnL.chg gI (OwnL.only gI (OwnL.ex gI (OwnL.ex gI q47 hE53) hE63) hO66 oM) hE140 Bk) hc163 Bk) hO169 oM) hc176 Bk) hc518 Bk
      rw [hM625]
      have q667 := Below.only (Ex.chg (Ex.chg (Below.only (Ex.trans (Ex.trans (Below.only (Ex.trans (Ex.chg (Ex.trans (Ex.trans (Ex.trans (Ex.refl w) hE9) hE15) hE21) hc31 (fun k hk => by simp only [InR, or_false] at hk; omega)) hE39) hO42 oM) hE53) hE63) hO66 oM) hE140 (fun k hk => by simp only [InR, or_false] at hk; omega)) hc163 (fun k hk => by simp only [InR, or_false] at hk; omega)) hO169 oM
      exact ⟨A26, c26, A27, c27, lo27, hi27, A523, c523, lo523, hi523, A524, c524, lo524, hi524, rfl, (RdS.wideI gS (RdS.only gS (RdS.chg gS (RdS.only gS (RdS.chg gS (RdS.chg gS q632 hc518 Bi) hc530 Bi) hO544 (by simp only [Iv]; omega)) hE600 Bi) hO623 (by simp only [Iv]; omega)) oM), (OwnL.only gI (OwnL.chg gI (OwnL.only gI (OwnL.chg gI q645 hc530 Bk) hO544 oM) hE600 Bk) hO623 oM), (OwnL.only gS (OwnL.chg gS (OwnL.only gS h523 hO544 oM) hE600 Bk) hO623 oM), (OwnL.only gI (OwnL.chg gI (OwnL.only gI h524 hO544 oM) hE600 Bk) hO623 oM), ho28, ho525, oM, oM, oM, oM, oM, oM, (Below.only (Ex.chg (Below.only (Ex.chg (Ex.chg (Ex.chg q667 hc176 (fun k hk => by simp only [InR, or_false] at hk; omega)) hc518 (fun k hk => by simp only [InR, or_false] at hk; omega)) hc530 (fun k hk => by simp only [InR, or_false] at hk; omega)) hO544 oM) hE600 (fun k hk => by simp only [InR, or_false] at hk; omega)) hO623 oM)⟩
    ·refine CW.cond_f rfl hb520 (CW.skip (tn (CW.seq ?_)))
     have q676 := Box.only (Box.ex (Box.ex hB41 hE53) hE63) hO66 oM
     have q677 := Box.chg q676 hE140 (Bx (Box.lt q676))
     have q679 := Box.only (Box.chg q677 hc163 (Bx (Box.lt q677))) hO169 oM
     have q680 := Box.chg q679 hc176 (Bx (Box.lt q679))
     have q682 := Box.chg hB65 hE140 (Bx (Box.lt hB65))
     have q684 := Box.only (Box.chg q682 hc163 (Bx (Box.lt q682))) hO169 oM
     have q685 := Box.chg q684 hc176 (Bx (Box.lt q684))
     have q686 := Box.chg q685 hc518 (Bx (Box.lt q685))
     refine CW.drawsG 3 (fun G b => G.dn 2 = true ∧ InR [(b4, b4 + 1)] b) (fun i G b => (i = 2 ∧ b4 ≤ b ∧ b < b4 + 1)) (vgetG [DetG (.agg #[.string (bs ((u_bentTable p_code (0, 0)).1.Name)), .slice A26 (((u_bentTable p_code (0, 0)).1.Cols).length) c26, .slice A27 (((u_bentTable p_code (0, 0)).1.Idxs).length) c27]), DetG (.agg #[.string (bs ((s_l24Own ((u_bentTable p_code (0, 0)).1)).Name)), .slice A49 (((s_l24Own ((u_bentTable p_code (0, 0)).1)).Cols).length) c49, .slice A50 (((s_l24Own ((u_bentTable p_code (0, 0)).1)).Idxs).length) c50]), fun G v wq => Box wq b4 26 [.string (bs ((u_bentTable p_code (0, 0)).1.Name)), .slice A26 (((u_bentTable p_code (0, 0)).1.Cols).length) c26, .slice A27 (((u_bentTable p_code (0, 0)).1.Idxs).length) c27]]) Tryz.follows rfl rfl rfl rfl rfl rfl (fun _ _ _ _ _ h => ⟨Gh.udn h.1, h.2⟩) (fun i G w lo hi b K hn hh hp => by exact (match hp with | ⟨e, q1, q2⟩ => by subst e; exact .inl ⟨Gh.sdn, .inl ⟨q1, q2⟩⟩)) (vgetG_kept ⟨(KeptG.det _), (KeptG.det _), (by rintro i G v w w' K hn hh hj h0 e; exact (by exact Box.chg h0 e (fun hp => by obtain ⟨rfl, q1, q2⟩ := hp; rw [hj] at hn; cases hn))), trivial⟩) ⟨?_, ?_, ?_, trivial⟩ ?_
     ·intro L689 w690 G688 hgk691
      have hE692 := hgk691.st.ex.ex (fun b h => h.elim (fun h => hgk691.no rfl h) (fun h => h))
      have hE692z := Ex.size hE692
      exact OpR.op' rfl (Yl.sameG (yl_loadN ty26 rfl (hgk691.old 5 _ rfl rfl) ((Box.ex (Box.chg q680 hc518 (Bx (Box.lt q680))) hE692).cells (n := 3) rfl) rfl kI))
     ·intro L696 w697 G695 hgk698
      have hE699 : Chg (fun b => InR [(b4, b4 + 1)] b ∨ w515.heap.size ≤ b) w515 w697 := hgk698.st.ex.imp (fun b _ h => h.imp (fun h => h.2) (fun h => h))
      have hE699z := Chg.size hE699
      exact OpR.op' rfl (Yl.sameG (yl_loadN ty26 rfl (hgk698.old 6 _ rfl rfl) ((Box.chg q686 hE699 (Bx (Box.lt q686))).cells (n := 3) rfl) rfl kI))
     ·intro L703 w704 G702 hgk705
      have hE706 := hgk705.st.ex.ex (fun b h => h.elim (fun h => hgk705.nw h) (fun h => h))
      have hE706z := Ex.size hE706
      obtain ⟨_, hx708, rfl⟩ := hgk705.val 0 44 rfl rfl
      have q710 := Box.ex (Box.ex hB8 hE15) hE21
      have q716 := Box.only (Box.ex (Box.ex (Box.only (Box.ex (Box.chg q710 hc31 (Bx (Box.lt q710))) hE39) hO42 oM) hE53) hE63) hO66 oM
      have q717 := Box.chg q716 hE140 (Bx (Box.lt q716))
      have q719 := Box.only (Box.chg q717 hc163 (Bx (Box.lt q717))) hO169 oM
      have q720 := Box.chg q719 hc176 (Bx (Box.lt q719))
      refine OpR.op' rfl (yl_store (vs := [.string (bs ((u_bentTable p_code (0, 0)).1.Name)), .slice A26 (((u_bentTable p_code (0, 0)).1.Cols).length) c26, .slice A27 (((u_bentTable p_code (0, 0)).1.Idxs).length) c27]) ty26 rfl (hgk705.old 2 _ rfl rfl) hx708 rfl rfl rfl (Box.ex (Box.chg q720 hc518 (Bx (Box.lt q720))) hE706) (nb rfl) ?_)
      intro w723 hB724 hO725
      have hO725z := hO725.size
      exact ⟨Chg.of_only hO725 (⟨rfl, Nat.le_refl _, by omega⟩), hB724⟩
     ·intro G726 L727 w728 hgp729
      have hE730 : Chg (fun b => InR [(b4, b4 + 1)] b ∨ w515.heap.size ≤ b) w515 w728 := hgp729.st.ex.imp (fun b _ h => h.imp (fun h => h.2) (fun h => h))
      have hE730z := Chg.size hE730
      have hx732 := hgp729.old 3 _ rfl rfl
      obtain ⟨_, hx733, rfl⟩ := hgp729.val 1 45 rfl rfl
      obtain ⟨_, h734⟩ := hgp729.fact 2 rfl
      have hr735 := hgp729.st.rng 2 (hgp729.has 2 rfl)
      have q736 := Box.ex hB14 hE21
      have q742 := Box.only (Box.ex (Box.ex (Box.only (Box.ex (Box.chg q736 hc31 (Bx (Box.lt q736))) hE39) hO42 oM) hE53) hE63) hO66 oM
      have q743 := Box.chg q742 hE140 (Bx (Box.lt q742))
      have q745 := Box.only (Box.chg q743 hc163 (Bx (Box.lt q743))) hO169 oM
      have q746 := Box.chg q745 hc176 (Bx (Box.lt q745))
      have q747 := Box.chg q746 hc518 (Bx (Box.lt q746))
      refine SeqR.u rfl rfl (yl_store (vs := [.string (bs ((s_l24Own ((u_bentTable p_code (0, 0)).1)).Name)), .slice A49 (((s_l24Own ((u_bentTable p_code (0, 0)).1)).Cols).length) c49, .slice A50 (((s_l24Own ((u_bentTable p_code (0, 0)).1)).Idxs).length) c50]) ty26 rfl hx732 hx733 rfl rfl rfl (Box.chg q747 hE730 (Bx (Box.lt q747))) (nb rfl) ?_)
      intro w749 hB750 hO751
      have hB750 : Box w749 b10 26 [.string (bs ((s_l24Own ((u_bentTable p_code (0, 0)).1)).Name)), .slice A49 (((s_l24Own ((u_bentTable p_code (0, 0)).1)).Cols).length) c49, .slice A50 (((s_l24Own ((u_bentTable p_code (0, 0)).1)).Idxs).length) c50] := hB750
      have hO751z := hO751.size
      refine dn (CW.sub (sC 2 (hgp729.old 2 _ rfl rfl) (sC 3 hx732 (Sub.nil _))) (CW.ret (rr rfl (.cons ⟨_, rfl, run_loadN ty26 (cs := [.string (bs ((u_bentTable p_code (0, 0)).1.Name)), .slice A26 (((u_bentTable p_code (0, 0)).1.Cols).length) c26, .slice A27 (((u_bentTable p_code (0, 0)).1.Idxs).length) c27]) rfl ((Box.only h734 hO751 oM).cells (n := 3) rfl)⟩ (.cons ⟨_, rfl, run_loadN ty26 (cs := [.string (bs ((s_l24Own ((u_bentTable p_code (0, 0)).1)).Name)), .slice A49 (((s_l24Own ((u_bentTable p_code (0, 0)).1)).Cols).length) c49, .slice A50 (((s_l24Own ((u_bentTable p_code (0, 0)).1)).Idxs).length) c50]) rfl (hB750.cells (n := 3) rfl)⟩ .nil)) ?_)))
      have hM753 : (s_DrawNextTo p_code) = (((u_bentTable p_code (0, 0)).1, (⟨(s_l24Own ((u_bentTable p_code (0, 0)).1)).Name, (s_l24Own ((u_bentTable p_code (0, 0)).1)).Cols, (((s_l24Own ((u_bentTable p_code (0, 0)).1)).Idxs).set (((u_pick p_code ((u_bentTable p_code (0, 0)).2) (((s_l24Own ((u_bentTable p_code (0, 0)).1)).Idxs).length : Int)).1).toNat) (⟨(((s_l24Own ((u_bentTable p_code (0, 0)).1)).Idxs).getD (((u_pick p_code ((u_bentTable p_code (0, 0)).2) (((s_l24Own ((u_bentTable p_code (0, 0)).1)).Idxs).length : Int)).1).toNat) d_Idx).Name, (((s_l24Own ((u_bentTable p_code (0, 0)).1)).Idxs).getD (((u_pick p_code ((u_bentTable p_code (0, 0)).2) (((s_l24Own ((u_bentTable p_code (0, 0)).1)).Idxs).length : Int)).1).toNat) d_Idx).Col, (u_pick p_code ((u_pick p_code ((u_bentTable p_code (0, 0)).2) (((s_l24Own ((u_bentTable p_code (0, 0)).1)).Idxs).length : Int)).2) 4).1⟩ : DIdx))⟩ : DTable))) := by simp only [s_DrawNextTo, hb67, hb178, hb520, cL]
      have q760 := RdS.chg gS (RdS.only gS (RdS.chg gS (RdS.chg gS (RdS.only gS (RdS.ex gS (RdS.ex gS q44 hE53) hE63) hO66 (by simp only [Iv]; omega)) hE140 Bi) hc163 Bi) hO169 (by simp only [Iv]; omega)) hc176 Bi
      have q771 := OwnL.chg gI (OwnL.chg gI (OwnL.only gI (OwnL.chg gI (OwnL.chg gI (OwnL.only gI (OwnL.ex gI (OwnL.ex gI q47 hE53) hE63) hO66 oM) hE140 Bk) hc163 Bk) hO169 oM) hc176 Bk) hc518 Bk
      have q780 := OwnL.chg gS (OwnL.chg gS (OwnL.only gS (OwnL.chg gS (OwnL.chg gS (OwnL.only gS (OwnL.ex gS h49 hE63) hO66 oM) hE140 Bk) hc163 Bk) hO169 oM) hc176 Bk) hc518 Bk
      have q786 := OwnL.only gI (OwnL.chg gI (OwnL.chg gI (OwnL.chg gI hB168 hc176 Bk) hc518 Bk) hE730 Bk) hO751 oM
      have hfx787 := (q786).1
      have hol788 : ((s_l24Own ((u_bentTable p_code (0, 0)).1)).Idxs).length ≤ 2147483648 := ho51.2.2.1
      rw [hM753]
      have q800 := Below.only (Ex.chg (Ex.chg (Below.only (Ex.trans (Ex.trans (Below.only (Ex.trans (Ex.chg (Ex.trans (Ex.trans (Ex.trans (Ex.refl w) hE9) hE15) hE21) hc31 (fun k hk => by simp only [InR, or_false] at hk; omega)) hE39) hO42 oM) hE53) hE63) hO66 oM) hE140 (fun k hk => by simp only [InR, or_false] at hk; omega)) hc163 (fun k hk => by simp only [InR, or_false] at hk; omega)) hO169 oM
      exact ⟨A26, c26, A27, c27, lo27, hi27, A49, c49, lo49, hi49, A50, c50, lo50, hi50, (by first | rfl | (simp only [List.length_replicate, List.length_set]; done) | (simp only [List.length_replicate, List.length_set]; rfl) | rw [hfx787]), (RdS.wideI gS (RdS.only gS (RdS.chg gS (RdS.chg gS q760 hc518 Bi) hE730 Bi) hO751 (by simp only [Iv]; omega)) oM), (OwnL.only gI (OwnL.chg gI q771 hE730 Bk) hO751 oM), (OwnL.only gS (OwnL.chg gS q780 hE730 Bk) hO751 oM), (OwnL.fix q786), ho28, ⟨ho51.1, ho51.2.1, (okL.mk (xs := (((s_l24Own ((u_bentTable p_code (0, 0)).1)).Idxs).set (((u_pick p_code ((u_bentTable p_code (0, 0)).2) (((s_l24Own ((u_bentTable p_code (0, 0)).1)).Idxs).length : Int)).1).toNat) (⟨(((s_l24Own ((u_bentTable p_code (0, 0)).1)).Idxs).getD (((u_pick p_code ((u_bentTable p_code (0, 0)).2) (((s_l24Own ((u_bentTable p_code (0, 0)).1)).Idxs).length : Int)).1).toNat) d_Idx).Name, (((s_l24Own ((u_bentTable p_code (0, 0)).1)).Idxs).getD (((u_pick p_code ((u_bentTable p_code (0, 0)).2) (((s_l24Own ((u_bentTable p_code (0, 0)).1)).Idxs).length : Int)).1).toNat) d_Idx).Col, (u_pick p_code ((u_pick p_code ((u_bentTable p_code (0, 0)).2) (((s_l24Own ((u_bentTable p_code (0, 0)).1)).Idxs).length : Int)).2) 4).1⟩ : DIdx))) Bl (okE.set (ho51.2.2).2 (okL.getD ho51.2.2 ok_d_Idx _)))⟩, oM, oM, oM, oM, oM, oM, (Below.only (Ex.chg (Ex.chg (Ex.chg q800 hc176 (fun k hk => by simp only [InR, or_false] at hk; omega)) hc518 (fun k hk => by simp only [InR, or_false] at hk; omega)) hE730 (fun k hk => by simp only [InR, or_false] at hk; omega)) hO751 oM)⟩
 ·have hb67p := dec_f hb67
  refine CW.cond_f rfl hb67 (CW.skip (tn (CW.seq (cR (sM rfl ?_)))))
  have q815 := RdS.only gU (RdS.ex gU (RdS.ex gU (RdS.only gU (RdS.ex gU (RdS.chg gU q24 hc31 Bi) hE39) hO42 (by simp only [Iv]; omega)) hE53) hE63) hO66 (by simp only [Iv]; omega)
  refine sd rfl (yC en51 rfl (oc rfl (oc rfl oz)) (Cal.mono (c_u_one p_code ((u_bentTable p_code (0, 0)).2) 9 (Box.only (Box.ex (Box.ex (Box.only (Box.ex hB32 hE39) hO42 oM) hE53) hE63) hO66 oM) q815 oM oM o2 oM (by assumption)) ?_))
  rintro v818 w816 ⟨rfl, hp817, hB820, hc819⟩
  have hc819z := Chg.size hc819
  have hB820z := Box.lt hB820
  refine dn (bcase ((u_one p_code ((u_bentTable p_code (0, 0)).2) 9).1) (fun hb821 => ?_) (fun hb821 => ?_))
  ·refine CW.cond_t rfl hb821 (CW.region (sM rfl (sd rfl (yC en52 rfl (oc rfl oz) (Cal.mono (c_u_table p_code ((u_one p_code ((u_bentTable p_code (0, 0)).2) 9).2) hB820 (RdS.chg gU q815 hc819 Bi) oM oM o2 oM (by assumption)) ?_)))))
   rintro v830 w823 ⟨A824, c824, lo824, hi824, A825, c825, lo825, hi825, rfl, h824, h825, ho826, hp827, hp828, hp829, hB832, hrn833, hrn834, hrn835, hc831⟩
   have hc831z := Chg.size hc831
   have hB832z := Box.lt hB832
   have hrf836 := rf_table (c := p_code) (by assumption) ((u_one p_code ((u_bentTable p_code (0, 0)).2) 9).2)
   have q837 := Box.chg hB65 hc819 (Bx (Box.lt hB65))
   refine SeqR.u rfl rfl (yl_store (vs := [.string (bs ((u_table p_code ((u_one p_code ((u_bentTable p_code (0, 0)).2) 9).2)).1.Name)), .slice A824 (((u_table p_code ((u_one p_code ((u_bentTable p_code (0, 0)).2) 9).2)).1.Cols).length) c824, .slice A825 (((u_table p_code ((u_one p_code ((u_bentTable p_code (0, 0)).2) 9).2)).1.Idxs).length) c825]) ty26 rfl rfl rfl rfl rfl rfl (Box.chg q837 hc831 (Bx (Box.lt q837))) (nb rfl) ?_)
   intro w839 hB840 hO841
   have hB840 : Box w839 b58 26 [.string (bs ((u_table p_code ((u_one p_code ((u_bentTable p_code (0, 0)).2) 9).2)).1.Name)), .slice A824 (((u_table p_code ((u_one p_code ((u_bentTable p_code (0, 0)).2) 9).2)).1.Cols).length) c824, .slice A825 (((u_table p_code ((u_one p_code ((u_bentTable p_code (0, 0)).2) 9).2)).1.Idxs).length) c825] := hB840
   have hO841z := hO841.size
   refine dn (CW.seq ?_)
   have q844 := Box.only (Box.ex (Box.ex hB41 hE53) hE63) hO66 oM
   have q845 := Box.chg q844 hc819 (Bx (Box.lt q844))
   refine CW.drawsG 3 (fun G b => G.dn 2 = true ∧ InR [(b4, b4 + 1)] b) (fun i G b => (i = 2 ∧ b4 ≤ b ∧ b < b4 + 1)) (vgetG [DetG (.agg #[.string (bs ((u_bentTable p_code (0, 0)).1.Name)), .slice A26 (((u_bentTable p_code (0, 0)).1.Cols).length) c26, .slice A27 (((u_bentTable p_code (0, 0)).1.Idxs).length) c27]), DetG (.agg #[.string (bs ((u_table p_code ((u_one p_code ((u_bentTable p_code (0, 0)).2) 9).2)).1.Name)), .slice A824 (((u_table p_code ((u_one p_code ((u_bentTable p_code (0, 0)).2) 9).2)).1.Cols).length) c824, .slice A825 (((u_table p_code ((u_one p_code ((u_bentTable p_code (0, 0)).2) 9).2)).1.Idxs).length) c825]), fun G v wq => Box wq b4 26 [.string (bs ((u_bentTable p_code (0, 0)).1.Name)), .slice A26 (((u_bentTable p_code (0, 0)).1.Cols).length) c26, .slice A27 (((u_bentTable p_code (0, 0)).1.Idxs).length) c27]]) Tryz.follows rfl rfl rfl rfl rfl rfl (fun _ _ _ _ _ h => ⟨Gh.udn h.1, h.2⟩) (fun i G w lo hi b K hn hh hp => by exact (match hp with | ⟨e, q1, q2⟩ => by subst e; exact .inl ⟨Gh.sdn, .inl ⟨q1, q2⟩⟩)) (vgetG_kept ⟨(KeptG.det _), (KeptG.det _), (by rintro i G v w w' K hn hh hj h0 e; exact (by exact Box.chg h0 e (fun hp => by obtain ⟨rfl, q1, q2⟩ := hp; rw [hj] at hn; cases hn))), trivial⟩) ⟨?_, ?_, ?_, trivial⟩ ?_
   ·intro L850 w851 G849 hgk852
    have hE853 := hgk852.st.ex.ex (fun b h => h.elim (fun h => hgk852.no rfl h) (fun h => h))
    have hE853z := Ex.size hE853
    exact OpR.op' rfl (Yl.sameG (yl_loadN ty26 rfl (hgk852.old 5 _ rfl rfl) ((Box.ex (Box.only (Box.chg q845 hc831 (Bx (Box.lt q845))) hO841 oM) hE853).cells (n := 3) rfl) rfl kI))
   ·intro L857 w858 G856 hgk859
    have hE860 : Chg (fun b => InR [(b4, b4 + 1)] b ∨ w839.heap.size ≤ b) w839 w858 := hgk859.st.ex.imp (fun b _ h => h.imp (fun h => h.2) (fun h => h))
    have hE860z := Chg.size hE860
    exact OpR.op' rfl (Yl.sameG (yl_loadN ty26 rfl (hgk859.old 6 _ rfl rfl) ((Box.chg hB840 hE860 (Bx (Box.lt hB840))).cells (n := 3) rfl) rfl kI))
   ·intro L864 w865 G863 hgk866
    have hE867 := hgk866.st.ex.ex (fun b h => h.elim (fun h => hgk866.nw h) (fun h => h))
    have hE867z := Ex.size hE867
    obtain ⟨_, hx869, rfl⟩ := hgk866.val 0 44 rfl rfl
    have q871 := Box.ex (Box.ex hB8 hE15) hE21
    have q877 := Box.only (Box.ex (Box.ex (Box.only (Box.ex (Box.chg q871 hc31 (Bx (Box.lt q871))) hE39) hO42 oM) hE53) hE63) hO66 oM
    have q878 := Box.chg q877 hc819 (Bx (Box.lt q877))
    refine OpR.op' rfl (yl_store (vs := [.string (bs ((u_bentTable p_code (0, 0)).1.Name)), .slice A26 (((u_bentTable p_code (0, 0)).1.Cols).length) c26, .slice A27 (((u_bentTable p_code (0, 0)).1.Idxs).length) c27]) ty26 rfl (hgk866.old 2 _ rfl rfl) hx869 rfl rfl rfl (Box.ex (Box.only (Box.chg q878 hc831 (Bx (Box.lt q878))) hO841 oM) hE867) (nb rfl) ?_)
    intro w882 hB883 hO884
    have hO884z := hO884.size
    exact ⟨Chg.of_only hO884 (⟨rfl, Nat.le_refl _, by omega⟩), hB883⟩
   ·intro G885 L886 w887 hgp888
    have hE889 : Chg (fun b => InR [(b4, b4 + 1)] b ∨ w839.heap.size ≤ b) w839 w887 := hgp888.st.ex.imp (fun b _ h => h.imp (fun h => h.2) (fun h => h))
    have hE889z := Chg.size hE889
    have hx891 := hgp888.old 3 _ rfl rfl
    obtain ⟨_, hx892, rfl⟩ := hgp888.val 1 45 rfl rfl
    obtain ⟨_, h893⟩ := hgp888.fact 2 rfl
    have hr894 := hgp888.st.rng 2 (hgp888.has 2 rfl)
    have q895 := Box.ex hB14 hE21
    have q901 := Box.only (Box.ex (Box.ex (Box.only (Box.ex (Box.chg q895 hc31 (Bx (Box.lt q895))) hE39) hO42 oM) hE53) hE63) hO66 oM
    have q902 := Box.chg q901 hc819 (Bx (Box.lt q901))
    have q904 := Box.only (Box.chg q902 hc831 (Bx (Box.lt q902))) hO841 oM
    refine SeqR.u rfl rfl (yl_store (vs := [.string (bs ((u_table p_code ((u_one p_code ((u_bentTable p_code (0, 0)).2) 9).2)).1.Name)), .slice A824 (((u_table p_code ((u_one p_code ((u_bentTable p_code (0, 0)).2) 9).2)).1.Cols).length) c824, .slice A825 (((u_table p_code ((u_one p_code ((u_bentTable p_code (0, 0)).2) 9).2)).1.Idxs).length) c825]) ty26 rfl hx891 hx892 rfl rfl rfl (Box.chg q904 hE889 (Bx (Box.lt q904))) (nb rfl) ?_)
    intro w906 hB907 hO908
    have hB907 : Box w906 b10 26 [.string (bs ((u_table p_code ((u_one p_code ((u_bentTable p_code (0, 0)).2) 9).2)).1.Name)), .slice A824 (((u_table p_code ((u_one p_code ((u_bentTable p_code (0, 0)).2) 9).2)).1.Cols).length) c824, .slice A825 (((u_table p_code ((u_one p_code ((u_bentTable p_code (0, 0)).2) 9).2)).1.Idxs).length) c825] := hB907
    have hO908z := hO908.size
    refine dn (CW.sub (sC 2 (hgp888.old 2 _ rfl rfl) (sC 3 hx891 (Sub.nil _))) (CW.ret (rr rfl (.cons ⟨_, rfl, run_loadN ty26 (cs := [.string (bs ((u_bentTable p_code (0, 0)).1.Name)), .slice A26 (((u_bentTable p_code (0, 0)).1.Cols).length) c26, .slice A27 (((u_bentTable p_code (0, 0)).1.Idxs).length) c27]) rfl ((Box.only h893 hO908 oM).cells (n := 3) rfl)⟩ (.cons ⟨_, rfl, run_loadN ty26 (cs := [.string (bs ((u_table p_code ((u_one p_code ((u_bentTable p_code (0, 0)).2) 9).2)).1.Name)), .slice A824 (((u_table p_code ((u_one p_code ((u_bentTable p_code (0, 0)).2) 9).2)).1.Cols).length) c824, .slice A825 (((u_table p_code ((u_one p_code ((u_bentTable p_code (0, 0)).2) 9).2)).1.Idxs).length) c825]) rfl (hB907.cells (n := 3) rfl)⟩ .nil)) ?_)))
    have hM910 : (s_DrawNextTo p_code) = (((u_bentTable p_code (0, 0)).1, (u_table p_code ((u_one p_code ((u_bentTable p_code (0, 0)).2) 9).2)).1)) := by simp only [s_DrawNextTo, hb67, hb821, cL]
    have q917 := RdS.chg gS (RdS.only gS (RdS.chg gS (RdS.chg gS (RdS.only gS (RdS.ex gS (RdS.ex gS q44 hE53) hE63) hO66 (by simp only [Iv]; omega)) hc819 Bi) hc831 Bi) hO841 (by simp only [Iv]; omega)) hE889 Bi
    have q926 := OwnL.only gI (OwnL.chg gI (OwnL.only gI (OwnL.chg gI (OwnL.chg gI (OwnL.only gI (OwnL.ex gI (OwnL.ex gI q47 hE53) hE63) hO66 oM) hc819 Bk) hc831 Bk) hO841 oM) hE889 Bk) hO908 oM
    rw [hM910]
    have q944 := Below.only (Ex.chg (Ex.chg (Below.only (Ex.trans (Ex.trans (Below.only (Ex.trans (Ex.chg (Ex.trans (Ex.trans (Ex.trans (Ex.refl w) hE9) hE15) hE21) hc31 (fun k hk => by simp only [InR, or_false] at hk; omega)) hE39) hO42 oM) hE53) hE63) hO66 oM) hc819 (fun k hk => by simp only [InR, or_false] at hk; omega)) hc831 (fun k hk => by simp only [InR, or_false] at hk; omega)) hO841 oM
    exact ⟨A26, c26, A27, c27, lo27, hi27, A824, c824, lo824, hi824, A825, c825, lo825, hi825, rfl, (RdS.wideI gS (RdS.only gS q917 hO908 (by simp only [Iv]; omega)) oM), q926, (OwnL.only gS (OwnL.chg gS (OwnL.only gS h824 hO841 oM) hE889 Bk) hO908 oM), (OwnL.only gI (OwnL.chg gI (OwnL.only gI h825 hO841 oM) hE889 Bk) hO908 oM), ho28, ho826, oM, oM, oM, oM, oM, oM, (Below.only (Ex.chg q944 hE889 (fun k hk => by simp only [InR, or_false] at hk; omega)) hO908 oM)⟩
  ·refine CW.cond_f rfl hb821 (CW.skip (tn (CW.seq ?_)))
   have q949 := Box.only (Box.ex (Box.ex hB41 hE53) hE63) hO66 oM
   have q951 := Box.chg hB65 hc819 (Bx (Box.lt hB65))
   refine CW.drawsG 3 (fun G b => G.dn 2 = true ∧ InR [(b4, b4 + 1)] b) (fun i G b => (i = 2 ∧ b4 ≤ b ∧ b < b4 + 1)) (vgetG [DetG (.agg #[.string (bs ((u_bentTable p_code (0, 0)).1.Name)), .slice A26 (((u_bentTable p_code (0, 0)).1.Cols).length) c26, .slice A27 (((u_bentTable p_code (0, 0)).1.Idxs).length) c27]), DetG (.agg #[.string (bs ((s_l24Own ((u_bentTable p_code (0, 0)).1)).Name)), .slice A49 (((s_l24Own ((u_bentTable p_code (0, 0)).1)).Cols).length) c49, .slice A50 (((s_l24Own ((u_bentTable p_code (0, 0)).1)).Idxs).length) c50]), fun G v wq => Box wq b4 26 [.string (bs ((u_bentTable p_code (0, 0)).1.Name)), .slice A26 (((u_bentTable p_code (0, 0)).1.Cols).length) c26, .slice A27 (((u_bentTable p_code (0, 0)).1.Idxs).length) c27]]) Tryz.follows rfl rfl rfl rfl rfl rfl (fun _ _ _ _ _ h => ⟨Gh.udn h.1, h.2⟩) (fun i G w lo hi b K hn hh hp => by exact (match hp with | ⟨e, q1, q2⟩ => by subst e; exact .inl ⟨Gh.sdn, .inl ⟨q1, q2⟩⟩)) (vgetG_kept ⟨(KeptG.det _), (KeptG.det _), (by rintro i G v w w' K hn hh hj h0 e; exact (by exact Box.chg h0 e (fun hp => by obtain ⟨rfl, q1, q2⟩ := hp; rw [hj] at hn; cases hn))), trivial⟩) ⟨?_, ?_, ?_, trivial⟩ ?_
   ·intro L954 w955 G953 hgk956
    have hE957 := hgk956.st.ex.ex (fun b h => h.elim (fun h => hgk956.no rfl h) (fun h => h))
    have hE957z := Ex.size hE957
    exact OpR.op' rfl (Yl.sameG (yl_loadN ty26 rfl (hgk956.old 5 _ rfl rfl) ((Box.ex (Box.chg q949 hc819 (Bx (Box.lt q949))) hE957).cells (n := 3) rfl) rfl kI))
   ·intro L961 w962 G960 hgk963
    have hE964 : Chg (fun b => InR [(b4, b4 + 1)] b ∨ w816.heap.size ≤ b) w816 w962 := hgk963.st.ex.imp (fun b _ h => h.imp (fun h => h.2) (fun h => h))
    have hE964z := Chg.size hE964
    exact OpR.op' rfl (Yl.sameG (yl_loadN ty26 rfl (hgk963.old 6 _ rfl rfl) ((Box.chg q951 hE964 (Bx (Box.lt q951))).cells (n := 3) rfl) rfl kI))
   ·intro L968 w969 G967 hgk970
    have hE971 := hgk970.st.ex.ex (fun b h => h.elim (fun h => hgk970.nw h) (fun h => h))
    have hE971z := Ex.size hE971
    obtain ⟨_, hx973, rfl⟩ := hgk970.val 0 44 rfl rfl
    have q975 := Box.ex (Box.ex hB8 hE15) hE21
    have q981 := Box.only (Box.ex (Box.ex (Box.only (Box.ex (Box.chg q975 hc31 (Bx (Box.lt q975))) hE39) hO42 oM) hE53) hE63) hO66 oM
    refine OpR.op' rfl (yl_store (vs := [.string (bs ((u_bentTable p_code (0, 0)).1.Name)), .slice A26 (((u_bentTable p_code (0, 0)).1.Cols).length) c26, .slice A27 (((u_bentTable p_code (0, 0)).1.Idxs).length) c27]) ty26 rfl (hgk970.old 2 _ rfl rfl) hx973 rfl rfl rfl (Box.ex (Box.chg q981 hc819 (Bx (Box.lt q981))) hE971) (nb rfl) ?_)
    intro w984 hB985 hO986
    have hO986z := hO986.size
    exact ⟨Chg.of_only hO986 (⟨rfl, Nat.le_refl _, by omega⟩), hB985⟩
   ·intro G987 L988 w989 hgp990
    have hE991 : Chg (fun b => InR [(b4, b4 + 1)] b ∨ w816.heap.size ≤ b) w816 w989 := hgp990.st.ex.imp (fun b _ h => h.imp (fun h => h.2) (fun h => h))
    have hE991z := Chg.size hE991
    have hx993 := hgp990.old 3 _ rfl rfl
    obtain ⟨_, hx994, rfl⟩ := hgp990.val 1 45 rfl rfl
    obtain ⟨_, h995⟩ := hgp990.fact 2 rfl
    have hr996 := hgp990.st.rng 2 (hgp990.has 2 rfl)
    have q997 := Box.ex hB14 hE21
    have q1003 := Box.only (Box.ex (Box.ex (Box.only (Box.ex (Box.chg q997 hc31 (Bx (Box.lt q997))) hE39) hO42 oM) hE53) hE63) hO66 oM
    have q1004 := Box.chg q1003 hc819 (Bx (Box.lt q1003))
    refine SeqR.u rfl rfl (yl_store (vs := [.string (bs ((s_l24Own ((u_bentTable p_code (0, 0)).1)).Name)), .slice A49 (((s_l24Own ((u_bentTable p_code (0, 0)).1)).Cols).length) c49, .slice A50 (((s_l24Own ((u_bentTable p_code (0, 0)).1)).Idxs).length) c50]) ty26 rfl hx993 hx994 rfl rfl rfl (Box.chg q1004 hE991 (Bx (Box.lt q1004))) (nb rfl) ?_)
    intro w1006 hB1007 hO1008
    have hB1007 : Box w1006 b10 26 [.string (bs ((s_l24Own ((u_bentTable p_code (0, 0)).1)).Name)), .slice A49 (((s_l24Own ((u_bentTable p_code (0, 0)).1)).Cols).length) c49, .slice A50 (((s_l24Own ((u_bentTable p_code (0, 0)).1)).Idxs).length) c50] := hB1007
    have hO1008z := hO1008.size
    refine dn (CW.sub (sC 2 (hgp990.old 2 _ rfl rfl) (sC 3 hx993 (Sub.nil _))) (CW.ret (rr rfl (.cons ⟨_, rfl, run_loadN ty26 (cs := [.string (bs ((u_bentTable p_code (0, 0)).1.Name)), .slice A26 (((u_bentTable p_code (0, 0)).1.Cols).length) c26, .slice A27 (((u_bentTable p_code (0, 0)).1.Idxs).length) c27]) rfl ((Box.only h995 hO1008 oM).cells (n := 3) rfl)⟩ (.cons ⟨_, rfl, run_loadN ty26 (cs := [.string (bs ((s_l24Own ((u_bentTable p_code (0, 0)).1)).Name)), .slice A49 (((s_l24Own ((u_bentTable p_code (0, 0)).1)).Cols).length) c49, .slice A50 (((s_l24Own ((u_bentTable p_code (0, 0)).1)).Idxs).length) c50]) rfl (hB1007.cells (n := 3) rfl)⟩ .nil)) ?_)))
    have hM1010 : (s_DrawNextTo p_code) = (((u_bentTable p_code (0, 0)).1, (s_l24Own ((u_bentTable p_code (0, 0)).1)))) := by simp only [s_DrawNextTo, hb67, hb821, cL]
    rw [hM1010]
    have q1044 := Below.only (Ex.chg (Ex.chg (Below.only (Ex.trans (Ex.trans (Below.only (Ex.trans (Ex.chg (Ex.trans (Ex.trans (Ex.trans (Ex.refl w) hE9) hE15) hE21) hc31 (fun k hk => by simp only [InR, or_false] at hk; omega)) hE39) hO42 oM) hE53) hE63) hO66 oM) hc819 (fun k hk => by simp only [InR, or_false] at hk; omega)) hE991 (fun k hk => by simp only [InR, or_false] at hk; omega)) hO1008 oM
    exact ⟨A26, c26, A27, c27, lo27, hi27, A49, c49, lo49, hi49, A50, c50, lo50, hi50, rfl, (RdS.wideI gS (RdS.only gS (RdS.chg gS (RdS.chg gS (RdS.only gS (RdS.ex gS (RdS.ex gS q44 hE53) hE63) hO66 (by simp only [Iv]; omega)) hc819 Bi) hE991 Bi) hO1008 (by simp only [Iv]; omega)) oM), (OwnL.only gI (OwnL.chg gI (OwnL.chg gI (OwnL.only gI (OwnL.ex gI (OwnL.ex gI q47 hE53) hE63) hO66 oM) hc819 Bk) hE991 Bk) hO1008 oM), (OwnL.only gS (OwnL.chg gS (OwnL.chg gS (OwnL.only gS (OwnL.ex gS h49 hE63) hO66 oM) hc819 Bk) hE991 Bk) hO1008 oM), (OwnL.only gI (OwnL.chg gI (OwnL.chg gI (OwnL.only gI (OwnL.ex gI h50 hE63) hO66 oM) hc819 Bk) hE991 Bk) hO1008 oM), ho28, ho51, oM, oM, oM, oM, oM, oM, q1044⟩
theorem c_s_l24SameCols {A1 : Option Addr} {c1 : Nat} {A2 : Option Addr} {c2 : Nat} {A4 : Option Addr} {c4 : Nat} {A5 : Option Addr} {c5 : Nat} {w : World} (p_0 : DTable) (p_1 : DTable) (h1 : RdS w (Iv 0 w.heap.size) (RF e_Str) 1 A1 p_0.Cols.length c1 p_0.Cols) (h2 : RdS w (Iv 0 w.heap.size) (RF e_Idx) 3 A2 p_0.Idxs.length c2 p_0.Idxs) (h4 : RdS w (Iv 0 w.heap.size) (RF e_Str) 1 A4 p_1.Cols.length c4 p_1.Cols) (h5 : RdS w (Iv 0 w.heap.size) (RF e_Idx) 3 A5 p_1.Idxs.length c5 p_1.Idxs) (o3 : ok_Table p_0) (o6 : ok_Table p_1) : Cal Tryz.prog 53 #[.agg #[.string (bs (p_0.Name)), .slice A1 p_0.Cols.length c1, .slice A2 p_0.Idxs.length c2], .agg #[.string (bs (p_1.Name)), .slice A4 p_1.Cols.length c4, .slice A5 p_1.Idxs.length c5]] w fun v w' => v = .bool ((s_l24SameCols p_0 p_1)) ∧ Ex w w' := by
 have hol7 : p_0.Name.length ≤ 1073741824 := o3.1
 have hol8 := o3.2.1.1
 have hol9 := o3.2.2.1
 have hol10 : p_1.Name.length ≤ 1073741824 := o6.1
 have hol11 := o6.2.1.1
 have hol12 := o6.2.2.1
 refine Cal.of func53 rfl ntmps53 rfl (cR (sd rfl (yl_box rfl rfl rfl ?_)))
 intro b13 w14 hs15 hz16 hB17 hE18
 refine sd rfl (yl_box rfl rfl rfl ?_)
 intro b19 w20 hs21 hz22 hB23 hE24
 refine sA rfl (dn (CW.seq (cR (sd rfl (yl_fieldAddr fd26_0 rfl rfl ?_)))))
 have q25 := Box.ex hB17 hE24
 refine sd rfl (yl_load1 ty9 rfl rfl ((q25.cell 0).trans rfl) (sd rfl (yl_fieldAddr fd26_0 rfl rfl (sd rfl (yl_load1 ty9 rfl rfl ((hB23.cell 0).trans rfl) (sd rfl (yl_sneq (a := p_0.Name) (b := p_1.Name) rfl rfl rfl (sM rfl (bcase (p_0.Name == p_1.Name) (fun hb26 => ?_) (fun hb26 => ?_))))))))))
 ·refine sy rfl rfl (not_t hb26) (yl_fieldAddr fd26_1 rfl rfl (sy rfl rfl (not_t hb26) (yl_load1 ty23 rfl rfl ((q25.cell 1).trans rfl) (sy rfl rfl (not_t hb26) (yL un23 rfl rfl (sy rfl rfl (not_t hb26) (yl_fieldAddr fd26_1 rfl rfl (sy rfl rfl (not_t hb26) (yl_load1 ty23 rfl rfl ((hB23.cell 1).trans rfl) (sy rfl rfl (not_t hb26) (yL un23 rfl rfl (sy rfl rfl (not_t hb26) (yl_neq rfl rfl rfl (sd rfl (yl_pick_f rfl rfl (not_t hb26) rfl (sM rfl ?_))))))))))))))))
  refine bcase (decide ((p_0.Cols.length : Int) = (p_1.Cols.length : Int))) (fun hb27 => ?_) (fun hb27 => ?_)
  ·have hb27p := dec_t hb27
   refine sy rfl rfl (not_t hb27) (yl_fieldAddr fd26_2 rfl rfl (sy rfl rfl (not_t hb27) (yl_load1 ty24 rfl rfl ((q25.cell 2).trans rfl) (sy rfl rfl (not_t hb27) (yL un24 rfl rfl (sy rfl rfl (not_t hb27) (yl_fieldAddr fd26_2 rfl rfl (sy rfl rfl (not_t hb27) (yl_load1 ty24 rfl rfl ((hB23.cell 2).trans rfl) (sy rfl rfl (not_t hb27) (yL un24 rfl rfl (sy rfl rfl (not_t hb27) (yl_neq rfl rfl rfl (sd rfl (yl_pick_f rfl rfl (not_t hb27) rfl (SeqR.done ?_))))))))))))))))
   refine tn (bcase (decide ((p_0.Idxs.length : Int) = (p_1.Idxs.length : Int))) (fun hb28 => ?_) (fun hb28 => ?_))
   ·have hb28p := dec_t hb28
    refine CW.cond_f rfl (not_t hb28) (CW.skip (tn (CW.seq (cR (sd rfl (yl_fieldAddr fd26_1 rfl rfl (sd rfl (yl_load1 ty23 rfl rfl ((q25.cell 1).trans rfl) (sd rfl (yL un23 rfl rfl ?_))))))))))
    refine sM rfl (dn (CW.block (CW.loop (fun m30 L31 w32 => ∃ (k29 : Nat), m30 = p_0.Cols.length - k29 ∧ k29 ≤ p_0.Cols.length ∧ w20.heap.size ≤ w32.heap.size ∧ lkp L31 2 = some (.pointer (some ⟨b13, 0, none⟩)) ∧ lkp L31 3 = some (.pointer (some ⟨b19, 0, none⟩)) ∧ lkp L31 32 = some (.int .i64 ((p_0.Cols.length : Int))) ∧ lkp L31 33 = some (.int .i64 ((k29 : Int))) ∧ Box w32 b13 26 [.string (bs (p_0.Name)), .slice A1 p_0.Cols.length c1, .slice A2 p_0.Idxs.length c2] ∧ RdS w32 (Iv 0 w.heap.size) (RF e_Str) 1 A1 p_0.Cols.length c1 p_0.Cols ∧ RdS w32 (Iv 0 w.heap.size) (RF e_Idx) 3 A2 p_0.Idxs.length c2 p_0.Idxs ∧ Box w32 b19 26 [.string (bs (p_1.Name)), .slice A4 p_1.Cols.length c4, .slice A5 p_1.Idxs.length c5] ∧ RdS w32 (Iv 0 w.heap.size) (RF e_Str) 1 A4 p_1.Cols.length c4 p_1.Cols ∧ RdS w32 (Iv 0 w.heap.size) (RF e_Idx) 3 A5 p_1.Idxs.length c5 p_1.Idxs ∧ Ex w w32 ∧ loopM (B_s_l24SameCols_0 p_0 p_1) (p_0.Cols.length - k29) k29 () = loopM (B_s_l24SameCols_0 p_0 p_1) (p_0.Cols.length - 0) 0 ()) (p_0.Cols.length - 0) ?_ ?_)))
    ·exact ⟨0, rfl, oM, Nat.le_refl _, rfl, rfl, rfl, rfl, q25, (RdS.ex gS (RdS.ex gS h1 hE18) hE24), (RdS.ex gI (RdS.ex gI h2 hE18) hE24), hB23, (RdS.ex gS (RdS.ex gS h4 hE18) hE24), (RdS.ex gI (RdS.ex gI h5 hE18) hE24), (Ex.trans (Ex.trans (Ex.refl w) hE18) hE24), rfl⟩
    ·rintro m43 L44 w45 ⟨k29, rfl, hk46, hsz48, hl49, hl50, hl51, hl52, hf53, hf54, hf55, hf56, hf57, hf58, hf59, hI47⟩
     refine CW.sub (Sub.cons hl49 (Sub.cons hl50 (Sub.cons hl51 (Sub.cons hl52 (Sub.nil _))))) ?_
     have hf53z := Box.lt hf53
     have hf56z := Box.lt hf56
     have hf59z := Ex.size hf59
     have hbg60 := RdS.big hf54
     rcases Nat.lt_or_ge k29 p_0.Cols.length with hlt61 | hlt61
     ·refine cR (sd rfl (yl_lss rfl rfl rfl (dn (CW.seq (CW.cond_t rfl (lt_t hlt61) (CW.skip (tn ?_)))))))
      refine CW.seq (CW.block (cR (sM rfl (sA rfl (dn (CW.seq ?_))))))
      obtain ⟨eb62, eo62, _, eA62, _, ebl62, _, eR62, eC62⟩ := RdS.aD hf54 d_Str (i := k29)
      obtain rfl := eR62
      have eC62 : Cells w45 eb62 (eo62 + k29 * 1) [.string (bs ((p_0.Cols.getD k29 d_Str)))] := eC62
      obtain ⟨eb63, eo63, _, eA63, _, ebl63, _, eR63, eC63⟩ := RdS.aD hf57 d_Str (i := k29)
      obtain rfl := eR63
      have eC63 : Cells w45 eb63 (eo63 + k29 * 1) [.string (bs ((p_1.Cols.getD k29 d_Str)))] := eC63
      refine drI 11 [.pointer (some ⟨b13, 0 + 1, none⟩), .slice A1 p_0.Cols.length c1, .int .i64 ((k29 : Int)), .pointer (some ⟨eb62, eo62 + k29 * 1, none⟩), .string (bs ((p_0.Cols.getD k29 d_Str))), .pointer (some ⟨b19, 0 + 1, none⟩), .slice A4 p_1.Cols.length c4, .int .i64 ((k29 : Int)), .pointer (some ⟨eb63, eo63 + k29 * 1, none⟩), .string (bs ((p_1.Cols.getD k29 d_Str))), .bool (!((p_0.Cols.getD k29 d_Str) == (p_1.Cols.getD k29 d_Str)))] Tryz.follows rfl ⟨?_, ?_, ?_, ?_, ?_, ?_, ?_, ?_, ?_, ?_, ?_, trivial⟩ ?_
      ·exact oI rfl fun h => yl_fieldAddr fd26_1 rfl (h.old 2 _ rfl rfl) kI
      ·exact oI rfl fun h => yl_load1 ty23 rfl (h.dt 0 36 rfl rfl rfl) (((Box.ex hf53 h.ex).cell 1).trans rfl) kI
      ·exact oI rfl fun h => yM rfl (h.old 5 _ rfl rfl) kI
      ·intro L80 w81 hi82
       have hE83 := hi82.ex
       have hE83z := Ex.size hE83
       exact os rfl ((yl_ixN un23 ty9 rfl (hi82.dt 1 37 rfl rfl rfl) (hi82.dt 2 38 rfl rfl rfl) eA62 kI))
      ·exact oI rfl fun h => yl_load1 ty9 rfl (h.dt 3 39 rfl rfl rfl) ((Cells.ex eC62 h.ex) 0 _ rfl) kI
      ·exact oI rfl fun h => yl_fieldAddr fd26_1 rfl (h.old 3 _ rfl rfl) kI
      ·exact oI rfl fun h => yl_load1 ty23 rfl (h.dt 5 41 rfl rfl rfl) (((Box.ex hf56 h.ex).cell 1).trans rfl) kI
      ·exact oI rfl fun h => yM rfl (h.old 5 _ rfl rfl) kI
      ·intro L108 w109 hi110
       have hE111 := hi110.ex
       have hE111z := Ex.size hE111
       exact os rfl ((yl_ixN un23 ty9 rfl (hi110.dt 6 42 rfl rfl rfl) (hi110.dt 7 43 rfl rfl rfl) eA63 kI))
      ·exact oI rfl fun h => yl_load1 ty9 rfl (h.dt 8 44 rfl rfl rfl) ((Cells.ex eC63 h.ex) 0 _ rfl) kI
      ·exact oI rfl fun h => yl_sneq (a := (p_0.Cols.getD k29 d_Str)) (b := (p_1.Cols.getD k29 d_Str)) rfl (h.dt 4 40 rfl rfl rfl) (h.dt 9 45 rfl rfl rfl) kI
      ·intro fl129 fh130 L126 w127 hp128
       have hE131 := hp128.ex
       have hE131z := Ex.size hE131
       refine dn (CW.sub (sC 2 (hp128.old 2 _ rfl rfl) (sC 3 (hp128.old 3 _ rfl rfl) (sC 32 (hp128.old 32 _ rfl rfl) (sC 33 (hp128.old 33 _ rfl rfl) (sC 46 (hp128.nt 10 46 rfl rfl rfl) (Sub.nil _)))))) (bcase ((p_0.Cols.getD k29 d_Str) == (p_1.Cols.getD k29 d_Str)) (fun hb137 => ?_) (fun hb137 => ?_)))
       ·refine CW.cond_f rfl (not_t hb137) (CW.skip (bn (tn (CW.region (sd rfl (yl_inc rfl rfl rfl oM (sM rfl (dn ?_))))))))
        have hB138 : B_s_l24SameCols_0 p_0 p_1 k29 () = .cont () := by simp only [B_s_l24SameCols_0, hb26, hb27, hb28, hb137, cL]
        exact ⟨p_0.Cols.length - (k29 + 1), oM, k29 + 1, rfl, hlt61, oM, rfl, rfl, rfl, rfl, (Box.ex hf53 hE131), (RdS.ex gS hf54 hE131), (RdS.ex gI hf55 hE131), (Box.ex hf56 hE131), (RdS.ex gS hf57 hE131), (RdS.ex gI hf58 hE131), (Ex.trans hf59 hE131), (loopM.cont hlt61 hB138).symm.trans hI47⟩
       ·refine CW.cond_t rfl (not_f hb137) (cR (sA rfl (dn (CW.ret (br (tr ?_))))))
        refine tr ?_
        have hB147 : B_s_l24SameCols_0 p_0 p_1 k29 () = .ret false := by simp only [B_s_l24SameCols_0, hb26, hb27, hb28, hb137, cL]
        have hL146 : loopM (B_s_l24SameCols_0 p_0 p_1) (p_0.Cols.length - 0) 0 () = .ret false := hI47.symm.trans (loopM.ret hlt61 hB147)
        refine br (tr (rr rfl (.cons rfl .nil) ?_))
        have hM148 : (s_l24SameCols p_0 p_1) = (false) := by simp only [s_l24SameCols, hb26, hb27, hb28, hb137, hL146, cL]
        rw [hM148]
        exact ⟨rfl, (Ex.trans hf59 hE131)⟩
     ·refine cR (sd rfl (yl_lss rfl rfl rfl (dn (CW.seq (CW.cond_f rfl (lt_f hlt61) (CW.exit (tx ?_)))))))
      refine tx ?_
      have hL150 : loopM (B_s_l24SameCols_0 p_0 p_1) (p_0.Cols.length - 0) 0 () = .done () := hI47.symm.trans (loopM.stop hlt61)
      refine bx (tn (CW.seq (cR (sd rfl (yl_fieldAddr fd26_2 rfl rfl (sd rfl (yl_load1 ty24 rfl rfl ((hf53.cell 2).trans rfl) (sd rfl (yL un24 rfl rfl (sM rfl ?_))))))))))
      refine dn (CW.block (CW.loop (fun m152 L153 w154 => ∃ (k151 : Nat), m152 = p_0.Idxs.length - k151 ∧ k151 ≤ p_0.Idxs.length ∧ w45.heap.size ≤ w154.heap.size ∧ lkp L153 2 = some (.pointer (some ⟨b13, 0, none⟩)) ∧ lkp L153 3 = some (.pointer (some ⟨b19, 0, none⟩)) ∧ lkp L153 50 = some (.int .i64 ((p_0.Idxs.length : Int))) ∧ lkp L153 51 = some (.int .i64 ((k151 : Int))) ∧ Box w154 b13 26 [.string (bs (p_0.Name)), .slice A1 p_0.Cols.length c1, .slice A2 p_0.Idxs.length c2] ∧ RdS w154 (Iv 0 w.heap.size) (RF e_Str) 1 A1 p_0.Cols.length c1 p_0.Cols ∧ RdS w154 (Iv 0 w.heap.size) (RF e_Idx) 3 A2 p_0.Idxs.length c2 p_0.Idxs ∧ Box w154 b19 26 [.string (bs (p_1.Name)), .slice A4 p_1.Cols.length c4, .slice A5 p_1.Idxs.length c5] ∧ RdS w154 (Iv 0 w.heap.size) (RF e_Str) 1 A4 p_1.Cols.length c4 p_1.Cols ∧ RdS w154 (Iv 0 w.heap.size) (RF e_Idx) 3 A5 p_1.Idxs.length c5 p_1.Idxs ∧ Ex w w154 ∧ loopM (B_s_l24SameCols_1 p_0 p_1) (p_0.Idxs.length - k151) k151 () = loopM (B_s_l24SameCols_1 p_0 p_1) (p_0.Idxs.length - 0) 0 ()) (p_0.Idxs.length - 0) ?_ ?_))
      ·exact ⟨0, rfl, oM, Nat.le_refl _, rfl, rfl, rfl, rfl, hf53, hf54, hf55, hf56, hf57, hf58, hf59, rfl⟩
      ·rintro m155 L156 w157 ⟨k151, rfl, hk158, hsz160, hl161, hl162, hl163, hl164, hf165, hf166, hf167, hf168, hf169, hf170, hf171, hI159⟩
       refine CW.sub (Sub.cons hl161 (Sub.cons hl162 (Sub.cons hl163 (Sub.cons hl164 (Sub.nil _))))) ?_
       have hf165z := Box.lt hf165
       have hf168z := Box.lt hf168
       have hf171z := Ex.size hf171
       have hbg172 := RdS.big hf167
       rcases Nat.lt_or_ge k151 p_0.Idxs.length with hlt173 | hlt173
       ·refine cR (sd rfl (yl_lss rfl rfl rfl (dn (CW.seq (CW.cond_t rfl (lt_t hlt173) (CW.skip (tn ?_)))))))
        refine CW.seq (CW.block (cR (sM rfl (sA rfl (dn (CW.seq ?_))))))
        obtain ⟨eb174, eo174, _, _, _, ebl174, _, eR174, eC174⟩ := RdS.aD hf167 d_Idx (i := k151)
        obtain rfl := eR174
        have eC174 : Cells w157 eb174 (eo174 + k151 * 3) [.string (bs ((p_0.Idxs.getD k151 d_Idx).Name)), .int .i64 ((p_0.Idxs.getD k151 d_Idx).Col), .int .i64 ((p_0.Idxs.getD k151 d_Idx).Stage)] := eC174
        obtain ⟨eb175, eo175, _, _, _, ebl175, _, eR175, eC175⟩ := RdS.aD hf170 d_Idx (i := k151)
        obtain rfl := eR175
        have eC175 : Cells w157 eb175 (eo175 + k151 * 3) [.string (bs ((p_1.Idxs.getD k151 d_Idx).Name)), .int .i64 ((p_1.Idxs.getD k151 d_Idx).Col), .int .i64 ((p_1.Idxs.getD k151 d_Idx).Stage)] := eC175
        refine bcase (((p_0.Idxs.getD k151 d_Idx).Name) == ((p_1.Idxs.getD k151 d_Idx).Name)) (fun hb176 => ?_) (fun hb176 => ?_)
        ·obtain ⟨eb177, eo177, _, eA177, _, ebl177, _, eR177, eC177⟩ := RdS.aD hf167 d_Idx (i := k151)
         obtain rfl := eR177
         have eC177 : Cells w157 eb177 (eo177 + k151 * 3) [.string (bs ((p_0.Idxs.getD k151 d_Idx).Name)), .int .i64 ((p_0.Idxs.getD k151 d_Idx).Col), .int .i64 ((p_0.Idxs.getD k151 d_Idx).Stage)] := eC177
         obtain ⟨eb178, eo178, _, eA178, _, ebl178, _, eR178, eC178⟩ := RdS.aD hf170 d_Idx (i := k151)
         obtain rfl := eR178
         have eC178 : Cells w157 eb178 (eo178 + k151 * 3) [.string (bs ((p_1.Idxs.getD k151 d_Idx).Name)), .int .i64 ((p_1.Idxs.getD k151 d_Idx).Col), .int .i64 ((p_1.Idxs.getD k151 d_Idx).Stage)] := eC178
         refine drI 28 [.pointer (some ⟨b13, 0 + 2, none⟩), .slice A2 p_0.Idxs.length c2, .int .i64 ((k151 : Int)), .pointer (some ⟨eb177, eo177 + k151 * 3, none⟩), .pointer (some ⟨eb177, eo177 + k151 * 3 + 0, none⟩), .string (bs ((p_0.Idxs.getD k151 d_Idx).Name)), .pointer (some ⟨b19, 0 + 2, none⟩), .slice A5 p_1.Idxs.length c5, .int .i64 ((k151 : Int)), .pointer (some ⟨eb178, eo178 + k151 * 3, none⟩), .pointer (some ⟨eb178, eo178 + k151 * 3 + 0, none⟩), .string (bs ((p_1.Idxs.getD k151 d_Idx).Name)), .bool (!(((p_0.Idxs.getD k151 d_Idx).Name) == ((p_1.Idxs.getD k151 d_Idx).Name))), .bool (!(((p_0.Idxs.getD k151 d_Idx).Name) == ((p_1.Idxs.getD k151 d_Idx).Name))), .pointer (some ⟨b13, 0 + 2, none⟩), .slice A2 p_0.Idxs.length c2, .int .i64 ((k151 : Int)), .pointer (some ⟨eb177, eo177 + k151 * 3, none⟩), .pointer (some ⟨eb177, eo177 + k151 * 3 + 1, none⟩), .int .i64 ((p_0.Idxs.getD k151 d_Idx).Col), .pointer (some ⟨b19, 0 + 2, none⟩), .slice A5 p_1.Idxs.length c5, .int .i64 ((k151 : Int)), .pointer (some ⟨eb178, eo178 + k151 * 3, none⟩), .pointer (some ⟨eb178, eo178 + k151 * 3 + 1, none⟩), .int .i64 ((p_1.Idxs.getD k151 d_Idx).Col), .bool (!(decide (((p_0.Idxs.getD k151 d_Idx).Col) = ((p_1.Idxs.getD k151 d_Idx).Col)))), .bool (!(decide (((p_0.Idxs.getD k151 d_Idx).Col) = ((p_1.Idxs.getD k151 d_Idx).Col))))] Tryz.follows rfl ⟨?_, ?_, ?_, ?_, ?_, ?_, ?_, ?_, ?_, ?_, ?_, ?_, ?_, ?_, ?_, ?_, ?_, ?_, ?_, ?_, ?_, ?_, ?_, ?_, ?_, ?_, ?_, ?_, trivial⟩ ?_
         ·exact oI rfl fun h => yl_fieldAddr fd26_2 rfl (h.old 2 _ rfl rfl) kI
         ·exact oI rfl fun h => yl_load1 ty24 rfl (h.dt 0 54 rfl rfl rfl) (((Box.ex hf165 h.ex).cell 2).trans rfl) kI
         ·exact oI rfl fun h => yM rfl (h.old 6 _ rfl rfl) kI
         ·intro L195 w196 hi197
          have hE198 := hi197.ex
          have hE198z := Ex.size hE198
          exact os rfl ((yl_ixN un24 ty35 rfl (hi197.dt 1 55 rfl rfl rfl) (hi197.dt 2 56 rfl rfl rfl) eA177 kI))
         ·exact oI rfl fun h => yl_fieldAddr fd35_0 rfl (h.dt 3 57 rfl rfl rfl) kI
         ·exact oI rfl fun h => yl_load1 ty9 rfl (h.dt 4 58 rfl rfl rfl) ((Cells.ex eC177 h.ex) 0 _ rfl) kI
         ·exact oI rfl fun h => yl_fieldAddr fd26_2 rfl (h.old 3 _ rfl rfl) kI
         ·exact oI rfl fun h => yl_load1 ty24 rfl (h.dt 6 60 rfl rfl rfl) (((Box.ex hf168 h.ex).cell 2).trans rfl) kI
         ·exact oI rfl fun h => yM rfl (h.old 6 _ rfl rfl) kI
         ·intro L228 w229 hi230
          have hE231 := hi230.ex
          have hE231z := Ex.size hE231
          exact os rfl ((yl_ixN un24 ty35 rfl (hi230.dt 7 61 rfl rfl rfl) (hi230.dt 8 62 rfl rfl rfl) eA178 kI))
         ·exact oI rfl fun h => yl_fieldAddr fd35_0 rfl (h.dt 9 63 rfl rfl rfl) kI
         ·exact oI rfl fun h => yl_load1 ty9 rfl (h.dt 10 64 rfl rfl rfl) ((Cells.ex eC178 h.ex) 0 _ rfl) kI
         ·exact oI rfl fun h => yl_sneq (a := ((p_0.Idxs.getD k151 d_Idx).Name)) (b := ((p_1.Idxs.getD k151 d_Idx).Name)) rfl (h.dt 5 59 rfl rfl rfl) (h.dt 11 65 rfl rfl rfl) kI
         ·exact oI rfl fun h => yM rfl (h.dt 12 66 rfl rfl rfl) kI
         ·exact oW rfl rfl rfl rfl (not_t hb176) fun h => yl_fieldAddr fd26_2 rfl (h.old 2 _ rfl rfl) kI
         ·exact oW rfl rfl rfl rfl (not_t hb176) fun h => yl_load1 ty24 rfl (h.dt 14 68 rfl rfl rfl) (((Box.ex hf165 h.ex).cell 2).trans rfl) kI
         ·exact oW rfl rfl rfl rfl (not_t hb176) fun h => yM rfl (h.old 6 _ rfl rfl) kI
         ·intro L275 w276 hi277
          have hE278 := hi277.ex
          have hE278z := Ex.size hE278
          exact OpR.want rfl rfl (hi277.dt 13 67 rfl rfl rfl) (not_t hb176) (Yl.sameI (yl_ixN un24 ty35 rfl (hi277.dt 15 69 rfl rfl rfl) (hi277.dt 16 70 rfl rfl rfl) eA177 kI))
         ·exact oW rfl rfl rfl rfl (not_t hb176) fun h => yl_fieldAddr fd35_1 rfl (h.dt 17 71 rfl rfl rfl) kI
         ·exact oW rfl rfl rfl rfl (not_t hb176) fun h => yl_load1 ty3 rfl (h.dt 18 72 rfl rfl rfl) ((Cells.ex eC177 h.ex) 1 _ rfl) kI
         ·exact oW rfl rfl rfl rfl (not_t hb176) fun h => yl_fieldAddr fd26_2 rfl (h.old 3 _ rfl rfl) kI
         ·exact oW rfl rfl rfl rfl (not_t hb176) fun h => yl_load1 ty24 rfl (h.dt 20 74 rfl rfl rfl) (((Box.ex hf168 h.ex).cell 2).trans rfl) kI
         ·exact oW rfl rfl rfl rfl (not_t hb176) fun h => yM rfl (h.old 6 _ rfl rfl) kI
         ·intro L314 w315 hi316
          have hE317 := hi316.ex
          have hE317z := Ex.size hE317
          exact OpR.want rfl rfl (hi316.dt 13 67 rfl rfl rfl) (not_t hb176) (Yl.sameI (yl_ixN un24 ty35 rfl (hi316.dt 21 75 rfl rfl rfl) (hi316.dt 22 76 rfl rfl rfl) eA178 kI))
         ·exact oW rfl rfl rfl rfl (not_t hb176) fun h => yl_fieldAddr fd35_1 rfl (h.dt 23 77 rfl rfl rfl) kI
         ·exact oW rfl rfl rfl rfl (not_t hb176) fun h => yl_load1 ty3 rfl (h.dt 24 78 rfl rfl rfl) ((Cells.ex eC178 h.ex) 1 _ rfl) kI
         ·exact oW rfl rfl rfl rfl (not_t hb176) fun h => yl_neq rfl (h.dt 19 73 rfl rfl rfl) (h.dt 25 79 rfl rfl rfl) kI
         ·exact oI rfl fun h => yl_pick_f rfl (h.dt 13 67 rfl rfl rfl) (not_t hb176) (h.dt 26 80 rfl rfl rfl) kI
         ·intro fl350 fh351 L347 w348 hp349
          have hE352 := hp349.ex
          have hE352z := Ex.size hE352
          refine dn (CW.sub (sC 2 (hp349.old 2 _ rfl rfl) (sC 3 (hp349.old 3 _ rfl rfl) (sC 50 (hp349.old 50 _ rfl rfl) (sC 51 (hp349.old 51 _ rfl rfl) (sC 68 (hp349.nt 14 68 rfl rfl rfl) (sC 69 (hp349.nt 15 69 rfl rfl rfl) (sC 70 (hp349.nt 16 70 rfl rfl rfl) (sC 71 (hp349.nt 17 71 rfl rfl rfl) (sC 72 (hp349.nt 18 72 rfl rfl rfl) (sC 73 (hp349.nt 19 73 rfl rfl rfl) (sC 74 (hp349.nt 20 74 rfl rfl rfl) (sC 75 (hp349.nt 21 75 rfl rfl rfl) (sC 76 (hp349.nt 22 76 rfl rfl rfl) (sC 77 (hp349.nt 23 77 rfl rfl rfl) (sC 78 (hp349.nt 24 78 rfl rfl rfl) (sC 79 (hp349.nt 25 79 rfl rfl rfl) (sC 80 (hp349.nt 26 80 rfl rfl rfl) (sC 81 (hp349.nt 27 81 rfl rfl rfl) (Sub.nil _))))))))))))))))))) (bcase (decide (((p_0.Idxs.getD k151 d_Idx).Col) = ((p_1.Idxs.getD k151 d_Idx).Col))) (fun hb371 => ?_) (fun hb371 => ?_)))
          ·have hb371p := dec_t hb371
           refine CW.cond_f rfl (not_t hb371) (CW.skip (bn (tn (CW.region (sd rfl (yl_inc rfl rfl rfl oM (sM rfl (dn ?_))))))))
           have hB372 : B_s_l24SameCols_1 p_0 p_1 k151 () = .cont () := by simp only [B_s_l24SameCols_1, hb26, hb27, hb28, hb176, hb371, hL150, cL]
           exact ⟨p_0.Idxs.length - (k151 + 1), oM, k151 + 1, rfl, hlt173, oM, rfl, rfl, rfl, rfl, (Box.ex hf165 hE352), (RdS.ex gS hf166 hE352), (RdS.ex gI hf167 hE352), (Box.ex hf168 hE352), (RdS.ex gS hf169 hE352), (RdS.ex gI hf170 hE352), (Ex.trans hf171 hE352), (loopM.cont hlt173 hB372).symm.trans hI159⟩
          ·have hb371p := dec_f hb371
           refine CW.cond_t rfl (not_f hb371) (cR (sA rfl (dn (CW.ret (br (tr ?_))))))
           refine tr ?_
           have hB381 : B_s_l24SameCols_1 p_0 p_1 k151 () = .ret false := by simp only [B_s_l24SameCols_1, hb26, hb27, hb28, hb176, hb371, hL150, cL]
           have hL380 : loopM (B_s_l24SameCols_1 p_0 p_1) (p_0.Idxs.length - 0) 0 () = .ret false := hI159.symm.trans (loopM.ret hlt173 hB381)
           refine br (tr (rr rfl (.cons rfl .nil) ?_))
           have hM382 : (s_l24SameCols p_0 p_1) = (false) := by simp only [s_l24SameCols, hb26, hb27, hb28, hb176, hb371, hL150, hL380, cL]
           rw [hM382]
           exact ⟨rfl, (Ex.trans hf171 hE352)⟩
        ·obtain ⟨eb384, eo384, _, eA384, _, ebl384, _, eR384, eC384⟩ := RdS.aD hf167 d_Idx (i := k151)
         obtain rfl := eR384
         have eC384 : Cells w157 eb384 (eo384 + k151 * 3) [.string (bs ((p_0.Idxs.getD k151 d_Idx).Name)), .int .i64 ((p_0.Idxs.getD k151 d_Idx).Col), .int .i64 ((p_0.Idxs.getD k151 d_Idx).Stage)] := eC384
         obtain ⟨eb385, eo385, _, eA385, _, ebl385, _, eR385, eC385⟩ := RdS.aD hf170 d_Idx (i := k151)
         obtain rfl := eR385
         have eC385 : Cells w157 eb385 (eo385 + k151 * 3) [.string (bs ((p_1.Idxs.getD k151 d_Idx).Name)), .int .i64 ((p_1.Idxs.getD k151 d_Idx).Col), .int .i64 ((p_1.Idxs.getD k151 d_Idx).Stage)] := eC385
         refine drI 28 [.pointer (some ⟨b13, 0 + 2, none⟩), .slice A2 p_0.Idxs.length c2, .int .i64 ((k151 : Int)), .pointer (some ⟨eb384, eo384 + k151 * 3, none⟩), .pointer (some ⟨eb384, eo384 + k151 * 3 + 0, none⟩), .string (bs ((p_0.Idxs.getD k151 d_Idx).Name)), .pointer (some ⟨b19, 0 + 2, none⟩), .slice A5 p_1.Idxs.length c5, .int .i64 ((k151 : Int)), .pointer (some ⟨eb385, eo385 + k151 * 3, none⟩), .pointer (some ⟨eb385, eo385 + k151 * 3 + 0, none⟩), .string (bs ((p_1.Idxs.getD k151 d_Idx).Name)), .bool (!(((p_0.Idxs.getD k151 d_Idx).Name) == ((p_1.Idxs.getD k151 d_Idx).Name))), .bool (!(((p_0.Idxs.getD k151 d_Idx).Name) == ((p_1.Idxs.getD k151 d_Idx).Name))), undef, undef, undef, undef, undef, undef, undef, undef, undef, undef, undef, undef, undef, .bool (true)] Tryz.follows rfl ⟨?_, ?_, ?_, ?_, ?_, ?_, ?_, ?_, ?_, ?_, ?_, ?_, ?_, ?_, ?_, ?_, ?_, ?_, ?_, ?_, ?_, ?_, ?_, ?_, ?_, ?_, ?_, ?_, trivial⟩ ?_
         ·exact oI rfl fun h => yl_fieldAddr fd26_2 rfl (h.old 2 _ rfl rfl) kI
         ·exact oI rfl fun h => yl_load1 ty24 rfl (h.dt 0 54 rfl rfl rfl) (((Box.ex hf165 h.ex).cell 2).trans rfl) kI
         ·exact oI rfl fun h => yM rfl (h.old 6 _ rfl rfl) kI
         ·intro L402 w403 hi404
          have hE405 := hi404.ex
          have hE405z := Ex.size hE405
          exact os rfl ((yl_ixN un24 ty35 rfl (hi404.dt 1 55 rfl rfl rfl) (hi404.dt 2 56 rfl rfl rfl) eA384 kI))
         ·exact oI rfl fun h => yl_fieldAddr fd35_0 rfl (h.dt 3 57 rfl rfl rfl) kI
         ·exact oI rfl fun h => yl_load1 ty9 rfl (h.dt 4 58 rfl rfl rfl) ((Cells.ex eC384 h.ex) 0 _ rfl) kI
         ·exact oI rfl fun h => yl_fieldAddr fd26_2 rfl (h.old 3 _ rfl rfl) kI
         ·exact oI rfl fun h => yl_load1 ty24 rfl (h.dt 6 60 rfl rfl rfl) (((Box.ex hf168 h.ex).cell 2).trans rfl) kI
         ·exact oI rfl fun h => yM rfl (h.old 6 _ rfl rfl) kI
         ·intro L435 w436 hi437
          have hE438 := hi437.ex
          have hE438z := Ex.size hE438
          exact os rfl ((yl_ixN un24 ty35 rfl (hi437.dt 7 61 rfl rfl rfl) (hi437.dt 8 62 rfl rfl rfl) eA385 kI))
         ·exact oI rfl fun h => yl_fieldAddr fd35_0 rfl (h.dt 9 63 rfl rfl rfl) kI
         ·exact oI rfl fun h => yl_load1 ty9 rfl (h.dt 10 64 rfl rfl rfl) ((Cells.ex eC385 h.ex) 0 _ rfl) kI
         ·exact oI rfl fun h => yl_sneq (a := ((p_0.Idxs.getD k151 d_Idx).Name)) (b := ((p_1.Idxs.getD k151 d_Idx).Name)) rfl (h.dt 5 59 rfl rfl rfl) (h.dt 11 65 rfl rfl rfl) kI
         ·exact oI rfl fun h => yM rfl (h.dt 12 66 rfl rfl rfl) kI
         ·exact oS rfl rfl rfl rfl rfl (not_f hb176)
         ·exact oS rfl rfl rfl rfl rfl (not_f hb176)
         ·exact oS rfl rfl rfl rfl rfl (not_f hb176)
         ·exact oS rfl rfl rfl rfl rfl (not_f hb176)
         ·exact oS rfl rfl rfl rfl rfl (not_f hb176)
         ·exact oS rfl rfl rfl rfl rfl (not_f hb176)
         ·exact oS rfl rfl rfl rfl rfl (not_f hb176)
         ·exact oS rfl rfl rfl rfl rfl (not_f hb176)
         ·exact oS rfl rfl rfl rfl rfl (not_f hb176)
         ·exact oS rfl rfl rfl rfl rfl (not_f hb176)
         ·exact oS rfl rfl rfl rfl rfl (not_f hb176)
         ·exact oS rfl rfl rfl rfl rfl (not_f hb176)
         ·exact oS rfl rfl rfl rfl rfl (not_f hb176)
         ·exact oI rfl fun h => yl_pick_t rfl (h.dt 13 67 rfl rfl rfl) (not_f hb176) rfl kI
         ·intro fl537 fh538 L534 w535 hp536
          have hE539 := hp536.ex
          have hE539z := Ex.size hE539
          refine dn (CW.sub (sC 2 (hp536.old 2 _ rfl rfl) (sC 3 (hp536.old 3 _ rfl rfl) (sC 50 (hp536.old 50 _ rfl rfl) (sC 51 (hp536.old 51 _ rfl rfl) (sC 68 (hp536.nt 14 68 rfl rfl rfl) (sC 69 (hp536.nt 15 69 rfl rfl rfl) (sC 70 (hp536.nt 16 70 rfl rfl rfl) (sC 71 (hp536.nt 17 71 rfl rfl rfl) (sC 72 (hp536.nt 18 72 rfl rfl rfl) (sC 73 (hp536.nt 19 73 rfl rfl rfl) (sC 74 (hp536.nt 20 74 rfl rfl rfl) (sC 75 (hp536.nt 21 75 rfl rfl rfl) (sC 76 (hp536.nt 22 76 rfl rfl rfl) (sC 77 (hp536.nt 23 77 rfl rfl rfl) (sC 78 (hp536.nt 24 78 rfl rfl rfl) (sC 79 (hp536.nt 25 79 rfl rfl rfl) (sC 80 (hp536.nt 26 80 rfl rfl rfl) (sC 81 (hp536.nt 27 81 rfl rfl rfl) (Sub.nil _))))))))))))))))))) (CW.cond_t rfl rfl (cR (sA rfl (dn ?_)))))
          refine CW.ret (br (tr (tr ?_)))
          have hB559 : B_s_l24SameCols_1 p_0 p_1 k151 () = .ret false := by simp only [B_s_l24SameCols_1, hb26, hb27, hb28, hb176, hL150, cL]
          have hL558 : loopM (B_s_l24SameCols_1 p_0 p_1) (p_0.Idxs.length - 0) 0 () = .ret false := hI159.symm.trans (loopM.ret hlt173 hB559)
          refine br (tr (rr rfl (.cons rfl .nil) ?_))
          have hM560 : (s_l24SameCols p_0 p_1) = (false) := by simp only [s_l24SameCols, hb26, hb27, hb28, hb176, hL150, hL558, cL]
          rw [hM560]
          exact ⟨rfl, (Ex.trans hf171 hE539)⟩
       ·refine cR (sd rfl (yl_lss rfl rfl rfl (dn (CW.seq (CW.cond_f rfl (lt_f hlt173) (CW.exit (tx ?_)))))))
        refine tx ?_
        have hL562 : loopM (B_s_l24SameCols_1 p_0 p_1) (p_0.Idxs.length - 0) 0 () = .done () := hI159.symm.trans (loopM.stop hlt173)
        refine bx (tn (cR (sA rfl (dn (CW.ret (rr rfl (.cons rfl .nil) ?_))))))
        have hM563 : (s_l24SameCols p_0 p_1) = (true) := by simp only [s_l24SameCols, hb26, hb27, hb28, hL150, hL562, cL]
        rw [hM563]
        exact ⟨rfl, hf171⟩
   ·have hb28p := dec_f hb28
    refine CW.cond_t rfl (not_f hb28) (cR (sA rfl (dn (CW.ret (tr (rr rfl (.cons rfl .nil) ?_))))))
    have hM564 : (s_l24SameCols p_0 p_1) = (false) := by simp only [s_l24SameCols, hb26, hb27, hb28, cL]
    rw [hM564]
    exact ⟨rfl, (Ex.trans (Ex.trans (Ex.refl w) hE18) hE24)⟩
  ·have hb27p := dec_f hb27
   refine sz rfl rfl (not_f hb27) (sz rfl rfl (not_f hb27) (sz rfl rfl (not_f hb27) (sz rfl rfl (not_f hb27) (sz rfl rfl (not_f hb27) (sz rfl rfl (not_f hb27) (sz rfl rfl (not_f hb27) (sd rfl (yl_pick_t rfl rfl (not_f hb27) rfl (SeqR.done ?_)))))))))
   refine tn (CW.cond_t rfl rfl (cR (sA rfl (dn (CW.ret (tr ?_))))))
   refine rr rfl (.cons rfl .nil) ?_
   have hM567 : (s_l24SameCols p_0 p_1) = (false) := by simp only [s_l24SameCols, hb26, hb27, cL]
   rw [hM567]
   exact ⟨rfl, (Ex.trans (Ex.trans (Ex.refl w) hE18) hE24)⟩
 ·refine sz rfl rfl (not_f hb26) (sz rfl rfl (not_f hb26) (sz rfl rfl (not_f hb26) (sz rfl rfl (not_f hb26) (sz rfl rfl (not_f hb26) (sz rfl rfl (not_f hb26) (sz rfl rfl (not_f hb26) (sd rfl (yl_pick_t rfl rfl (not_f hb26) rfl (sM rfl ?_)))))))))
  refine sz rfl rfl rfl (sz rfl rfl rfl (sz rfl rfl rfl (sz rfl rfl rfl (sz rfl rfl rfl (sz rfl rfl rfl (sz rfl rfl rfl (sd rfl (yl_pick_t rfl rfl rfl rfl (SeqR.done ?_)))))))))
  refine tn (CW.cond_t rfl rfl (cR (sA rfl (dn (CW.ret (tr ?_))))))
  refine rr rfl (.cons rfl .nil) ?_
  have hM570 : (s_l24SameCols p_0 p_1) = (false) := by simp only [s_l24SameCols, hb26, cL]
  rw [hM570]
  exact ⟨rfl, (Ex.trans (Ex.trans (Ex.refl w) hE18) hE24)⟩
theorem c_s_l1Most {w : World} (p_a : Int) (p_b : Int) : Cal Tryz.prog 71 #[.int .i64 (p_a), .int .i64 (p_b)] w fun v w' => v = .int .i64 ((s_l1Most p_a p_b)) ∧ Ex w w' := by
 refine Cal.of func71 rfl ntmps71 rfl (cR (sA rfl (dn (CW.seq (cR ?_)))))
 refine sM rfl (sM rfl (sd rfl (yl_gtr rfl rfl rfl (dn (bcase (decide (p_b < p_a)) (fun hb1 => ?_) (fun hb1 => ?_))))))
 ·have hb1p := dec_t hb1
  refine CW.cond_t rfl hb1 (cR (sM rfl (sA rfl (dn (CW.ret (tr ?_))))))
  refine rr rfl (.cons rfl .nil) ?_
  have hM2 : (s_l1Most p_a p_b) = (p_a) := by simp only [s_l1Most, hb1, cL]
  rw [hM2]
  exact ⟨rfl, (Ex.refl w)⟩
 ·have hb1p := dec_f hb1
  refine CW.cond_f rfl hb1 (CW.skip (tn (cR (sM rfl (sA rfl (dn ?_))))))
  refine CW.ret (rr rfl (.cons rfl .nil) ?_)
  have hM3 : (s_l1Most p_a p_b) = (p_b) := by simp only [s_l1Most, hb1, cL]
  rw [hM3]
  exact ⟨rfl, (Ex.refl w)⟩
theorem c_s_l24Far {A1 : Option Addr} {c1 : Nat} {A2 : Option Addr} {c2 : Nat} {A4 : Option Addr} {c4 : Nat} {A5 : Option Addr} {c5 : Nat} {w : World} (p_a : DTable) (p_b : DTable) (h1 : RdS w (Iv 0 w.heap.size) (RF e_Str) 1 A1 p_a.Cols.length c1 p_a.Cols) (h2 : RdS w (Iv 0 w.heap.size) (RF e_Idx) 3 A2 p_a.Idxs.length c2 p_a.Idxs) (h4 : RdS w (Iv 0 w.heap.size) (RF e_Str) 1 A4 p_b.Cols.length c4 p_b.Cols) (h5 : RdS w (Iv 0 w.heap.size) (RF e_Idx) 3 A5 p_b.Idxs.length c5 p_b.Idxs) (o3 : ok_Table p_a) (o6 : ok_Table p_b) (pre0 : p_a.Idxs.length = p_b.Idxs.length) : Cal Tryz.prog 54 #[.agg #[.string (bs (p_a.Name)), .slice A1 p_a.Cols.length c1, .slice A2 p_a.Idxs.length c2], .agg #[.string (bs (p_b.Name)), .slice A4 p_b.Cols.length c4, .slice A5 p_b.Idxs.length c5]] w fun v w' => v = .int .i64 ((s_l24Far p_a p_b)) ∧ Ex w w' := by
 have hol7 : p_a.Name.length ≤ 1073741824 := o3.1
 have hol8 := o3.2.1.1
 have hol9 := o3.2.2.1
 have hol10 : p_b.Name.length ≤ 1073741824 := o6.1
 have hol11 := o6.2.1.1
 have hol12 := o6.2.2.1
 refine Cal.of func54 rfl ntmps54 rfl (cR (sd rfl (yl_box rfl rfl rfl ?_)))
 intro b13 w14 hs15 hz16 hB17 hE18
 refine sd rfl (yl_box rfl rfl rfl ?_)
 intro b19 w20 hs21 hz22 hB23 hE24
 refine sA rfl (dn (cR (sA rfl (dn (CW.seq ?_)))))
 refine cR (sd rfl (yl_fieldAddr fd26_2 rfl rfl ?_))
 have q25 := Box.ex hB17 hE24
 refine sd rfl (yl_load1 ty24 rfl rfl ((q25.cell 2).trans rfl) (sd rfl (yL un24 rfl rfl (sM rfl (dn (CW.block (CW.loop (fun m28 L29 w30 => ∃ (k26 : Nat) (x27 : Int), m28 = p_a.Idxs.length - k26 ∧ k26 ≤ p_a.Idxs.length ∧ w20.heap.size ≤ w30.heap.size ∧ lkp L29 2 = some (.pointer (some ⟨b13, 0, none⟩)) ∧ lkp L29 3 = some (.pointer (some ⟨b19, 0, none⟩)) ∧ lkp L29 5 = some (.int .i64 (x27)) ∧ lkp L29 10 = some (.int .i64 ((p_a.Idxs.length : Int))) ∧ lkp L29 11 = some (.int .i64 ((k26 : Int))) ∧ Box w30 b13 26 [.string (bs (p_a.Name)), .slice A1 p_a.Cols.length c1, .slice A2 p_a.Idxs.length c2] ∧ RdS w30 (Iv 0 w.heap.size) (RF e_Str) 1 A1 p_a.Cols.length c1 p_a.Cols ∧ RdS w30 (Iv 0 w.heap.size) (RF e_Idx) 3 A2 p_a.Idxs.length c2 p_a.Idxs ∧ Box w30 b19 26 [.string (bs (p_b.Name)), .slice A4 p_b.Cols.length c4, .slice A5 p_b.Idxs.length c5] ∧ RdS w30 (Iv 0 w.heap.size) (RF e_Str) 1 A4 p_b.Cols.length c4 p_b.Cols ∧ RdS w30 (Iv 0 w.heap.size) (RF e_Idx) 3 A5 p_b.Idxs.length c5 p_b.Idxs ∧ Ex w w30 ∧ loopM (B_s_l24Far_0 p_a p_b) (p_a.Idxs.length - k26) k26 (x27) = loopM (B_s_l24Far_0 p_a p_b) (p_a.Idxs.length - 0) 0 (0)) (p_a.Idxs.length - 0) ?_ ?_)))))))
 ·exact ⟨0, 0, rfl, oM, Nat.le_refl _, rfl, rfl, rfl, rfl, rfl, q25, (RdS.ex gS (RdS.ex gS h1 hE18) hE24), (RdS.ex gI (RdS.ex gI h2 hE18) hE24), hB23, (RdS.ex gS (RdS.ex gS h4 hE18) hE24), (RdS.ex gI (RdS.ex gI h5 hE18) hE24), (Ex.trans (Ex.trans (Ex.refl w) hE18) hE24), rfl⟩
 ·rintro m41 L42 w43 ⟨k26, x27, rfl, hk44, hsz46, hl47, hl48, hl49, hl50, hl51, hf52, hf53, hf54, hf55, hf56, hf57, hf58, hI45⟩
  refine CW.sub (Sub.cons hl47 (Sub.cons hl48 (Sub.cons hl49 (Sub.cons hl50 (Sub.cons hl51 (Sub.nil _)))))) ?_
  have hf52z := Box.lt hf52
  have hf55z := Box.lt hf55
  have hf58z := Ex.size hf58
  have hbg59 := RdS.big hf54
  rcases Nat.lt_or_ge k26 p_a.Idxs.length with hlt60 | hlt60
  ·refine cR (sd rfl (yl_lss rfl rfl rfl (dn (CW.seq (CW.cond_t rfl (lt_t hlt60) (CW.skip (tn ?_)))))))
   refine CW.seq (CW.block (cR (sM rfl (sA rfl (dn (CW.seq ?_))))))
   obtain ⟨eb61, eo61, _, eA61, _, ebl61, _, eR61, eC61⟩ := RdS.aD hf54 d_Idx (i := k26)
   obtain rfl := eR61
   have eC61 : Cells w43 eb61 (eo61 + k26 * 3) [.string (bs ((p_a.Idxs.getD k26 d_Idx).Name)), .int .i64 ((p_a.Idxs.getD k26 d_Idx).Col), .int .i64 ((p_a.Idxs.getD k26 d_Idx).Stage)] := eC61
   obtain ⟨eb62, eo62, _, eA62, _, ebl62, _, eR62, eC62⟩ := RdS.aD hf57 d_Idx (i := k26)
   obtain rfl := eR62
   have eC62 : Cells w43 eb62 (eo62 + k26 * 3) [.string (bs ((p_b.Idxs.getD k26 d_Idx).Name)), .int .i64 ((p_b.Idxs.getD k26 d_Idx).Col), .int .i64 ((p_b.Idxs.getD k26 d_Idx).Stage)] := eC62
   refine drI 14 [.pointer (some ⟨b13, 0 + 2, none⟩), .slice A2 p_a.Idxs.length c2, .int .i64 ((k26 : Int)), .pointer (some ⟨eb61, eo61 + k26 * 3, none⟩), .pointer (some ⟨eb61, eo61 + k26 * 3 + 2, none⟩), .int .i64 ((p_a.Idxs.getD k26 d_Idx).Stage), .pointer (some ⟨b19, 0 + 2, none⟩), .slice A5 p_b.Idxs.length c5, .int .i64 ((k26 : Int)), .pointer (some ⟨eb62, eo62 + k26 * 3, none⟩), .pointer (some ⟨eb62, eo62 + k26 * 3 + 2, none⟩), .int .i64 ((p_b.Idxs.getD k26 d_Idx).Stage), .int .i64 (IntKind.wrap .i64 (((p_a.Idxs.getD k26 d_Idx).Stage) - ((p_b.Idxs.getD k26 d_Idx).Stage))), .int .i64 (IntKind.wrap .i64 (((p_a.Idxs.getD k26 d_Idx).Stage) - ((p_b.Idxs.getD k26 d_Idx).Stage)))] Tryz.follows rfl ⟨?_, ?_, ?_, ?_, ?_, ?_, ?_, ?_, ?_, ?_, ?_, ?_, ?_, ?_, trivial⟩ ?_
   ·exact oI rfl fun h => yl_fieldAddr fd26_2 rfl (h.old 2 _ rfl rfl) kI
   ·exact oI rfl fun h => yl_load1 ty24 rfl (h.dt 0 14 rfl rfl rfl) (((Box.ex hf52 h.ex).cell 2).trans rfl) kI
   ·exact oI rfl fun h => yM rfl (h.old 6 _ rfl rfl) kI
   ·intro L79 w80 hi81
    have hE82 := hi81.ex
    have hE82z := Ex.size hE82
    exact os rfl ((yl_ixN un24 ty35 rfl (hi81.dt 1 15 rfl rfl rfl) (hi81.dt 2 16 rfl rfl rfl) eA61 kI))
   ·exact oI rfl fun h => yl_fieldAddr fd35_2 rfl (h.dt 3 17 rfl rfl rfl) kI
   ·exact oI rfl fun h => yl_load1 ty3 rfl (h.dt 4 18 rfl rfl rfl) ((Cells.ex eC61 h.ex) 2 _ rfl) kI
   ·exact oI rfl fun h => yl_fieldAddr fd26_2 rfl (h.old 3 _ rfl rfl) kI
   ·exact oI rfl fun h => yl_load1 ty24 rfl (h.dt 6 20 rfl rfl rfl) (((Box.ex hf55 h.ex).cell 2).trans rfl) kI
   ·exact oI rfl fun h => yM rfl (h.old 6 _ rfl rfl) kI
   ·intro L112 w113 hi114
    have hE115 := hi114.ex
    have hE115z := Ex.size hE115
    exact os rfl ((yl_ixN un24 ty35 rfl (hi114.dt 7 21 rfl rfl rfl) (hi114.dt 8 22 rfl rfl rfl) eA62 kI))
   ·exact oI rfl fun h => yl_fieldAddr fd35_2 rfl (h.dt 9 23 rfl rfl rfl) kI
   ·exact oI rfl fun h => yl_load1 ty3 rfl (h.dt 10 24 rfl rfl rfl) ((Cells.ex eC62 h.ex) 2 _ rfl) kI
   ·exact oI rfl fun h => yl_sub rfl (h.dt 5 19 rfl rfl rfl) (h.dt 11 25 rfl rfl rfl) kI
   ·exact oI rfl fun h => yA rfl (h.dt 12 26 rfl rfl rfl) kI
   ·intro fl143 fh144 L140 w141 hp142
    have hE145 := hp142.ex
    have hE145z := Ex.size hE145
    refine dn (CW.sub (sC 2 (hp142.old 2 _ rfl rfl) (sC 3 (hp142.old 3 _ rfl rfl) (sC 5 (hp142.old 5 _ rfl rfl) (sC 7 (hp142.nt 13 7 rfl rfl rfl) (sC 10 (hp142.old 10 _ rfl rfl) (sC 11 (hp142.old 11 _ rfl rfl) (Sub.nil _))))))) (CW.region (sM rfl (sM rfl (sM rfl (sd rfl (yl_neg rfl rfl (sd rfl (yC en71 rfl (oc rfl (oc rfl oz)) (Cal.mono (c_s_l1Most (IntKind.wrap .i64 (((p_a.Idxs.getD k26 d_Idx).Stage) - ((p_b.Idxs.getD k26 d_Idx).Stage))) (IntKind.wrap .i64 (0 - (IntKind.wrap .i64 (((p_a.Idxs.getD k26 d_Idx).Stage) - ((p_b.Idxs.getD k26 d_Idx).Stage)))))) ?_))))))))))
    rintro v153 w152 ⟨rfl, hE154⟩
    have hE154z := Ex.size hE154
    refine sd rfl (yl_add rfl rfl rfl (sA rfl (SeqR.done (bn (tn (CW.region (sd rfl (yl_inc rfl rfl rfl oM (sM rfl (SeqR.done ?_))))))))))
    refine tn ?_
    have hB155 : B_s_l24Far_0 p_a p_b k26 (x27) = .cont (IntKind.wrap .i64 (x27 + (s_l1Most (IntKind.wrap .i64 (((p_a.Idxs.getD k26 d_Idx).Stage) - ((p_b.Idxs.getD k26 d_Idx).Stage))) (IntKind.wrap .i64 (0 - (IntKind.wrap .i64 (((p_a.Idxs.getD k26 d_Idx).Stage) - ((p_b.Idxs.getD k26 d_Idx).Stage)))))))) := by simp only [B_s_l24Far_0, cL]
    exact ⟨p_a.Idxs.length - (k26 + 1), oM, k26 + 1, IntKind.wrap .i64 (x27 + (s_l1Most (IntKind.wrap .i64 (((p_a.Idxs.getD k26 d_Idx).Stage) - ((p_b.Idxs.getD k26 d_Idx).Stage))) (IntKind.wrap .i64 (0 - (IntKind.wrap .i64 (((p_a.Idxs.getD k26 d_Idx).Stage) - ((p_b.Idxs.getD k26 d_Idx).Stage))))))), rfl, hlt60, oM, rfl, rfl, rfl, rfl, rfl, (Box.ex (Box.ex hf52 hE145) hE154), (RdS.ex gS (RdS.ex gS hf53 hE145) hE154), (RdS.ex gI (RdS.ex gI hf54 hE145) hE154), (Box.ex (Box.ex hf55 hE145) hE154), (RdS.ex gS (RdS.ex gS hf56 hE145) hE154), (RdS.ex gI (RdS.ex gI hf57 hE145) hE154), (Ex.trans (Ex.trans hf58 hE145) hE154), (loopM.cont hlt60 hB155).symm.trans hI45⟩
  ·refine cR (sd rfl (yl_lss rfl rfl rfl (dn (CW.seq (CW.cond_f rfl (lt_f hlt60) (CW.exit (tx ?_)))))))
   refine tx ?_
   have hL170 : loopM (B_s_l24Far_0 p_a p_b) (p_a.Idxs.length - 0) 0 (0) = .done (x27) := hI45.symm.trans (loopM.stop hlt60)
   refine bx (tn (cR (sM rfl (sA rfl (dn (CW.ret ?_))))))
   refine rr rfl (.cons rfl .nil) ?_
   have hM171 : (s_l24Far p_a p_b) = (x27) := by simp only [s_l24Far, hL170, cL]
   rw [hM171]
   exact ⟨rfl, hf58⟩
theorem c_s_NextTo {A1 : Option Addr} {c1 : Nat} {A2 : Option Addr} {c2 : Nat} {A4 : Option Addr} {c4 : Nat} {A5 : Option Addr} {c5 : Nat} {w : World} (p_a : DTable) (p_b : DTable) (h1 : RdS w (Iv 0 w.heap.size) (RF e_Str) 1 A1 p_a.Cols.length c1 p_a.Cols) (h2 : RdS w (Iv 0 w.heap.size) (RF e_Idx) 3 A2 p_a.Idxs.length c2 p_a.Idxs) (h4 : RdS w (Iv 0 w.heap.size) (RF e_Str) 1 A4 p_b.Cols.length c4 p_b.Cols) (h5 : RdS w (Iv 0 w.heap.size) (RF e_Idx) 3 A5 p_b.Idxs.length c5 p_b.Idxs) (o3 : ok_Table p_a) (o6 : ok_Table p_b) : Cal Tryz.prog 19 #[.agg #[.string (bs (p_a.Name)), .slice A1 p_a.Cols.length c1, .slice A2 p_a.Idxs.length c2], .agg #[.string (bs (p_b.Name)), .slice A4 p_b.Cols.length c4, .slice A5 p_b.Idxs.length c5]] w fun v w' => v = .tuple #[.bool ((s_NextTo p_a p_b).1), .bool ((s_NextTo p_a p_b).2)] ∧ Ex w w' := by
 have hol7 : p_a.Name.length ≤ 1073741824 := o3.1
 have hol8 := o3.2.1.1
 have hol9 := o3.2.2.1
 have hol10 : p_b.Name.length ≤ 1073741824 := o6.1
 have hol11 := o6.2.1.1
 have hol12 := o6.2.2.1
 refine Cal.of func19 rfl ntmps19 rfl (cR (sd rfl (yl_box rfl rfl rfl ?_)))
 intro b13 w14 hs15 hz16 hB17 hE18
 refine sd rfl (yl_box rfl rfl rfl ?_)
 intro b19 w20 hs21 hz22 hB23 hE24
 refine sA rfl (sA rfl (dn (CW.seq (cR ?_))))
 have q25 := Box.ex hB17 hE24
 refine sd rfl (yl_loadN ty26 rfl rfl (q25.cells (n := 3) rfl) rfl ?_)
 have q27 := RdS.ex gS (RdS.ex gS h1 hE18) hE24
 have q29 := RdS.ex gI (RdS.ex gI h2 hE18) hE24
 refine sd rfl (yC en14 rfl (oc rfl oz) (Cal.mono (c_s_GoodTable p_a (RdS.up q27 gS) (RdS.up q29 gI) o3) ?_))
 rintro v31 w30 ⟨rfl, hE32⟩
 have hE32z := Ex.size hE32
 refine sd rfl (yl_not rfl rfl (sM rfl (bcase (s_GoodTable p_a) (fun hb33 => ?_) (fun hb33 => ?_))))
 ·have hb33p := f_s_GoodTable hb33
  have q34 := Box.ex hB23 hE32
  refine sy rfl rfl (not_t hb33) (yl_loadN ty26 rfl rfl (q34.cells (n := 3) rfl) rfl ?_)
  have q37 := RdS.ex gS (RdS.ex gS (RdS.ex gS h4 hE18) hE24) hE32
  have q40 := RdS.ex gI (RdS.ex gI (RdS.ex gI h5 hE18) hE24) hE32
  refine sy rfl rfl (not_t hb33) (yC en14 rfl (oc rfl oz) (Cal.mono (c_s_GoodTable p_b (RdS.up q37 gS) (RdS.up q40 gI) o6) ?_))
  rintro v42 w41 ⟨rfl, hE43⟩
  have hE43z := Ex.size hE43
  refine sy rfl rfl (not_t hb33) (yl_not rfl rfl (sd rfl (yl_pick_f rfl rfl (not_t hb33) rfl (dn (bcase (s_GoodTable p_b) (fun hb44 => ?_) (fun hb44 => ?_))))))
  ·have hb44p := f_s_GoodTable hb44
   refine CW.cond_f rfl (not_t hb44) (CW.skip (tn (cR ?_)))
   have q46 := Box.ex (Box.ex q25 hE32) hE43
   refine sd rfl (yl_loadN ty26 rfl rfl (q46.cells (n := 3) rfl) rfl ?_)
   have q47 := Box.ex q34 hE43
   refine sd rfl (yl_loadN ty26 rfl rfl (q47.cells (n := 3) rfl) rfl ?_)
   have q49 := RdS.ex gS (RdS.ex gS q27 hE32) hE43
   have q51 := RdS.ex gI (RdS.ex gI q29 hE32) hE43
   have q52 := RdS.ex gS q37 hE43
   have q53 := RdS.ex gI q40 hE43
   refine sd rfl (yC en53 rfl (oc rfl (oc rfl oz)) (Cal.mono (c_s_l24SameCols p_a p_b (RdS.up q49 gS) (RdS.up q51 gI) (RdS.up q52 gS) (RdS.up q53 gI) o3 o6) ?_))
   rintro v55 w54 ⟨rfl, hE56⟩
   have hE56z := Ex.size hE56
   refine sM rfl (bcase (s_l24SameCols p_a p_b) (fun hb57 => ?_) (fun hb57 => ?_))
   ·have hb57p := f_s_l24SameCols hb57
    refine sy rfl rfl hb57 (yl_loadN ty26 rfl rfl ((Box.ex q46 hE56).cells (n := 3) rfl) rfl (sy rfl rfl hb57 (yl_loadN ty26 rfl rfl ((Box.ex q47 hE56).cells (n := 3) rfl) rfl (sy rfl rfl hb57 (yC en54 rfl (oc rfl (oc rfl oz)) (Cal.mono (c_s_l24Far p_a p_b (RdS.up (RdS.ex gS q49 hE56) gS) (RdS.up (RdS.ex gI q51 hE56) gI) (RdS.up (RdS.ex gS q52 hE56) gS) (RdS.up (RdS.ex gI q53 hE56) gI) o3 o6 Bo) ?_))))))
    rintro v65 w64 ⟨rfl, hE66⟩
    have hE66z := Ex.size hE66
    refine sy rfl rfl hb57 (yl_leq rfl rfl rfl (sd rfl (yl_pick_t rfl rfl hb57 rfl (sA rfl (sA rfl (dn (CW.ret (rr rfl (.cons rfl (.cons rfl .nil)) ?_))))))))
    have hM67 : (s_NextTo p_a p_b) = ((decide ((s_l24Far p_a p_b) ≤ 1), true)) := by simp only [s_NextTo, hb33, hb44, hb57, cL]
    rw [hM67]
    exact ⟨rfl, (Ex.trans (Ex.trans (Ex.trans (Ex.trans (Ex.trans (Ex.trans (Ex.refl w) hE18) hE24) hE32) hE43) hE56) hE66)⟩
   ·refine sz rfl rfl hb57 (sz rfl rfl hb57 (sz rfl rfl hb57 (sz rfl rfl hb57 (sd rfl (yl_pick_f rfl rfl hb57 rfl (sA rfl (sA rfl (dn ?_))))))))
    refine CW.ret (rr rfl (.cons rfl (.cons rfl .nil)) ?_)
    have hM74 : (s_NextTo p_a p_b) = ((false, true)) := by simp only [s_NextTo, hb33, hb44, hb57, cL]
    rw [hM74]
    exact ⟨rfl, (Ex.trans (Ex.trans (Ex.trans (Ex.trans (Ex.trans (Ex.refl w) hE18) hE24) hE32) hE43) hE56)⟩
  ·refine CW.cond_t rfl (not_f hb44) (cR (sA rfl (sA rfl (dn (CW.ret (tr ?_))))))
   refine rr rfl (.cons rfl (.cons rfl .nil)) ?_
   have hM80 : (s_NextTo p_a p_b) = ((false, false)) := by simp only [s_NextTo, hb33, hb44, cL]
   rw [hM80]
   exact ⟨rfl, (Ex.trans (Ex.trans (Ex.trans (Ex.trans (Ex.refl w) hE18) hE24) hE32) hE43)⟩
 ·refine sz rfl rfl (not_f hb33) (sz rfl rfl (not_f hb33) (sz rfl rfl (not_f hb33) (sd rfl (yl_pick_t rfl rfl (not_f hb33) rfl (dn (CW.cond_t rfl rfl (cR ?_)))))))
  refine sA rfl (sA rfl (dn (CW.ret (tr (rr rfl (.cons rfl (.cons rfl .nil)) ?_)))))
  have hM85 : (s_NextTo p_a p_b) = ((false, false)) := by simp only [s_NextTo, hb33, cL]
  rw [hM85]
  exact ⟨rfl, (Ex.trans (Ex.trans (Ex.trans (Ex.refl w) hE18) hE24) hE32)⟩
end Go.Proofs.YtgfkmgjpannelaaGreatDoor
